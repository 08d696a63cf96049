/- A part of the proof: the texts W30 W31 joined. -/
import Derived.Test.YtelghkgnkncnoaaDoorEa
/- Contract of equal's pair.structs, out of that of same. -/
set_option linter.unusedVariables false
set_option linter.unusedSimpArgs false
namespace Go.Proofs.YtelghkgnkncnoaaDoor
open Go.RowKit
theorem max_if (a b : Int) : (if a < b then b else a) = max a b := by split <;> omega
set_option maxRecDepth 100000 in
set_option maxHeartbeats 4000000 in
theorem estructs_any {k : Nat} (hS : SameSaid k) {B B' : Nat} {w : World} {A A' : Option Addr} {n c n' c' : Nat} {ss tt : List (List Int)} (h : MsgIn B w A n ss) (h' : MsgIn B' w A' n' tt) (x y : Ob) (hx : ObIn ss x) (hy : ObIn tt y) (ix : inB ss x.seg x.at_ x.data = true) (iy : inB tt y.seg y.at_ y.data = true)
    (ox : ∀ i : Nat, (i : Int) < max x.ptrs y.ptrs → OD ss k (objAt ss x i)) (oy : ∀ i : Nat, (i : Int) < max x.ptrs y.ptrs → OD tt k (objAt tt y i)) :
    Calls Tryd.prog 45 #[vPair A n c A' n' c', vOb x, vOb y] w (VPost w (.bool (structsE ss tt (sameV ss tt k) x y))) := by
  have HS := Lib.hid hS
  have H := Lib.hid h
  have H' := Lib.hid h'
  have HX := Lib.hid hx
  have HY := Lib.hid hy
  have px := hx.ptrs
  have py := hy.ptrs
  obtain ⟨N, hNm⟩ : ∃ N : Nat, (N : Int) = max x.ptrs y.ptrs := ⟨(max x.ptrs y.ptrs).toNat, by omega⟩
  have hN : N ≤ 1000000 := by omega
  have HNm := Lib.hid hNm
  have HOx : Hid (∀ i : Nat, i < N → OD ss k (objAt ss x i)) := fun i hi => ox i (by omega)
  have HOy : Hid (∀ i : Nat, i < N → OD tt k (objAt tt y i)) := fun i hi => oy i (by omega)
  have HIx := Lib.hid ix
  have HIy := Lib.hid iy
  have HLx := Lib.hid (sliceAt_le h.wf x.seg x.at_ x.data)
  have HLy := Lib.hid (sliceAt_le h'.wf y.seg y.at_ y.data)
  unfold structsE
  cases hd : dataEq (sliceAt ss x.seg x.at_ x.data) (sliceAt tt y.seg y.at_ y.data) with
  | true =>
    have HD := Lib.hid hd
    obtain ⟨P, hP⟩ : ∃ P, P = ptrsE ss tt (sameV ss tt k) x y (max x.ptrs y.ptrs) := ⟨_, rfl⟩
    have HP := Lib.hid hP
    rw [Bool.true_and, ← hP]
    clear hS h h' hx hy ox oy ix iy hd hP px py hNm
    go_enter Tryd.func45, Tryd.ntmps45
    go_wp2
    refine wp_region_free' 24 mixed (by kernel_rfl) (fun a b => Below a.heap.size a b) ((Below.refl _ _).drew) (fun a b c h k => h.trans (k.mono h.size)) (fun i v W => match i with | 0 => v = .pointer (some ⟨w.heap.size, 0, none⟩) | 1 => v = .slice A n c | 2 => v = vOb x | 3 => v = .pointer (some ⟨w.heap.size + 1, 3, none⟩) | 4 => v = .int .i64 x.data | 5 => SlP .u64 ((sliceAt ss x.seg x.at_ x.data)) v W | 6 => v = .pointer (some ⟨w.heap.size, 1, none⟩) | 7 => v = .slice A' n' c' | 8 => v = vOb y | 9 => v = .pointer (some ⟨w.heap.size + 1 + 1, 3, none⟩) | 10 => v = .int .i64 y.data | 11 => SlP .u64 ((sliceAt tt y.seg y.at_ y.data)) v W | 12 => v = .bool true | 13 => v = .bool true | 14 => v = vPair A n c A' n' c' | 15 => v = vOb x | 16 => v = vOb y | 17 => v = .pointer (some ⟨w.heap.size + 1, 4, none⟩) | 18 => v = .int .i64 x.ptrs | 19 => v = .pointer (some ⟨w.heap.size + 1 + 1, 4, none⟩) | 20 => v = .int .i64 y.ptrs | 21 => v = .int .i64 (max x.ptrs y.ptrs) | 22 => v = .bool P | 23 => v = .bool P | _ => True) (fun j i v v' => True) ?_ ?_ ?_
    · intro i hi v W W' h hle
      have hi' : i = 0 ∨ i = 1 ∨ i = 2 ∨ i = 3 ∨ i = 4 ∨ i = 5 ∨ i = 6 ∨ i = 7 ∨ i = 8 ∨ i = 9 ∨ i = 10 ∨ i = 11 ∨ i = 12 ∨ i = 13 ∨ i = 14 ∨ i = 15 ∨ i = 16 ∨ i = 17 ∨ i = 18 ∨ i = 19 ∨ i = 20 ∨ i = 21 ∨ i = 22 ∨ i = 23 := by omega
      rcases hi' with rfl | rfl | rfl | rfl | rfl | rfl | rfl | rfl | rfl | rfl | rfl | rfl | rfl | rfl | rfl | rfl | rfl | rfl | rfl | rfl | rfl | rfl | rfl | rfl
      all_goals first | exact h | exact SlP.mono h hle | exact SbP.mono h hle | (obtain ⟨g, h1, h2, h3, cs, h4, h5⟩ := h; exact ⟨g, h1, h2, Nat.lt_of_lt_of_le h3 hle.size, cs, h4, (blk_below hle g h3).trans h5⟩)
    · intro i hi a W hle hdf hag L hR hn
      have Hdf := Lib.hid hdf; clear hdf
      obtain ⟨hcW, hfW⟩ := bcell hle; have hdW := blk_below hle; have hsW := hle.size; have hBW := below_step (w := w) (by (repeat (first | exact Below.refl _ _ | assumption | refine Below.setCell ?_ (by (try simp); (try omega)) _ | refine Below.alloc ?_ (by (try simp); (try omega)) _ | refine below_setRow ?_ (by (try simp); (try omega)) _ | refine pw_below_drewN ?_ _ | refine Below.drew ?_))) hle
      have hi' : i = 0 ∨ i = 1 ∨ i = 2 ∨ i = 3 ∨ i = 4 ∨ i = 5 ∨ i = 6 ∨ i = 7 ∨ i = 8 ∨ i = 9 ∨ i = 10 ∨ i = 11 ∨ i = 12 ∨ i = 13 ∨ i = 14 ∨ i = 15 ∨ i = 16 ∨ i = 17 ∨ i = 18 ∨ i = 19 ∨ i = 20 ∨ i = 21 ∨ i = 22 ∨ i = 23 := by omega
      rcases hi' with rfl | rfl | rfl | rfl | rfl | rfl | rfl | rfl | rfl | rfl | rfl | rfl | rfl | rfl | rfl | rfl | rfl | rfl | rfl | rfl | rfl | rfl | rfl | rfl
      · have e3 := hag 3 rfl; have E3 := e3; rw [Array.getD_eq_getD_getElem?] at E3; refine FreeOp.of _ rfl rfl _ rfl fun K hK => ?_
        go_simp
        exact hK _ _ rfl (Below.refl _ _) (fun j hj hL hji => ⟨trivial, trivial⟩)
      · have e7 : a.tmps.getD 7 undef = _ := hR 0 (by omega) (hn 0 rfl); have E7 := e7; rw [Array.getD_eq_getD_getElem?] at E7; refine FreeOp.of _ rfl rfl _ rfl fun K hK => ?_
        go_simp
        exact hK _ _ rfl (Below.refl _ _) (fun j hj hL hji => ⟨trivial, trivial⟩)
      · have e4 := hag 4 rfl; have E4 := e4; rw [Array.getD_eq_getD_getElem?] at E4; refine FreeOp.of _ rfl rfl _ rfl fun K hK => ?_
        go_simp
        exact hK _ _ rfl (Below.refl _ _) (fun j hj hL hji => ⟨trivial, trivial⟩)
      · have e4 := hag 4 rfl; have E4 := e4; rw [Array.getD_eq_getD_getElem?] at E4; refine FreeOp.of _ rfl rfl _ rfl fun K hK => ?_
        go_simp
        exact hK _ _ rfl (Below.refl _ _) (fun j hj hL hji => ⟨trivial, trivial⟩)
      · have e10 : a.tmps.getD 10 undef = _ := hR 3 (by omega) (hn 3 rfl); have E10 := e10; rw [Array.getD_eq_getD_getElem?] at E10; refine FreeOp.of _ rfl rfl _ rfl fun K hK => ?_
        go_simp
        exact hK _ _ rfl (Below.refl _ _) (fun j hj hL hji => ⟨trivial, trivial⟩)
      · have e8 : a.tmps.getD 8 undef = _ := hR 1 (by omega) (hn 1 rfl); have E8 := e8; rw [Array.getD_eq_getD_getElem?] at E8; have e9 : a.tmps.getD 9 undef = _ := hR 2 (by omega) (hn 2 rfl); have E9 := e9; rw [Array.getD_eq_getD_getElem?] at E9; have e11 : a.tmps.getD 11 undef = _ := hR 4 (by omega) (hn 4 rfl); have E11 := e11; rw [Array.getD_eq_getD_getElem?] at E11; refine FreeOp.of _ rfl rfl _ rfl fun K hK => ?_
        go_simp
        refine (words_any (H.out.below hBW) x _ HIx.out).mono ?_; rintro e w' ⟨A1, c1, rfl, hc1, hq1, hb⟩; exact hK _ _ ⟨A1, c1, rfl, hc1, hq1⟩ hb (fun j hj hL hji => ⟨trivial, trivial⟩)
      · have e3 := hag 3 rfl; have E3 := e3; rw [Array.getD_eq_getD_getElem?] at E3; refine FreeOp.of _ rfl rfl _ rfl fun K hK => ?_
        go_simp
        exact hK _ _ rfl (Below.refl _ _) (fun j hj hL hji => ⟨trivial, trivial⟩)
      · have e13 : a.tmps.getD 13 undef = _ := hR 6 (by omega) (hn 6 rfl); have E13 := e13; rw [Array.getD_eq_getD_getElem?] at E13; refine FreeOp.of _ rfl rfl _ rfl fun K hK => ?_
        go_simp
        exact hK _ _ rfl (Below.refl _ _) (fun j hj hL hji => ⟨trivial, trivial⟩)
      · have e5 := hag 5 rfl; have E5 := e5; rw [Array.getD_eq_getD_getElem?] at E5; refine FreeOp.of _ rfl rfl _ rfl fun K hK => ?_
        go_simp
        exact hK _ _ rfl (Below.refl _ _) (fun j hj hL hji => ⟨trivial, trivial⟩)
      · have e5 := hag 5 rfl; have E5 := e5; rw [Array.getD_eq_getD_getElem?] at E5; refine FreeOp.of _ rfl rfl _ rfl fun K hK => ?_
        go_simp
        exact hK _ _ rfl (Below.refl _ _) (fun j hj hL hji => ⟨trivial, trivial⟩)
      · have e16 : a.tmps.getD 16 undef = _ := hR 9 (by omega) (hn 9 rfl); have E16 := e16; rw [Array.getD_eq_getD_getElem?] at E16; refine FreeOp.of _ rfl rfl _ rfl fun K hK => ?_
        go_simp
        exact hK _ _ rfl (Below.refl _ _) (fun j hj hL hji => ⟨trivial, trivial⟩)
      · have e14 : a.tmps.getD 14 undef = _ := hR 7 (by omega) (hn 7 rfl); have E14 := e14; rw [Array.getD_eq_getD_getElem?] at E14; have e15 : a.tmps.getD 15 undef = _ := hR 8 (by omega) (hn 8 rfl); have E15 := e15; rw [Array.getD_eq_getD_getElem?] at E15; have e17 : a.tmps.getD 17 undef = _ := hR 10 (by omega) (hn 10 rfl); have E17 := e17; rw [Array.getD_eq_getD_getElem?] at E17; refine FreeOp.of _ rfl rfl _ rfl fun K hK => ?_
        go_simp
        refine (words_any (H'.out.below hBW) y _ HIy.out).mono ?_; rintro e w' ⟨A1, c1, rfl, hc1, hq1, hb⟩; exact hK _ _ ⟨A1, c1, rfl, hc1, hq1⟩ hb (fun j hj hL hji => ⟨trivial, trivial⟩)
      · obtain ⟨A12, c12, e120, hl12, hq12⟩ := hR 5 (by omega) (hn 5 rfl); have e12 : a.tmps.getD 12 undef = _ := e120; have E12 := e12; rw [Array.getD_eq_getD_getElem?] at E12; obtain ⟨A18, c18, e180, hl18, hq18⟩ := hR 11 (by omega) (hn 11 rfl); have e18 : a.tmps.getD 18 undef = _ := e180; have E18 := e18; rw [Array.getD_eq_getD_getElem?] at E18; refine FreeOp.of _ rfl rfl _ rfl fun K hK => ?_
        go_simp
        refine (Data_any (B := W.heap.size) hq12 hq18 HLx.out HLy.out).mono ?_; rw [HD.out]; rintro e w' ⟨rfl, hb⟩; exact hK _ _ rfl hb (fun j hj hL hji => ⟨trivial, trivial⟩)
      · have e19 : a.tmps.getD 19 undef = _ := hR 12 (by omega) (hn 12 rfl); have E19 := e19; rw [Array.getD_eq_getD_getElem?] at E19; refine FreeOp.of _ rfl rfl _ rfl fun K hK => ?_
        go_simp
        exact hK _ _ rfl (Below.refl _ _) (fun j hj hL hji => ⟨trivial, trivial⟩)
      · have e3 := hag 3 rfl; have E3 := e3; rw [Array.getD_eq_getD_getElem?] at E3; refine FreeOp.ofG _ rfl 13 true rfl _ rfl (show a.tmps.getD 20 undef = .bool true from hR 13 (by omega) (hn 13 rfl)) _ rfl fun K hK => ?_
        go_simp
        exact hK _ _ rfl (Below.refl _ _) (fun j hj hL hji => ⟨trivial, trivial⟩)
      · have e4 := hag 4 rfl; have E4 := e4; rw [Array.getD_eq_getD_getElem?] at E4; refine FreeOp.ofG _ rfl 13 true rfl _ rfl (show a.tmps.getD 20 undef = .bool true from hR 13 (by omega) (hn 13 rfl)) _ rfl fun K hK => ?_
        go_simp
        exact hK _ _ rfl (Below.refl _ _) (fun j hj hL hji => ⟨trivial, trivial⟩)
      · have e5 := hag 5 rfl; have E5 := e5; rw [Array.getD_eq_getD_getElem?] at E5; refine FreeOp.ofG _ rfl 13 true rfl _ rfl (show a.tmps.getD 20 undef = .bool true from hR 13 (by omega) (hn 13 rfl)) _ rfl fun K hK => ?_
        go_simp
        exact hK _ _ rfl (Below.refl _ _) (fun j hj hL hji => ⟨trivial, trivial⟩)
      · have e4 := hag 4 rfl; have E4 := e4; rw [Array.getD_eq_getD_getElem?] at E4; refine FreeOp.ofG _ rfl 13 true rfl _ rfl (show a.tmps.getD 20 undef = .bool true from hR 13 (by omega) (hn 13 rfl)) _ rfl fun K hK => ?_
        go_simp
        exact hK _ _ rfl (Below.refl _ _) (fun j hj hL hji => ⟨trivial, trivial⟩)
      · have e24 : a.tmps.getD 24 undef = _ := hR 17 (by omega) (hn 17 rfl); have E24 := e24; rw [Array.getD_eq_getD_getElem?] at E24; refine FreeOp.ofG _ rfl 13 true rfl _ rfl (show a.tmps.getD 20 undef = .bool true from hR 13 (by omega) (hn 13 rfl)) _ rfl fun K hK => ?_
        go_simp
        exact hK _ _ rfl (Below.refl _ _) (fun j hj hL hji => ⟨trivial, trivial⟩)
      · have e5 := hag 5 rfl; have E5 := e5; rw [Array.getD_eq_getD_getElem?] at E5; refine FreeOp.ofG _ rfl 13 true rfl _ rfl (show a.tmps.getD 20 undef = .bool true from hR 13 (by omega) (hn 13 rfl)) _ rfl fun K hK => ?_
        go_simp
        exact hK _ _ rfl (Below.refl _ _) (fun j hj hL hji => ⟨trivial, trivial⟩)
      · have e26 : a.tmps.getD 26 undef = _ := hR 19 (by omega) (hn 19 rfl); have E26 := e26; rw [Array.getD_eq_getD_getElem?] at E26; refine FreeOp.ofG _ rfl 13 true rfl _ rfl (show a.tmps.getD 20 undef = .bool true from hR 13 (by omega) (hn 13 rfl)) _ rfl fun K hK => ?_
        go_simp
        exact hK _ _ rfl (Below.refl _ _) (fun j hj hL hji => ⟨trivial, trivial⟩)
      · have e25 : a.tmps.getD 25 undef = _ := hR 18 (by omega) (hn 18 rfl); have E25 := e25; rw [Array.getD_eq_getD_getElem?] at E25; have e27 : a.tmps.getD 27 undef = _ := hR 20 (by omega) (hn 20 rfl); have E27 := e27; rw [Array.getD_eq_getD_getElem?] at E27; refine FreeOp.ofG _ rfl 13 true rfl _ rfl (show a.tmps.getD 20 undef = .bool true from hR 13 (by omega) (hn 13 rfl)) _ rfl fun K hK => ?_
        go_simp
        exact hK _ _ (show Value.int .i64 (if x.ptrs < y.ptrs then y.ptrs else x.ptrs) = .int .i64 (max x.ptrs y.ptrs) from by rw [max_if]) (Below.refl _ _) (fun j hj hL hji => ⟨trivial, trivial⟩)
      · have e21 : a.tmps.getD 21 undef = _ := hR 14 (by omega) (hn 14 rfl); have E21 := e21; rw [Array.getD_eq_getD_getElem?] at E21; have e22 : a.tmps.getD 22 undef = _ := hR 15 (by omega) (hn 15 rfl); have E22 := e22; rw [Array.getD_eq_getD_getElem?] at E22; have e23 : a.tmps.getD 23 undef = _ := hR 16 (by omega) (hn 16 rfl); have E23 := e23; rw [Array.getD_eq_getD_getElem?] at E23; have e28 : a.tmps.getD 28 undef = _ := hR 21 (by omega) (hn 21 rfl); have E28 := e28; rw [Array.getD_eq_getD_getElem?] at E28; refine FreeOp.ofG _ rfl 13 true rfl _ rfl (show a.tmps.getD 20 undef = .bool true from hR 13 (by omega) (hn 13 rfl)) _ rfl fun K hK => ?_
        go_simp
        rw [← HNm.out]; refine (epointers_any HS.out (H.out.below hBW) (H'.out.below hBW) x y HX.out HY.out N hN HOx.out HOy.out).mono ?_; rw [HNm.out, ← HP.out]; rintro e w' ⟨rfl, hb⟩; exact hK _ _ rfl hb (fun j hj hL hji => ⟨trivial, trivial⟩)
      · have e20 : a.tmps.getD 20 undef = _ := hR 13 (by omega) (hn 13 rfl); have E20 := e20; rw [Array.getD_eq_getD_getElem?] at E20; have e29 : a.tmps.getD 29 undef = _ := hR 22 (by omega) (hn 22 rfl); have E29 := e29; rw [Array.getD_eq_getD_getElem?] at E29; refine FreeOp.of _ rfl rfl _ rfl fun K hK => ?_
        go_simp
        exact hK _ _ rfl (Below.refl _ _) (fun j hj hL hji => ⟨trivial, trivial⟩)
    · intro vs w1 hb1 hR hD
      have e0 : vs 0 = _ := hR 0 (by omega)
      have e1 : vs 1 = _ := hR 1 (by omega)
      have e2 : vs 2 = _ := hR 2 (by omega)
      have e3 : vs 3 = _ := hR 3 (by omega)
      have e4 : vs 4 = _ := hR 4 (by omega)
      obtain ⟨A5, c5, e5, hl5, hq5⟩ := hR 5 (by omega)
      have e6 : vs 6 = _ := hR 6 (by omega)
      have e7 : vs 7 = _ := hR 7 (by omega)
      have e8 : vs 8 = _ := hR 8 (by omega)
      have e9 : vs 9 = _ := hR 9 (by omega)
      have e10 : vs 10 = _ := hR 10 (by omega)
      obtain ⟨A11, c11, e11, hl11, hq11⟩ := hR 11 (by omega)
      have e12 : vs 12 = _ := hR 12 (by omega)
      have e13 : vs 13 = _ := hR 13 (by omega)
      have e14 : vs 14 = _ := hR 14 (by omega)
      have e15 : vs 15 = _ := hR 15 (by omega)
      have e16 : vs 16 = _ := hR 16 (by omega)
      have e17 : vs 17 = _ := hR 17 (by omega)
      have e18 : vs 18 = _ := hR 18 (by omega)
      have e19 : vs 19 = _ := hR 19 (by omega)
      have e20 : vs 20 = _ := hR 20 (by omega)
      have e21 : vs 21 = _ := hR 21 (by omega)
      have e22 : vs 22 = _ := hR 22 (by omega)
      have e23 : vs 23 = _ := hR 23 (by omega)
      simp only [putAll, slotOf, Option.bind_some, Act.put, List.getElem?_toArray, List.getElem?_cons_zero, List.getElem?_cons_succ, List.setIfInBounds_toArray, List.set_cons_zero, List.set_cons_succ, e0, e1, e2, e3, e4, e5, e6, e7, e8, e9, e10, e11, e12, e13, e14, e15, e16, e17, e18, e19, e20, e21, e22, e23, List.drop_succ_cons, List.drop_zero]; clear hR hD e0 e1 e2 e3 e4 e5 e6 e7 e8 e9 e10 e11 e12 e13 e14 e15 e16 e17 e18 e19 e20 e21 e22 e23
      have hB1 := below_step (w := w) (by (repeat (first | exact Below.refl _ _ | assumption | refine Below.setCell ?_ (by (try simp); (try omega)) _ | refine Below.alloc ?_ (by (try simp); (try omega)) _ | refine below_setRow ?_ (by (try simp); (try omega)) _ | refine pw_below_drewN ?_ _ | refine Below.drew ?_))) hb1; obtain ⟨hc1, hf1⟩ := bcell hb1; have hd1 := blk_below hb1; have hs1 := hB1.size; have hz1_0 : w.heap.size < w1.heap.size := (by have hq := hb1.size; (try simp at hq); omega); have hy1_0 : w.heap.size ≠ w1.heap.size := Nat.ne_of_lt hz1_0; have hk1_0 := hd1 (w.heap.size) (by (try simp); (try omega)); (try simp (disch := first | omega | (simp; omega)) only [blk_setRow_far, blk_alloc_past, blk_setCell_far, blk_drewN, blk_drew] at hk1_0); have hz1_1 : w.heap.size + 1 < w1.heap.size := (by have hq := hb1.size; (try simp at hq); omega); have hy1_1 : w.heap.size + 1 ≠ w1.heap.size := Nat.ne_of_lt hz1_1; have hk1_1 := hd1 (w.heap.size + 1) (by (try simp); (try omega)); (try simp (disch := first | omega | (simp; omega)) only [blk_setRow_far, blk_alloc_past, blk_setCell_far, blk_drewN, blk_drew] at hk1_1); have hz1_2 : w.heap.size + 1 + 1 < w1.heap.size := (by have hq := hb1.size; (try simp at hq); omega); have hy1_2 : w.heap.size + 1 + 1 ≠ w1.heap.size := Nat.ne_of_lt hz1_2; have hk1_2 := hd1 (w.heap.size + 1 + 1) (by (try simp); (try omega)); (try simp (disch := first | omega | (simp; omega)) only [blk_setRow_far, blk_alloc_past, blk_setCell_far, blk_drewN, blk_drew] at hk1_2)
      go_wp2
      go_ret
      exact ⟨rfl, hB1⟩
  | false =>
    have HD := Lib.hid hd
    rw [Bool.false_and]
    clear hS h h' hx hy ox oy ix iy hd px py hNm
    go_enter Tryd.func45, Tryd.ntmps45
    go_wp2
    refine wp_region_free' 24 mixed (by kernel_rfl) (fun a b => Below a.heap.size a b) ((Below.refl _ _).drew) (fun a b c h k => h.trans (k.mono h.size)) (fun i v W => match i with | 0 => v = .pointer (some ⟨w.heap.size, 0, none⟩) | 1 => v = .slice A n c | 2 => v = vOb x | 3 => v = .pointer (some ⟨w.heap.size + 1, 3, none⟩) | 4 => v = .int .i64 x.data | 5 => SlP .u64 ((sliceAt ss x.seg x.at_ x.data)) v W | 6 => v = .pointer (some ⟨w.heap.size, 1, none⟩) | 7 => v = .slice A' n' c' | 8 => v = vOb y | 9 => v = .pointer (some ⟨w.heap.size + 1 + 1, 3, none⟩) | 10 => v = .int .i64 y.data | 11 => SlP .u64 ((sliceAt tt y.seg y.at_ y.data)) v W | 12 => v = .bool false | 13 => v = .bool false | 14 => v = undef | 15 => v = undef | 16 => v = undef | 17 => v = undef | 18 => v = undef | 19 => v = undef | 20 => v = undef | 21 => v = undef | 22 => v = undef | 23 => v = .bool false | _ => True) (fun j i v v' => True) ?_ ?_ ?_
    · intro i hi v W W' h hle
      have hi' : i = 0 ∨ i = 1 ∨ i = 2 ∨ i = 3 ∨ i = 4 ∨ i = 5 ∨ i = 6 ∨ i = 7 ∨ i = 8 ∨ i = 9 ∨ i = 10 ∨ i = 11 ∨ i = 12 ∨ i = 13 ∨ i = 14 ∨ i = 15 ∨ i = 16 ∨ i = 17 ∨ i = 18 ∨ i = 19 ∨ i = 20 ∨ i = 21 ∨ i = 22 ∨ i = 23 := by omega
      rcases hi' with rfl | rfl | rfl | rfl | rfl | rfl | rfl | rfl | rfl | rfl | rfl | rfl | rfl | rfl | rfl | rfl | rfl | rfl | rfl | rfl | rfl | rfl | rfl | rfl
      all_goals first | exact h | exact SlP.mono h hle | exact SbP.mono h hle | (obtain ⟨g, h1, h2, h3, cs, h4, h5⟩ := h; exact ⟨g, h1, h2, Nat.lt_of_lt_of_le h3 hle.size, cs, h4, (blk_below hle g h3).trans h5⟩)
    · intro i hi a W hle hdf hag L hR hn
      have Hdf := Lib.hid hdf; clear hdf
      obtain ⟨hcW, hfW⟩ := bcell hle; have hdW := blk_below hle; have hsW := hle.size; have hBW := below_step (w := w) (by (repeat (first | exact Below.refl _ _ | assumption | refine Below.setCell ?_ (by (try simp); (try omega)) _ | refine Below.alloc ?_ (by (try simp); (try omega)) _ | refine below_setRow ?_ (by (try simp); (try omega)) _ | refine pw_below_drewN ?_ _ | refine Below.drew ?_))) hle
      have hi' : i = 0 ∨ i = 1 ∨ i = 2 ∨ i = 3 ∨ i = 4 ∨ i = 5 ∨ i = 6 ∨ i = 7 ∨ i = 8 ∨ i = 9 ∨ i = 10 ∨ i = 11 ∨ i = 12 ∨ i = 13 ∨ i = 14 ∨ i = 15 ∨ i = 16 ∨ i = 17 ∨ i = 18 ∨ i = 19 ∨ i = 20 ∨ i = 21 ∨ i = 22 ∨ i = 23 := by omega
      rcases hi' with rfl | rfl | rfl | rfl | rfl | rfl | rfl | rfl | rfl | rfl | rfl | rfl | rfl | rfl | rfl | rfl | rfl | rfl | rfl | rfl | rfl | rfl | rfl | rfl
      · have e3 := hag 3 rfl; have E3 := e3; rw [Array.getD_eq_getD_getElem?] at E3; refine FreeOp.of _ rfl rfl _ rfl fun K hK => ?_
        go_simp
        exact hK _ _ rfl (Below.refl _ _) (fun j hj hL hji => ⟨trivial, trivial⟩)
      · have e7 : a.tmps.getD 7 undef = _ := hR 0 (by omega) (hn 0 rfl); have E7 := e7; rw [Array.getD_eq_getD_getElem?] at E7; refine FreeOp.of _ rfl rfl _ rfl fun K hK => ?_
        go_simp
        exact hK _ _ rfl (Below.refl _ _) (fun j hj hL hji => ⟨trivial, trivial⟩)
      · have e4 := hag 4 rfl; have E4 := e4; rw [Array.getD_eq_getD_getElem?] at E4; refine FreeOp.of _ rfl rfl _ rfl fun K hK => ?_
        go_simp
        exact hK _ _ rfl (Below.refl _ _) (fun j hj hL hji => ⟨trivial, trivial⟩)
      · have e4 := hag 4 rfl; have E4 := e4; rw [Array.getD_eq_getD_getElem?] at E4; refine FreeOp.of _ rfl rfl _ rfl fun K hK => ?_
        go_simp
        exact hK _ _ rfl (Below.refl _ _) (fun j hj hL hji => ⟨trivial, trivial⟩)
      · have e10 : a.tmps.getD 10 undef = _ := hR 3 (by omega) (hn 3 rfl); have E10 := e10; rw [Array.getD_eq_getD_getElem?] at E10; refine FreeOp.of _ rfl rfl _ rfl fun K hK => ?_
        go_simp
        exact hK _ _ rfl (Below.refl _ _) (fun j hj hL hji => ⟨trivial, trivial⟩)
      · have e8 : a.tmps.getD 8 undef = _ := hR 1 (by omega) (hn 1 rfl); have E8 := e8; rw [Array.getD_eq_getD_getElem?] at E8; have e9 : a.tmps.getD 9 undef = _ := hR 2 (by omega) (hn 2 rfl); have E9 := e9; rw [Array.getD_eq_getD_getElem?] at E9; have e11 : a.tmps.getD 11 undef = _ := hR 4 (by omega) (hn 4 rfl); have E11 := e11; rw [Array.getD_eq_getD_getElem?] at E11; refine FreeOp.of _ rfl rfl _ rfl fun K hK => ?_
        go_simp
        refine (words_any (H.out.below hBW) x _ HIx.out).mono ?_; rintro e w' ⟨A1, c1, rfl, hc1, hq1, hb⟩; exact hK _ _ ⟨A1, c1, rfl, hc1, hq1⟩ hb (fun j hj hL hji => ⟨trivial, trivial⟩)
      · have e3 := hag 3 rfl; have E3 := e3; rw [Array.getD_eq_getD_getElem?] at E3; refine FreeOp.of _ rfl rfl _ rfl fun K hK => ?_
        go_simp
        exact hK _ _ rfl (Below.refl _ _) (fun j hj hL hji => ⟨trivial, trivial⟩)
      · have e13 : a.tmps.getD 13 undef = _ := hR 6 (by omega) (hn 6 rfl); have E13 := e13; rw [Array.getD_eq_getD_getElem?] at E13; refine FreeOp.of _ rfl rfl _ rfl fun K hK => ?_
        go_simp
        exact hK _ _ rfl (Below.refl _ _) (fun j hj hL hji => ⟨trivial, trivial⟩)
      · have e5 := hag 5 rfl; have E5 := e5; rw [Array.getD_eq_getD_getElem?] at E5; refine FreeOp.of _ rfl rfl _ rfl fun K hK => ?_
        go_simp
        exact hK _ _ rfl (Below.refl _ _) (fun j hj hL hji => ⟨trivial, trivial⟩)
      · have e5 := hag 5 rfl; have E5 := e5; rw [Array.getD_eq_getD_getElem?] at E5; refine FreeOp.of _ rfl rfl _ rfl fun K hK => ?_
        go_simp
        exact hK _ _ rfl (Below.refl _ _) (fun j hj hL hji => ⟨trivial, trivial⟩)
      · have e16 : a.tmps.getD 16 undef = _ := hR 9 (by omega) (hn 9 rfl); have E16 := e16; rw [Array.getD_eq_getD_getElem?] at E16; refine FreeOp.of _ rfl rfl _ rfl fun K hK => ?_
        go_simp
        exact hK _ _ rfl (Below.refl _ _) (fun j hj hL hji => ⟨trivial, trivial⟩)
      · have e14 : a.tmps.getD 14 undef = _ := hR 7 (by omega) (hn 7 rfl); have E14 := e14; rw [Array.getD_eq_getD_getElem?] at E14; have e15 : a.tmps.getD 15 undef = _ := hR 8 (by omega) (hn 8 rfl); have E15 := e15; rw [Array.getD_eq_getD_getElem?] at E15; have e17 : a.tmps.getD 17 undef = _ := hR 10 (by omega) (hn 10 rfl); have E17 := e17; rw [Array.getD_eq_getD_getElem?] at E17; refine FreeOp.of _ rfl rfl _ rfl fun K hK => ?_
        go_simp
        refine (words_any (H'.out.below hBW) y _ HIy.out).mono ?_; rintro e w' ⟨A1, c1, rfl, hc1, hq1, hb⟩; exact hK _ _ ⟨A1, c1, rfl, hc1, hq1⟩ hb (fun j hj hL hji => ⟨trivial, trivial⟩)
      · obtain ⟨A12, c12, e120, hl12, hq12⟩ := hR 5 (by omega) (hn 5 rfl); have e12 : a.tmps.getD 12 undef = _ := e120; have E12 := e12; rw [Array.getD_eq_getD_getElem?] at E12; obtain ⟨A18, c18, e180, hl18, hq18⟩ := hR 11 (by omega) (hn 11 rfl); have e18 : a.tmps.getD 18 undef = _ := e180; have E18 := e18; rw [Array.getD_eq_getD_getElem?] at E18; refine FreeOp.of _ rfl rfl _ rfl fun K hK => ?_
        go_simp
        refine (Data_any (B := W.heap.size) hq12 hq18 HLx.out HLy.out).mono ?_; rw [HD.out]; rintro e w' ⟨rfl, hb⟩; exact hK _ _ rfl hb (fun j hj hL hji => ⟨trivial, trivial⟩)
      · have e19 : a.tmps.getD 19 undef = _ := hR 12 (by omega) (hn 12 rfl); have E19 := e19; rw [Array.getD_eq_getD_getElem?] at E19; refine FreeOp.of _ rfl rfl _ rfl fun K hK => ?_
        go_simp
        exact hK _ _ rfl (Below.refl _ _) (fun j hj hL hji => ⟨trivial, trivial⟩)
      · exact FreeOp.skip _ rfl 13 true false rfl (by decide) _ rfl (show a.tmps.getD 20 undef = .bool false from hR 13 (by omega) (hn 13 rfl)) _ rfl rfl (Below.refl _ _) (fun j hj hL hji => ⟨trivial, trivial⟩)
      · exact FreeOp.skip _ rfl 13 true false rfl (by decide) _ rfl (show a.tmps.getD 20 undef = .bool false from hR 13 (by omega) (hn 13 rfl)) _ rfl rfl (Below.refl _ _) (fun j hj hL hji => ⟨trivial, trivial⟩)
      · exact FreeOp.skip _ rfl 13 true false rfl (by decide) _ rfl (show a.tmps.getD 20 undef = .bool false from hR 13 (by omega) (hn 13 rfl)) _ rfl rfl (Below.refl _ _) (fun j hj hL hji => ⟨trivial, trivial⟩)
      · exact FreeOp.skip _ rfl 13 true false rfl (by decide) _ rfl (show a.tmps.getD 20 undef = .bool false from hR 13 (by omega) (hn 13 rfl)) _ rfl rfl (Below.refl _ _) (fun j hj hL hji => ⟨trivial, trivial⟩)
      · exact FreeOp.skip _ rfl 13 true false rfl (by decide) _ rfl (show a.tmps.getD 20 undef = .bool false from hR 13 (by omega) (hn 13 rfl)) _ rfl rfl (Below.refl _ _) (fun j hj hL hji => ⟨trivial, trivial⟩)
      · exact FreeOp.skip _ rfl 13 true false rfl (by decide) _ rfl (show a.tmps.getD 20 undef = .bool false from hR 13 (by omega) (hn 13 rfl)) _ rfl rfl (Below.refl _ _) (fun j hj hL hji => ⟨trivial, trivial⟩)
      · exact FreeOp.skip _ rfl 13 true false rfl (by decide) _ rfl (show a.tmps.getD 20 undef = .bool false from hR 13 (by omega) (hn 13 rfl)) _ rfl rfl (Below.refl _ _) (fun j hj hL hji => ⟨trivial, trivial⟩)
      · exact FreeOp.skip _ rfl 13 true false rfl (by decide) _ rfl (show a.tmps.getD 20 undef = .bool false from hR 13 (by omega) (hn 13 rfl)) _ rfl rfl (Below.refl _ _) (fun j hj hL hji => ⟨trivial, trivial⟩)
      · exact FreeOp.skip _ rfl 13 true false rfl (by decide) _ rfl (show a.tmps.getD 20 undef = .bool false from hR 13 (by omega) (hn 13 rfl)) _ rfl rfl (Below.refl _ _) (fun j hj hL hji => ⟨trivial, trivial⟩)
      · have e20 : a.tmps.getD 20 undef = _ := hR 13 (by omega) (hn 13 rfl); have E20 := e20; rw [Array.getD_eq_getD_getElem?] at E20; have e29 : a.tmps.getD 29 undef = _ := hR 22 (by omega) (hn 22 rfl); have E29 := e29; rw [Array.getD_eq_getD_getElem?] at E29; refine FreeOp.of _ rfl rfl _ rfl fun K hK => ?_
        go_simp
        exact hK _ _ rfl (Below.refl _ _) (fun j hj hL hji => ⟨trivial, trivial⟩)
    · intro vs w1 hb1 hR hD
      have e0 : vs 0 = _ := hR 0 (by omega)
      have e1 : vs 1 = _ := hR 1 (by omega)
      have e2 : vs 2 = _ := hR 2 (by omega)
      have e3 : vs 3 = _ := hR 3 (by omega)
      have e4 : vs 4 = _ := hR 4 (by omega)
      obtain ⟨A5, c5, e5, hl5, hq5⟩ := hR 5 (by omega)
      have e6 : vs 6 = _ := hR 6 (by omega)
      have e7 : vs 7 = _ := hR 7 (by omega)
      have e8 : vs 8 = _ := hR 8 (by omega)
      have e9 : vs 9 = _ := hR 9 (by omega)
      have e10 : vs 10 = _ := hR 10 (by omega)
      obtain ⟨A11, c11, e11, hl11, hq11⟩ := hR 11 (by omega)
      have e12 : vs 12 = _ := hR 12 (by omega)
      have e13 : vs 13 = _ := hR 13 (by omega)
      have e14 : vs 14 = _ := hR 14 (by omega)
      have e15 : vs 15 = _ := hR 15 (by omega)
      have e16 : vs 16 = _ := hR 16 (by omega)
      have e17 : vs 17 = _ := hR 17 (by omega)
      have e18 : vs 18 = _ := hR 18 (by omega)
      have e19 : vs 19 = _ := hR 19 (by omega)
      have e20 : vs 20 = _ := hR 20 (by omega)
      have e21 : vs 21 = _ := hR 21 (by omega)
      have e22 : vs 22 = _ := hR 22 (by omega)
      have e23 : vs 23 = _ := hR 23 (by omega)
      simp only [putAll, slotOf, Option.bind_some, Act.put, List.getElem?_toArray, List.getElem?_cons_zero, List.getElem?_cons_succ, List.setIfInBounds_toArray, List.set_cons_zero, List.set_cons_succ, e0, e1, e2, e3, e4, e5, e6, e7, e8, e9, e10, e11, e12, e13, e14, e15, e16, e17, e18, e19, e20, e21, e22, e23, List.drop_succ_cons, List.drop_zero]; clear hR hD e0 e1 e2 e3 e4 e5 e6 e7 e8 e9 e10 e11 e12 e13 e14 e15 e16 e17 e18 e19 e20 e21 e22 e23
      have hB1 := below_step (w := w) (by (repeat (first | exact Below.refl _ _ | assumption | refine Below.setCell ?_ (by (try simp); (try omega)) _ | refine Below.alloc ?_ (by (try simp); (try omega)) _ | refine below_setRow ?_ (by (try simp); (try omega)) _ | refine pw_below_drewN ?_ _ | refine Below.drew ?_))) hb1; obtain ⟨hc1, hf1⟩ := bcell hb1; have hd1 := blk_below hb1; have hs1 := hB1.size; have hz1_0 : w.heap.size < w1.heap.size := (by have hq := hb1.size; (try simp at hq); omega); have hy1_0 : w.heap.size ≠ w1.heap.size := Nat.ne_of_lt hz1_0; have hk1_0 := hd1 (w.heap.size) (by (try simp); (try omega)); (try simp (disch := first | omega | (simp; omega)) only [blk_setRow_far, blk_alloc_past, blk_setCell_far, blk_drewN, blk_drew] at hk1_0); have hz1_1 : w.heap.size + 1 < w1.heap.size := (by have hq := hb1.size; (try simp at hq); omega); have hy1_1 : w.heap.size + 1 ≠ w1.heap.size := Nat.ne_of_lt hz1_1; have hk1_1 := hd1 (w.heap.size + 1) (by (try simp); (try omega)); (try simp (disch := first | omega | (simp; omega)) only [blk_setRow_far, blk_alloc_past, blk_setCell_far, blk_drewN, blk_drew] at hk1_1); have hz1_2 : w.heap.size + 1 + 1 < w1.heap.size := (by have hq := hb1.size; (try simp at hq); omega); have hy1_2 : w.heap.size + 1 + 1 ≠ w1.heap.size := Nat.ne_of_lt hz1_2; have hk1_2 := hd1 (w.heap.size + 1 + 1) (by (try simp); (try omega)); (try simp (disch := first | omega | (simp; omega)) only [blk_setRow_far, blk_alloc_past, blk_setCell_far, blk_drewN, blk_drew] at hk1_2)
      go_wp2
      go_ret
      exact ⟨rfl, hB1⟩
end Go.Proofs.YtelghkgnkncnoaaDoor
/- Contracts of equal's pair.composites, out of that of same. -/
set_option linter.unusedVariables false
set_option linter.unusedSimpArgs false
namespace Go.Proofs.YtelghkgnkncnoaaDoor
open Go.RowKit
theorem elem_data {ss : List (List Int)} {o : Ob} {j : Int} (h : ObIn ss (element o j)) : inB ss (element o j).seg (element o j).at_ (element o j).data = true := by
  have hb := h.inb
  unfold spanOf at hb
  rw [if_pos (show (element o j).kind = 1 from rfl)] at hb
  exact inB_sub hb (Int.le_refl _) (by have := h.ptrs.1; omega) h.data.1
set_option maxRecDepth 100000 in
set_option maxHeartbeats 4000000 in
theorem ecomp_any {k : Nat} (hS : SameSaid k) {B B' : Nat} {w : World} {A A' : Option Addr} {n c n' c' : Nat} {ss tt : List (List Int)} (h : MsgIn B w A n ss) (h' : MsgIn B' w A' n' tt) (sg at_ da pt co sg' at' da' pt' co' : Int) (N : Nat) (hN : N ≤ 1000000) (hx : ObIn ss ⟨2, sg, at_, da, pt, 7, (N : Int), co⟩) (hy : ObIn tt ⟨2, sg', at', da', pt', 7, (N : Int), co'⟩)
    (ox : ∀ j : Nat, j < N → ∀ i : Nat, (i : Int) < max pt pt' → OD ss k (objAt ss (element ⟨2, sg, at_, da, pt, 7, (N : Int), co⟩ (j : Int)) i)) (oy : ∀ j : Nat, j < N → ∀ i : Nat, (i : Int) < max pt pt' → OD tt k (objAt tt (element ⟨2, sg', at', da', pt', 7, (N : Int), co'⟩ (j : Int)) i)) :
    Calls Tryd.prog 46 #[vPair A n c A' n' c', vOb ⟨2, sg, at_, da, pt, 7, (N : Int), co⟩, vOb ⟨2, sg', at', da', pt', 7, (N : Int), co'⟩] w (VPost w (.bool (compE ss tt (sameV ss tt k) ⟨2, sg, at_, da, pt, 7, (N : Int), co⟩ ⟨2, sg', at', da', pt', 7, (N : Int), co'⟩))) := by
  have HS := Lib.hid hS
  have H := Lib.hid h
  have H' := Lib.hid h'
  have x2 := hx.data
  have x3 := hx.ptrs
  have x4 := (inB_of hx.inb).2.2.1
  have x5 := (inB_of hx.inb).2.2.2.2.1
  have x6 := (segLen_bd h.wf sg).2
  have y2 := hy.data
  have y3 := hy.ptrs
  have y4 := (inB_of hy.inb).2.2.1
  have y5 := (inB_of hy.inb).2.2.2.2.1
  have y6 := (segLen_bd h'.wf sg').2
  simp only at x2 x3 x4 x5 y2 y3 y4 y5
  have HX : Hid (∀ j : Nat, j < N → ObIn ss (element ⟨2, sg, at_, da, pt, 7, (N : Int), co⟩ (j : Int))) := fun j hj => element_in hx rfl rfl (by omega) (by simp only; omega)
  have HY : Hid (∀ j : Nat, j < N → ObIn tt (element ⟨2, sg', at', da', pt', 7, (N : Int), co'⟩ (j : Int))) := fun j hj => element_in hy rfl rfl (by omega) (by simp only; omega)
  have HOx : Hid (∀ j : Nat, j < N → ∀ i : Nat, (i : Int) < max (element ⟨2, sg, at_, da, pt, 7, (N : Int), co⟩ (j : Int)).ptrs (element ⟨2, sg', at', da', pt', 7, (N : Int), co'⟩ (j : Int)).ptrs → OD ss k (objAt ss (element ⟨2, sg, at_, da, pt, 7, (N : Int), co⟩ (j : Int)) i)) := ox
  have HOy : Hid (∀ j : Nat, j < N → ∀ i : Nat, (i : Int) < max (element ⟨2, sg, at_, da, pt, 7, (N : Int), co⟩ (j : Int)).ptrs (element ⟨2, sg', at', da', pt', 7, (N : Int), co'⟩ (j : Int)).ptrs → OD tt k (objAt tt (element ⟨2, sg', at', da', pt', 7, (N : Int), co'⟩ (j : Int)) i)) := oy
  obtain ⟨D, hD⟩ : ∃ D, D = (List.range N).all fun j => structsE ss tt (sameV ss tt k) (element ⟨2, sg, at_, da, pt, 7, N, co⟩ (j : Int)) (element ⟨2, sg', at', da', pt', 7, N, co'⟩ (j : Int)) := ⟨_, rfl⟩
  have HD := Lib.hid hD
  show Calls _ _ _ _ (VPost w (.bool ((List.range N).all fun j => structsE ss tt (sameV ss tt k) (element ⟨2, sg, at_, da, pt, 7, N, co⟩ (j : Int)) (element ⟨2, sg', at', da', pt', 7, N, co'⟩ (j : Int)))))
  rw [← hD]
  clear hS h h' hx hy ox oy hD
  go_enter Tryd.func46, Tryd.ntmps46
  go_wp2
  go_loopw [10] (fun i wr => ∃ j : Nat, j ≤ N ∧ i = .int .i64 j ∧ (∀ q : Nat, q < j → structsE ss tt (sameV ss tt k) (element ⟨2, sg, at_, da, pt, 7, N, co⟩ (q : Int)) (element ⟨2, sg', at', da', pt', 7, N, co'⟩ (q : Int)) = true) ∧ Below w.heap.size w wr ∧ w.heap.size + 1 + 1 < wr.heap.size ∧
      blk wr w.heap.size = some (.cells #[.slice A n c, .slice A' n' c'] 58 (0, 0)) ∧ blk wr (w.heap.size + 1) = some (.cells #[.int .i64 2, .int .i64 sg, .int .i64 at_, .int .i64 da, .int .i64 pt, .int .i64 7, .int .i64 N, .int .i64 co] 61 (0, 0)) ∧
      blk wr (w.heap.size + 1 + 1) = some (.cells #[.int .i64 2, .int .i64 sg', .int .i64 at', .int .i64 da', .int .i64 pt', .int .i64 7, .int .i64 N, .int .i64 co'] 61 (0, 0))) (fun i _ => N - (intOf i).toNat)
  case atStart => exact ⟨0, Nat.zero_le _, rfl, fun q hq => by omega, by (repeat (first | exact Below.refl _ _ | assumption | refine Below.setCell ?_ (by (try simp); (try omega)) _ | refine Below.alloc ?_ (by (try simp); (try omega)) _ | refine below_setRow ?_ (by (try simp); (try omega)) _ | refine pw_below_drewN ?_ _ | refine Below.drew ?_)), by simp, by go_simp, by go_simp, by go_simp⟩
  case round =>
    obtain ⟨j, hj, rfl, hag, hbel, hsz, hk0, hk1, hk2⟩ := hrel
    have HG := Lib.hid hag
    have hl0 : w.heap.size < wr.heap.size := by omega
    have hl1 : w.heap.size + 1 < wr.heap.size := by omega
    clear hag
    by_cases hlt : j < N
    · cases hjv : structsE ss tt (sameV ss tt k) (element ⟨2, sg, at_, da, pt, 7, N, co⟩ (j : Int)) (element ⟨2, sg', at', da', pt', 7, N, co'⟩ (j : Int)) with
      | true =>
        have HJ := Lib.hid hjv
        clear hjv
        go_wp2
        refine wp_region_free' 9 mixed (by kernel_rfl) (fun a b => Below a.heap.size a b) ((Below.refl _ _).drew) (fun a b c h k => h.trans (k.mono h.size)) (fun i v W => match i with | 0 => v = vPair A n c A' n' c' | 1 => v = vOb ⟨2, sg, at_, da, pt, 7, N, co⟩ | 2 => v = .int .i64 (j : Int) | 3 => v = vOb (element ⟨2, sg, at_, da, pt, 7, N, co⟩ (j : Int)) | 4 => v = vOb ⟨2, sg', at', da', pt', 7, N, co'⟩ | 5 => v = .int .i64 (j : Int) | 6 => v = vOb (element ⟨2, sg', at', da', pt', 7, N, co'⟩ (j : Int)) | 7 => v = .bool true | 8 => v = .bool false | _ => True) (fun j i v v' => True) ?_ ?_ ?_
        · intro i hi v W W' h hle
          have hi' : i = 0 ∨ i = 1 ∨ i = 2 ∨ i = 3 ∨ i = 4 ∨ i = 5 ∨ i = 6 ∨ i = 7 ∨ i = 8 := by omega
          rcases hi' with rfl | rfl | rfl | rfl | rfl | rfl | rfl | rfl | rfl
          all_goals first | exact h | exact SlP.mono h hle | exact SbP.mono h hle | (obtain ⟨g, h1, h2, h3, cs, h4, h5⟩ := h; exact ⟨g, h1, h2, Nat.lt_of_lt_of_le h3 hle.size, cs, h4, (blk_below hle g h3).trans h5⟩)
        · intro i hi a W hle hdf hag L hR hn
          have Hdf := Lib.hid hdf; clear hdf
          obtain ⟨hcW, hfW⟩ := bcell hle; have hdW := blk_below hle; have hsW := hle.size; have hBW := below_step (w := w) (by (repeat (first | exact Below.refl _ _ | assumption | refine Below.setCell ?_ (by (try simp); (try omega)) _ | refine Below.alloc ?_ (by (try simp); (try omega)) _ | refine below_setRow ?_ (by (try simp); (try omega)) _ | refine pw_below_drewN ?_ _ | refine Below.drew ?_))) hle
          have hi' : i = 0 ∨ i = 1 ∨ i = 2 ∨ i = 3 ∨ i = 4 ∨ i = 5 ∨ i = 6 ∨ i = 7 ∨ i = 8 := by omega
          rcases hi' with rfl | rfl | rfl | rfl | rfl | rfl | rfl | rfl | rfl
          · have e3 := hag 3 rfl; have E3 := e3; rw [Array.getD_eq_getD_getElem?] at E3; refine FreeOp.of _ rfl rfl _ rfl fun K hK => ?_
            go_simp
            exact hK _ _ rfl (Below.refl _ _) (fun j hj hL hji => ⟨trivial, trivial⟩)
          · have e4 := hag 4 rfl; have E4 := e4; rw [Array.getD_eq_getD_getElem?] at E4; refine FreeOp.of _ rfl rfl _ rfl fun K hK => ?_
            go_simp
            exact hK _ _ rfl (Below.refl _ _) (fun j hj hL hji => ⟨trivial, trivial⟩)
          · have e7 := hag 7 rfl; have E7 := e7; rw [Array.getD_eq_getD_getElem?] at E7; refine FreeOp.of _ rfl rfl _ rfl fun K hK => ?_
            go_simp
            exact hK _ _ rfl (Below.refl _ _) (fun j hj hL hji => ⟨trivial, trivial⟩)
          · have e14 : a.tmps.getD 14 undef = _ := hR 1 (by omega) (hn 1 rfl); have E14 := e14; rw [Array.getD_eq_getD_getElem?] at E14; have e15 : a.tmps.getD 15 undef = _ := hR 2 (by omega) (hn 2 rfl); have E15 := e15; rw [Array.getD_eq_getD_getElem?] at E15; refine FreeOp.of _ rfl rfl _ rfl fun K hK => ?_
            go_simp
            refine (Element_any ⟨2, sg, at_, da, pt, 7, N, co⟩ _ _ x2.1 x2.2 x3.1 x3.2 (by omega) (by omega) x4 (by simp only; omega)).mono ?_; rintro e w' ⟨rfl, hb⟩; exact hK _ _ rfl hb (fun j hj hL hji => ⟨trivial, trivial⟩)
          · have e5 := hag 5 rfl; have E5 := e5; rw [Array.getD_eq_getD_getElem?] at E5; refine FreeOp.of _ rfl rfl _ rfl fun K hK => ?_
            go_simp
            exact hK _ _ rfl (Below.refl _ _) (fun j hj hL hji => ⟨trivial, trivial⟩)
          · have e7 := hag 7 rfl; have E7 := e7; rw [Array.getD_eq_getD_getElem?] at E7; refine FreeOp.of _ rfl rfl _ rfl fun K hK => ?_
            go_simp
            exact hK _ _ rfl (Below.refl _ _) (fun j hj hL hji => ⟨trivial, trivial⟩)
          · have e17 : a.tmps.getD 17 undef = _ := hR 4 (by omega) (hn 4 rfl); have E17 := e17; rw [Array.getD_eq_getD_getElem?] at E17; have e18 : a.tmps.getD 18 undef = _ := hR 5 (by omega) (hn 5 rfl); have E18 := e18; rw [Array.getD_eq_getD_getElem?] at E18; refine FreeOp.of _ rfl rfl _ rfl fun K hK => ?_
            go_simp
            refine (Element_any ⟨2, sg', at', da', pt', 7, N, co'⟩ _ _ y2.1 y2.2 y3.1 y3.2 (by omega) (by omega) y4 (by simp only; omega)).mono ?_; rintro e w' ⟨rfl, hb⟩; exact hK _ _ rfl hb (fun j hj hL hji => ⟨trivial, trivial⟩)
          · have e13 : a.tmps.getD 13 undef = _ := hR 0 (by omega) (hn 0 rfl); have E13 := e13; rw [Array.getD_eq_getD_getElem?] at E13; have e16 : a.tmps.getD 16 undef = _ := hR 3 (by omega) (hn 3 rfl); have E16 := e16; rw [Array.getD_eq_getD_getElem?] at E16; have e19 : a.tmps.getD 19 undef = _ := hR 6 (by omega) (hn 6 rfl); have E19 := e19; rw [Array.getD_eq_getD_getElem?] at E19; refine FreeOp.of _ rfl rfl _ rfl fun K hK => ?_
            go_simp
            refine (estructs_any HS.out (H.out.below hBW) (H'.out.below hBW) (element ⟨2, sg, at_, da, pt, 7, N, co⟩ (j : Int)) (element ⟨2, sg', at', da', pt', 7, N, co'⟩ (j : Int)) (HX.out j hlt) (HY.out j hlt) (elem_data (HX.out j hlt)) (elem_data (HY.out j hlt)) (HOx.out j hlt) (HOy.out j hlt)).mono ?_; rw [HJ.out]; rintro e w' ⟨rfl, hb⟩; exact hK _ _ rfl hb (fun j hj hL hji => ⟨trivial, trivial⟩)
          · have e20 : a.tmps.getD 20 undef = _ := hR 7 (by omega) (hn 7 rfl); have E20 := e20; rw [Array.getD_eq_getD_getElem?] at E20; refine FreeOp.of _ rfl rfl _ rfl fun K hK => ?_
            go_simp
            exact hK _ _ rfl (Below.refl _ _) (fun j hj hL hji => ⟨trivial, trivial⟩)
        · intro vs w1 hb1 hR hD
          have e0 : vs 0 = _ := hR 0 (by omega)
          have e1 : vs 1 = _ := hR 1 (by omega)
          have e2 : vs 2 = _ := hR 2 (by omega)
          have e3 : vs 3 = _ := hR 3 (by omega)
          have e4 : vs 4 = _ := hR 4 (by omega)
          have e5 : vs 5 = _ := hR 5 (by omega)
          have e6 : vs 6 = _ := hR 6 (by omega)
          have e7 : vs 7 = _ := hR 7 (by omega)
          have e8 : vs 8 = _ := hR 8 (by omega)
          simp only [putAll, slotOf, Option.bind_some, Act.put, List.getElem?_toArray, List.getElem?_cons_zero, List.getElem?_cons_succ, List.setIfInBounds_toArray, List.set_cons_zero, List.set_cons_succ, e0, e1, e2, e3, e4, e5, e6, e7, e8, List.drop_succ_cons, List.drop_zero]; clear hR hD e0 e1 e2 e3 e4 e5 e6 e7 e8
          have hB1 := below_step (w := w) (by (repeat (first | exact Below.refl _ _ | assumption | refine Below.setCell ?_ (by (try simp); (try omega)) _ | refine Below.alloc ?_ (by (try simp); (try omega)) _ | refine below_setRow ?_ (by (try simp); (try omega)) _ | refine pw_below_drewN ?_ _ | refine Below.drew ?_))) hb1; obtain ⟨hc1, hf1⟩ := bcell hb1; have hd1 := blk_below hb1; have hs1 := hB1.size; have hz1_0 : w.heap.size < w1.heap.size := (by have hq := hb1.size; (try simp at hq); omega); have hy1_0 : w.heap.size ≠ w1.heap.size := Nat.ne_of_lt hz1_0; have hk1_0 := hd1 (w.heap.size) (by (try simp); (try omega)); (try simp (disch := first | omega | (simp; omega)) only [blk_setRow_far, blk_alloc_past, blk_setCell_far, blk_drewN, blk_drew] at hk1_0); have hz1_1 : w.heap.size + 1 < w1.heap.size := (by have hq := hb1.size; (try simp at hq); omega); have hy1_1 : w.heap.size + 1 ≠ w1.heap.size := Nat.ne_of_lt hz1_1; have hk1_1 := hd1 (w.heap.size + 1) (by (try simp); (try omega)); (try simp (disch := first | omega | (simp; omega)) only [blk_setRow_far, blk_alloc_past, blk_setCell_far, blk_drewN, blk_drew] at hk1_1); have hz1_2 : w.heap.size + 1 + 1 < w1.heap.size := (by have hq := hb1.size; (try simp at hq); omega); have hy1_2 : w.heap.size + 1 + 1 ≠ w1.heap.size := Nat.ne_of_lt hz1_2; have hk1_2 := hd1 (w.heap.size + 1 + 1) (by (try simp); (try omega)); (try simp (disch := first | omega | (simp; omega)) only [blk_setRow_far, blk_alloc_past, blk_setCell_far, blk_drewN, blk_drew] at hk1_2)
          go_wp2
          go_roundw
          case rel => exact ⟨j + 1, by omega, by go_num, fun q hq => by
            by_cases h : q < j
            · exact HG.out q h
            · obtain rfl : q = j := by omega
              exact HJ.out, hB1, by omega, hk1_0.trans hk0, hk1_1.trans hk1, hk1_2.trans hk2⟩
          case measure => simp [intOf]; omega
      | false =>
        have HJ := Lib.hid hjv
        clear hjv
        go_wp2
        refine wp_region_free' 9 mixed (by kernel_rfl) (fun a b => Below a.heap.size a b) ((Below.refl _ _).drew) (fun a b c h k => h.trans (k.mono h.size)) (fun i v W => match i with | 0 => v = vPair A n c A' n' c' | 1 => v = vOb ⟨2, sg, at_, da, pt, 7, N, co⟩ | 2 => v = .int .i64 (j : Int) | 3 => v = vOb (element ⟨2, sg, at_, da, pt, 7, N, co⟩ (j : Int)) | 4 => v = vOb ⟨2, sg', at', da', pt', 7, N, co'⟩ | 5 => v = .int .i64 (j : Int) | 6 => v = vOb (element ⟨2, sg', at', da', pt', 7, N, co'⟩ (j : Int)) | 7 => v = .bool false | 8 => v = .bool true | _ => True) (fun j i v v' => True) ?_ ?_ ?_
        · intro i hi v W W' h hle
          have hi' : i = 0 ∨ i = 1 ∨ i = 2 ∨ i = 3 ∨ i = 4 ∨ i = 5 ∨ i = 6 ∨ i = 7 ∨ i = 8 := by omega
          rcases hi' with rfl | rfl | rfl | rfl | rfl | rfl | rfl | rfl | rfl
          all_goals first | exact h | exact SlP.mono h hle | exact SbP.mono h hle | (obtain ⟨g, h1, h2, h3, cs, h4, h5⟩ := h; exact ⟨g, h1, h2, Nat.lt_of_lt_of_le h3 hle.size, cs, h4, (blk_below hle g h3).trans h5⟩)
        · intro i hi a W hle hdf hag L hR hn
          have Hdf := Lib.hid hdf; clear hdf
          obtain ⟨hcW, hfW⟩ := bcell hle; have hdW := blk_below hle; have hsW := hle.size; have hBW := below_step (w := w) (by (repeat (first | exact Below.refl _ _ | assumption | refine Below.setCell ?_ (by (try simp); (try omega)) _ | refine Below.alloc ?_ (by (try simp); (try omega)) _ | refine below_setRow ?_ (by (try simp); (try omega)) _ | refine pw_below_drewN ?_ _ | refine Below.drew ?_))) hle
          have hi' : i = 0 ∨ i = 1 ∨ i = 2 ∨ i = 3 ∨ i = 4 ∨ i = 5 ∨ i = 6 ∨ i = 7 ∨ i = 8 := by omega
          rcases hi' with rfl | rfl | rfl | rfl | rfl | rfl | rfl | rfl | rfl
          · have e3 := hag 3 rfl; have E3 := e3; rw [Array.getD_eq_getD_getElem?] at E3; refine FreeOp.of _ rfl rfl _ rfl fun K hK => ?_
            go_simp
            exact hK _ _ rfl (Below.refl _ _) (fun j hj hL hji => ⟨trivial, trivial⟩)
          · have e4 := hag 4 rfl; have E4 := e4; rw [Array.getD_eq_getD_getElem?] at E4; refine FreeOp.of _ rfl rfl _ rfl fun K hK => ?_
            go_simp
            exact hK _ _ rfl (Below.refl _ _) (fun j hj hL hji => ⟨trivial, trivial⟩)
          · have e7 := hag 7 rfl; have E7 := e7; rw [Array.getD_eq_getD_getElem?] at E7; refine FreeOp.of _ rfl rfl _ rfl fun K hK => ?_
            go_simp
            exact hK _ _ rfl (Below.refl _ _) (fun j hj hL hji => ⟨trivial, trivial⟩)
          · have e14 : a.tmps.getD 14 undef = _ := hR 1 (by omega) (hn 1 rfl); have E14 := e14; rw [Array.getD_eq_getD_getElem?] at E14; have e15 : a.tmps.getD 15 undef = _ := hR 2 (by omega) (hn 2 rfl); have E15 := e15; rw [Array.getD_eq_getD_getElem?] at E15; refine FreeOp.of _ rfl rfl _ rfl fun K hK => ?_
            go_simp
            refine (Element_any ⟨2, sg, at_, da, pt, 7, N, co⟩ _ _ x2.1 x2.2 x3.1 x3.2 (by omega) (by omega) x4 (by simp only; omega)).mono ?_; rintro e w' ⟨rfl, hb⟩; exact hK _ _ rfl hb (fun j hj hL hji => ⟨trivial, trivial⟩)
          · have e5 := hag 5 rfl; have E5 := e5; rw [Array.getD_eq_getD_getElem?] at E5; refine FreeOp.of _ rfl rfl _ rfl fun K hK => ?_
            go_simp
            exact hK _ _ rfl (Below.refl _ _) (fun j hj hL hji => ⟨trivial, trivial⟩)
          · have e7 := hag 7 rfl; have E7 := e7; rw [Array.getD_eq_getD_getElem?] at E7; refine FreeOp.of _ rfl rfl _ rfl fun K hK => ?_
            go_simp
            exact hK _ _ rfl (Below.refl _ _) (fun j hj hL hji => ⟨trivial, trivial⟩)
          · have e17 : a.tmps.getD 17 undef = _ := hR 4 (by omega) (hn 4 rfl); have E17 := e17; rw [Array.getD_eq_getD_getElem?] at E17; have e18 : a.tmps.getD 18 undef = _ := hR 5 (by omega) (hn 5 rfl); have E18 := e18; rw [Array.getD_eq_getD_getElem?] at E18; refine FreeOp.of _ rfl rfl _ rfl fun K hK => ?_
            go_simp
            refine (Element_any ⟨2, sg', at', da', pt', 7, N, co'⟩ _ _ y2.1 y2.2 y3.1 y3.2 (by omega) (by omega) y4 (by simp only; omega)).mono ?_; rintro e w' ⟨rfl, hb⟩; exact hK _ _ rfl hb (fun j hj hL hji => ⟨trivial, trivial⟩)
          · have e13 : a.tmps.getD 13 undef = _ := hR 0 (by omega) (hn 0 rfl); have E13 := e13; rw [Array.getD_eq_getD_getElem?] at E13; have e16 : a.tmps.getD 16 undef = _ := hR 3 (by omega) (hn 3 rfl); have E16 := e16; rw [Array.getD_eq_getD_getElem?] at E16; have e19 : a.tmps.getD 19 undef = _ := hR 6 (by omega) (hn 6 rfl); have E19 := e19; rw [Array.getD_eq_getD_getElem?] at E19; refine FreeOp.of _ rfl rfl _ rfl fun K hK => ?_
            go_simp
            refine (estructs_any HS.out (H.out.below hBW) (H'.out.below hBW) (element ⟨2, sg, at_, da, pt, 7, N, co⟩ (j : Int)) (element ⟨2, sg', at', da', pt', 7, N, co'⟩ (j : Int)) (HX.out j hlt) (HY.out j hlt) (elem_data (HX.out j hlt)) (elem_data (HY.out j hlt)) (HOx.out j hlt) (HOy.out j hlt)).mono ?_; rw [HJ.out]; rintro e w' ⟨rfl, hb⟩; exact hK _ _ rfl hb (fun j hj hL hji => ⟨trivial, trivial⟩)
          · have e20 : a.tmps.getD 20 undef = _ := hR 7 (by omega) (hn 7 rfl); have E20 := e20; rw [Array.getD_eq_getD_getElem?] at E20; refine FreeOp.of _ rfl rfl _ rfl fun K hK => ?_
            go_simp
            exact hK _ _ rfl (Below.refl _ _) (fun j hj hL hji => ⟨trivial, trivial⟩)
        · intro vs w1 hb1 hR hD
          have e0 : vs 0 = _ := hR 0 (by omega)
          have e1 : vs 1 = _ := hR 1 (by omega)
          have e2 : vs 2 = _ := hR 2 (by omega)
          have e3 : vs 3 = _ := hR 3 (by omega)
          have e4 : vs 4 = _ := hR 4 (by omega)
          have e5 : vs 5 = _ := hR 5 (by omega)
          have e6 : vs 6 = _ := hR 6 (by omega)
          have e7 : vs 7 = _ := hR 7 (by omega)
          have e8 : vs 8 = _ := hR 8 (by omega)
          simp only [putAll, slotOf, Option.bind_some, Act.put, List.getElem?_toArray, List.getElem?_cons_zero, List.getElem?_cons_succ, List.setIfInBounds_toArray, List.set_cons_zero, List.set_cons_succ, e0, e1, e2, e3, e4, e5, e6, e7, e8, List.drop_succ_cons, List.drop_zero]; clear hR hD e0 e1 e2 e3 e4 e5 e6 e7 e8
          have hB1 := below_step (w := w) (by (repeat (first | exact Below.refl _ _ | assumption | refine Below.setCell ?_ (by (try simp); (try omega)) _ | refine Below.alloc ?_ (by (try simp); (try omega)) _ | refine below_setRow ?_ (by (try simp); (try omega)) _ | refine pw_below_drewN ?_ _ | refine Below.drew ?_))) hb1; obtain ⟨hc1, hf1⟩ := bcell hb1; have hd1 := blk_below hb1; have hs1 := hB1.size; have hz1_0 : w.heap.size < w1.heap.size := (by have hq := hb1.size; (try simp at hq); omega); have hy1_0 : w.heap.size ≠ w1.heap.size := Nat.ne_of_lt hz1_0; have hk1_0 := hd1 (w.heap.size) (by (try simp); (try omega)); (try simp (disch := first | omega | (simp; omega)) only [blk_setRow_far, blk_alloc_past, blk_setCell_far, blk_drewN, blk_drew] at hk1_0); have hz1_1 : w.heap.size + 1 < w1.heap.size := (by have hq := hb1.size; (try simp at hq); omega); have hy1_1 : w.heap.size + 1 ≠ w1.heap.size := Nat.ne_of_lt hz1_1; have hk1_1 := hd1 (w.heap.size + 1) (by (try simp); (try omega)); (try simp (disch := first | omega | (simp; omega)) only [blk_setRow_far, blk_alloc_past, blk_setCell_far, blk_drewN, blk_drew] at hk1_1); have hz1_2 : w.heap.size + 1 + 1 < w1.heap.size := (by have hq := hb1.size; (try simp at hq); omega); have hy1_2 : w.heap.size + 1 + 1 ≠ w1.heap.size := Nat.ne_of_lt hz1_2; have hk1_2 := hd1 (w.heap.size + 1 + 1) (by (try simp); (try omega)); (try simp (disch := first | omega | (simp; omega)) only [blk_setRow_far, blk_alloc_past, blk_setCell_far, blk_drewN, blk_drew] at hk1_2)
          have HF : Hid (D = false) := by
            show D = false
            rw [HD.out, Bool.eq_false_iff, ne_eq, List.all_eq_true]
            intro h
            have := h j (List.mem_range.2 hlt)
            rw [HJ.out] at this
            cases this
          go_wp2
          go_ret
          exact ⟨by rw [HF.out]; rfl, hB1⟩
    · obtain rfl : j = N := by omega
      have HF : Hid (D = true) := by
        show D = true
        rw [HD.out, List.all_eq_true]
        exact fun q hq => HG.out q (List.mem_range.1 hq)
      go_wp2
      go_ret
      exact ⟨by rw [HF.out]; rfl, hbel⟩
end Go.Proofs.YtelghkgnkncnoaaDoor
