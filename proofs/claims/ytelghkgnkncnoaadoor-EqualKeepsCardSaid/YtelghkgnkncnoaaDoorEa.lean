/- A part of the proof: the texts W28 W29 joined. -/
import Derived.Test.YtelghkgnkncnoaaDoorNd
/- Contract of equal's pair.plain. -/
set_option linter.unusedVariables false
set_option linter.unusedSimpArgs false
namespace Go.Proofs.YtelghkgnkncnoaaDoor
open Go.RowKit
theorem own_capv {w : World} {base m size : Nat} {e : TypeId} {v : Value} {xs : List Value} (h : w.ownsRow base e size v m xs) : ∀ A n c, v = .slice A n c → c ≤ 9223372036854775807 := by
  rintro A n c rfl; exact own_cap h
theorem trimB_u8 {elem n : Int} {l : List Int} (h : ∀ x ∈ l, U8 x) : ∀ x ∈ trimB elem n l, U8 x := by
  have h1 : ∀ x ∈ bytesN elem n l, U8 x := fun x hx => h x (List.mem_of_mem_take hx)
  unfold trimB
  dsimp only
  split
  · rename_i hc
    intro x hx
    rcases List.mem_or_eq_of_mem_set hx with h2 | h2
    · exact h1 x h2
    · subst h2
      have hp : (0 : Int) < 2 ^ (n % 8).toNat := Int.pow_pos (by decide)
      have h3 := Int.emod_nonneg ((bytesN elem n l).getD ((bytesN elem n l).length - 1) 0) (show (2 : Int) ^ (n % 8).toNat ≠ 0 by omega)
      have h4 := Int.emod_lt_of_pos ((bytesN elem n l).getD ((bytesN elem n l).length - 1) 0) hp
      have h5 : (2 : Int) ^ (n % 8).toNat ≤ 256 := by
        obtain ⟨m, hm⟩ := Int.eq_ofNat_of_zero_le (show 0 ≤ n % 8 by omega)
        have h6 : m < 8 := by omega
        rw [hm, Int.toNat_natCast]
        have : m = 0 ∨ m = 1 ∨ m = 2 ∨ m = 3 ∨ m = 4 ∨ m = 5 ∨ m = 6 ∨ m = 7 := by omega
        rcases this with rfl | rfl | rfl | rfl | rfl | rfl | rfl | rfl <;> decide
      exact ⟨h3, by omega⟩
  · exact h1
theorem plain_len {ss : List (List Int)} {o : Ob} (hi : ObIn ss o) (hc : ObCost o) (hk : o.kind = 2) (h7 : o.elem ≠ 7) : inB ss o.seg o.at_ o.cost = true ∧ lbytes o.elem o.n ≤ ((wbytes (sliceAt ss o.seg o.at_ o.cost)).length : Int) := by
  have hcw := hc.words hk h7
  have hib : inB ss o.seg o.at_ o.cost = true := by
    have hb := hi.inb
    unfold spanOf at hb
    rw [if_neg (by omega), if_neg h7, ← hcw] at hb
    exact hb
  refine ⟨hib, ?_⟩
  rw [wbytes_length]
  unfold sliceAt
  rw [if_pos hib, rangeAt_length hib]
  have h1 := (lbytes_le (e := o.elem) (n := o.n) hi.n.1 h7).2
  rw [← hcw] at h1
  have := hc.low
  omega
theorem sliceAt_U64 {ss : List (List Int)} (hw : WFS ss) (seg at_ n : Int) : ∀ x ∈ sliceAt ss seg at_ n, U64 x := by
  unfold sliceAt; split
  · exact rangeAt_U64 hw _ _ _
  · intro x hx; simp at hx
theorem sliceAt_le {ss : List (List Int)} (hw : WFS ss) (seg at_ n : Int) : (sliceAt ss seg at_ n).length ≤ 1000000 := by
  unfold sliceAt; split
  · exact rangeAt_le hw _ _ _
  · simp
@[reducible] def vPair (A : Option Addr) (n c : Nat) (A' : Option Addr) (n' c' : Nat) : Value := .agg #[.slice A n c, .slice A' n' c']
set_option maxRecDepth 100000 in
set_option maxHeartbeats 2000000 in
theorem plain_any {B B' : Nat} {w : World} {A A' : Option Addr} {n c n' c' : Nat} {ss tt : List (List Int)} (h : MsgIn B w A n ss) (h' : MsgIn B' w A' n' tt) (x y : Ob) (hx : ObIn ss x) (hy : ObIn tt y) (cx : ObCost x) (cy : ObCost y) (kx : x.kind = 2) (ky : y.kind = 2) (ex : x.elem ≠ 7) (ey : y.elem ≠ 7) :
    Calls Tryd.prog 44 #[vPair A n c A' n' c', vOb x, vOb y] w (VPost w (.bool (plainE ss tt x y))) := by
  obtain ⟨ix, lx⟩ := plain_len hx cx kx ex
  obtain ⟨iy, ly⟩ := plain_len hy cy ky ey
  have H := Lib.hid h
  have H' := Lib.hid h'
  have HIx := Lib.hid ix
  have HIy := Lib.hid iy
  have HLx := Lib.hid lx
  have HLy := Lib.hid ly
  have HUx := Lib.hid (sliceAt_U64 h.wf x.seg x.at_ x.cost)
  have HUy := Lib.hid (sliceAt_U64 h'.wf y.seg y.at_ y.cost)
  have HNx := Lib.hid (sliceAt_le h.wf x.seg x.at_ x.cost)
  have HNy := Lib.hid (sliceAt_le h'.wf y.seg y.at_ y.cost)
  have HBx := Lib.hid (wbytes_u8 (sliceAt ss x.seg x.at_ x.cost))
  have HBy := Lib.hid (wbytes_u8 (sliceAt tt y.seg y.at_ y.cost))
  have HTx := Lib.hid (trimB_u8 (elem := x.elem) (n := x.n) HBx.out)
  have HTy := Lib.hid (trimB_u8 (elem := y.elem) (n := y.n) HBy.out)
  obtain ⟨xe0, xe1⟩ := hx.elem
  obtain ⟨xn0, xn1⟩ := hx.n
  obtain ⟨ye0, ye1⟩ := hy.elem
  obtain ⟨yn0, yn1⟩ := hy.n
  have hb0 := h.bound
  clear h h' hx hy cx cy kx ky ex ey ix lx iy ly
  unfold plainE
  go_enter Tryd.func44, Tryd.ntmps44
  go_wp2
  refine wp_region_free' 12 mixed (by kernel_rfl) (fun a b => Below a.heap.size a b) ((Below.refl _ _).drew) (fun a b c h k => h.trans (k.mono h.size)) (fun i v W => match i with | 0 => v = .pointer (some ⟨w.heap.size + 1, 5, none⟩) | 1 => v = .int .i64 x.elem | 2 => v = .pointer (some ⟨w.heap.size + 1, 6, none⟩) | 3 => v = .int .i64 x.n | 4 => v = .pointer (some ⟨w.heap.size, 0, none⟩) | 5 => v = .slice A n c | 6 => v = vOb x | 7 => v = .pointer (some ⟨w.heap.size + 1, 7, none⟩) | 8 => v = .int .i64 x.cost | 9 => SlP .u64 ((sliceAt ss x.seg x.at_ x.cost)) v W | 10 => SbP ((wbytes (sliceAt ss x.seg x.at_ x.cost))) v W | 11 => SbP ((trimB x.elem x.n (wbytes (sliceAt ss x.seg x.at_ x.cost)))) v W | _ => True) (fun j i v v' => True) ?_ ?_ ?_
  · intro i hi v W W' h hle
    have hi' : i = 0 ∨ i = 1 ∨ i = 2 ∨ i = 3 ∨ i = 4 ∨ i = 5 ∨ i = 6 ∨ i = 7 ∨ i = 8 ∨ i = 9 ∨ i = 10 ∨ i = 11 := by omega
    rcases hi' with rfl | rfl | rfl | rfl | rfl | rfl | rfl | rfl | rfl | rfl | rfl | rfl
    all_goals first | exact h | exact SlP.mono h hle | exact SbP.mono h hle | (obtain ⟨g, h1, h2, h3, cs, h4, h5⟩ := h; exact ⟨g, h1, h2, Nat.lt_of_lt_of_le h3 hle.size, cs, h4, (blk_below hle g h3).trans h5⟩)
  · intro i hi a W hle hdf hag L hR hn
    have Hdf := Lib.hid hdf; clear hdf
    obtain ⟨hcW, hfW⟩ := bcell hle; have hdW := blk_below hle; have hsW := hle.size; have hBW := below_step (w := w) (by (repeat (first | exact Below.refl _ _ | assumption | refine Below.setCell ?_ (by (try simp); (try omega)) _ | refine Below.alloc ?_ (by (try simp); (try omega)) _ | refine below_setRow ?_ (by (try simp); (try omega)) _ | refine pw_below_drewN ?_ _ | refine Below.drew ?_))) hle
    have hi' : i = 0 ∨ i = 1 ∨ i = 2 ∨ i = 3 ∨ i = 4 ∨ i = 5 ∨ i = 6 ∨ i = 7 ∨ i = 8 ∨ i = 9 ∨ i = 10 ∨ i = 11 := by omega
    rcases hi' with rfl | rfl | rfl | rfl | rfl | rfl | rfl | rfl | rfl | rfl | rfl | rfl
    · have e4 := hag 4 rfl; have E4 := e4; rw [Array.getD_eq_getD_getElem?] at E4; refine FreeOp.of _ rfl rfl _ rfl fun K hK => ?_
      go_simp
      exact hK _ _ rfl (Below.refl _ _) (fun j hj hL hji => ⟨trivial, trivial⟩)
    · have e8 : a.tmps.getD 8 undef = _ := hR 0 (by omega) (hn 0 rfl); have E8 := e8; rw [Array.getD_eq_getD_getElem?] at E8; refine FreeOp.of _ rfl rfl _ rfl fun K hK => ?_
      go_simp
      exact hK _ _ rfl (Below.refl _ _) (fun j hj hL hji => ⟨trivial, trivial⟩)
    · have e4 := hag 4 rfl; have E4 := e4; rw [Array.getD_eq_getD_getElem?] at E4; refine FreeOp.of _ rfl rfl _ rfl fun K hK => ?_
      go_simp
      exact hK _ _ rfl (Below.refl _ _) (fun j hj hL hji => ⟨trivial, trivial⟩)
    · have e10 : a.tmps.getD 10 undef = _ := hR 2 (by omega) (hn 2 rfl); have E10 := e10; rw [Array.getD_eq_getD_getElem?] at E10; refine FreeOp.of _ rfl rfl _ rfl fun K hK => ?_
      go_simp
      exact hK _ _ rfl (Below.refl _ _) (fun j hj hL hji => ⟨trivial, trivial⟩)
    · have e3 := hag 3 rfl; have E3 := e3; rw [Array.getD_eq_getD_getElem?] at E3; refine FreeOp.of _ rfl rfl _ rfl fun K hK => ?_
      go_simp
      exact hK _ _ rfl (Below.refl _ _) (fun j hj hL hji => ⟨trivial, trivial⟩)
    · have e12 : a.tmps.getD 12 undef = _ := hR 4 (by omega) (hn 4 rfl); have E12 := e12; rw [Array.getD_eq_getD_getElem?] at E12; refine FreeOp.of _ rfl rfl _ rfl fun K hK => ?_
      go_simp
      exact hK _ _ rfl (Below.refl _ _) (fun j hj hL hji => ⟨trivial, trivial⟩)
    · have e4 := hag 4 rfl; have E4 := e4; rw [Array.getD_eq_getD_getElem?] at E4; refine FreeOp.of _ rfl rfl _ rfl fun K hK => ?_
      go_simp
      exact hK _ _ rfl (Below.refl _ _) (fun j hj hL hji => ⟨trivial, trivial⟩)
    · have e4 := hag 4 rfl; have E4 := e4; rw [Array.getD_eq_getD_getElem?] at E4; refine FreeOp.of _ rfl rfl _ rfl fun K hK => ?_
      go_simp
      exact hK _ _ rfl (Below.refl _ _) (fun j hj hL hji => ⟨trivial, trivial⟩)
    · have e15 : a.tmps.getD 15 undef = _ := hR 7 (by omega) (hn 7 rfl); have E15 := e15; rw [Array.getD_eq_getD_getElem?] at E15; refine FreeOp.of _ rfl rfl _ rfl fun K hK => ?_
      go_simp
      exact hK _ _ rfl (Below.refl _ _) (fun j hj hL hji => ⟨trivial, trivial⟩)
    · have e13 : a.tmps.getD 13 undef = _ := hR 5 (by omega) (hn 5 rfl); have E13 := e13; rw [Array.getD_eq_getD_getElem?] at E13; have e14 : a.tmps.getD 14 undef = _ := hR 6 (by omega) (hn 6 rfl); have E14 := e14; rw [Array.getD_eq_getD_getElem?] at E14; have e16 : a.tmps.getD 16 undef = _ := hR 8 (by omega) (hn 8 rfl); have E16 := e16; rw [Array.getD_eq_getD_getElem?] at E16; refine FreeOp.of _ rfl rfl _ rfl fun K hK => ?_
      go_simp
      refine (words_any (H.out.below hBW) x _ HIx.out).mono ?_; rintro e w' ⟨A1, c1, rfl, hc1, hq1, hb⟩; exact hK _ _ ⟨A1, c1, rfl, hc1, hq1⟩ hb (fun j hj hL hji => ⟨trivial, trivial⟩)
    · obtain ⟨A17, c17, e170, hl17, hq17⟩ := hR 9 (by omega) (hn 9 rfl); have e17 : a.tmps.getD 17 undef = _ := e170; have E17 := e17; rw [Array.getD_eq_getD_getElem?] at E17; refine FreeOp.of _ rfl rfl _ rfl fun K hK => ?_
      go_simp
      refine (wordBytes_any (B := W.heap.size) hq17 (Nat.le_refl _) HUx.out HNx.out).mono ?_; rintro e w' ⟨v1, rfl, hown, hb⟩; have hcap := own_capv hown; obtain ⟨A1, c1, rfl, hc1, hq1⟩ := rws_of_own hown; exact hK _ _ ⟨A1, c1, rfl, hc1, hcap _ _ _ rfl, hq1.rw (fun b hb => hb.2)⟩ hb (fun j hj hL hji => ⟨trivial, trivial⟩)
    · have e9 : a.tmps.getD 9 undef = _ := hR 1 (by omega) (hn 1 rfl); have E9 := e9; rw [Array.getD_eq_getD_getElem?] at E9; have e11 : a.tmps.getD 11 undef = _ := hR 3 (by omega) (hn 3 rfl); have E11 := e11; rw [Array.getD_eq_getD_getElem?] at E11; obtain ⟨A18, c18, e180, hl18, hm18, hq18⟩ := hR 10 (by omega) (hn 10 rfl); have e18 : a.tmps.getD 18 undef = _ := e180; have E18 := e18; rw [Array.getD_eq_getD_getElem?] at E18; refine FreeOp.of _ rfl rfl _ rfl fun K hK => ?_
      go_simp
      refine (Trim_any (B := W.heap.size) ((H.out.below hBW).env.mono (Below.refl _ _) (H.out.below hBW).bound) hq18 (Nat.le_refl _) hl18 hm18 HBx.out _ _ xe0 xe1 xn0 xn1 HLx.out).mono ?_; rintro e w' ⟨v1, rfl, hown, hb⟩; have hcap := own_capv hown; obtain ⟨A1, c1, rfl, hc1, hq1⟩ := rws_of_own hown; exact hK _ _ ⟨A1, c1, rfl, hc1, hcap _ _ _ rfl, hq1.rw (fun b hb => hb.2)⟩ hb (fun j hj hL hji => ⟨trivial, trivial⟩)
  · intro vs w1 hb1 hR hD
    have e0 : vs 0 = _ := hR 0 (by omega)
    have e1 : vs 1 = _ := hR 1 (by omega)
    have e2 : vs 2 = _ := hR 2 (by omega)
    have e3 : vs 3 = _ := hR 3 (by omega)
    have e4 : vs 4 = _ := hR 4 (by omega)
    have e5 : vs 5 = _ := hR 5 (by omega)
    have e6 : vs 6 = _ := hR 6 (by omega)
    have e7 : vs 7 = _ := hR 7 (by omega)
    have e8 : vs 8 = _ := hR 8 (by omega)
    obtain ⟨A9, c9, e9, hl9, hq9⟩ := hR 9 (by omega)
    obtain ⟨A10, c10, e10, hl10, hm10, hq10⟩ := hR 10 (by omega)
    obtain ⟨A11, c11, e11, hl11, hm11, hq11⟩ := hR 11 (by omega)
    simp only [putAll, slotOf, Option.bind_some, Act.put, List.getElem?_toArray, List.getElem?_cons_zero, List.getElem?_cons_succ, List.setIfInBounds_toArray, List.set_cons_zero, List.set_cons_succ, e0, e1, e2, e3, e4, e5, e6, e7, e8, e9, e10, e11, List.drop_succ_cons, List.drop_zero]; clear hR hD e0 e1 e2 e3 e4 e5 e6 e7 e8 e9 e10 e11
    have hB1 := below_step (w := w) (by (repeat (first | exact Below.refl _ _ | assumption | refine Below.setCell ?_ (by (try simp); (try omega)) _ | refine Below.alloc ?_ (by (try simp); (try omega)) _ | refine below_setRow ?_ (by (try simp); (try omega)) _ | refine pw_below_drewN ?_ _ | refine Below.drew ?_))) hb1; obtain ⟨hc1, hf1⟩ := bcell hb1; have hd1 := blk_below hb1; have hs1 := hB1.size; have hz1_0 : w.heap.size < w1.heap.size := (by have hq := hb1.size; (try simp at hq); omega); have hy1_0 : w.heap.size ≠ w1.heap.size := Nat.ne_of_lt hz1_0; have hk1_0 := hd1 (w.heap.size) (by (try simp); (try omega)); (try simp (disch := first | omega | (simp; omega)) only [blk_setRow_far, blk_alloc_past, blk_setCell_far, blk_drewN, blk_drew] at hk1_0); have hz1_1 : w.heap.size + 1 < w1.heap.size := (by have hq := hb1.size; (try simp at hq); omega); have hy1_1 : w.heap.size + 1 ≠ w1.heap.size := Nat.ne_of_lt hz1_1; have hk1_1 := hd1 (w.heap.size + 1) (by (try simp); (try omega)); (try simp (disch := first | omega | (simp; omega)) only [blk_setRow_far, blk_alloc_past, blk_setCell_far, blk_drewN, blk_drew] at hk1_1); have hz1_2 : w.heap.size + 1 + 1 < w1.heap.size := (by have hq := hb1.size; (try simp at hq); omega); have hy1_2 : w.heap.size + 1 + 1 ≠ w1.heap.size := Nat.ne_of_lt hz1_2; have hk1_2 := hd1 (w.heap.size + 1 + 1) (by (try simp); (try omega)); (try simp (disch := first | omega | (simp; omega)) only [blk_setRow_far, blk_alloc_past, blk_setCell_far, blk_drewN, blk_drew] at hk1_2)
    have Hq11 := Lib.hid hq11
    clear hq9 hq10 hq11
    go_wp2
    refine wp_region_free' 14 mixed (by kernel_rfl) (fun a b => Below a.heap.size a b) ((Below.refl _ _).drew) (fun a b c h k => h.trans (k.mono h.size)) (fun i v W => match i with | 0 => v = .slice A11 (trimB x.elem x.n (wbytes (sliceAt ss x.seg x.at_ x.cost))).length c11 | 1 => v = .pointer (some ⟨w.heap.size + 1 + 1, 5, none⟩) | 2 => v = .int .i64 y.elem | 3 => v = .pointer (some ⟨w.heap.size + 1 + 1, 6, none⟩) | 4 => v = .int .i64 y.n | 5 => v = .pointer (some ⟨w.heap.size, 1, none⟩) | 6 => v = .slice A' n' c' | 7 => v = vOb y | 8 => v = .pointer (some ⟨w.heap.size + 1 + 1, 7, none⟩) | 9 => v = .int .i64 y.cost | 10 => SlP .u64 ((sliceAt tt y.seg y.at_ y.cost)) v W | 11 => SbP ((wbytes (sliceAt tt y.seg y.at_ y.cost))) v W | 12 => SbP ((trimB y.elem y.n (wbytes (sliceAt tt y.seg y.at_ y.cost)))) v W | 13 => v = .bool (decide (trimB x.elem x.n (wbytes (sliceAt ss x.seg x.at_ x.cost)) = trimB y.elem y.n (wbytes (sliceAt tt y.seg y.at_ y.cost)))) | _ => True) (fun j i v v' => True) ?_ ?_ ?_
    · intro i hi v W W' h hle
      have hi' : i = 0 ∨ i = 1 ∨ i = 2 ∨ i = 3 ∨ i = 4 ∨ i = 5 ∨ i = 6 ∨ i = 7 ∨ i = 8 ∨ i = 9 ∨ i = 10 ∨ i = 11 ∨ i = 12 ∨ i = 13 := by omega
      rcases hi' with rfl | rfl | rfl | rfl | rfl | rfl | rfl | rfl | rfl | rfl | rfl | rfl | rfl | rfl
      all_goals first | exact h | exact SlP.mono h hle | exact SbP.mono h hle | (obtain ⟨g, h1, h2, h3, cs, h4, h5⟩ := h; exact ⟨g, h1, h2, Nat.lt_of_lt_of_le h3 hle.size, cs, h4, (blk_below hle g h3).trans h5⟩)
    · intro i hi a W hle hdf hag L hR hn
      have Hdf := Lib.hid hdf; clear hdf
      obtain ⟨hcW, hfW⟩ := bcell hle; have hdW := blk_below hle; have hsW := hle.size; have hBW := below_step (w := w) (by (repeat (first | exact Below.refl _ _ | assumption | refine Below.setCell ?_ (by (try simp); (try omega)) _ | refine Below.alloc ?_ (by (try simp); (try omega)) _ | refine below_setRow ?_ (by (try simp); (try omega)) _ | refine pw_below_drewN ?_ _ | refine Below.drew ?_))) hle
      have hi' : i = 0 ∨ i = 1 ∨ i = 2 ∨ i = 3 ∨ i = 4 ∨ i = 5 ∨ i = 6 ∨ i = 7 ∨ i = 8 ∨ i = 9 ∨ i = 10 ∨ i = 11 ∨ i = 12 ∨ i = 13 := by omega
      rcases hi' with rfl | rfl | rfl | rfl | rfl | rfl | rfl | rfl | rfl | rfl | rfl | rfl | rfl | rfl
      · have e7 := hag 7 rfl; have E7 := e7; rw [Array.getD_eq_getD_getElem?] at E7; refine FreeOp.of _ rfl rfl _ rfl fun K hK => ?_
        go_simp
        exact hK _ _ rfl (Below.refl _ _) (fun j hj hL hji => ⟨trivial, trivial⟩)
      · have e5 := hag 5 rfl; have E5 := e5; rw [Array.getD_eq_getD_getElem?] at E5; refine FreeOp.of _ rfl rfl _ rfl fun K hK => ?_
        go_simp
        exact hK _ _ rfl (Below.refl _ _) (fun j hj hL hji => ⟨trivial, trivial⟩)
      · have e21 : a.tmps.getD 21 undef = _ := hR 1 (by omega) (hn 1 rfl); have E21 := e21; rw [Array.getD_eq_getD_getElem?] at E21; refine FreeOp.of _ rfl rfl _ rfl fun K hK => ?_
        go_simp
        exact hK _ _ rfl (Below.refl _ _) (fun j hj hL hji => ⟨trivial, trivial⟩)
      · have e5 := hag 5 rfl; have E5 := e5; rw [Array.getD_eq_getD_getElem?] at E5; refine FreeOp.of _ rfl rfl _ rfl fun K hK => ?_
        go_simp
        exact hK _ _ rfl (Below.refl _ _) (fun j hj hL hji => ⟨trivial, trivial⟩)
      · have e23 : a.tmps.getD 23 undef = _ := hR 3 (by omega) (hn 3 rfl); have E23 := e23; rw [Array.getD_eq_getD_getElem?] at E23; refine FreeOp.of _ rfl rfl _ rfl fun K hK => ?_
        go_simp
        exact hK _ _ rfl (Below.refl _ _) (fun j hj hL hji => ⟨trivial, trivial⟩)
      · have e3 := hag 3 rfl; have E3 := e3; rw [Array.getD_eq_getD_getElem?] at E3; refine FreeOp.of _ rfl rfl _ rfl fun K hK => ?_
        go_simp
        exact hK _ _ rfl (Below.refl _ _) (fun j hj hL hji => ⟨trivial, trivial⟩)
      · have e25 : a.tmps.getD 25 undef = _ := hR 5 (by omega) (hn 5 rfl); have E25 := e25; rw [Array.getD_eq_getD_getElem?] at E25; refine FreeOp.of _ rfl rfl _ rfl fun K hK => ?_
        go_simp
        exact hK _ _ rfl (Below.refl _ _) (fun j hj hL hji => ⟨trivial, trivial⟩)
      · have e5 := hag 5 rfl; have E5 := e5; rw [Array.getD_eq_getD_getElem?] at E5; refine FreeOp.of _ rfl rfl _ rfl fun K hK => ?_
        go_simp
        exact hK _ _ rfl (Below.refl _ _) (fun j hj hL hji => ⟨trivial, trivial⟩)
      · have e5 := hag 5 rfl; have E5 := e5; rw [Array.getD_eq_getD_getElem?] at E5; refine FreeOp.of _ rfl rfl _ rfl fun K hK => ?_
        go_simp
        exact hK _ _ rfl (Below.refl _ _) (fun j hj hL hji => ⟨trivial, trivial⟩)
      · have e28 : a.tmps.getD 28 undef = _ := hR 8 (by omega) (hn 8 rfl); have E28 := e28; rw [Array.getD_eq_getD_getElem?] at E28; refine FreeOp.of _ rfl rfl _ rfl fun K hK => ?_
        go_simp
        exact hK _ _ rfl (Below.refl _ _) (fun j hj hL hji => ⟨trivial, trivial⟩)
      · have e26 : a.tmps.getD 26 undef = _ := hR 6 (by omega) (hn 6 rfl); have E26 := e26; rw [Array.getD_eq_getD_getElem?] at E26; have e27 : a.tmps.getD 27 undef = _ := hR 7 (by omega) (hn 7 rfl); have E27 := e27; rw [Array.getD_eq_getD_getElem?] at E27; have e29 : a.tmps.getD 29 undef = _ := hR 9 (by omega) (hn 9 rfl); have E29 := e29; rw [Array.getD_eq_getD_getElem?] at E29; refine FreeOp.of _ rfl rfl _ rfl fun K hK => ?_
        go_simp
        refine (words_any (H'.out.below hBW) y _ HIy.out).mono ?_; rintro e w' ⟨A1, c1, rfl, hc1, hq1, hb⟩; exact hK _ _ ⟨A1, c1, rfl, hc1, hq1⟩ hb (fun j hj hL hji => ⟨trivial, trivial⟩)
      · obtain ⟨A30, c30, e300, hl30, hq30⟩ := hR 10 (by omega) (hn 10 rfl); have e30 : a.tmps.getD 30 undef = _ := e300; have E30 := e30; rw [Array.getD_eq_getD_getElem?] at E30; refine FreeOp.of _ rfl rfl _ rfl fun K hK => ?_
        go_simp
        refine (wordBytes_any (B := W.heap.size) hq30 (Nat.le_refl _) HUy.out HNy.out).mono ?_; rintro e w' ⟨v1, rfl, hown, hb⟩; have hcap := own_capv hown; obtain ⟨A1, c1, rfl, hc1, hq1⟩ := rws_of_own hown; exact hK _ _ ⟨A1, c1, rfl, hc1, hcap _ _ _ rfl, hq1.rw (fun b hb => hb.2)⟩ hb (fun j hj hL hji => ⟨trivial, trivial⟩)
      · have e22 : a.tmps.getD 22 undef = _ := hR 2 (by omega) (hn 2 rfl); have E22 := e22; rw [Array.getD_eq_getD_getElem?] at E22; have e24 : a.tmps.getD 24 undef = _ := hR 4 (by omega) (hn 4 rfl); have E24 := e24; rw [Array.getD_eq_getD_getElem?] at E24; obtain ⟨A31, c31, e310, hl31, hm31, hq31⟩ := hR 11 (by omega) (hn 11 rfl); have e31 : a.tmps.getD 31 undef = _ := e310; have E31 := e31; rw [Array.getD_eq_getD_getElem?] at E31; refine FreeOp.of _ rfl rfl _ rfl fun K hK => ?_
        go_simp
        refine (Trim_any (B := W.heap.size) ((H'.out.below hBW).env.mono (Below.refl _ _) (H'.out.below hBW).bound) hq31 (Nat.le_refl _) hl31 hm31 HBy.out _ _ ye0 ye1 yn0 yn1 HLy.out).mono ?_; rintro e w' ⟨v1, rfl, hown, hb⟩; have hcap := own_capv hown; obtain ⟨A1, c1, rfl, hc1, hq1⟩ := rws_of_own hown; exact hK _ _ ⟨A1, c1, rfl, hc1, hcap _ _ _ rfl, hq1.rw (fun b hb => hb.2)⟩ hb (fun j hj hL hji => ⟨trivial, trivial⟩)
      · have e20 : a.tmps.getD 20 undef = _ := hR 0 (by omega) (hn 0 rfl); have E20 := e20; rw [Array.getD_eq_getD_getElem?] at E20; obtain ⟨A32, c32, e320, hl32, hm32, hq32⟩ := hR 12 (by omega) (hn 12 rfl); have e32 : a.tmps.getD 32 undef = _ := e320; have E32 := e32; rw [Array.getD_eq_getD_getElem?] at E32; refine FreeOp.of _ rfl rfl _ rfl fun K hK => ?_
        go_simp
        refine (bytesEqual_any (B := W.heap.size) (Hq11.out.mono hle hle.size) hq32 HTx.out HTy.out).mono ?_; rintro e w' ⟨rfl, hb⟩; exact hK _ _ rfl hb (fun j hj hL hji => ⟨trivial, trivial⟩)
    · intro vs w2 hb2 hR hD
      have e0 : vs 0 = _ := hR 0 (by omega)
      have e1 : vs 1 = _ := hR 1 (by omega)
      have e2 : vs 2 = _ := hR 2 (by omega)
      have e3 : vs 3 = _ := hR 3 (by omega)
      have e4 : vs 4 = _ := hR 4 (by omega)
      have e5 : vs 5 = _ := hR 5 (by omega)
      have e6 : vs 6 = _ := hR 6 (by omega)
      have e7 : vs 7 = _ := hR 7 (by omega)
      have e8 : vs 8 = _ := hR 8 (by omega)
      have e9 : vs 9 = _ := hR 9 (by omega)
      obtain ⟨A10, c10, e10, hl10, hq10⟩ := hR 10 (by omega)
      obtain ⟨A11, c11, e11, hl11, hm11, hq11⟩ := hR 11 (by omega)
      obtain ⟨A12, c12, e12, hl12, hm12, hq12⟩ := hR 12 (by omega)
      have e13 : vs 13 = _ := hR 13 (by omega)
      simp only [putAll, slotOf, Option.bind_some, Act.put, List.getElem?_toArray, List.getElem?_cons_zero, List.getElem?_cons_succ, List.setIfInBounds_toArray, List.set_cons_zero, List.set_cons_succ, e0, e1, e2, e3, e4, e5, e6, e7, e8, e9, e10, e11, e12, e13, List.drop_succ_cons, List.drop_zero]; clear hR hD e0 e1 e2 e3 e4 e5 e6 e7 e8 e9 e10 e11 e12 e13
      have hB2 := below_step (w := w) (by (repeat (first | exact Below.refl _ _ | assumption | refine Below.setCell ?_ (by (try simp); (try omega)) _ | refine Below.alloc ?_ (by (try simp); (try omega)) _ | refine below_setRow ?_ (by (try simp); (try omega)) _ | refine pw_below_drewN ?_ _ | refine Below.drew ?_))) hb2; obtain ⟨hc2, hf2⟩ := bcell hb2; have hd2 := blk_below hb2; have hs2 := hB2.size; have hz2_0 : w.heap.size < w2.heap.size := (by have hq := hb2.size; (try simp at hq); omega); have hy2_0 : w.heap.size ≠ w2.heap.size := Nat.ne_of_lt hz2_0; have hk2_0 := hd2 (w.heap.size) (by (try simp); (try omega)); (try simp (disch := first | omega | (simp; omega)) only [blk_setRow_far, blk_alloc_past, blk_setCell_far, blk_drewN, blk_drew] at hk2_0); have hz2_1 : w.heap.size + 1 < w2.heap.size := (by have hq := hb2.size; (try simp at hq); omega); have hy2_1 : w.heap.size + 1 ≠ w2.heap.size := Nat.ne_of_lt hz2_1; have hk2_1 := hd2 (w.heap.size + 1) (by (try simp); (try omega)); (try simp (disch := first | omega | (simp; omega)) only [blk_setRow_far, blk_alloc_past, blk_setCell_far, blk_drewN, blk_drew] at hk2_1); have hz2_2 : w.heap.size + 1 + 1 < w2.heap.size := (by have hq := hb2.size; (try simp at hq); omega); have hy2_2 : w.heap.size + 1 + 1 ≠ w2.heap.size := Nat.ne_of_lt hz2_2; have hk2_2 := hd2 (w.heap.size + 1 + 1) (by (try simp); (try omega)); (try simp (disch := first | omega | (simp; omega)) only [blk_setRow_far, blk_alloc_past, blk_setCell_far, blk_drewN, blk_drew] at hk2_2)
      go_wp2
      go_ret
      exact ⟨rfl, hB2⟩
end Go.Proofs.YtelghkgnkncnoaaDoor
/- Contracts of equal's pair.pointers, out of that of same. -/
set_option linter.unusedVariables false
set_option linter.unusedSimpArgs false
namespace Go.Proofs.YtelghkgnkncnoaaDoor
open Go.RowKit
def SameSaid (k : Nat) : Prop := ∀ ⦃B B' : Nat⦄ ⦃w : World⦄ ⦃A A' : Option Addr⦄ ⦃n c n' c' : Nat⦄ ⦃ss tt : List (List Int)⦄ ⦃x y : Ob⦄, MsgIn B w A n ss → MsgIn B' w A' n' tt → OD ss k x → OD tt k y →
  Calls Tryd.prog 25 #[vPair A n c A' n' c', vOb x, vOb y] w (VPost w (.bool (sameV ss tt k x y)))
set_option maxRecDepth 100000 in
set_option maxHeartbeats 2000000 in
theorem epointers_any {k : Nat} (hS : SameSaid k) {B B' : Nat} {w : World} {A A' : Option Addr} {n c n' c' : Nat} {ss tt : List (List Int)} (h : MsgIn B w A n ss) (h' : MsgIn B' w A' n' tt) (x y : Ob) (hx : ObIn ss x) (hy : ObIn tt y) (N : Nat) (hN : N ≤ 1000000)
    (ox : ∀ i : Nat, i < N → OD ss k (objAt ss x i)) (oy : ∀ i : Nat, i < N → OD tt k (objAt tt y i)) :
    Calls Tryd.prog 47 #[vPair A n c A' n' c', vOb x, vOb y, .int .i64 N] w (VPost w (.bool (ptrsE ss tt (sameV ss tt k) x y N))) := by
  have HS := Lib.hid hS
  have H := Lib.hid h
  have H' := Lib.hid h'
  have HX := Lib.hid hx
  have HY := Lib.hid hy
  have HOx := Lib.hid ox
  have HOy := Lib.hid oy
  obtain ⟨D, hD⟩ : ∃ D, D = (List.range N).all fun i => sameV ss tt k (objAt ss x i) (objAt tt y i) := ⟨_, rfl⟩
  have HD := Lib.hid hD
  show Calls _ _ _ _ (VPost w (.bool ((List.range N).all fun i => sameV ss tt k (objAt ss x i) (objAt tt y i))))
  rw [← hD]
  clear hS h h' hx hy ox oy hD
  go_enter Tryd.func47, Tryd.ntmps47
  go_wp2
  go_loopw [11] (fun i wr => ∃ j : Nat, j ≤ N ∧ i = .int .i64 j ∧ (∀ q, q < j → sameV ss tt k (objAt ss x q) (objAt tt y q) = true) ∧ Below w.heap.size w wr ∧ w.heap.size + 1 + 1 < wr.heap.size ∧
      blk wr w.heap.size = some (.cells #[.slice A n c, .slice A' n' c'] 58 (0, 0)) ∧ blk wr (w.heap.size + 1) = some (.cells #[.int .i64 x.kind, .int .i64 x.seg, .int .i64 x.at_, .int .i64 x.data, .int .i64 x.ptrs, .int .i64 x.elem, .int .i64 x.n, .int .i64 x.cost] 61 (0, 0)) ∧
      blk wr (w.heap.size + 1 + 1) = some (.cells #[.int .i64 y.kind, .int .i64 y.seg, .int .i64 y.at_, .int .i64 y.data, .int .i64 y.ptrs, .int .i64 y.elem, .int .i64 y.n, .int .i64 y.cost] 61 (0, 0))) (fun i _ => N - (intOf i).toNat)
  case atStart => exact ⟨0, Nat.zero_le _, rfl, fun q hq => by omega, by (repeat (first | exact Below.refl _ _ | assumption | refine Below.setCell ?_ (by (try simp); (try omega)) _ | refine Below.alloc ?_ (by (try simp); (try omega)) _ | refine below_setRow ?_ (by (try simp); (try omega)) _ | refine pw_below_drewN ?_ _ | refine Below.drew ?_)), by simp, by go_simp, by go_simp, by go_simp⟩
  case round =>
    obtain ⟨j, hj, rfl, hag, hbel, hsz, hk0, hk1, hk2⟩ := hrel
    have HG := Lib.hid hag
    have hl0 : w.heap.size < wr.heap.size := by omega
    have hl1 : w.heap.size + 1 < wr.heap.size := by omega
    clear hag
    by_cases hlt : j < N
    · cases hjv : sameV ss tt k (objAt ss x j) (objAt tt y j) with
      | true =>
        have HJ := Lib.hid hjv
        clear hjv
        go_wp2
        refine wp_region_free' 13 mixed (by kernel_rfl) (fun a b => Below a.heap.size a b) ((Below.refl _ _).drew) (fun a b c h k => h.trans (k.mono h.size)) (fun i v W => match i with | 0 => v = vPair A n c A' n' c' | 1 => v = .pointer (some ⟨w.heap.size, 0, none⟩) | 2 => v = .slice A n c | 3 => v = vOb x | 4 => v = .int .i64 (j : Int) | 5 => v = vOb (objAt ss x j) | 6 => v = .pointer (some ⟨w.heap.size, 1, none⟩) | 7 => v = .slice A' n' c' | 8 => v = vOb y | 9 => v = .int .i64 (j : Int) | 10 => v = vOb (objAt tt y j) | 11 => v = .bool true | 12 => v = .bool false | _ => True) (fun j i v v' => True) ?_ ?_ ?_
        · intro i hi v W W' h hle
          have hi' : i = 0 ∨ i = 1 ∨ i = 2 ∨ i = 3 ∨ i = 4 ∨ i = 5 ∨ i = 6 ∨ i = 7 ∨ i = 8 ∨ i = 9 ∨ i = 10 ∨ i = 11 ∨ i = 12 := by omega
          rcases hi' with rfl | rfl | rfl | rfl | rfl | rfl | rfl | rfl | rfl | rfl | rfl | rfl | rfl
          all_goals first | exact h | exact SlP.mono h hle | exact SbP.mono h hle | (obtain ⟨g, h1, h2, h3, cs, h4, h5⟩ := h; exact ⟨g, h1, h2, Nat.lt_of_lt_of_le h3 hle.size, cs, h4, (blk_below hle g h3).trans h5⟩)
        · intro i hi a W hle hdf hag L hR hn
          have Hdf := Lib.hid hdf; clear hdf
          obtain ⟨hcW, hfW⟩ := bcell hle; have hdW := blk_below hle; have hsW := hle.size; have hBW := below_step (w := w) (by (repeat (first | exact Below.refl _ _ | assumption | refine Below.setCell ?_ (by (try simp); (try omega)) _ | refine Below.alloc ?_ (by (try simp); (try omega)) _ | refine below_setRow ?_ (by (try simp); (try omega)) _ | refine pw_below_drewN ?_ _ | refine Below.drew ?_))) hle
          have hi' : i = 0 ∨ i = 1 ∨ i = 2 ∨ i = 3 ∨ i = 4 ∨ i = 5 ∨ i = 6 ∨ i = 7 ∨ i = 8 ∨ i = 9 ∨ i = 10 ∨ i = 11 ∨ i = 12 := by omega
          rcases hi' with rfl | rfl | rfl | rfl | rfl | rfl | rfl | rfl | rfl | rfl | rfl | rfl | rfl
          · have e4 := hag 4 rfl; have E4 := e4; rw [Array.getD_eq_getD_getElem?] at E4; refine FreeOp.of _ rfl rfl _ rfl fun K hK => ?_
            go_simp
            exact hK _ _ rfl (Below.refl _ _) (fun j hj hL hji => ⟨trivial, trivial⟩)
          · have e4 := hag 4 rfl; have E4 := e4; rw [Array.getD_eq_getD_getElem?] at E4; refine FreeOp.of _ rfl rfl _ rfl fun K hK => ?_
            go_simp
            exact hK _ _ rfl (Below.refl _ _) (fun j hj hL hji => ⟨trivial, trivial⟩)
          · have e15 : a.tmps.getD 15 undef = _ := hR 1 (by omega) (hn 1 rfl); have E15 := e15; rw [Array.getD_eq_getD_getElem?] at E15; refine FreeOp.of _ rfl rfl _ rfl fun K hK => ?_
            go_simp
            exact hK _ _ rfl (Below.refl _ _) (fun j hj hL hji => ⟨trivial, trivial⟩)
          · have e5 := hag 5 rfl; have E5 := e5; rw [Array.getD_eq_getD_getElem?] at E5; refine FreeOp.of _ rfl rfl _ rfl fun K hK => ?_
            go_simp
            exact hK _ _ rfl (Below.refl _ _) (fun j hj hL hji => ⟨trivial, trivial⟩)
          · have e9 := hag 9 rfl; have E9 := e9; rw [Array.getD_eq_getD_getElem?] at E9; refine FreeOp.of _ rfl rfl _ rfl fun K hK => ?_
            go_simp
            exact hK _ _ rfl (Below.refl _ _) (fun j hj hL hji => ⟨trivial, trivial⟩)
          · have e16 : a.tmps.getD 16 undef = _ := hR 2 (by omega) (hn 2 rfl); have E16 := e16; rw [Array.getD_eq_getD_getElem?] at E16; have e17 : a.tmps.getD 17 undef = _ := hR 3 (by omega) (hn 3 rfl); have E17 := e17; rw [Array.getD_eq_getD_getElem?] at E17; have e18 : a.tmps.getD 18 undef = _ := hR 4 (by omega) (hn 4 rfl); have E18 := e18; rw [Array.getD_eq_getD_getElem?] at E18; refine FreeOp.of _ rfl rfl _ rfl fun K hK => ?_
            go_simp
            refine (object_any' (H.out.below hBW) x HX.out j (by omega)).mono ?_; rintro e w' ⟨rfl, hb⟩; exact hK _ _ rfl hb (fun j hj hL hji => ⟨trivial, trivial⟩)
          · have e4 := hag 4 rfl; have E4 := e4; rw [Array.getD_eq_getD_getElem?] at E4; refine FreeOp.of _ rfl rfl _ rfl fun K hK => ?_
            go_simp
            exact hK _ _ rfl (Below.refl _ _) (fun j hj hL hji => ⟨trivial, trivial⟩)
          · have e20 : a.tmps.getD 20 undef = _ := hR 6 (by omega) (hn 6 rfl); have E20 := e20; rw [Array.getD_eq_getD_getElem?] at E20; refine FreeOp.of _ rfl rfl _ rfl fun K hK => ?_
            go_simp
            exact hK _ _ rfl (Below.refl _ _) (fun j hj hL hji => ⟨trivial, trivial⟩)
          · have e6 := hag 6 rfl; have E6 := e6; rw [Array.getD_eq_getD_getElem?] at E6; refine FreeOp.of _ rfl rfl _ rfl fun K hK => ?_
            go_simp
            exact hK _ _ rfl (Below.refl _ _) (fun j hj hL hji => ⟨trivial, trivial⟩)
          · have e9 := hag 9 rfl; have E9 := e9; rw [Array.getD_eq_getD_getElem?] at E9; refine FreeOp.of _ rfl rfl _ rfl fun K hK => ?_
            go_simp
            exact hK _ _ rfl (Below.refl _ _) (fun j hj hL hji => ⟨trivial, trivial⟩)
          · have e21 : a.tmps.getD 21 undef = _ := hR 7 (by omega) (hn 7 rfl); have E21 := e21; rw [Array.getD_eq_getD_getElem?] at E21; have e22 : a.tmps.getD 22 undef = _ := hR 8 (by omega) (hn 8 rfl); have E22 := e22; rw [Array.getD_eq_getD_getElem?] at E22; have e23 : a.tmps.getD 23 undef = _ := hR 9 (by omega) (hn 9 rfl); have E23 := e23; rw [Array.getD_eq_getD_getElem?] at E23; refine FreeOp.of _ rfl rfl _ rfl fun K hK => ?_
            go_simp
            refine (object_any' (H'.out.below hBW) y HY.out j (by omega)).mono ?_; rintro e w' ⟨rfl, hb⟩; exact hK _ _ rfl hb (fun j hj hL hji => ⟨trivial, trivial⟩)
          · have e14 : a.tmps.getD 14 undef = _ := hR 0 (by omega) (hn 0 rfl); have E14 := e14; rw [Array.getD_eq_getD_getElem?] at E14; have e19 : a.tmps.getD 19 undef = _ := hR 5 (by omega) (hn 5 rfl); have E19 := e19; rw [Array.getD_eq_getD_getElem?] at E19; have e24 : a.tmps.getD 24 undef = _ := hR 10 (by omega) (hn 10 rfl); have E24 := e24; rw [Array.getD_eq_getD_getElem?] at E24; refine FreeOp.of _ rfl rfl _ rfl fun K hK => ?_
            go_simp
            refine (HS.out (H.out.below hBW) (H'.out.below hBW) (HOx.out j hlt) (HOy.out j hlt)).mono ?_; rw [HJ.out]; rintro e w' ⟨rfl, hb⟩; exact hK _ _ rfl hb (fun j hj hL hji => ⟨trivial, trivial⟩)
          · have e25 : a.tmps.getD 25 undef = _ := hR 11 (by omega) (hn 11 rfl); have E25 := e25; rw [Array.getD_eq_getD_getElem?] at E25; refine FreeOp.of _ rfl rfl _ rfl fun K hK => ?_
            go_simp
            exact hK _ _ rfl (Below.refl _ _) (fun j hj hL hji => ⟨trivial, trivial⟩)
        · intro vs w1 hb1 hR hD
          have e0 : vs 0 = _ := hR 0 (by omega)
          have e1 : vs 1 = _ := hR 1 (by omega)
          have e2 : vs 2 = _ := hR 2 (by omega)
          have e3 : vs 3 = _ := hR 3 (by omega)
          have e4 : vs 4 = _ := hR 4 (by omega)
          have e5 : vs 5 = _ := hR 5 (by omega)
          have e6 : vs 6 = _ := hR 6 (by omega)
          have e7 : vs 7 = _ := hR 7 (by omega)
          have e8 : vs 8 = _ := hR 8 (by omega)
          have e9 : vs 9 = _ := hR 9 (by omega)
          have e10 : vs 10 = _ := hR 10 (by omega)
          have e11 : vs 11 = _ := hR 11 (by omega)
          have e12 : vs 12 = _ := hR 12 (by omega)
          simp only [putAll, slotOf, Option.bind_some, Act.put, List.getElem?_toArray, List.getElem?_cons_zero, List.getElem?_cons_succ, List.setIfInBounds_toArray, List.set_cons_zero, List.set_cons_succ, e0, e1, e2, e3, e4, e5, e6, e7, e8, e9, e10, e11, e12, List.drop_succ_cons, List.drop_zero]; clear hR hD e0 e1 e2 e3 e4 e5 e6 e7 e8 e9 e10 e11 e12
          have hB1 := below_step (w := w) (by (repeat (first | exact Below.refl _ _ | assumption | refine Below.setCell ?_ (by (try simp); (try omega)) _ | refine Below.alloc ?_ (by (try simp); (try omega)) _ | refine below_setRow ?_ (by (try simp); (try omega)) _ | refine pw_below_drewN ?_ _ | refine Below.drew ?_))) hb1; obtain ⟨hc1, hf1⟩ := bcell hb1; have hd1 := blk_below hb1; have hs1 := hB1.size; have hz1_0 : w.heap.size < w1.heap.size := (by have hq := hb1.size; (try simp at hq); omega); have hy1_0 : w.heap.size ≠ w1.heap.size := Nat.ne_of_lt hz1_0; have hk1_0 := hd1 (w.heap.size) (by (try simp); (try omega)); (try simp (disch := first | omega | (simp; omega)) only [blk_setRow_far, blk_alloc_past, blk_setCell_far, blk_drewN, blk_drew] at hk1_0); have hz1_1 : w.heap.size + 1 < w1.heap.size := (by have hq := hb1.size; (try simp at hq); omega); have hy1_1 : w.heap.size + 1 ≠ w1.heap.size := Nat.ne_of_lt hz1_1; have hk1_1 := hd1 (w.heap.size + 1) (by (try simp); (try omega)); (try simp (disch := first | omega | (simp; omega)) only [blk_setRow_far, blk_alloc_past, blk_setCell_far, blk_drewN, blk_drew] at hk1_1); have hz1_2 : w.heap.size + 1 + 1 < w1.heap.size := (by have hq := hb1.size; (try simp at hq); omega); have hy1_2 : w.heap.size + 1 + 1 ≠ w1.heap.size := Nat.ne_of_lt hz1_2; have hk1_2 := hd1 (w.heap.size + 1 + 1) (by (try simp); (try omega)); (try simp (disch := first | omega | (simp; omega)) only [blk_setRow_far, blk_alloc_past, blk_setCell_far, blk_drewN, blk_drew] at hk1_2)
          go_wp2
          go_roundw
          case rel => exact ⟨j + 1, by omega, by go_num, fun q hq => by
            by_cases h : q < j
            · exact HG.out q h
            · obtain rfl : q = j := by omega
              exact HJ.out, hB1, by omega, hk1_0.trans hk0, hk1_1.trans hk1, hk1_2.trans hk2⟩
          case measure => simp [intOf]; omega
      | false =>
        have HJ := Lib.hid hjv
        clear hjv
        go_wp2
        refine wp_region_free' 13 mixed (by kernel_rfl) (fun a b => Below a.heap.size a b) ((Below.refl _ _).drew) (fun a b c h k => h.trans (k.mono h.size)) (fun i v W => match i with | 0 => v = vPair A n c A' n' c' | 1 => v = .pointer (some ⟨w.heap.size, 0, none⟩) | 2 => v = .slice A n c | 3 => v = vOb x | 4 => v = .int .i64 (j : Int) | 5 => v = vOb (objAt ss x j) | 6 => v = .pointer (some ⟨w.heap.size, 1, none⟩) | 7 => v = .slice A' n' c' | 8 => v = vOb y | 9 => v = .int .i64 (j : Int) | 10 => v = vOb (objAt tt y j) | 11 => v = .bool false | 12 => v = .bool true | _ => True) (fun j i v v' => True) ?_ ?_ ?_
        · intro i hi v W W' h hle
          have hi' : i = 0 ∨ i = 1 ∨ i = 2 ∨ i = 3 ∨ i = 4 ∨ i = 5 ∨ i = 6 ∨ i = 7 ∨ i = 8 ∨ i = 9 ∨ i = 10 ∨ i = 11 ∨ i = 12 := by omega
          rcases hi' with rfl | rfl | rfl | rfl | rfl | rfl | rfl | rfl | rfl | rfl | rfl | rfl | rfl
          all_goals first | exact h | exact SlP.mono h hle | exact SbP.mono h hle | (obtain ⟨g, h1, h2, h3, cs, h4, h5⟩ := h; exact ⟨g, h1, h2, Nat.lt_of_lt_of_le h3 hle.size, cs, h4, (blk_below hle g h3).trans h5⟩)
        · intro i hi a W hle hdf hag L hR hn
          have Hdf := Lib.hid hdf; clear hdf
          obtain ⟨hcW, hfW⟩ := bcell hle; have hdW := blk_below hle; have hsW := hle.size; have hBW := below_step (w := w) (by (repeat (first | exact Below.refl _ _ | assumption | refine Below.setCell ?_ (by (try simp); (try omega)) _ | refine Below.alloc ?_ (by (try simp); (try omega)) _ | refine below_setRow ?_ (by (try simp); (try omega)) _ | refine pw_below_drewN ?_ _ | refine Below.drew ?_))) hle
          have hi' : i = 0 ∨ i = 1 ∨ i = 2 ∨ i = 3 ∨ i = 4 ∨ i = 5 ∨ i = 6 ∨ i = 7 ∨ i = 8 ∨ i = 9 ∨ i = 10 ∨ i = 11 ∨ i = 12 := by omega
          rcases hi' with rfl | rfl | rfl | rfl | rfl | rfl | rfl | rfl | rfl | rfl | rfl | rfl | rfl
          · have e4 := hag 4 rfl; have E4 := e4; rw [Array.getD_eq_getD_getElem?] at E4; refine FreeOp.of _ rfl rfl _ rfl fun K hK => ?_
            go_simp
            exact hK _ _ rfl (Below.refl _ _) (fun j hj hL hji => ⟨trivial, trivial⟩)
          · have e4 := hag 4 rfl; have E4 := e4; rw [Array.getD_eq_getD_getElem?] at E4; refine FreeOp.of _ rfl rfl _ rfl fun K hK => ?_
            go_simp
            exact hK _ _ rfl (Below.refl _ _) (fun j hj hL hji => ⟨trivial, trivial⟩)
          · have e15 : a.tmps.getD 15 undef = _ := hR 1 (by omega) (hn 1 rfl); have E15 := e15; rw [Array.getD_eq_getD_getElem?] at E15; refine FreeOp.of _ rfl rfl _ rfl fun K hK => ?_
            go_simp
            exact hK _ _ rfl (Below.refl _ _) (fun j hj hL hji => ⟨trivial, trivial⟩)
          · have e5 := hag 5 rfl; have E5 := e5; rw [Array.getD_eq_getD_getElem?] at E5; refine FreeOp.of _ rfl rfl _ rfl fun K hK => ?_
            go_simp
            exact hK _ _ rfl (Below.refl _ _) (fun j hj hL hji => ⟨trivial, trivial⟩)
          · have e9 := hag 9 rfl; have E9 := e9; rw [Array.getD_eq_getD_getElem?] at E9; refine FreeOp.of _ rfl rfl _ rfl fun K hK => ?_
            go_simp
            exact hK _ _ rfl (Below.refl _ _) (fun j hj hL hji => ⟨trivial, trivial⟩)
          · have e16 : a.tmps.getD 16 undef = _ := hR 2 (by omega) (hn 2 rfl); have E16 := e16; rw [Array.getD_eq_getD_getElem?] at E16; have e17 : a.tmps.getD 17 undef = _ := hR 3 (by omega) (hn 3 rfl); have E17 := e17; rw [Array.getD_eq_getD_getElem?] at E17; have e18 : a.tmps.getD 18 undef = _ := hR 4 (by omega) (hn 4 rfl); have E18 := e18; rw [Array.getD_eq_getD_getElem?] at E18; refine FreeOp.of _ rfl rfl _ rfl fun K hK => ?_
            go_simp
            refine (object_any' (H.out.below hBW) x HX.out j (by omega)).mono ?_; rintro e w' ⟨rfl, hb⟩; exact hK _ _ rfl hb (fun j hj hL hji => ⟨trivial, trivial⟩)
          · have e4 := hag 4 rfl; have E4 := e4; rw [Array.getD_eq_getD_getElem?] at E4; refine FreeOp.of _ rfl rfl _ rfl fun K hK => ?_
            go_simp
            exact hK _ _ rfl (Below.refl _ _) (fun j hj hL hji => ⟨trivial, trivial⟩)
          · have e20 : a.tmps.getD 20 undef = _ := hR 6 (by omega) (hn 6 rfl); have E20 := e20; rw [Array.getD_eq_getD_getElem?] at E20; refine FreeOp.of _ rfl rfl _ rfl fun K hK => ?_
            go_simp
            exact hK _ _ rfl (Below.refl _ _) (fun j hj hL hji => ⟨trivial, trivial⟩)
          · have e6 := hag 6 rfl; have E6 := e6; rw [Array.getD_eq_getD_getElem?] at E6; refine FreeOp.of _ rfl rfl _ rfl fun K hK => ?_
            go_simp
            exact hK _ _ rfl (Below.refl _ _) (fun j hj hL hji => ⟨trivial, trivial⟩)
          · have e9 := hag 9 rfl; have E9 := e9; rw [Array.getD_eq_getD_getElem?] at E9; refine FreeOp.of _ rfl rfl _ rfl fun K hK => ?_
            go_simp
            exact hK _ _ rfl (Below.refl _ _) (fun j hj hL hji => ⟨trivial, trivial⟩)
          · have e21 : a.tmps.getD 21 undef = _ := hR 7 (by omega) (hn 7 rfl); have E21 := e21; rw [Array.getD_eq_getD_getElem?] at E21; have e22 : a.tmps.getD 22 undef = _ := hR 8 (by omega) (hn 8 rfl); have E22 := e22; rw [Array.getD_eq_getD_getElem?] at E22; have e23 : a.tmps.getD 23 undef = _ := hR 9 (by omega) (hn 9 rfl); have E23 := e23; rw [Array.getD_eq_getD_getElem?] at E23; refine FreeOp.of _ rfl rfl _ rfl fun K hK => ?_
            go_simp
            refine (object_any' (H'.out.below hBW) y HY.out j (by omega)).mono ?_; rintro e w' ⟨rfl, hb⟩; exact hK _ _ rfl hb (fun j hj hL hji => ⟨trivial, trivial⟩)
          · have e14 : a.tmps.getD 14 undef = _ := hR 0 (by omega) (hn 0 rfl); have E14 := e14; rw [Array.getD_eq_getD_getElem?] at E14; have e19 : a.tmps.getD 19 undef = _ := hR 5 (by omega) (hn 5 rfl); have E19 := e19; rw [Array.getD_eq_getD_getElem?] at E19; have e24 : a.tmps.getD 24 undef = _ := hR 10 (by omega) (hn 10 rfl); have E24 := e24; rw [Array.getD_eq_getD_getElem?] at E24; refine FreeOp.of _ rfl rfl _ rfl fun K hK => ?_
            go_simp
            refine (HS.out (H.out.below hBW) (H'.out.below hBW) (HOx.out j hlt) (HOy.out j hlt)).mono ?_; rw [HJ.out]; rintro e w' ⟨rfl, hb⟩; exact hK _ _ rfl hb (fun j hj hL hji => ⟨trivial, trivial⟩)
          · have e25 : a.tmps.getD 25 undef = _ := hR 11 (by omega) (hn 11 rfl); have E25 := e25; rw [Array.getD_eq_getD_getElem?] at E25; refine FreeOp.of _ rfl rfl _ rfl fun K hK => ?_
            go_simp
            exact hK _ _ rfl (Below.refl _ _) (fun j hj hL hji => ⟨trivial, trivial⟩)
        · intro vs w1 hb1 hR hD
          have e0 : vs 0 = _ := hR 0 (by omega)
          have e1 : vs 1 = _ := hR 1 (by omega)
          have e2 : vs 2 = _ := hR 2 (by omega)
          have e3 : vs 3 = _ := hR 3 (by omega)
          have e4 : vs 4 = _ := hR 4 (by omega)
          have e5 : vs 5 = _ := hR 5 (by omega)
          have e6 : vs 6 = _ := hR 6 (by omega)
          have e7 : vs 7 = _ := hR 7 (by omega)
          have e8 : vs 8 = _ := hR 8 (by omega)
          have e9 : vs 9 = _ := hR 9 (by omega)
          have e10 : vs 10 = _ := hR 10 (by omega)
          have e11 : vs 11 = _ := hR 11 (by omega)
          have e12 : vs 12 = _ := hR 12 (by omega)
          simp only [putAll, slotOf, Option.bind_some, Act.put, List.getElem?_toArray, List.getElem?_cons_zero, List.getElem?_cons_succ, List.setIfInBounds_toArray, List.set_cons_zero, List.set_cons_succ, e0, e1, e2, e3, e4, e5, e6, e7, e8, e9, e10, e11, e12, List.drop_succ_cons, List.drop_zero]; clear hR hD e0 e1 e2 e3 e4 e5 e6 e7 e8 e9 e10 e11 e12
          have hB1 := below_step (w := w) (by (repeat (first | exact Below.refl _ _ | assumption | refine Below.setCell ?_ (by (try simp); (try omega)) _ | refine Below.alloc ?_ (by (try simp); (try omega)) _ | refine below_setRow ?_ (by (try simp); (try omega)) _ | refine pw_below_drewN ?_ _ | refine Below.drew ?_))) hb1; obtain ⟨hc1, hf1⟩ := bcell hb1; have hd1 := blk_below hb1; have hs1 := hB1.size; have hz1_0 : w.heap.size < w1.heap.size := (by have hq := hb1.size; (try simp at hq); omega); have hy1_0 : w.heap.size ≠ w1.heap.size := Nat.ne_of_lt hz1_0; have hk1_0 := hd1 (w.heap.size) (by (try simp); (try omega)); (try simp (disch := first | omega | (simp; omega)) only [blk_setRow_far, blk_alloc_past, blk_setCell_far, blk_drewN, blk_drew] at hk1_0); have hz1_1 : w.heap.size + 1 < w1.heap.size := (by have hq := hb1.size; (try simp at hq); omega); have hy1_1 : w.heap.size + 1 ≠ w1.heap.size := Nat.ne_of_lt hz1_1; have hk1_1 := hd1 (w.heap.size + 1) (by (try simp); (try omega)); (try simp (disch := first | omega | (simp; omega)) only [blk_setRow_far, blk_alloc_past, blk_setCell_far, blk_drewN, blk_drew] at hk1_1); have hz1_2 : w.heap.size + 1 + 1 < w1.heap.size := (by have hq := hb1.size; (try simp at hq); omega); have hy1_2 : w.heap.size + 1 + 1 ≠ w1.heap.size := Nat.ne_of_lt hz1_2; have hk1_2 := hd1 (w.heap.size + 1 + 1) (by (try simp); (try omega)); (try simp (disch := first | omega | (simp; omega)) only [blk_setRow_far, blk_alloc_past, blk_setCell_far, blk_drewN, blk_drew] at hk1_2)
          have HF : Hid (D = false) := by
            show D = false
            rw [HD.out, Bool.eq_false_iff, ne_eq, List.all_eq_true]
            intro h
            have := h j (List.mem_range.2 hlt)
            rw [HJ.out] at this
            cases this
          go_wp2
          go_ret
          exact ⟨by rw [HF.out]; rfl, hB1⟩
    · obtain rfl : j = N := by omega
      have HF : Hid (D = true) := by
        show D = true
        rw [HD.out, List.all_eq_true]
        exact fun q hq => HG.out q (List.mem_range.1 hq)
      go_wp2
      go_ret
      exact ⟨by rw [HF.out]; rfl, hbel⟩
end Go.Proofs.YtelghkgnkncnoaaDoor
