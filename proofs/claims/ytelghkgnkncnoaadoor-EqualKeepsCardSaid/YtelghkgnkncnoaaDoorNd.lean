/- A part of the proof: the texts W24 W25 W26 W27 joined. -/
import Derived.Test.YtelghkgnkncnoaaDoorNc
import Derived.Test.YtelghkgnkncnoaaDoorPb
import Derived.Laws.BytesArg
/- Contract of denote.run where it comes to a pointer. -/
set_option linter.unusedVariables false
set_option linter.unusedSimpArgs false
namespace Go.Proofs.YtelghkgnkncnoaaDoor
open Go.RowKit
/-- a message that lies below block B, the package's variables too -/
structure MsgIn (B : Nat) (w : World) (A : Option Addr) (n : Nat) (ss : List (List Int)) : Prop where
  env : Env B w
  segs : RS B w A n ss
  wf : WFS ss
  bound : B ≤ w.heap.size
theorem MsgIn.below {B : Nat} {w w' : World} {A : Option Addr} {n : Nat} {ss : List (List Int)} (h : MsgIn B w A n ss) (hb : Below w.heap.size w w') : MsgIn B w' A n ss :=
  ⟨h.env.mono (hb.mono h.bound) (Nat.le_refl _), h.segs.mono (hb.mono h.bound) (Nat.le_refl _), h.wf, Nat.le_trans h.bound hb.size⟩
theorem MsgIn.alloc {B : Nat} {w : World} {A : Option Addr} {n : Nat} {ss : List (List Int)} (h : MsgIn B w A n ss) (o : Obj) : MsgIn B (w.alloc o) A n ss := h.below ((Below.refl _ _).alloc (Nat.le_refl _) _)
set_option maxRecDepth 100000 in
set_option maxHeartbeats 2000000 in
theorem run_err_nil {B : Nat} {w : World} {A : Option Addr} {n c : Nat} {ss : List (List Int)} (h : MsgIn B w A n ss) (d wl o : Int) {ec : Int} (hd : d ≤ 1000000) (hwl : wl ≤ 1000000) (h0 : n = 0) (hv : valueV ss d.toNat (max wl 0) 0 0 = .error ec) :
    Calls Tryd.prog 42 #[.slice A n c, vLim d wl o] w (RunPost w (.error ec)) := by
  subst h0
  have H := Lib.hid h
  have hv := Lib.hid hv
  have hmf : ∀ (fn : Fn) (first cap : Array Value) (w : World), (Instr.makeFunc fn first cap).run Tryd.prog w = .ok (.func fn first cap) w := fun _ _ _ _ => rfl
  clear h
  go_enter_defers Tryd.func42, Tryd.ntmps42
  go_wp2_with fail
  go_region_held3 (fun W => blk W w.heap.size = some (.cells #[.int .i64 d, .int .i64 wl, .int .i64 o] 24 (0, 0))) (((try dsimp only); (repeat' apply And.intro) <;> first | assumption | (simp (disch := (first | assumption | omega | (simp; done) | (simp; omega))) only [blk_drew, blk_drewN, blk_setRow_far, blk_setCell_far, blk_alloc_past, blk_alloc_new, blk_alloc_at]; first | done | assumption)))
    (first | (go_at_call 69; refine (Start_any _ _ _ _).mono ?_; rintro e w1 ⟨rfl, hb1⟩; have hB1 := below_step (w := w) (by (repeat (first | exact Below.refl _ _ | assumption | refine Below.setCell ?_ (by (try simp); (try omega)) _ | refine Below.alloc ?_ (by (try simp); (try omega)) _ | refine below_setRow ?_ (by (try simp); (try omega)) _ | refine pw_below_drewN ?_ _ | refine Below.drew ?_))) hb1; obtain ⟨hc1, hf1⟩ := bcell hb1; have hd1 := blk_below hb1; have hs1 := hB1.size; have hz1_0 : w.heap.size < w1.heap.size := (by have hq := hb1.size; (try simp at hq); omega); have hy1_0 : w.heap.size ≠ w1.heap.size := Nat.ne_of_lt hz1_0; have hk1_0 := hd1 (w.heap.size) (by (try simp); (try omega)); (try simp (disch := first | omega | (simp; omega)) only [blk_setRow_far, blk_alloc_past, blk_setCell_far, blk_drewN, blk_drew] at hk1_0); have hz1_1 : w.heap.size + 1 < w1.heap.size := (by have hq := hb1.size; (try simp at hq); omega); have hy1_1 : w.heap.size + 1 ≠ w1.heap.size := Nat.ne_of_lt hz1_1; have hk1_1 := hd1 (w.heap.size + 1) (by (try simp); (try omega)); (try simp (disch := first | omega | (simp; omega)) only [blk_setRow_far, blk_alloc_past, blk_setCell_far, blk_drewN, blk_drew] at hk1_1); have hz1_2 : w.heap.size + 1 + 1 < w1.heap.size := (by have hq := hb1.size; (try simp at hq); omega); have hy1_2 : w.heap.size + 1 + 1 ≠ w1.heap.size := Nat.ne_of_lt hz1_2; have hk1_2 := hd1 (w.heap.size + 1 + 1) (by (try simp); (try omega)); (try simp (disch := first | omega | (simp; omega)) only [blk_setRow_far, blk_alloc_past, blk_setCell_far, blk_drewN, blk_drew] at hk1_2); have hz1_3 : w.heap.size + 1 + 1 + 1 < w1.heap.size := (by have hq := hb1.size; (try simp at hq); omega); have hy1_3 : w.heap.size + 1 + 1 + 1 ≠ w1.heap.size := Nat.ne_of_lt hz1_3; have hk1_3 := hd1 (w.heap.size + 1 + 1 + 1) (by (try simp); (try omega)); (try simp (disch := first | omega | (simp; omega)) only [blk_setRow_far, blk_alloc_past, blk_setCell_far, blk_drewN, blk_drew] at hk1_3); (try simp (disch := first | assumption | omega | (simp; done) | (simp; omega)) only [blk_setRow_far, blk_alloc_past, blk_alloc_new, blk_alloc_at, blk_setCell_far, blk_drewN, blk_drew] at hk1_0); (try simp (disch := first | assumption | omega | (simp; done) | (simp; omega)) only [blk_setRow_far, blk_alloc_past, blk_alloc_new, blk_alloc_at, blk_setCell_far, blk_drewN, blk_drew] at hk1_1); (try simp (disch := first | assumption | omega | (simp; done) | (simp; omega)) only [blk_setRow_far, blk_alloc_past, blk_alloc_new, blk_alloc_at, blk_setCell_far, blk_drewN, blk_drew] at hk1_2); (try simp (disch := first | assumption | omega | (simp; done) | (simp; omega)) only [blk_setRow_far, blk_alloc_past, blk_alloc_new, blk_alloc_at, blk_setCell_far, blk_drewN, blk_drew] at hk1_3)))
  have HB1 := Lib.hid hB1
  have hrd : Hid (RdIn B w1.heap.size (w1.alloc (.cells #[.slice A 0 c, .int .i64 d, .int .i64 wl, .int .i64 o, .int .i64 (max wl 0)] 112)) A 0 c ss d wl o (max wl 0)) := by
    have hBel : Below w.heap.size w (w1.alloc (.cells #[.slice A 0 c, .int .i64 d, .int .i64 wl, .int .i64 o, .int .i64 (max wl 0)] 112)) := hB1.alloc hB1.size _
    exact ⟨(H.out.env.mono (hBel.mono H.out.bound) (Nat.le_refl _)), (H.out.segs.mono (hBel.mono H.out.bound) (Nat.le_refl _)), H.out.wf, Nat.le_trans H.out.bound hB1.size, by simp, blk_alloc_new _ _, by omega, by omega, hd⟩
  go_wp2_with (go_at_call 70; refine (value_any d.toNat hrd.out 0 0 1 (by omega) (by omega) (by omega)).mono ?_; rw [hv.out]; rintro e w2 ⟨rfl, hb2⟩)
  have hs2 := hb2.size
  simp at hs2
  have hg1 := (hb2.block (w.heap.size + 1) (by simp; omega) (by omega)).trans ((blk_alloc_past _ _ _ hz1_1).trans hk1_1)
  have hg2 := (hb2.block (w.heap.size + 1 + 1) (by simp; omega) (by omega)).trans ((blk_alloc_past _ _ _ hz1_2).trans hk1_2)
  have hg3 := (hb2.block (w.heap.size + 1 + 1 + 1) (by simp; omega) (by omega)).trans ((blk_alloc_past _ _ _ hz1_3).trans hk1_3)
  refine leaves_cons (f := 68) (args := #[.pointer (some ⟨w.heap.size + 1, 0, none⟩), .pointer (some ⟨w.heap.size + 1 + 1, 0, none⟩), .pointer (some ⟨w.heap.size + 1 + 1 + 1, 0, none⟩)]) (by simp) (by simp [go_sem]) ?_
  refine (catch_fail w2 (w.heap.size + 1) (w.heap.size + 1 + 1) (w.heap.size + 1 + 1 + 1) ec _ _ _ _ _ _ _ hg1 hg2 hg3 (by omega) (by omega) (by omega) (by omega) (by omega) (by omega)).mono ?_
  rintro e u' w3 ⟨rfl, rfl, k1, k2, k3, hb3⟩
  refine ⟨_, results_run (g1 := w.heap.size + 1) (g2 := w.heap.size + 1 + 1) (g3 := w.heap.size + 1 + 1 + 1) rfl rfl rfl rfl k1 k2 k3, ⟨rfl, ?_⟩⟩
  have q1 : Below w.heap.size w w2 := (hB1.alloc hB1.size _).trans (hb2.below (by omega) (by simp; omega))
  exact q1.trans (hb3 _ (by omega) (by omega) (by omega) q1.size)
set_option maxRecDepth 100000 in
set_option maxHeartbeats 2000000 in
theorem run_ok_nil {B : Nat} {w : World} {A : Option Addr} {n c : Nat} {ss : List (List Int)} (h : MsgIn B w A n ss) (d wl o : Int) {x : Nd} {m' : Int} (hd : d ≤ 1000000) (hwl : wl ≤ 1000000) (h0 : n = 0) (hv : valueV ss d.toNat (max wl 0) 0 0 = .ok (x, m')) :
    Calls Tryd.prog 42 #[.slice A n c, vLim d wl o] w (RunPost w (.ok (x, m'))) := by
  subst h0
  have H := Lib.hid h
  have hv := Lib.hid hv
  have hmf : ∀ (fn : Fn) (first cap : Array Value) (w : World), (Instr.makeFunc fn first cap).run Tryd.prog w = .ok (.func fn first cap) w := fun _ _ _ _ => rfl
  clear h
  go_enter_defers Tryd.func42, Tryd.ntmps42
  go_wp2_with fail
  go_region_held3 (fun W => blk W w.heap.size = some (.cells #[.int .i64 d, .int .i64 wl, .int .i64 o] 24 (0, 0))) (((try dsimp only); (repeat' apply And.intro) <;> first | assumption | (simp (disch := (first | assumption | omega | (simp; done) | (simp; omega))) only [blk_drew, blk_drewN, blk_setRow_far, blk_setCell_far, blk_alloc_past, blk_alloc_new, blk_alloc_at]; first | done | assumption)))
    (first | (go_at_call 69; refine (Start_any _ _ _ _).mono ?_; rintro e w1 ⟨rfl, hb1⟩; have hB1 := below_step (w := w) (by (repeat (first | exact Below.refl _ _ | assumption | refine Below.setCell ?_ (by (try simp); (try omega)) _ | refine Below.alloc ?_ (by (try simp); (try omega)) _ | refine below_setRow ?_ (by (try simp); (try omega)) _ | refine pw_below_drewN ?_ _ | refine Below.drew ?_))) hb1; obtain ⟨hc1, hf1⟩ := bcell hb1; have hd1 := blk_below hb1; have hs1 := hB1.size; have hz1_0 : w.heap.size < w1.heap.size := (by have hq := hb1.size; (try simp at hq); omega); have hy1_0 : w.heap.size ≠ w1.heap.size := Nat.ne_of_lt hz1_0; have hk1_0 := hd1 (w.heap.size) (by (try simp); (try omega)); (try simp (disch := first | omega | (simp; omega)) only [blk_setRow_far, blk_alloc_past, blk_setCell_far, blk_drewN, blk_drew] at hk1_0); have hz1_1 : w.heap.size + 1 < w1.heap.size := (by have hq := hb1.size; (try simp at hq); omega); have hy1_1 : w.heap.size + 1 ≠ w1.heap.size := Nat.ne_of_lt hz1_1; have hk1_1 := hd1 (w.heap.size + 1) (by (try simp); (try omega)); (try simp (disch := first | omega | (simp; omega)) only [blk_setRow_far, blk_alloc_past, blk_setCell_far, blk_drewN, blk_drew] at hk1_1); have hz1_2 : w.heap.size + 1 + 1 < w1.heap.size := (by have hq := hb1.size; (try simp at hq); omega); have hy1_2 : w.heap.size + 1 + 1 ≠ w1.heap.size := Nat.ne_of_lt hz1_2; have hk1_2 := hd1 (w.heap.size + 1 + 1) (by (try simp); (try omega)); (try simp (disch := first | omega | (simp; omega)) only [blk_setRow_far, blk_alloc_past, blk_setCell_far, blk_drewN, blk_drew] at hk1_2); have hz1_3 : w.heap.size + 1 + 1 + 1 < w1.heap.size := (by have hq := hb1.size; (try simp at hq); omega); have hy1_3 : w.heap.size + 1 + 1 + 1 ≠ w1.heap.size := Nat.ne_of_lt hz1_3; have hk1_3 := hd1 (w.heap.size + 1 + 1 + 1) (by (try simp); (try omega)); (try simp (disch := first | omega | (simp; omega)) only [blk_setRow_far, blk_alloc_past, blk_setCell_far, blk_drewN, blk_drew] at hk1_3); (try simp (disch := first | assumption | omega | (simp; done) | (simp; omega)) only [blk_setRow_far, blk_alloc_past, blk_alloc_new, blk_alloc_at, blk_setCell_far, blk_drewN, blk_drew] at hk1_0); (try simp (disch := first | assumption | omega | (simp; done) | (simp; omega)) only [blk_setRow_far, blk_alloc_past, blk_alloc_new, blk_alloc_at, blk_setCell_far, blk_drewN, blk_drew] at hk1_1); (try simp (disch := first | assumption | omega | (simp; done) | (simp; omega)) only [blk_setRow_far, blk_alloc_past, blk_alloc_new, blk_alloc_at, blk_setCell_far, blk_drewN, blk_drew] at hk1_2); (try simp (disch := first | assumption | omega | (simp; done) | (simp; omega)) only [blk_setRow_far, blk_alloc_past, blk_alloc_new, blk_alloc_at, blk_setCell_far, blk_drewN, blk_drew] at hk1_3)))
  have HB1 := Lib.hid hB1
  have hrd : Hid (RdIn B w1.heap.size (w1.alloc (.cells #[.slice A 0 c, .int .i64 d, .int .i64 wl, .int .i64 o, .int .i64 (max wl 0)] 112)) A 0 c ss d wl o (max wl 0)) := by
    have hBel : Below w.heap.size w (w1.alloc (.cells #[.slice A 0 c, .int .i64 d, .int .i64 wl, .int .i64 o, .int .i64 (max wl 0)] 112)) := hB1.alloc hB1.size _
    exact ⟨(H.out.env.mono (hBel.mono H.out.bound) (Nat.le_refl _)), (H.out.segs.mono (hBel.mono H.out.bound) (Nat.le_refl _)), H.out.wf, Nat.le_trans H.out.bound hB1.size, by simp, blk_alloc_new _ _, by omega, by omega, hd⟩
  go_wp2_with (go_at_call 70; refine (value_any d.toNat hrd.out 0 0 1 (by omega) (by omega) (by omega)).mono ?_; rw [hv.out]; rintro e w2 ⟨cs, rfl, hx, hb2, hr2⟩; have hs2 := hb2.size; simp at hs2; have hg1 := (hb2.block (w.heap.size + 1) (by simp; omega) (by omega)).trans ((blk_alloc_past _ _ _ hz1_1).trans hk1_1); have hg2 := (hb2.block (w.heap.size + 1 + 1) (by simp; omega) (by omega)).trans ((blk_alloc_past _ _ _ hz1_2).trans hk1_2); have hg3 := (hb2.block (w.heap.size + 1 + 1 + 1) (by simp; omega) (by omega)).trans ((blk_alloc_past _ _ _ hz1_3).trans hk1_3); have HX := Lib.hid hx; obtain ⟨kk, ee, nn, dd, ll⟩ := x; obtain ⟨A1, dc, A2, kc, rfl, hq⟩ := hx; clear hq; unfold rdC rdr at hr2; have hl1 : w.heap.size + 1 < w2.heap.size := (by omega); have hl2 : w.heap.size + 1 + 1 < w2.heap.size := (by omega); have hl3 : w.heap.size + 1 + 1 + 1 < w2.heap.size := (by omega); have hne1 : w1.heap.size ≠ w.heap.size + 1 := (by omega); have HB2 := Lib.hid hb2; have HR2 := Lib.hid hr2)
  obtain ⟨w3, hw3⟩ : ∃ w3, w3 = w2.setRow (w.heap.size + 1) #[.int .i64 kk, .int .i64 ee, .int .i64 nn, .slice A1 dd.length dc, .slice A2 ll.length kc] := ⟨_, rfl⟩
  have hs3 : w3.heap.size = w2.heap.size := by rw [hw3]; simp [World.setRow]
  have hkA : blk w3 w1.heap.size = some (.cells #[.slice A 0 c, .int .i64 d, .int .i64 wl, .int .i64 o, .int .i64 m'] 112 (0, 0)) := by rw [hw3, blk_setRow_far _ _ _ _ hne1]; exact hr2
  have hkB : blk w3 (w.heap.size + 1) = some (.cells #[.int .i64 kk, .int .i64 ee, .int .i64 nn, .slice A1 dd.length dc, .slice A2 ll.length kc] 42 (0, 0)) := by rw [hw3, blk_setRow_at, hg1]; rfl
  have hkC : blk w3 (w.heap.size + 1 + 1) = some (.cells #[.int .i64 0] 81 (0, 0)) := by rw [hw3, blk_setRow_far _ _ _ _ (by omega)]; exact hg2
  have hkD : blk w3 (w.heap.size + 1 + 1 + 1) = some (.cells #[.int .i64 0] 27 (0, 0)) := by rw [hw3, blk_setRow_far _ _ _ _ (by omega)]; exact hg3
  have hX3 : Hid (NdV (From (w.heap.size + 4) w3) w3 (.mk kk ee nn dd ll) [.int .i64 kk, .int .i64 ee, .int .i64 nn, .slice A1 dd.length dc, .slice A2 ll.length kc]) := by
    refine HX.out.mono (fun b hb => ⟨by have h1 := hb.1; simp at h1; have h5 := hz1_3; omega, by have h2 := hb.2; omega⟩) (fun b hb => ?_)
    have h1 := hb.1
    simp at h1
    rw [hw3, blk_setRow_far _ _ _ _ (by omega)]
  have hB3 : Hid (Below w.heap.size w w3) := by
    have q1 : Below w.heap.size w w2 := (HB1.out.alloc HB1.out.size _).trans (HB2.out.below (by omega) (by simp; omega))
    rw [hw3]; exact below_setRow q1 (by omega) _
  have hw1' : w.heap.size + 1 + 1 + 1 < w1.heap.size := hz1_3
  rw [← hw3]
  clear hw3 hg1 hg2 hg3 hr2 hb2 hb1 hc1 hf1 hd1 hs1 hk1_0 hk1_1 hk1_2 hk1_3 hy1_0 hy1_1 hy1_2 hy1_3 hz1_0 hz1_1 hz1_2 hz1_3 hB1
  go_region_held3 (fun W => blk W w1.heap.size = some (.cells #[.slice A 0 c, .int .i64 d, .int .i64 wl, .int .i64 o, .int .i64 m'] 112 (0, 0)) ∧ blk W (w.heap.size + 1) = some (.cells #[.int .i64 kk, .int .i64 ee, .int .i64 nn, .slice A1 dd.length dc, .slice A2 ll.length kc] 42 (0, 0)))
    (refine ⟨?_, ?_⟩ <;> (simp (disch := omega) only [blk_setCell_far, blk_setRow_far, blk_setRow_at, blk_drew, hkA, hkB, reRow])) (fail)
  go_wp2
  refine leaves_cons (f := 68) (args := #[.pointer (some ⟨w.heap.size + 1, 0, none⟩), .pointer (some ⟨w.heap.size + 1 + 1, 0, none⟩), .pointer (some ⟨w.heap.size + 1 + 1 + 1, 0, none⟩)]) (by simp) (by simp [go_sem]) ?_
  refine (catch_idle _ _ _ _).mono ?_
  rintro e u' w'' ⟨rfl, rfl, rfl⟩
  refine ⟨_, results_run (g1 := w.heap.size + 1) (g2 := w.heap.size + 1 + 1) (g3 := w.heap.size + 1 + 1 + 1) (cs1 := #[.int .i64 kk, .int .i64 ee, .int .i64 nn, .slice A1 dd.length dc, .slice A2 ll.length kc]) (m := m') (c := 0) rfl rfl rfl rfl ?_ ?_ ?_, ⟨_, rfl, ?_, ?_⟩⟩
  · rw [blk_setCell_far _ _ _ _ _ (by omega), blk_setCell_far _ _ _ _ _ (by omega), blk_setRow_at, blk_drew, hkB]; rfl
  · rw [blk_setCell_far _ _ _ _ _ (by omega), blk_setCell_at, blk_setRow_far _ _ _ _ (by omega), blk_drew, hkC]; rfl
  · rw [blk_setCell_at, blk_setCell_far _ _ _ _ _ (by omega), blk_setRow_far _ _ _ _ (by omega), blk_drew, hkD]; rfl
  · refine hX3.out.mono (fun b hb => ⟨by have := hb.1; omega, by simp [World.setRow, World.setCell]; exact hb.2⟩) (fun b hb => ?_)
    have h1 := hb.1
    rw [blk_setCell_far _ _ _ _ _ (by omega), blk_setCell_far _ _ _ _ _ (by omega), blk_setRow_far _ _ _ _ (by omega), blk_drew]
  · exact (((hB3.out.drew).trans (below_setRow (Below.refl _ _) (by omega) _)).setCell (by simp; omega) _).setCell (by simp; omega) _
set_option maxRecDepth 100000 in
set_option maxHeartbeats 2000000 in
theorem run_err_full {B : Nat} {w : World} {A : Option Addr} {n c : Nat} {ss : List (List Int)} (h : MsgIn B w A n ss) (d wl o : Int) {ec : Int} (hd : d ≤ 1000000) (hwl : wl ≤ 1000000) (h0 : 0 < n) (h1 : 0 < (ss.getD 0 []).length) (hv : valueV ss d.toNat (max wl 0) 0 0 = .error ec) :
    Calls Tryd.prog 42 #[.slice A n c, vLim d wl o] w (RunPost w (.error ec)) := by
  have hlen := h.segs.1
  obtain ⟨b, o', A', c', rfl, hb, hcell, _, _⟩ := h.segs.seg 0 (by omega) (by omega)
  rw [show (0 : Int).toNat = 0 from rfl] at hcell
  simp only [Nat.add_zero] at hcell
  generalize hLen : (ss.getD 0 []).length = Len at *
  have bl : ((Len : Int) == 0) = false := by simp; omega
  have hbw : b < w.heap.size := by have := h.bound; omega
  have Hc := Lib.hid hcell
  clear hLen hcell hlen h1
  have H := Lib.hid h
  have hv := Lib.hid hv
  have hmf : ∀ (fn : Fn) (first cap : Array Value) (w : World), (Instr.makeFunc fn first cap).run Tryd.prog w = .ok (.func fn first cap) w := fun _ _ _ _ => rfl
  clear h
  go_enter_defers Tryd.func42, Tryd.ntmps42
  go_wp2_with fail
  go_region_held3 (fun W => blk W w.heap.size = some (.cells #[.int .i64 d, .int .i64 wl, .int .i64 o] 24 (0, 0))) (((try dsimp only); (repeat' apply And.intro) <;> first | assumption | (simp (disch := (first | assumption | omega | (simp; done) | (simp; omega))) only [blk_drew, blk_drewN, blk_setRow_far, blk_setCell_far, blk_alloc_past, blk_alloc_new, blk_alloc_at]; first | done | assumption)))
    (first | (go_at_call 69; refine (Start_any _ _ _ _).mono ?_; rintro e w1 ⟨rfl, hb1⟩; have hB1 := below_step (w := w) (by (repeat (first | exact Below.refl _ _ | assumption | refine Below.setCell ?_ (by (try simp); (try omega)) _ | refine Below.alloc ?_ (by (try simp); (try omega)) _ | refine below_setRow ?_ (by (try simp); (try omega)) _ | refine pw_below_drewN ?_ _ | refine Below.drew ?_))) hb1; obtain ⟨hc1, hf1⟩ := bcell hb1; have hd1 := blk_below hb1; have hs1 := hB1.size; have hz1_0 : w.heap.size < w1.heap.size := (by have hq := hb1.size; (try simp at hq); omega); have hy1_0 : w.heap.size ≠ w1.heap.size := Nat.ne_of_lt hz1_0; have hk1_0 := hd1 (w.heap.size) (by (try simp); (try omega)); (try simp (disch := first | omega | (simp; omega)) only [blk_setRow_far, blk_alloc_past, blk_setCell_far, blk_drewN, blk_drew] at hk1_0); have hz1_1 : w.heap.size + 1 < w1.heap.size := (by have hq := hb1.size; (try simp at hq); omega); have hy1_1 : w.heap.size + 1 ≠ w1.heap.size := Nat.ne_of_lt hz1_1; have hk1_1 := hd1 (w.heap.size + 1) (by (try simp); (try omega)); (try simp (disch := first | omega | (simp; omega)) only [blk_setRow_far, blk_alloc_past, blk_setCell_far, blk_drewN, blk_drew] at hk1_1); have hz1_2 : w.heap.size + 1 + 1 < w1.heap.size := (by have hq := hb1.size; (try simp at hq); omega); have hy1_2 : w.heap.size + 1 + 1 ≠ w1.heap.size := Nat.ne_of_lt hz1_2; have hk1_2 := hd1 (w.heap.size + 1 + 1) (by (try simp); (try omega)); (try simp (disch := first | omega | (simp; omega)) only [blk_setRow_far, blk_alloc_past, blk_setCell_far, blk_drewN, blk_drew] at hk1_2); have hz1_3 : w.heap.size + 1 + 1 + 1 < w1.heap.size := (by have hq := hb1.size; (try simp at hq); omega); have hy1_3 : w.heap.size + 1 + 1 + 1 ≠ w1.heap.size := Nat.ne_of_lt hz1_3; have hk1_3 := hd1 (w.heap.size + 1 + 1 + 1) (by (try simp); (try omega)); (try simp (disch := first | omega | (simp; omega)) only [blk_setRow_far, blk_alloc_past, blk_setCell_far, blk_drewN, blk_drew] at hk1_3); (try simp (disch := first | assumption | omega | (simp; done) | (simp; omega)) only [blk_setRow_far, blk_alloc_past, blk_alloc_new, blk_alloc_at, blk_setCell_far, blk_drewN, blk_drew] at hk1_0); (try simp (disch := first | assumption | omega | (simp; done) | (simp; omega)) only [blk_setRow_far, blk_alloc_past, blk_alloc_new, blk_alloc_at, blk_setCell_far, blk_drewN, blk_drew] at hk1_1); (try simp (disch := first | assumption | omega | (simp; done) | (simp; omega)) only [blk_setRow_far, blk_alloc_past, blk_alloc_new, blk_alloc_at, blk_setCell_far, blk_drewN, blk_drew] at hk1_2); (try simp (disch := first | assumption | omega | (simp; done) | (simp; omega)) only [blk_setRow_far, blk_alloc_past, blk_alloc_new, blk_alloc_at, blk_setCell_far, blk_drewN, blk_drew] at hk1_3)))
  have hcell1 : w1.cell? ⟨b, o', none⟩ = some (.slice A' Len c') := ((bcell hB1).1 _ _ hbw).trans Hc.out
  have hb1w : b < w1.heap.size := by omega
  have HB1 := Lib.hid hB1
  have hrd : Hid (RdIn B w1.heap.size (w1.alloc (.cells #[.slice (some ⟨b, o', none⟩) n c, .int .i64 d, .int .i64 wl, .int .i64 o, .int .i64 (max wl 0)] 112)) (some ⟨b, o', none⟩) n c ss d wl o (max wl 0)) := by
    have hBel : Below w.heap.size w (w1.alloc (.cells #[.slice (some ⟨b, o', none⟩) n c, .int .i64 d, .int .i64 wl, .int .i64 o, .int .i64 (max wl 0)] 112)) := hB1.alloc hB1.size _
    exact ⟨(H.out.env.mono (hBel.mono H.out.bound) (Nat.le_refl _)), (H.out.segs.mono (hBel.mono H.out.bound) (Nat.le_refl _)), H.out.wf, Nat.le_trans H.out.bound hB1.size, by simp, blk_alloc_new _ _, by omega, by omega, hd⟩
  go_wp2_with (go_at_call 70; refine (value_any d.toNat hrd.out 0 0 1 (by omega) (by omega) (by omega)).mono ?_; rw [hv.out]; rintro e w2 ⟨rfl, hb2⟩)
  have hs2 := hb2.size
  simp at hs2
  have hg1 := (hb2.block (w.heap.size + 1) (by simp; omega) (by omega)).trans ((blk_alloc_past _ _ _ hz1_1).trans hk1_1)
  have hg2 := (hb2.block (w.heap.size + 1 + 1) (by simp; omega) (by omega)).trans ((blk_alloc_past _ _ _ hz1_2).trans hk1_2)
  have hg3 := (hb2.block (w.heap.size + 1 + 1 + 1) (by simp; omega) (by omega)).trans ((blk_alloc_past _ _ _ hz1_3).trans hk1_3)
  refine leaves_cons (f := 68) (args := #[.pointer (some ⟨w.heap.size + 1, 0, none⟩), .pointer (some ⟨w.heap.size + 1 + 1, 0, none⟩), .pointer (some ⟨w.heap.size + 1 + 1 + 1, 0, none⟩)]) (by simp) (by simp [go_sem]) ?_
  refine (catch_fail w2 (w.heap.size + 1) (w.heap.size + 1 + 1) (w.heap.size + 1 + 1 + 1) ec _ _ _ _ _ _ _ hg1 hg2 hg3 (by omega) (by omega) (by omega) (by omega) (by omega) (by omega)).mono ?_
  rintro e u' w3 ⟨rfl, rfl, k1, k2, k3, hb3⟩
  refine ⟨_, results_run (g1 := w.heap.size + 1) (g2 := w.heap.size + 1 + 1) (g3 := w.heap.size + 1 + 1 + 1) rfl rfl rfl rfl k1 k2 k3, ⟨rfl, ?_⟩⟩
  have q1 : Below w.heap.size w w2 := (hB1.alloc hB1.size _).trans (hb2.below (by omega) (by simp; omega))
  exact q1.trans (hb3 _ (by omega) (by omega) (by omega) q1.size)
set_option maxRecDepth 100000 in
set_option maxHeartbeats 2000000 in
theorem run_ok_full {B : Nat} {w : World} {A : Option Addr} {n c : Nat} {ss : List (List Int)} (h : MsgIn B w A n ss) (d wl o : Int) {x : Nd} {m' : Int} (hd : d ≤ 1000000) (hwl : wl ≤ 1000000) (h0 : 0 < n) (h1 : 0 < (ss.getD 0 []).length) (hv : valueV ss d.toNat (max wl 0) 0 0 = .ok (x, m')) :
    Calls Tryd.prog 42 #[.slice A n c, vLim d wl o] w (RunPost w (.ok (x, m'))) := by
  have hlen := h.segs.1
  obtain ⟨b, o', A', c', rfl, hb, hcell, _, _⟩ := h.segs.seg 0 (by omega) (by omega)
  rw [show (0 : Int).toNat = 0 from rfl] at hcell
  simp only [Nat.add_zero] at hcell
  generalize hLen : (ss.getD 0 []).length = Len at *
  have bl : ((Len : Int) == 0) = false := by simp; omega
  have hbw : b < w.heap.size := by have := h.bound; omega
  have Hc := Lib.hid hcell
  clear hLen hcell hlen h1
  have H := Lib.hid h
  have hv := Lib.hid hv
  have hmf : ∀ (fn : Fn) (first cap : Array Value) (w : World), (Instr.makeFunc fn first cap).run Tryd.prog w = .ok (.func fn first cap) w := fun _ _ _ _ => rfl
  clear h
  go_enter_defers Tryd.func42, Tryd.ntmps42
  go_wp2_with fail
  go_region_held3 (fun W => blk W w.heap.size = some (.cells #[.int .i64 d, .int .i64 wl, .int .i64 o] 24 (0, 0))) (((try dsimp only); (repeat' apply And.intro) <;> first | assumption | (simp (disch := (first | assumption | omega | (simp; done) | (simp; omega))) only [blk_drew, blk_drewN, blk_setRow_far, blk_setCell_far, blk_alloc_past, blk_alloc_new, blk_alloc_at]; first | done | assumption)))
    (first | (go_at_call 69; refine (Start_any _ _ _ _).mono ?_; rintro e w1 ⟨rfl, hb1⟩; have hB1 := below_step (w := w) (by (repeat (first | exact Below.refl _ _ | assumption | refine Below.setCell ?_ (by (try simp); (try omega)) _ | refine Below.alloc ?_ (by (try simp); (try omega)) _ | refine below_setRow ?_ (by (try simp); (try omega)) _ | refine pw_below_drewN ?_ _ | refine Below.drew ?_))) hb1; obtain ⟨hc1, hf1⟩ := bcell hb1; have hd1 := blk_below hb1; have hs1 := hB1.size; have hz1_0 : w.heap.size < w1.heap.size := (by have hq := hb1.size; (try simp at hq); omega); have hy1_0 : w.heap.size ≠ w1.heap.size := Nat.ne_of_lt hz1_0; have hk1_0 := hd1 (w.heap.size) (by (try simp); (try omega)); (try simp (disch := first | omega | (simp; omega)) only [blk_setRow_far, blk_alloc_past, blk_setCell_far, blk_drewN, blk_drew] at hk1_0); have hz1_1 : w.heap.size + 1 < w1.heap.size := (by have hq := hb1.size; (try simp at hq); omega); have hy1_1 : w.heap.size + 1 ≠ w1.heap.size := Nat.ne_of_lt hz1_1; have hk1_1 := hd1 (w.heap.size + 1) (by (try simp); (try omega)); (try simp (disch := first | omega | (simp; omega)) only [blk_setRow_far, blk_alloc_past, blk_setCell_far, blk_drewN, blk_drew] at hk1_1); have hz1_2 : w.heap.size + 1 + 1 < w1.heap.size := (by have hq := hb1.size; (try simp at hq); omega); have hy1_2 : w.heap.size + 1 + 1 ≠ w1.heap.size := Nat.ne_of_lt hz1_2; have hk1_2 := hd1 (w.heap.size + 1 + 1) (by (try simp); (try omega)); (try simp (disch := first | omega | (simp; omega)) only [blk_setRow_far, blk_alloc_past, blk_setCell_far, blk_drewN, blk_drew] at hk1_2); have hz1_3 : w.heap.size + 1 + 1 + 1 < w1.heap.size := (by have hq := hb1.size; (try simp at hq); omega); have hy1_3 : w.heap.size + 1 + 1 + 1 ≠ w1.heap.size := Nat.ne_of_lt hz1_3; have hk1_3 := hd1 (w.heap.size + 1 + 1 + 1) (by (try simp); (try omega)); (try simp (disch := first | omega | (simp; omega)) only [blk_setRow_far, blk_alloc_past, blk_setCell_far, blk_drewN, blk_drew] at hk1_3); (try simp (disch := first | assumption | omega | (simp; done) | (simp; omega)) only [blk_setRow_far, blk_alloc_past, blk_alloc_new, blk_alloc_at, blk_setCell_far, blk_drewN, blk_drew] at hk1_0); (try simp (disch := first | assumption | omega | (simp; done) | (simp; omega)) only [blk_setRow_far, blk_alloc_past, blk_alloc_new, blk_alloc_at, blk_setCell_far, blk_drewN, blk_drew] at hk1_1); (try simp (disch := first | assumption | omega | (simp; done) | (simp; omega)) only [blk_setRow_far, blk_alloc_past, blk_alloc_new, blk_alloc_at, blk_setCell_far, blk_drewN, blk_drew] at hk1_2); (try simp (disch := first | assumption | omega | (simp; done) | (simp; omega)) only [blk_setRow_far, blk_alloc_past, blk_alloc_new, blk_alloc_at, blk_setCell_far, blk_drewN, blk_drew] at hk1_3)))
  have hcell1 : w1.cell? ⟨b, o', none⟩ = some (.slice A' Len c') := ((bcell hB1).1 _ _ hbw).trans Hc.out
  have hb1w : b < w1.heap.size := by omega
  have HB1 := Lib.hid hB1
  have hrd : Hid (RdIn B w1.heap.size (w1.alloc (.cells #[.slice (some ⟨b, o', none⟩) n c, .int .i64 d, .int .i64 wl, .int .i64 o, .int .i64 (max wl 0)] 112)) (some ⟨b, o', none⟩) n c ss d wl o (max wl 0)) := by
    have hBel : Below w.heap.size w (w1.alloc (.cells #[.slice (some ⟨b, o', none⟩) n c, .int .i64 d, .int .i64 wl, .int .i64 o, .int .i64 (max wl 0)] 112)) := hB1.alloc hB1.size _
    exact ⟨(H.out.env.mono (hBel.mono H.out.bound) (Nat.le_refl _)), (H.out.segs.mono (hBel.mono H.out.bound) (Nat.le_refl _)), H.out.wf, Nat.le_trans H.out.bound hB1.size, by simp, blk_alloc_new _ _, by omega, by omega, hd⟩
  go_wp2_with (go_at_call 70; refine (value_any d.toNat hrd.out 0 0 1 (by omega) (by omega) (by omega)).mono ?_; rw [hv.out]; rintro e w2 ⟨cs, rfl, hx, hb2, hr2⟩; have hs2 := hb2.size; simp at hs2; have hg1 := (hb2.block (w.heap.size + 1) (by simp; omega) (by omega)).trans ((blk_alloc_past _ _ _ hz1_1).trans hk1_1); have hg2 := (hb2.block (w.heap.size + 1 + 1) (by simp; omega) (by omega)).trans ((blk_alloc_past _ _ _ hz1_2).trans hk1_2); have hg3 := (hb2.block (w.heap.size + 1 + 1 + 1) (by simp; omega) (by omega)).trans ((blk_alloc_past _ _ _ hz1_3).trans hk1_3); have HX := Lib.hid hx; obtain ⟨kk, ee, nn, dd, ll⟩ := x; obtain ⟨A1, dc, A2, kc, rfl, hq⟩ := hx; clear hq; unfold rdC rdr at hr2; have hl1 : w.heap.size + 1 < w2.heap.size := (by omega); have hl2 : w.heap.size + 1 + 1 < w2.heap.size := (by omega); have hl3 : w.heap.size + 1 + 1 + 1 < w2.heap.size := (by omega); have hne1 : w1.heap.size ≠ w.heap.size + 1 := (by omega); have HB2 := Lib.hid hb2; have HR2 := Lib.hid hr2)
  obtain ⟨w3, hw3⟩ : ∃ w3, w3 = w2.setRow (w.heap.size + 1) #[.int .i64 kk, .int .i64 ee, .int .i64 nn, .slice A1 dd.length dc, .slice A2 ll.length kc] := ⟨_, rfl⟩
  have hs3 : w3.heap.size = w2.heap.size := by rw [hw3]; simp [World.setRow]
  have hkA : blk w3 w1.heap.size = some (.cells #[.slice (some ⟨b, o', none⟩) n c, .int .i64 d, .int .i64 wl, .int .i64 o, .int .i64 m'] 112 (0, 0)) := by rw [hw3, blk_setRow_far _ _ _ _ hne1]; exact hr2
  have hkB : blk w3 (w.heap.size + 1) = some (.cells #[.int .i64 kk, .int .i64 ee, .int .i64 nn, .slice A1 dd.length dc, .slice A2 ll.length kc] 42 (0, 0)) := by rw [hw3, blk_setRow_at, hg1]; rfl
  have hkC : blk w3 (w.heap.size + 1 + 1) = some (.cells #[.int .i64 0] 81 (0, 0)) := by rw [hw3, blk_setRow_far _ _ _ _ (by omega)]; exact hg2
  have hkD : blk w3 (w.heap.size + 1 + 1 + 1) = some (.cells #[.int .i64 0] 27 (0, 0)) := by rw [hw3, blk_setRow_far _ _ _ _ (by omega)]; exact hg3
  have hX3 : Hid (NdV (From (w.heap.size + 4) w3) w3 (.mk kk ee nn dd ll) [.int .i64 kk, .int .i64 ee, .int .i64 nn, .slice A1 dd.length dc, .slice A2 ll.length kc]) := by
    refine HX.out.mono (fun b hb => ⟨by have h1 := hb.1; simp at h1; have h5 := hz1_3; omega, by have h2 := hb.2; omega⟩) (fun b hb => ?_)
    have h1 := hb.1
    simp at h1
    rw [hw3, blk_setRow_far _ _ _ _ (by omega)]
  have hB3 : Hid (Below w.heap.size w w3) := by
    have q1 : Below w.heap.size w w2 := (HB1.out.alloc HB1.out.size _).trans (HB2.out.below (by omega) (by simp; omega))
    rw [hw3]; exact below_setRow q1 (by omega) _
  have hw1' : w.heap.size + 1 + 1 + 1 < w1.heap.size := hz1_3
  rw [← hw3]
  clear hw3 hg1 hg2 hg3 hr2 hb2 hb1 hc1 hf1 hd1 hs1 hk1_0 hk1_1 hk1_2 hk1_3 hy1_0 hy1_1 hy1_2 hy1_3 hz1_0 hz1_1 hz1_2 hz1_3 hB1
  go_region_held3 (fun W => blk W w1.heap.size = some (.cells #[.slice (some ⟨b, o', none⟩) n c, .int .i64 d, .int .i64 wl, .int .i64 o, .int .i64 m'] 112 (0, 0)) ∧ blk W (w.heap.size + 1) = some (.cells #[.int .i64 kk, .int .i64 ee, .int .i64 nn, .slice A1 dd.length dc, .slice A2 ll.length kc] 42 (0, 0)))
    (refine ⟨?_, ?_⟩ <;> (simp (disch := omega) only [blk_setCell_far, blk_setRow_far, blk_setRow_at, blk_drew, hkA, hkB, reRow])) (fail)
  go_wp2
  refine leaves_cons (f := 68) (args := #[.pointer (some ⟨w.heap.size + 1, 0, none⟩), .pointer (some ⟨w.heap.size + 1 + 1, 0, none⟩), .pointer (some ⟨w.heap.size + 1 + 1 + 1, 0, none⟩)]) (by simp) (by simp [go_sem]) ?_
  refine (catch_idle _ _ _ _).mono ?_
  rintro e u' w'' ⟨rfl, rfl, rfl⟩
  refine ⟨_, results_run (g1 := w.heap.size + 1) (g2 := w.heap.size + 1 + 1) (g3 := w.heap.size + 1 + 1 + 1) (cs1 := #[.int .i64 kk, .int .i64 ee, .int .i64 nn, .slice A1 dd.length dc, .slice A2 ll.length kc]) (m := m') (c := 0) rfl rfl rfl rfl ?_ ?_ ?_, ⟨_, rfl, ?_, ?_⟩⟩
  · rw [blk_setCell_far _ _ _ _ _ (by omega), blk_setCell_far _ _ _ _ _ (by omega), blk_setRow_at, blk_drew, hkB]; rfl
  · rw [blk_setCell_far _ _ _ _ _ (by omega), blk_setCell_at, blk_setRow_far _ _ _ _ (by omega), blk_drew, hkC]; rfl
  · rw [blk_setCell_at, blk_setCell_far _ _ _ _ _ (by omega), blk_setRow_far _ _ _ _ (by omega), blk_drew, hkD]; rfl
  · refine hX3.out.mono (fun b hb => ⟨by have := hb.1; omega, by simp [World.setRow, World.setCell]; exact hb.2⟩) (fun b hb => ?_)
    have h1 := hb.1
    rw [blk_setCell_far _ _ _ _ _ (by omega), blk_setCell_far _ _ _ _ _ (by omega), blk_setRow_far _ _ _ _ (by omega), blk_drew]
  · exact (((hB3.out.drew).trans (below_setRow (Below.refl _ _) (by omega) _)).setCell (by simp; omega) _).setCell (by simp; omega) _
theorem run_any {B : Nat} {w : World} {A : Option Addr} {n c : Nat} {ss : List (List Int)} (h : MsgIn B w A n ss) (d wl o : Int) (hd : d ≤ 1000000) (hwl : wl ≤ 1000000) :
    Calls Tryd.prog 42 #[.slice A n c, vLim d wl o] w (RunPost w (runV ss d wl)) := by
  have hlen := h.segs.1
  unfold runV
  by_cases he : 0 < ss.length ∧ (ss.getD 0 []).length = 0
  · rw [if_pos he, startM_eq]
    exact run_empty h.segs h.bound d wl o he.1 he.2
  · rw [if_neg he, startM_eq]
    rcases Nat.eq_zero_or_pos n with h0 | h0
    · cases hv : valueV ss d.toNat (max wl 0) 0 0 with
      | error e => exact run_err_nil h d wl o hd hwl h0 hv
      | ok r => obtain ⟨x, m'⟩ := r; exact run_ok_nil h d wl o hd hwl h0 hv
    · have h1 : 0 < (ss.getD 0 []).length := by
        rcases Nat.eq_zero_or_pos (ss.getD 0 []).length with h1 | h1
        · exact absurd ⟨by omega, h1⟩ he
        · exact h1
      cases hv : valueV ss d.toNat (max wl 0) 0 0 with
      | error e => exact run_err_full h d wl o hd hwl h0 h1 hv
      | ok r => obtain ⟨x, m'⟩ := r; exact run_ok_full h d wl o hd hwl h0 h1 hv
end Go.Proofs.YtelghkgnkncnoaaDoor
/- Contracts of budget.Used, denote.Measure. -/
set_option linter.unusedVariables false
set_option linter.unusedSimpArgs false
namespace Go.Proofs.YtelghkgnkncnoaaDoor
open Go.RowKit
set_option maxRecDepth 100000 in
theorem Used_any (d n o m : Int) (w : World) (n1 : n ≤ 1000000) (m0 : 0 ≤ m) (m1 : m ≤ 1000000) : Calls Tryd.prog 43 #[vLim d n o, .agg #[.int .i64 m]] w (VPost w (.int .i64 (max n 0 - m))) := by
  have hmx : 0 ≤ max n 0 ∧ max n 0 ≤ 1000000 := by omega
  obtain ⟨q0, q1⟩ := hmx
  have hwr : IntKind.i64.wrap (max n 0 - m) = max n 0 - m := by rw [IntKind.wrap_i64]; omega
  go_enter Tryd.func43, Tryd.ntmps43
  go_wp2
  go_region_held3 (fun W => blk W w.heap.size = some (.cells #[.int .i64 d, .int .i64 n, .int .i64 o] 24 (0, 0)) ∧ blk W (w.heap.size + 1) = some (.cells #[.int .i64 m] 81 (0, 0))) (((try dsimp only); (repeat' apply And.intro) <;> first | assumption | (simp (disch := (first | assumption | omega | (simp; done) | (simp; omega))) only [blk_drew, blk_drewN, blk_setRow_far, blk_setCell_far, blk_alloc_past, blk_alloc_new, blk_alloc_at]; first | done | assumption)))
    (first | (go_at_call 69; refine (Start_any _ _ _ _).mono ?_; rintro e w1 ⟨rfl, hb1⟩; have hB1 := below_step (w := w) (by (repeat (first | exact Below.refl _ _ | assumption | refine Below.setCell ?_ (by (try simp); (try omega)) _ | refine Below.alloc ?_ (by (try simp); (try omega)) _ | refine below_setRow ?_ (by (try simp); (try omega)) _ | refine pw_below_drewN ?_ _ | refine Below.drew ?_))) hb1; obtain ⟨hc1, hf1⟩ := bcell hb1; have hd1 := blk_below hb1; have hs1 := hB1.size; have hz1_0 : w.heap.size < w1.heap.size := (by have hq := hb1.size; (try simp at hq); omega); have hy1_0 : w.heap.size ≠ w1.heap.size := Nat.ne_of_lt hz1_0; have hk1_0 := hd1 (w.heap.size) (by (try simp); (try omega)); (try simp (disch := first | omega | (simp; omega)) only [blk_setRow_far, blk_alloc_past, blk_setCell_far, blk_drewN, blk_drew] at hk1_0); have hz1_1 : w.heap.size + 1 < w1.heap.size := (by have hq := hb1.size; (try simp at hq); omega); have hy1_1 : w.heap.size + 1 ≠ w1.heap.size := Nat.ne_of_lt hz1_1; have hk1_1 := hd1 (w.heap.size + 1) (by (try simp); (try omega)); (try simp (disch := first | omega | (simp; omega)) only [blk_setRow_far, blk_alloc_past, blk_setCell_far, blk_drewN, blk_drew] at hk1_1); (try simp (disch := first | assumption | omega | (simp; done) | (simp; omega)) only [blk_setRow_far, blk_alloc_past, blk_alloc_new, blk_alloc_at, blk_setCell_far, blk_drewN, blk_drew] at hk1_0); (try simp (disch := first | assumption | omega | (simp; done) | (simp; omega)) only [blk_setRow_far, blk_alloc_past, blk_alloc_new, blk_alloc_at, blk_setCell_far, blk_drewN, blk_drew] at hk1_1)))
  go_wp2
  go_ret
  exact ⟨rfl, hB1⟩
set_option maxRecDepth 100000 in
set_option maxHeartbeats 1000000 in
theorem Measure_any {B : Nat} {w : World} {A : Option Addr} {n c : Nat} {ss : List (List Int)} (h : MsgIn B w A n ss) (d wl o : Int) (hd : d ≤ 1000000) (hwl : wl ≤ 1000000) :
    Calls Tryd.prog 24 #[.slice A n c, vLim d wl o] w (VPost w (.tuple #[.int .i64 (measureV ss d wl).1, .int .i64 (measureV ss d wl).2])) := by
  have H := Lib.hid h
  cases hr : runV ss d wl with
  | error e =>
    have hs : measureV ss d wl = (0, e) := by unfold measureV; rw [hr]
    rw [hs]
    have HR := Lib.hid hr
    have he : e ≠ 0 := runV_err h.wf hr
    have he' : (e != 0) = true := by simpa using he
    clear hs hr h
    go_enter Tryd.func24, Tryd.ntmps24
    go_wp2_with (go_at_call 42; refine (run_any (H.out.alloc _) d wl o hd hwl).mono ?_; rw [HR.out]; rintro e w1 ⟨rfl, hb1⟩; have hB1 := below_step (w := w) (by (repeat (first | exact Below.refl _ _ | assumption | refine Below.setCell ?_ (by (try simp); (try omega)) _ | refine Below.alloc ?_ (by (try simp); (try omega)) _ | refine below_setRow ?_ (by (try simp); (try omega)) _ | refine pw_below_drewN ?_ _ | refine Below.drew ?_))) hb1; obtain ⟨hc1, hf1⟩ := bcell hb1; have hd1 := blk_below hb1; have hs1 := hB1.size; have hz1_0 : w.heap.size < w1.heap.size := (by have hq := hb1.size; (try simp at hq); omega); have hy1_0 : w.heap.size ≠ w1.heap.size := Nat.ne_of_lt hz1_0; have hk1_0 := hd1 (w.heap.size) (by (try simp); (try omega)); (try simp (disch := first | omega | (simp; omega)) only [blk_setRow_far, blk_alloc_past, blk_setCell_far, blk_drewN, blk_drew] at hk1_0); (try simp (disch := first | assumption | omega | (simp; done) | (simp; omega)) only [blk_setRow_far, blk_alloc_past, blk_alloc_new, blk_alloc_at, blk_setCell_far, blk_drewN, blk_drew] at hk1_0))

    go_ret2

    exact ⟨rfl, by (repeat (first | exact Below.refl _ _ | assumption | refine Below.setCell ?_ (by (try simp); (try omega)) _ | refine Below.alloc ?_ (by (try simp); (try omega)) _ | refine below_setRow ?_ (by (try simp); (try omega)) _ | refine pw_below_drewN ?_ _ | refine Below.drew ?_))⟩
  | ok r =>
    obtain ⟨x, m'⟩ := r
    have hs : measureV ss d wl = (startM wl - m', 0) := by unfold measureV; rw [hr]
    rw [hs, startM_eq]
    have HR := Lib.hid hr
    obtain ⟨hm0, hm1⟩ := runV_ok h.wf hr
    rw [startM_eq] at hm1
    have hm2 : m' ≤ 1000000 := by omega
    clear hs hr h
    go_enter Tryd.func24, Tryd.ntmps24
    go_wp2_with (first | (go_at_call 42; refine (run_any (H.out.alloc _) d wl o hd hwl).mono ?_; rw [HR.out]; rintro e w1 ⟨cs, rfl, hx, hb1⟩; obtain ⟨kk, ee, nn, dd, ll⟩ := x; obtain ⟨A1, dc, A2, kc, rfl, hq⟩ := hx; clear hq; have hB1 := below_step (w := w) (by (repeat (first | exact Below.refl _ _ | assumption | refine Below.setCell ?_ (by (try simp); (try omega)) _ | refine Below.alloc ?_ (by (try simp); (try omega)) _ | refine below_setRow ?_ (by (try simp); (try omega)) _ | refine pw_below_drewN ?_ _ | refine Below.drew ?_))) hb1; obtain ⟨hc1, hf1⟩ := bcell hb1; have hd1 := blk_below hb1; have hs1 := hB1.size; have hz1_0 : w.heap.size < w1.heap.size := (by have hq := hb1.size; (try simp at hq); omega); have hy1_0 : w.heap.size ≠ w1.heap.size := Nat.ne_of_lt hz1_0; have hk1_0 := hd1 (w.heap.size) (by (try simp); (try omega)); (try simp (disch := first | omega | (simp; omega)) only [blk_setRow_far, blk_alloc_past, blk_setCell_far, blk_drewN, blk_drew] at hk1_0); (try simp (disch := first | assumption | omega | (simp; done) | (simp; omega)) only [blk_setRow_far, blk_alloc_past, blk_alloc_new, blk_alloc_at, blk_setCell_far, blk_drewN, blk_drew] at hk1_0)) | (go_at_call 43; refine (Used_any _ _ _ _ _ hwl hm0 hm2).mono ?_; rintro e w2 ⟨rfl, hb2⟩; have hB2 := below_step (w := w) (by (repeat (first | exact Below.refl _ _ | assumption | refine Below.setCell ?_ (by (try simp); (try omega)) _ | refine Below.alloc ?_ (by (try simp); (try omega)) _ | refine below_setRow ?_ (by (try simp); (try omega)) _ | refine pw_below_drewN ?_ _ | refine Below.drew ?_))) hb2; obtain ⟨hc2, hf2⟩ := bcell hb2; have hd2 := blk_below hb2; have hs2 := hB2.size; have hz2_0 : w.heap.size < w2.heap.size := (by have hq := hb2.size; (try simp at hq); omega); have hy2_0 : w.heap.size ≠ w2.heap.size := Nat.ne_of_lt hz2_0; have hk2_0 := hd2 (w.heap.size) (by (try simp); (try omega)); (try simp (disch := first | omega | (simp; omega)) only [blk_setRow_far, blk_alloc_past, blk_setCell_far, blk_drewN, blk_drew] at hk2_0)))
    go_ret2
    exact ⟨rfl, by (repeat (first | exact Below.refl _ _ | assumption | refine Below.setCell ?_ (by (try simp); (try omega)) _ | refine Below.alloc ?_ (by (try simp); (try omega)) _ | refine below_setRow ?_ (by (try simp); (try omega)) _ | refine pw_below_drewN ?_ _ | refine Below.drew ?_))⟩
end Go.Proofs.YtelghkgnkncnoaaDoor
/- Contracts of equal.words, equal.object, equal.Data. -/
set_option linter.unusedVariables false
set_option linter.unusedSimpArgs false
namespace Go.Proofs.YtelghkgnkncnoaaDoor
open Go.RowKit
set_option maxRecDepth 100000 in
theorem words_any {B : Nat} {w : World} {A : Option Addr} {n c : Nat} {ss : List (List Int)} (h : MsgIn B w A n ss) (o : Ob) (k : Int) (hb : inB ss o.seg o.at_ k = true) :
    Calls Tryd.prog 73 #[.slice A n c, vOb o, .int .i64 k] w (SlPost .u64 w (sliceAt ss o.seg o.at_ k) id) := by
  have H := Lib.hid h
  have Hb := Lib.hid hb
  have hs : sliceAt ss o.seg o.at_ k = rangeAt ss o.seg o.at_ k := by unfold sliceAt; rw [if_pos hb]
  rw [hs]
  clear h hb hs
  go_enter Tryd.func73, Tryd.ntmps73
  go_wp2_with (go_at_call 127; refine (Slice_yes (H.out.alloc _).segs H.out.wf (H.out.alloc _).bound _ _ _ Hb.out).mono ?_; rintro e w1 ⟨A1, c1, rfl, hc1, hq1, hb1⟩; have Hq := Lib.hid hq1; clear hq1)
  go_ret
  exact ⟨A1, c1, rfl, hc1, Hq.out, (((Below.refl _ _).alloc (Nat.le_refl _) _)).trans (hb1.mono (by simp))⟩
set_option maxRecDepth 100000 in
theorem object_any' {B : Nat} {w : World} {A : Option Addr} {n c : Nat} {ss : List (List Int)} (h : MsgIn B w A n ss) (o : Ob) (ho : ObIn ss o) (i : Nat) (hi : i ≤ 1000000) :
    Calls Tryd.prog 76 #[.slice A n c, vOb o, .int .i64 i] w (VPost w (vOb (objAt ss o i))) := by
  have H := Lib.hid h
  have hp := pointers_in h.wf ho
  have o2 := ho.data
  have o4 := (inB_of ho.inb).2.2.1
  have o5 := (inB_of ho.inb).2.2.2.2.1
  have o6 := (segLen_bd h.wf o.seg).2
  obtain ⟨P1, hP1⟩ : ∃ p : Int, p = (pointersOf o).1 := ⟨_, rfl⟩
  obtain ⟨N, hN⟩ : ∃ p : Int, p = (pointersOf o).2 := ⟨_, rfl⟩
  rw [← hP1, ← hN] at hp
  have hA : objAt ss o i = if N ≤ (i : Int) then Ob.zero else (object ss o.seg (P1 + (i : Int))).1 := by unfold objAt; rw [hN, hP1]
  rw [hA]
  have HP := Lib.hid hP1
  have HN := Lib.hid hN
  obtain ⟨p0, p1, p2⟩ := hp
  clear h ho hP1 hN hA
  by_cases hle : N ≤ (i : Int)
  · rw [if_pos hle]
    go_enter Tryd.func76, Tryd.ntmps76
    go_wp2_with (go_at_call 128; refine (Pointers_any o _ o2.1 o2.2 o4 (by omega)).mono ?_; rw [← HP.out, ← HN.out]; rintro e w1 ⟨rfl, hb1⟩; have hB1 := below_step (w := w) (by (repeat (first | exact Below.refl _ _ | assumption | refine Below.setCell ?_ (by (try simp); (try omega)) _ | refine Below.alloc ?_ (by (try simp); (try omega)) _ | refine below_setRow ?_ (by (try simp); (try omega)) _ | refine pw_below_drewN ?_ _ | refine Below.drew ?_))) hb1; obtain ⟨hc1, hf1⟩ := bcell hb1; have hd1 := blk_below hb1; have hs1 := hB1.size; have hz1_0 : w.heap.size < w1.heap.size := (by have hq := hb1.size; (try simp at hq); omega); have hy1_0 : w.heap.size ≠ w1.heap.size := Nat.ne_of_lt hz1_0; have hk1_0 := hd1 (w.heap.size) (by (try simp); (try omega)); (try simp (disch := first | omega | (simp; omega)) only [blk_setRow_far, blk_alloc_past, blk_setCell_far, blk_drewN, blk_drew] at hk1_0); have hz1_1 : w.heap.size + 1 < w1.heap.size := (by have hq := hb1.size; (try simp at hq); omega); have hy1_1 : w.heap.size + 1 ≠ w1.heap.size := Nat.ne_of_lt hz1_1; have hk1_1 := hd1 (w.heap.size + 1) (by (try simp); (try omega)); (try simp (disch := first | omega | (simp; omega)) only [blk_setRow_far, blk_alloc_past, blk_setCell_far, blk_drewN, blk_drew] at hk1_1))
    refine bodyPost_ret (v := vOb Ob.zero) ((results_blk _ st_Object rfl _ ((w.heap.size + 1) ) rfl (by simp [go_sem, Ob.zero, hk1_1, hk1_0]) (by simp [go_sem, Ob.zero, hk1_1, hk1_0])).trans (by simp [go_sem, Ob.zero, hk1_1, hk1_0]; try omega)) rfl ⟨rfl, ?_⟩
    (repeat (first | exact Below.refl _ _ | assumption | refine Below.setCell ?_ (by (try simp); (try omega)) _ | refine Below.alloc ?_ (by (try simp); (try omega)) _ | refine below_setRow ?_ (by (try simp); (try omega)) _ | refine pw_below_drewN ?_ _ | refine Below.drew ?_))
  · rw [if_neg hle]
    obtain ⟨X, hX⟩ : ∃ X, X = object ss o.seg (P1 + (i : Int)) := ⟨_, rfl⟩
    have HX := Lib.hid hX
    rw [← hX]
    obtain ⟨x, xe⟩ := X
    clear hX
    go_enter Tryd.func76, Tryd.ntmps76
    go_wp2_with (first | (go_at_call 128; refine (Pointers_any o _ o2.1 o2.2 o4 (by omega)).mono ?_; rw [← HP.out, ← HN.out]; rintro e w1 ⟨rfl, hb1⟩; have hB1 := below_step (w := w) (by (repeat (first | exact Below.refl _ _ | assumption | refine Below.setCell ?_ (by (try simp); (try omega)) _ | refine Below.alloc ?_ (by (try simp); (try omega)) _ | refine below_setRow ?_ (by (try simp); (try omega)) _ | refine pw_below_drewN ?_ _ | refine Below.drew ?_))) hb1; obtain ⟨hc1, hf1⟩ := bcell hb1; have hd1 := blk_below hb1; have hs1 := hB1.size; have hz1_0 : w.heap.size < w1.heap.size := (by have hq := hb1.size; (try simp at hq); omega); have hy1_0 : w.heap.size ≠ w1.heap.size := Nat.ne_of_lt hz1_0; have hk1_0 := hd1 (w.heap.size) (by (try simp); (try omega)); (try simp (disch := first | omega | (simp; omega)) only [blk_setRow_far, blk_alloc_past, blk_setCell_far, blk_drewN, blk_drew] at hk1_0); have hz1_1 : w.heap.size + 1 < w1.heap.size := (by have hq := hb1.size; (try simp at hq); omega); have hy1_1 : w.heap.size + 1 ≠ w1.heap.size := Nat.ne_of_lt hz1_1; have hk1_1 := hd1 (w.heap.size + 1) (by (try simp); (try omega)); (try simp (disch := first | omega | (simp; omega)) only [blk_setRow_far, blk_alloc_past, blk_setCell_far, blk_drewN, blk_drew] at hk1_1); (try simp (disch := first | assumption | omega | (simp; done) | (simp; omega)) only [blk_setRow_far, blk_alloc_past, blk_alloc_new, blk_alloc_at, blk_setCell_far, blk_drewN, blk_drew] at hk1_0); (try simp (disch := first | assumption | omega | (simp; done) | (simp; omega)) only [blk_setRow_far, blk_alloc_past, blk_alloc_new, blk_alloc_at, blk_setCell_far, blk_drewN, blk_drew] at hk1_1)) | (go_at_call 48; refine (Object_any ((H.out.below (by (repeat (first | exact Below.refl _ _ | assumption | refine Below.setCell ?_ (by (try simp); (try omega)) _ | refine Below.alloc ?_ (by (try simp); (try omega)) _ | refine below_setRow ?_ (by (try simp); (try omega)) _ | refine pw_below_drewN ?_ _ | refine Below.drew ?_)))).env) ((H.out.below (by (repeat (first | exact Below.refl _ _ | assumption | refine Below.setCell ?_ (by (try simp); (try omega)) _ | refine Below.alloc ?_ (by (try simp); (try omega)) _ | refine below_setRow ?_ (by (try simp); (try omega)) _ | refine pw_below_drewN ?_ _ | refine Below.drew ?_)))).bound) ((H.out.below (by (repeat (first | exact Below.refl _ _ | assumption | refine Below.setCell ?_ (by (try simp); (try omega)) _ | refine Below.alloc ?_ (by (try simp); (try omega)) _ | refine below_setRow ?_ (by (try simp); (try omega)) _ | refine pw_below_drewN ?_ _ | refine Below.drew ?_)))).segs) H.out.wf _ _).mono ?_; rw [← HX.out]; rintro e w2 ⟨rfl, hb2⟩; have hB2 := below_step (w := w) (by (repeat (first | exact Below.refl _ _ | assumption | refine Below.setCell ?_ (by (try simp); (try omega)) _ | refine Below.alloc ?_ (by (try simp); (try omega)) _ | refine below_setRow ?_ (by (try simp); (try omega)) _ | refine pw_below_drewN ?_ _ | refine Below.drew ?_))) hb2; obtain ⟨hc2, hf2⟩ := bcell hb2; have hd2 := blk_below hb2; have hs2 := hB2.size; have hz2_0 : w.heap.size < w2.heap.size := (by have hq := hb2.size; (try simp at hq); omega); have hy2_0 : w.heap.size ≠ w2.heap.size := Nat.ne_of_lt hz2_0; have hk2_0 := hd2 (w.heap.size) (by (try simp); (try omega)); (try simp (disch := first | omega | (simp; omega)) only [blk_setRow_far, blk_alloc_past, blk_setCell_far, blk_drewN, blk_drew] at hk2_0); have hz2_1 : w.heap.size + 1 < w2.heap.size := (by have hq := hb2.size; (try simp at hq); omega); have hy2_1 : w.heap.size + 1 ≠ w2.heap.size := Nat.ne_of_lt hz2_1; have hk2_1 := hd2 (w.heap.size + 1) (by (try simp); (try omega)); (try simp (disch := first | omega | (simp; omega)) only [blk_setRow_far, blk_alloc_past, blk_setCell_far, blk_drewN, blk_drew] at hk2_1); (try simp (disch := first | assumption | omega | (simp; done) | (simp; omega)) only [blk_setRow_far, blk_alloc_past, blk_alloc_new, blk_alloc_at, blk_setCell_far, blk_drewN, blk_drew] at hk2_0); (try rw [hk1_0] at hk2_0); (try simp (disch := first | assumption | omega | (simp; done) | (simp; omega)) only [blk_setRow_far, blk_alloc_past, blk_alloc_new, blk_alloc_at, blk_setCell_far, blk_drewN, blk_drew] at hk2_1); (try rw [hk1_1] at hk2_1)))
    refine bodyPost_ret (v := vOb x) ((results_blk _ st_Object rfl _ ((w.heap.size + 1) ) rfl (by simp [go_sem, hk2_1, hk2_0, hk1_1, hk1_0, hz2_1, hy2_1]) (by simp [go_sem, hk2_1, hk2_0, hk1_1, hk1_0, hz2_1, hy2_1])).trans (by simp [go_sem, hk2_1, hk2_0, hk1_1, hk1_0, hz2_1, hy2_1]; try omega)) rfl ⟨rfl, ?_⟩
    (repeat (first | exact Below.refl _ _ | assumption | refine Below.setCell ?_ (by (try simp); (try omega)) _ | refine Below.alloc ?_ (by (try simp); (try omega)) _ | refine below_setRow ?_ (by (try simp); (try omega)) _ | refine pw_below_drewN ?_ _ | refine Below.drew ?_))
set_option maxRecDepth 100000 in
set_option maxHeartbeats 1000000 in
theorem Data_long {B : Nat} {w : World} {A A' : Option Addr} {n m c c' : Nat} {a b : List Int} (ha : RW .u64 B w A n a) (hb : RW .u64 B w A' m b) (hn : n ≤ 1000000) (hmn : ¬ n < m) :
    Calls Tryd.prog 14 #[.slice A n c, .slice A' m c'] w fun e w' => e = .returned (.bool (dataEq a b)) ∧ w = w' := by
  have la := ha.1
  have lb := hb.1
  have HA := Lib.hid ha
  have HB := Lib.hid hb
  obtain ⟨D, hD⟩ : ∃ D, D = dataEq a b := ⟨_, rfl⟩
  have HD := Lib.hid hD
  rw [← hD]
  clear ha hb hD
  go_enter Tryd.func14, Tryd.ntmps14
  go_wp2
  go_loop [16] (fun i => ∃ k : Nat, k ≤ n ∧ i = .int .i64 k ∧ ∀ j, j < k → a.getD j 0 = b.getD j 0) (fun i => n - (intOf i).toNat)
  case atStart => exact ⟨0, Nat.zero_le _, rfl, fun j hj => by omega⟩
  case round =>
    obtain ⟨k, hk, rfl, hag⟩ := hrel
    have HG := Lib.hid hag
    clear hag
    by_cases hlt : k < n
    · obtain ⟨ba, oa, e1, hba, ca⟩ := HA.out.at_ (k : Int) (by omega) (by omega)
      subst e1
      simp only [Int.toNat_natCast] at ca
      obtain ⟨x, hx⟩ : ∃ x, x = a.getD k 0 := ⟨_, rfl⟩
      rw [← hx] at ca
      have HX := Lib.hid hx
      clear hx
      by_cases hm : k < m
      · obtain ⟨bb, ob, e2, hbb, cb⟩ := HB.out.at_ (k : Int) (by omega) (by omega)
        subst e2
        simp only [Int.toNat_natCast] at cb
        obtain ⟨y, hy⟩ : ∃ y, y = b.getD k 0 := ⟨_, rfl⟩
        rw [← hy] at cb
        have HY := Lib.hid hy
        clear hy
        by_cases hxy : y = x
        · subst hxy
          have hne : (y != y) = false := by simp
          go_wp2
          go_round
          case rel => exact ⟨k + 1, by omega, by go_num, fun j hj => by
            by_cases hjk : j < k
            · exact HG.out j hjk
            · obtain rfl : j = k := by omega
              rw [← HX.out, ← HY.out]⟩
          case measure => simp [intOf]; omega
        · have hne : (y != x) = true := by simpa using hxy
          have HF : Hid (D = false) := by
            show D = false
            rw [HD.out, Bool.eq_false_iff, ne_eq, dataEq_iff]
            intro h
            have := h k
            rw [← HX.out, ← HY.out] at this
            exact hxy this.symm
          go_wp2
          go_ret
          exact ⟨by rw [HF.out]; rfl, rfl⟩
      · by_cases hx0 : x = 0
        · subst hx0
          have hne : ((0 : Int) != 0) = false := by decide
          go_wp2
          go_round
          case rel => exact ⟨k + 1, by omega, by go_num, fun j hj => by
            by_cases hjk : j < k
            · exact HG.out j hjk
            · obtain rfl : j = k := by omega
              rw [← HX.out, List.getD_eq_getElem?_getD, List.getElem?_eq_none (by omega)]; rfl⟩
          case measure => simp [intOf]; omega
        · have hne : (x != 0) = true := by simpa using hx0
          have HF : Hid (D = false) := by
            show D = false
            rw [HD.out, Bool.eq_false_iff, ne_eq, dataEq_iff]
            intro h
            have := h k
            rw [← HX.out, List.getD_eq_getElem?_getD, List.getElem?_eq_none (by omega)] at this
            exact hx0 this
          go_wp2
          go_ret
          exact ⟨by rw [HF.out]; rfl, rfl⟩
    · obtain rfl : k = n := by omega
      have HF : Hid (D = true) := by
        show D = true
        rw [HD.out, dataEq_iff]
        intro i
        rcases Nat.lt_or_ge i k with h | h
        · exact HG.out i h
        · rw [List.getD_eq_getElem?_getD, List.getD_eq_getElem?_getD, List.getElem?_eq_none (by omega), List.getElem?_eq_none (by omega)]
      go_wp2
      go_ret
      exact ⟨by rw [HF.out]; rfl, rfl⟩
set_option maxRecDepth 100000 in
set_option maxHeartbeats 1000000 in
theorem Data_short {B : Nat} {w : World} {A A' : Option Addr} {n m c c' : Nat} {a b : List Int} (ha : RW .u64 B w A n a) (hb : RW .u64 B w A' m b) (hn : n ≤ 1000000) (hmn : m < n) :
    Calls Tryd.prog 14 #[.slice A' m c', .slice A n c] w fun e w' => e = .returned (.bool (dataEq a b)) ∧ w = w' := by
  have la := ha.1
  have lb := hb.1
  have HA := Lib.hid ha
  have HB := Lib.hid hb
  obtain ⟨D, hD⟩ : ∃ D, D = dataEq a b := ⟨_, rfl⟩
  have HD := Lib.hid hD
  rw [← hD]
  clear ha hb hD
  go_enter Tryd.func14, Tryd.ntmps14
  go_wp2
  go_loop [16] (fun i => ∃ k : Nat, k ≤ n ∧ i = .int .i64 k ∧ ∀ j, j < k → a.getD j 0 = b.getD j 0) (fun i => n - (intOf i).toNat)
  case atStart => exact ⟨0, Nat.zero_le _, rfl, fun j hj => by omega⟩
  case round =>
    obtain ⟨k, hk, rfl, hag⟩ := hrel
    have HG := Lib.hid hag
    clear hag
    by_cases hlt : k < n
    · obtain ⟨ba, oa, e1, hba, ca⟩ := HA.out.at_ (k : Int) (by omega) (by omega)
      subst e1
      simp only [Int.toNat_natCast] at ca
      obtain ⟨x, hx⟩ : ∃ x, x = a.getD k 0 := ⟨_, rfl⟩
      rw [← hx] at ca
      have HX := Lib.hid hx
      clear hx
      by_cases hm : k < m
      · obtain ⟨bb, ob, e2, hbb, cb⟩ := HB.out.at_ (k : Int) (by omega) (by omega)
        subst e2
        simp only [Int.toNat_natCast] at cb
        obtain ⟨y, hy⟩ : ∃ y, y = b.getD k 0 := ⟨_, rfl⟩
        rw [← hy] at cb
        have HY := Lib.hid hy
        clear hy
        by_cases hxy : y = x
        · subst hxy
          have hne : (y != y) = false := by simp
          go_wp2
          go_round
          case rel => exact ⟨k + 1, by omega, by go_num, fun j hj => by
            by_cases hjk : j < k
            · exact HG.out j hjk
            · obtain rfl : j = k := by omega
              rw [← HX.out, ← HY.out]⟩
          case measure => simp [intOf]; omega
        · have hne : (y != x) = true := by simpa using hxy
          have HF : Hid (D = false) := by
            show D = false
            rw [HD.out, Bool.eq_false_iff, ne_eq, dataEq_iff]
            intro h
            have := h k
            rw [← HX.out, ← HY.out] at this
            exact hxy this.symm
          go_wp2
          go_ret
          exact ⟨by rw [HF.out]; rfl, rfl⟩
      · by_cases hx0 : x = 0
        · subst hx0
          have hne : ((0 : Int) != 0) = false := by decide
          go_wp2
          go_round
          case rel => exact ⟨k + 1, by omega, by go_num, fun j hj => by
            by_cases hjk : j < k
            · exact HG.out j hjk
            · obtain rfl : j = k := by omega
              rw [← HX.out, List.getD_eq_getElem?_getD, List.getElem?_eq_none (by omega)]; rfl⟩
          case measure => simp [intOf]; omega
        · have hne : (x != 0) = true := by simpa using hx0
          have HF : Hid (D = false) := by
            show D = false
            rw [HD.out, Bool.eq_false_iff, ne_eq, dataEq_iff]
            intro h
            have := h k
            rw [← HX.out, List.getD_eq_getElem?_getD, List.getElem?_eq_none (by omega)] at this
            exact hx0 this
          go_wp2
          go_ret
          exact ⟨by rw [HF.out]; rfl, rfl⟩
    · obtain rfl : k = n := by omega
      have HF : Hid (D = true) := by
        show D = true
        rw [HD.out, dataEq_iff]
        intro i
        rcases Nat.lt_or_ge i k with h | h
        · exact HG.out i h
        · rw [List.getD_eq_getElem?_getD, List.getD_eq_getElem?_getD, List.getElem?_eq_none (by omega), List.getElem?_eq_none (by omega)]
      go_wp2
      go_ret
      exact ⟨by rw [HF.out]; rfl, rfl⟩
theorem Data_any {B : Nat} {w : World} {A A' : Option Addr} {n m c c' : Nat} {a b : List Int} (ha : RW .u64 B w A n a) (hb : RW .u64 B w A' m b) (hn : n ≤ 1000000) (hm : m ≤ 1000000) :
    Calls Tryd.prog 14 #[.slice A n c, .slice A' m c'] w (VPost w (.bool (dataEq a b))) := by
  by_cases h : n < m
  · rw [dataEq_comm]
    exact (Data_short hb ha hm h).mono fun e w' ⟨he, hw⟩ => ⟨he, hw ▸ Below.refl _ _⟩
  · exact (Data_long ha hb hn h).mono fun e w' ⟨he, hw⟩ => ⟨he, hw ▸ Below.refl _ _⟩
end Go.Proofs.YtelghkgnkncnoaaDoor
/- Contract of bytes.Equal. -/
set_option linter.unusedVariables false
set_option linter.unusedSimpArgs false
namespace Go.Proofs.YtelghkgnkncnoaaDoor
open Go.RowKit
theorem conv_any {B : Nat} {w : World} {A : Option Addr} {n c : Nat} {l : List Int} (h : RW .u8 B w A n l) : (convert 39 9 (.slice A n c)).run Tryd.prog w = .ok (.string (strOfNums l)) w := by
  have hlen := h.1
  rcases Nat.eq_zero_or_pos n with h0 | h0
  · subst h0
    have hl : l = [] := List.eq_nil_of_length_eq_zero hlen
    subst hl
    cases A with
    | none => exact run_convert_bytes_nil w 39 5 Tryd.underlying39 Tryd.underlying5 0 c 9 Tryd.underlying9
    | some a =>
      rw [run_convert_bytes_string w 39 9 5 (some a) 0 c Tryd.underlying39 Tryd.underlying5 Tryd.underlying9]
      rw [run_bytesToString w a 0 c [] (by simp [loadCells, loadCellsFrom])]
      rfl
  · obtain ⟨b, o, rfl, hb, hc⟩ := h.2 h0
    exact run_convert_bytes_arg w 39 5 Tryd.underlying39 Tryd.underlying5 b o n c l hlen hc 9 Tryd.underlying9
theorem strOfNums_inj {a b : List Int} (ha : ∀ x ∈ a, U8 x) (hb : ∀ x ∈ b, U8 x) : (strOfNums a).toList = (strOfNums b).toList ↔ a = b := by
  rw [ByteArray.toList_eq, ByteArray.toList_eq]
  constructor
  · intro h
    have h1 := h
    rw [strOfNums_data, strOfNums_data] at h1
    have hinv : ∀ l : List Int, (∀ x ∈ l, U8 x) → (l.map fun n => UInt8.ofNat n.toNat).map (fun u : UInt8 => (u.toNat : Int)) = l := by
      intro l hl
      rw [List.map_map]
      conv => rhs; rw [← List.map_id l]
      apply List.map_congr_left
      intro x hx
      obtain ⟨h0, h1⟩ := hl x hx
      simp
      omega
    rw [← hinv a ha, ← hinv b hb, h1]
  · rintro rfl; rfl
theorem bytesEqual_any {B : Nat} {w : World} {A A' : Option Addr} {n m c c' : Nat} {a b : List Int} (ha : RW .u8 B w A n a) (hb : RW .u8 B w A' m b) (ua : ∀ x ∈ a, U8 x) (ub : ∀ x ∈ b, U8 x) :
    Calls Tryd.prog 74 #[.slice A n c, .slice A' m c'] w (VPost w (.bool (decide (a = b)))) := by
  have h1 := conv_any (c := c) ha
  have h2 := conv_any (c := c') hb
  have HD : Hid (decide (a = b) = ((strOfNums a).toList == (strOfNums b).toList)) := by
    show _ = _
    rw [Bool.eq_iff_iff, decide_eq_true_iff, beq_iff_eq, strOfNums_inj ua ub]
  rw [HD.out]
  generalize strOfNums a = s at *
  generalize strOfNums b = t at *
  clear ha hb ua ub
  go_enter Tryd.func74, Tryd.ntmps74
  go_wp2
  go_ret
  exact ⟨rfl, Below.refl _ _⟩
end Go.Proofs.YtelghkgnkncnoaaDoor
