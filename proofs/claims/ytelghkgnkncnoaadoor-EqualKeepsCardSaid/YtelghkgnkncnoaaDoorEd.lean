/- A part of the proof: the texts W35 W36 joined. -/
import Derived.Test.YtelghkgnkncnoaaDoorEc
import Derived.Test.YtelghkgnkncnoaaDoorPb
/- Contract of the laws' awake. -/
set_option linter.unusedVariables false
set_option linter.unusedSimpArgs false
namespace Go.Proofs.YtelghkgnkncnoaaDoor
open Go.RowKit
def wfB (ss : List (List Int)) : Bool := decide (ss.length ≤ 1000000) && ss.all fun s => decide (s.length ≤ 1000000) && s.all fun x => decide (0 ≤ x) && decide (x < 18446744073709551616)
theorem wf_of {ss : List (List Int)} (h : wfB ss = true) : WFS ss := by
  unfold wfB at h
  simp only [Bool.and_eq_true, decide_eq_true_eq, List.all_eq_true] at h
  exact ⟨h.1, fun s hs => (h.2 s hs).1, fun s hs x hx => (h.2 s hs).2 x hx⟩
theorem rw_blk {k : IntKind} {W : World} {g : Nat} {T : TypeId} {fr : Nat × Nat} {l : List Int} {cs : Array Value} (h : blk W g = some (.cells cs T fr)) (hc : cs = (uns k l).toArray) (n : Nat) (hn : l.length = n) : RW k W.heap.size W (some ⟨g, 0, none⟩) n l := by
  subst hc
  unfold blk at h
  exact RW.of_block h (Array.getElem?_eq_some_iff.1 h).1 n hn
theorem msg_lit1 {B : Nat} {W : World} {g h k c : Nat} {T1 T2 : TypeId} {l : List Int} {cs : Array Value} (hg : blk W g = some (.cells cs T1 (0, 0))) (hh : blk W h = some (.cells #[.slice (some ⟨g, 0, none⟩) k c] T2 (0, 0))) (hcs : cs = (uns .u64 l).toArray) (hk : l.length = k) (hc : k ≤ c) (hE : Env B W) (hB : B ≤ W.heap.size) (wf : wfB [l] = true) :
    MsgIn W.heap.size W (some ⟨h, 0, none⟩) 1 [l] := by
  refine ⟨hE.mono (Below.refl _ _) hB, ⟨rfl, fun _ => ⟨h, 0, rfl, ?_, fun j hj => ?_⟩⟩, wf_of wf, Nat.le_refl _⟩
  · unfold blk at hh; exact (Array.getElem?_eq_some_iff.1 hh).1
  · obtain rfl : j = 0 := by omega
    refine ⟨some ⟨g, 0, none⟩, c, ?_, by simpa [hk] using hc, ?_⟩
    · rw [cell_of_blk _ _ _ (by rw [hh]; rfl), hh]; subst hk; rfl
    · exact rw_blk hg hcs _ rfl
theorem msg_lit2 {B : Nat} {W : World} {g g' h k c k' c' : Nat} {T1 T1' T2 : TypeId} {l l' : List Int} {cs cs' : Array Value} (hg : blk W g = some (.cells cs T1 (0, 0))) (hg' : blk W g' = some (.cells cs' T1' (0, 0))) (hh : blk W h = some (.cells #[.slice (some ⟨g, 0, none⟩) k c, .slice (some ⟨g', 0, none⟩) k' c'] T2 (0, 0))) (hcs : cs = (uns .u64 l).toArray) (hcs' : cs' = (uns .u64 l').toArray) (hk : l.length = k) (hk' : l'.length = k') (hc : k ≤ c) (hc' : k' ≤ c') (hE : Env B W) (hB : B ≤ W.heap.size) (wf : wfB [l, l'] = true) :
    MsgIn W.heap.size W (some ⟨h, 0, none⟩) 2 [l, l'] := by
  refine ⟨hE.mono (Below.refl _ _) hB, ⟨rfl, fun _ => ⟨h, 0, rfl, ?_, fun j hj => ?_⟩⟩, wf_of wf, Nat.le_refl _⟩
  · unfold blk at hh; exact (Array.getElem?_eq_some_iff.1 hh).1
  · have hjj : j = 0 ∨ j = 1 := by omega
    rcases hjj with rfl | rfl
    · refine ⟨some ⟨g, 0, none⟩, c, ?_, by simpa [hk] using hc, ?_⟩
      · rw [cell_of_blk _ _ _ (by rw [hh]; rfl), hh]; subst hk; rfl
      · exact rw_blk hg hcs _ rfl
    · refine ⟨some ⟨g', 0, none⟩, c', ?_, by simpa [hk'] using hc', ?_⟩
      · rw [cell_of_blk _ _ _ (by rw [hh]; rfl), hh]; subst hk'; rfl
      · exact rw_blk hg' hcs' _ rfl
set_option maxRecDepth 100000 in
set_option maxHeartbeats 4000000 in
theorem awake_any {B : Nat} {w : World} (hE : Env B w) (hB : B ≤ w.heap.size) : Calls Tryd.prog 9 #[] w (VPost w (.bool true)) := by
  have HE := Lib.hid hE
  clear hE
  go_enter Tryd.func9, Tryd.ntmps9
  go_wp2_with fail
  refine (Messages_any (msg_lit1 (B := B) (T1 := 36) (T2 := 31) (g := w.heap.size + 1) (h := w.heap.size + 1 + 1) (l := [4294967292]) (cs := #[.int .u64 4294967292]) (by simp (disch := first | assumption | omega | (simp; done) | (simp; omega) | (simp [World.setRow]; done) | (simp [World.setRow]; omega)) only [blk_alloc_past, blk_alloc_new, blk_alloc_at, blk_setRow_far, blk_setRow_at, reRow, blk_drew]; first | done | rfl) (by simp (disch := first | assumption | omega | (simp; done) | (simp; omega) | (simp [World.setRow]; done) | (simp [World.setRow]; omega)) only [blk_alloc_past, blk_alloc_new, blk_alloc_at, blk_setRow_far, blk_setRow_at, reRow, blk_drew]; first | done | rfl) rfl rfl (Nat.le_refl _) (HE.out.mono (Below.mono (B := w.heap.size) (by (repeat (first | exact Below.refl _ _ | assumption | refine Below.setCell ?_ (by (try simp); (try omega)) _ | refine Below.alloc ?_ (by (try simp); (try omega)) _ | refine below_setRow ?_ (by (try simp); (try omega)) _ | refine pw_below_drewN ?_ _ | refine Below.drew ?_))) hB) (Nat.le_refl _)) (by simp [World.setRow]; omega) (by decide)) (msg_lit1 (B := B) (T1 := 36) (T2 := 31) (g := w.heap.size + 1 + 1 + 1) (h := w.heap.size + 1 + 1 + 1 + 1) (l := [4294967296, 0]) (cs := #[.int .u64 4294967296, .int .u64 0]) (by simp (disch := first | assumption | omega | (simp; done) | (simp; omega) | (simp [World.setRow]; done) | (simp [World.setRow]; omega)) only [blk_alloc_past, blk_alloc_new, blk_alloc_at, blk_setRow_far, blk_setRow_at, reRow, blk_drew]; first | done | rfl) (by simp (disch := first | assumption | omega | (simp; done) | (simp; omega) | (simp [World.setRow]; done) | (simp [World.setRow]; omega)) only [blk_alloc_past, blk_alloc_new, blk_alloc_at, blk_setRow_far, blk_setRow_at, reRow, blk_drew]; first | done | rfl) rfl rfl (Nat.le_refl _) (HE.out.mono (Below.mono (B := w.heap.size) (by (repeat (first | exact Below.refl _ _ | assumption | refine Below.setCell ?_ (by (try simp); (try omega)) _ | refine Below.alloc ?_ (by (try simp); (try omega)) _ | refine below_setRow ?_ (by (try simp); (try omega)) _ | refine pw_below_drewN ?_ _ | refine Below.drew ?_))) hB) (Nat.le_refl _)) (by simp [World.setRow]; omega) (by decide)) 5 50 0 (by omega) (by omega)).mono ?_
  rw [ex1]
  rintro e w1 ⟨rfl, hb1⟩
  have hB1 := below_step (w := w) (by (repeat (first | exact Below.refl _ _ | assumption | refine Below.setCell ?_ (by (try simp); (try omega)) _ | refine Below.alloc ?_ (by (try simp); (try omega)) _ | refine below_setRow ?_ (by (try simp); (try omega)) _ | refine pw_below_drewN ?_ _ | refine Below.drew ?_))) hb1
  have hd1 := blk_below hb1
  have hs1 := hb1.size
  simp [World.setRow] at hs1
  have hk1_0 : blk w1 (w.heap.size) = some (.cells #[.int .i64 5, .int .i64 50, .int .i64 0] 24 (0, 0)) := (hd1 _ (by simp [World.setRow]; try omega)).trans (by simp (disch := first | assumption | omega | (simp; done) | (simp; omega) | (simp [World.setRow]; done) | (simp [World.setRow]; omega)) only [blk_alloc_past, blk_alloc_new, blk_alloc_at, blk_setRow_far, blk_setRow_at, reRow, blk_drew]; first | done | rfl)
  have hk1_1 : blk w1 (w.heap.size + 1) = some (.cells #[.int .u64 4294967292] 36 (0, 0)) := (hd1 _ (by simp [World.setRow]; try omega)).trans (by simp (disch := first | assumption | omega | (simp; done) | (simp; omega) | (simp [World.setRow]; done) | (simp [World.setRow]; omega)) only [blk_alloc_past, blk_alloc_new, blk_alloc_at, blk_setRow_far, blk_setRow_at, reRow, blk_drew]; first | done | rfl)
  have hk1_2 : blk w1 (w.heap.size + 1 + 1) = some (.cells #[.slice (some ⟨w.heap.size + 1, 0, none⟩) 1 1] 31 (0, 0)) := (hd1 _ (by simp [World.setRow]; try omega)).trans (by simp (disch := first | assumption | omega | (simp; done) | (simp; omega) | (simp [World.setRow]; done) | (simp [World.setRow]; omega)) only [blk_alloc_past, blk_alloc_new, blk_alloc_at, blk_setRow_far, blk_setRow_at, reRow, blk_drew]; first | done | rfl)
  have hk1_5 : blk w1 (w.heap.size + 1 + 1 + 1 + 1 + 1) = some (.cells #[.int .u64 0] 36 (0, 0)) := (hd1 _ (by simp [World.setRow]; try omega)).trans (by simp (disch := first | assumption | omega | (simp; done) | (simp; omega) | (simp [World.setRow]; done) | (simp [World.setRow]; omega)) only [blk_alloc_past, blk_alloc_new, blk_alloc_at, blk_setRow_far, blk_setRow_at, reRow, blk_drew]; first | done | rfl)
  have hk1_6 : blk w1 (w.heap.size + 1 + 1 + 1 + 1 + 1 + 1) = some (.cells #[.slice (some ⟨w.heap.size + 1 + 1 + 1 + 1 + 1, 0, none⟩) 1 1] 31 (0, 0)) := (hd1 _ (by simp [World.setRow]; try omega)).trans (by simp (disch := first | assumption | omega | (simp; done) | (simp; omega) | (simp [World.setRow]; done) | (simp [World.setRow]; omega)) only [blk_alloc_past, blk_alloc_new, blk_alloc_at, blk_setRow_far, blk_setRow_at, reRow, blk_drew]; first | done | rfl)
  clear hd1 hb1
  go_wp2_with fail
  refine (Messages_any (msg_lit1 (B := B) (T1 := 36) (T2 := 31) (g := w.heap.size + 1) (h := w.heap.size + 1 + 1) (l := [4294967292]) hk1_1 hk1_2 rfl rfl (Nat.le_refl _) (HE.out.mono (hB1.mono hB) (Nat.le_refl _)) (by have := hB1.size; omega) (by decide)) (msg_lit1 (B := B) (T1 := 36) (T2 := 31) (g := w.heap.size + 1 + 1 + 1 + 1 + 1) (h := w.heap.size + 1 + 1 + 1 + 1 + 1 + 1) (l := [0]) hk1_5 hk1_6 rfl rfl (Nat.le_refl _) (HE.out.mono (hB1.mono hB) (Nat.le_refl _)) (by have := hB1.size; omega) (by decide)) 5 50 0 (by omega) (by omega)).mono ?_
  rw [ex2]
  rintro e w2 ⟨rfl, hb2⟩
  have hB2 := below_then hB1 hB1.size hb2
  have hd2 := blk_below hb2
  have hs2 := hb2.size
  have hk2_0 : blk w2 (w.heap.size) = some (.cells #[.int .i64 5, .int .i64 50, .int .i64 0] 24 (0, 0)) := (hd2 _ (by omega)).trans hk1_0
  have hk2_5 : blk w2 (w.heap.size + 1 + 1 + 1 + 1 + 1) = some (.cells #[.int .u64 0] 36 (0, 0)) := (hd2 _ (by omega)).trans hk1_5
  have hk2_6 : blk w2 (w.heap.size + 1 + 1 + 1 + 1 + 1 + 1) = some (.cells #[.slice (some ⟨w.heap.size + 1 + 1 + 1 + 1 + 1, 0, none⟩) 1 1] 31 (0, 0)) := (hd2 _ (by omega)).trans hk1_6
  clear hd2 hb2 hk1_0 hk1_1 hk1_2 hk1_5 hk1_6
  have hlt2 : w.heap.size + 1 + 1 + 1 + 1 + 1 + 1 < w2.heap.size := by omega
  have hlt20 : w.heap.size < w2.heap.size := by omega
  go_wp2_with fail
  refine (Messages_any (msg_lit1 (B := B) (T1 := 36) (T2 := 31) (g := w.heap.size + 1 + 1 + 1 + 1 + 1) (h := w.heap.size + 1 + 1 + 1 + 1 + 1 + 1) (l := [0]) (cs := #[.int .u64 0]) ((blk_alloc_past _ _ _ (by (try simp); omega)).trans ((blk_alloc_past _ _ _ (by omega)).trans hk2_5)) ((blk_alloc_past _ _ _ (by (try simp); omega)).trans ((blk_alloc_past _ _ _ (by omega)).trans hk2_6)) rfl rfl (Nat.le_refl _) (HE.out.mono (Below.mono (B := w.heap.size) (by (repeat (first | exact Below.refl _ _ | assumption | refine Below.setCell ?_ (by (try simp); (try omega)) _ | refine Below.alloc ?_ (by (try simp); (try omega)) _ | refine below_setRow ?_ (by (try simp); (try omega)) _ | refine pw_below_drewN ?_ _ | refine Below.drew ?_))) hB) (Nat.le_refl _)) (by (try simp); have hq := hB2.size; omega) (by decide)) (msg_lit1 (B := B) (T1 := 36) (T2 := 31) (g := w2.heap.size) (h := w2.heap.size + 1) (l := [3]) (cs := #[.int .u64 3]) (by simp (disch := first | assumption | omega | (simp; done) | (simp; omega) | (simp [World.setRow]; done) | (simp [World.setRow]; omega)) only [blk_alloc_past, blk_alloc_new, blk_alloc_at, blk_setRow_far, blk_setRow_at, reRow, blk_drew]; first | done | rfl) (by simp (disch := first | assumption | omega | (simp; done) | (simp; omega) | (simp [World.setRow]; done) | (simp [World.setRow]; omega)) only [blk_alloc_past, blk_alloc_new, blk_alloc_at, blk_setRow_far, blk_setRow_at, reRow, blk_drew]; first | done | rfl) rfl rfl (Nat.le_refl _) (HE.out.mono (Below.mono (B := w.heap.size) (by (repeat (first | exact Below.refl _ _ | assumption | refine Below.setCell ?_ (by (try simp); (try omega)) _ | refine Below.alloc ?_ (by (try simp); (try omega)) _ | refine below_setRow ?_ (by (try simp); (try omega)) _ | refine pw_below_drewN ?_ _ | refine Below.drew ?_))) hB) (Nat.le_refl _)) (by (try simp); have hq := hB2.size; omega) (by decide)) 5 50 0 (by omega) (by omega)).mono ?_
  rw [ex3]
  rintro e w3 ⟨rfl, hb3⟩
  have hB3 := below_step (w := w) (by (repeat (first | exact Below.refl _ _ | assumption | refine Below.setCell ?_ (by (try simp); (try omega)) _ | refine Below.alloc ?_ (by (try simp); (try omega)) _ | refine below_setRow ?_ (by (try simp); (try omega)) _ | refine pw_below_drewN ?_ _ | refine Below.drew ?_))) hb3
  have hk3_0 : blk w3 (w.heap.size) = some (.cells #[.int .i64 5, .int .i64 50, .int .i64 0] 24 (0, 0)) := ((blk_below hb3) _ (by (try simp); omega)).trans ((blk_alloc_past _ _ _ (by (try simp); omega)).trans ((blk_alloc_past _ _ _ (by omega)).trans hk2_0))
  have hlt3 : w.heap.size < w3.heap.size := by have hq := hb3.size; simp at hq; omega
  clear hb3 hk2_0 hk2_5 hk2_6
  have hlt3a : w.heap.size < w3.heap.size + 1 := by omega
  have hlt3b : w.heap.size < w3.heap.size + 1 + 1 := by omega
  have hlt3c : w.heap.size < w3.heap.size + 1 + 1 + 1 := by omega
  have hlt3d : w.heap.size < w3.heap.size + 1 + 1 + 1 + 1 := by omega
  go_wp2_with fail
  refine (Messages_any (msg_lit1 (B := B) (T1 := 36) (T2 := 31) (g := w3.heap.size) (h := w3.heap.size + 1) (l := [7]) (cs := #[.int .u64 7]) (by simp (disch := first | assumption | omega | (simp; done) | (simp; omega) | (simp [World.setRow]; done) | (simp [World.setRow]; omega)) only [blk_alloc_past, blk_alloc_new, blk_alloc_at, blk_setRow_far, blk_setRow_at, reRow, blk_drew]; first | done | rfl) (by simp (disch := first | assumption | omega | (simp; done) | (simp; omega) | (simp [World.setRow]; done) | (simp [World.setRow]; omega)) only [blk_alloc_past, blk_alloc_new, blk_alloc_at, blk_setRow_far, blk_setRow_at, reRow, blk_drew]; first | done | rfl) rfl rfl (Nat.le_refl _) (HE.out.mono (Below.mono (B := w.heap.size) (by (repeat (first | exact Below.refl _ _ | assumption | refine Below.setCell ?_ (by (try simp); (try omega)) _ | refine Below.alloc ?_ (by (try simp); (try omega)) _ | refine below_setRow ?_ (by (try simp); (try omega)) _ | refine pw_below_drewN ?_ _ | refine Below.drew ?_))) hB) (Nat.le_refl _)) (by (try simp); have hq := hB3.size; omega) (by decide)) (msg_lit1 (B := B) (T1 := 36) (T2 := 31) (g := w3.heap.size + 1 + 1) (h := w3.heap.size + 1 + 1 + 1) (l := [3]) (cs := #[.int .u64 3]) (by simp (disch := first | assumption | omega | (simp; done) | (simp; omega) | (simp [World.setRow]; done) | (simp [World.setRow]; omega)) only [blk_alloc_past, blk_alloc_new, blk_alloc_at, blk_setRow_far, blk_setRow_at, reRow, blk_drew]; first | done | rfl) (by simp (disch := first | assumption | omega | (simp; done) | (simp; omega) | (simp [World.setRow]; done) | (simp [World.setRow]; omega)) only [blk_alloc_past, blk_alloc_new, blk_alloc_at, blk_setRow_far, blk_setRow_at, reRow, blk_drew]; first | done | rfl) rfl rfl (Nat.le_refl _) (HE.out.mono (Below.mono (B := w.heap.size) (by (repeat (first | exact Below.refl _ _ | assumption | refine Below.setCell ?_ (by (try simp); (try omega)) _ | refine Below.alloc ?_ (by (try simp); (try omega)) _ | refine below_setRow ?_ (by (try simp); (try omega)) _ | refine pw_below_drewN ?_ _ | refine Below.drew ?_))) hB) (Nat.le_refl _)) (by (try simp); have hq := hB3.size; omega) (by decide)) 5 50 0 (by omega) (by omega)).mono ?_
  rw [ex4]
  rintro e w4 ⟨rfl, hb4⟩
  have hB4 := below_step (w := w) (by (repeat (first | exact Below.refl _ _ | assumption | refine Below.setCell ?_ (by (try simp); (try omega)) _ | refine Below.alloc ?_ (by (try simp); (try omega)) _ | refine below_setRow ?_ (by (try simp); (try omega)) _ | refine pw_below_drewN ?_ _ | refine Below.drew ?_))) hb4
  have hk4_0 : blk w4 (w.heap.size) = some (.cells #[.int .i64 5, .int .i64 50, .int .i64 0] 24 (0, 0)) := ((blk_below hb4) _ (by (try simp); omega)).trans ((blk_alloc_past _ _ _ (by (try simp); omega)).trans ((blk_alloc_past _ _ _ (by (try simp); omega)).trans ((blk_alloc_past _ _ _ (by (try simp); omega)).trans ((blk_alloc_past _ _ _ (by omega)).trans hk3_0))))
  have hlt4 : w.heap.size < w4.heap.size := by have hq := hb4.size; simp at hq; omega
  clear hb4 hk3_0
  have hlt4a : w.heap.size < w4.heap.size + 1 := by omega
  have hlt4b : w.heap.size < w4.heap.size + 1 + 1 := by omega
  have hlt4c : w.heap.size < w4.heap.size + 1 + 1 + 1 := by omega
  have hlt4d : w.heap.size < w4.heap.size + 1 + 1 + 1 + 1 := by omega
  have hlt4e : w.heap.size < w4.heap.size + 1 + 1 + 1 + 1 + 1 := by omega
  go_wp2_with fail
  refine (Messages_any (msg_lit2 (B := B) (T1 := 36) (T1' := 36) (T2 := 31) (g := w4.heap.size) (g' := w4.heap.size + 1) (h := w4.heap.size + 1 + 1) (l := [4294967298]) (l' := [4294967296, 5]) (cs := #[.int .u64 4294967298]) (cs' := #[.int .u64 4294967296, .int .u64 5]) (by simp (disch := first | assumption | omega | (simp; done) | (simp; omega) | (simp [World.setRow]; done) | (simp [World.setRow]; omega)) only [blk_alloc_past, blk_alloc_new, blk_alloc_at, blk_setRow_far, blk_setRow_at, reRow, blk_drew]; first | done | rfl) (by simp (disch := first | assumption | omega | (simp; done) | (simp; omega) | (simp [World.setRow]; done) | (simp [World.setRow]; omega)) only [blk_alloc_past, blk_alloc_new, blk_alloc_at, blk_setRow_far, blk_setRow_at, reRow, blk_drew]; first | done | rfl) (by simp (disch := first | assumption | omega | (simp; done) | (simp; omega) | (simp [World.setRow]; done) | (simp [World.setRow]; omega)) only [blk_alloc_past, blk_alloc_new, blk_alloc_at, blk_setRow_far, blk_setRow_at, reRow, blk_drew]; first | done | rfl) rfl rfl rfl rfl (Nat.le_refl _) (Nat.le_refl _) (HE.out.mono (Below.mono (B := w.heap.size) (by (repeat (first | exact Below.refl _ _ | assumption | refine Below.setCell ?_ (by (try simp); (try omega)) _ | refine Below.alloc ?_ (by (try simp); (try omega)) _ | refine below_setRow ?_ (by (try simp); (try omega)) _ | refine pw_below_drewN ?_ _ | refine Below.drew ?_))) hB) (Nat.le_refl _)) (by (try simp); have hq := hB4.size; omega) (by decide)) (msg_lit1 (B := B) (T1 := 36) (T2 := 31) (g := w4.heap.size + 1 + 1 + 1) (h := w4.heap.size + 1 + 1 + 1 + 1) (l := [8589934596, 9, 5, 0]) (cs := #[.int .u64 8589934596, .int .u64 9, .int .u64 5, .int .u64 0]) (by simp (disch := first | assumption | omega | (simp; done) | (simp; omega) | (simp [World.setRow]; done) | (simp [World.setRow]; omega)) only [blk_alloc_past, blk_alloc_new, blk_alloc_at, blk_setRow_far, blk_setRow_at, reRow, blk_drew]; first | done | rfl) (by simp (disch := first | assumption | omega | (simp; done) | (simp; omega) | (simp [World.setRow]; done) | (simp [World.setRow]; omega)) only [blk_alloc_past, blk_alloc_new, blk_alloc_at, blk_setRow_far, blk_setRow_at, reRow, blk_drew]; first | done | rfl) rfl rfl (Nat.le_refl _) (HE.out.mono (Below.mono (B := w.heap.size) (by (repeat (first | exact Below.refl _ _ | assumption | refine Below.setCell ?_ (by (try simp); (try omega)) _ | refine Below.alloc ?_ (by (try simp); (try omega)) _ | refine below_setRow ?_ (by (try simp); (try omega)) _ | refine pw_below_drewN ?_ _ | refine Below.drew ?_))) hB) (Nat.le_refl _)) (by (try simp); have hq := hB4.size; omega) (by decide)) 5 50 0 (by omega) (by omega)).mono ?_
  rw [ex5]
  rintro e w5 ⟨rfl, hb5⟩
  have hB5 := below_step (w := w) (by (repeat (first | exact Below.refl _ _ | assumption | refine Below.setCell ?_ (by (try simp); (try omega)) _ | refine Below.alloc ?_ (by (try simp); (try omega)) _ | refine below_setRow ?_ (by (try simp); (try omega)) _ | refine pw_below_drewN ?_ _ | refine Below.drew ?_))) hb5
  have hs5 := hB5.size
  clear hb5 hk4_0
  go_wp2_with fail
  refine (Data_any (n := 2) (m := 1) (rw_blk (T := 36) (fr := (0, 0)) (l := [5, 0]) (g := w5.heap.size) (cs := #[.int .u64 5, .int .u64 0]) (by simp (disch := first | assumption | omega | (simp; done) | (simp; omega) | (simp [World.setRow]; done) | (simp [World.setRow]; omega)) only [blk_alloc_past, blk_alloc_new, blk_alloc_at, blk_setRow_far, blk_setRow_at, reRow, blk_drew]; first | done | rfl) rfl _ rfl) (rw_blk (T := 36) (fr := (0, 0)) (l := [5]) (g := w5.heap.size + 1) (cs := #[.int .u64 5]) (by simp (disch := first | assumption | omega | (simp; done) | (simp; omega) | (simp [World.setRow]; done) | (simp [World.setRow]; omega)) only [blk_alloc_past, blk_alloc_new, blk_alloc_at, blk_setRow_far, blk_setRow_at, reRow, blk_drew]; first | done | rfl) rfl _ rfl) (by omega) (by omega)).mono ?_
  rw [ex6]
  rintro e w6 ⟨rfl, hb6⟩
  have hB6 := below_step (w := w) (by (repeat (first | exact Below.refl _ _ | assumption | refine Below.setCell ?_ (by (try simp); (try omega)) _ | refine Below.alloc ?_ (by (try simp); (try omega)) _ | refine below_setRow ?_ (by (try simp); (try omega)) _ | refine pw_below_drewN ?_ _ | refine Below.drew ?_))) hb6
  have hs6 := hB6.size
  clear hb6
  go_wp2_with fail
  refine (Data_any (n := 2) (m := 1) (rw_blk (T := 36) (fr := (0, 0)) (l := [5, 1]) (g := w6.heap.size) (cs := #[.int .u64 5, .int .u64 1]) (by simp (disch := first | assumption | omega | (simp; done) | (simp; omega) | (simp [World.setRow]; done) | (simp [World.setRow]; omega)) only [blk_alloc_past, blk_alloc_new, blk_alloc_at, blk_setRow_far, blk_setRow_at, reRow, blk_drew]; first | done | rfl) rfl _ rfl) (rw_blk (T := 36) (fr := (0, 0)) (l := [5]) (g := w6.heap.size + 1) (cs := #[.int .u64 5]) (by simp (disch := first | assumption | omega | (simp; done) | (simp; omega) | (simp [World.setRow]; done) | (simp [World.setRow]; omega)) only [blk_alloc_past, blk_alloc_new, blk_alloc_at, blk_setRow_far, blk_setRow_at, reRow, blk_drew]; first | done | rfl) rfl _ rfl) (by omega) (by omega)).mono ?_
  rw [ex7]
  rintro e w7 ⟨rfl, hb7⟩
  have hB7 := below_step (w := w) (by (repeat (first | exact Below.refl _ _ | assumption | refine Below.setCell ?_ (by (try simp); (try omega)) _ | refine Below.alloc ?_ (by (try simp); (try omega)) _ | refine below_setRow ?_ (by (try simp); (try omega)) _ | refine pw_below_drewN ?_ _ | refine Below.drew ?_))) hb7
  have hs7 := hB7.size
  clear hb7
  go_wp2_with fail
  refine (Data_any (n := 0) (m := 1) (B := (w7.alloc (.cells #[.int .u64 0] 36)).heap.size) (RW.nil _ _ _ _) (rw_blk (T := 36) (fr := (0, 0)) (l := [0]) (g := w7.heap.size) (cs := #[.int .u64 0]) (by simp (disch := first | assumption | omega | (simp; done) | (simp; omega) | (simp [World.setRow]; done) | (simp [World.setRow]; omega)) only [blk_alloc_past, blk_alloc_new, blk_alloc_at, blk_setRow_far, blk_setRow_at, reRow, blk_drew]; first | done | rfl) rfl _ rfl) (by omega) (by omega)).mono ?_
  rw [ex8]
  rintro e w8 ⟨rfl, hb8⟩
  have hB8 := below_step (w := w) (by (repeat (first | exact Below.refl _ _ | assumption | refine Below.setCell ?_ (by (try simp); (try omega)) _ | refine Below.alloc ?_ (by (try simp); (try omega)) _ | refine below_setRow ?_ (by (try simp); (try omega)) _ | refine pw_below_drewN ?_ _ | refine Below.drew ?_))) hb8
  clear hb8
  go_wp2_with fail
  go_ret
  exact ⟨rfl, hB8⟩
end Go.Proofs.YtelghkgnkncnoaaDoor
/- Contracts of the references' Few and Small. -/
set_option linter.unusedVariables false
set_option linter.unusedSimpArgs false
namespace Go.Proofs.YtelghkgnkncnoaaDoor
open Go.RowKit
def fewB (ss : List (List Int)) : Bool := (ss.all fun s => decide (s.length ≤ 300)) && decide (ss.length ≤ 20)
def smallB (ss : List (List Int)) (d wl : Int) : Bool := decide (d ≤ 40) && (decide (wl ≤ 2000) && fewB ss)
theorem smallB_wf {ss : List (List Int)} {d wl : Int} (h : smallB ss d wl = true) (hu : ∀ s ∈ ss, ∀ x ∈ s, U64 x) : WFS ss ∧ d ≤ 1000000 ∧ wl ≤ 1000000 := by
  unfold smallB fewB at h
  simp only [Bool.and_eq_true, decide_eq_true_eq, List.all_eq_true] at h
  exact ⟨⟨by omega, fun s hs => by have := h.2.2.1 s hs; omega, hu⟩, by omega, by omega⟩
theorem smallB_few {ss : List (List Int)} {d wl : Int} (h : smallB ss d wl = true) : ss.length ≤ 20 ∧ ∀ s ∈ ss, s.length ≤ 300 := by
  unfold smallB fewB at h
  simp only [Bool.and_eq_true, decide_eq_true_eq, List.all_eq_true] at h
  exact ⟨h.2.2.2, h.2.2.1⟩
set_option maxRecDepth 100000 in
set_option maxHeartbeats 1000000 in
theorem Few_any {B : Nat} {w : World} {A : Option Addr} {n c : Nat} {ss : List (List Int)} (h : RS B w A n ss) (hn : n ≤ 9223372036854775807) :
    Calls Tryd.prog 23 #[.slice A n c] w fun e w' => e = .returned (.bool (fewB ss)) ∧ w = w' := by
  have hl := h.1
  have HA := Lib.hid h
  obtain ⟨D, hD⟩ : ∃ D, D = fewB ss := ⟨_, rfl⟩
  have HD := Lib.hid hD
  rw [← hD]
  clear h hD
  go_enter Tryd.func23, Tryd.ntmps23
  go_wp2
  go_loop [3] (fun i => ∃ k : Nat, k ≤ n ∧ i = .int .i64 k ∧ ∀ j, j < k → (ss.getD j []).length ≤ 300) (fun i => n - (intOf i).toNat)
  case atStart => exact ⟨0, Nat.zero_le _, rfl, fun j hj => by omega⟩
  case round =>
    obtain ⟨k, hk, rfl, hag⟩ := hrel
    have HG := Lib.hid hag
    clear hag
    by_cases hlt : k < n
    · obtain ⟨b, o, A', c', rfl, hb, hcell, hlc, _⟩ := HA.out.seg (k : Int) (by omega) (by omega)
      simp only [Int.toNat_natCast] at hcell hlc
      obtain ⟨L, hL⟩ : ∃ L, L = (ss.getD k []).length := ⟨_, rfl⟩
      rw [← hL] at hcell hlc
      have HL := Lib.hid hL
      clear hL
      by_cases h3 : L ≤ 300
      · go_wp2
        go_round
        case rel => exact ⟨k + 1, by omega, by go_num, fun j hj => by
          by_cases hjk : j < k
          · exact HG.out j hjk
          · obtain rfl : j = k := by omega
            rw [← HL.out]; exact h3⟩
        case measure => simp [intOf]; omega
      · have HF : Hid (D = false) := by
          show D = false
          rw [HD.out]; unfold fewB
          rw [Bool.and_eq_false_iff]; left
          rw [Bool.eq_false_iff, ne_eq, List.all_eq_true]
          intro q
          have := q (ss.getD k []) (by rw [List.getD_eq_getElem?_getD, List.getElem?_eq_getElem (by omega)]; exact List.getElem_mem _)
          simp only [decide_eq_true_eq] at this
          rw [← HL.out] at this; exact h3 this
        go_wp2
        go_ret
        exact ⟨by rw [HF.out]; rfl, rfl⟩
    · obtain rfl : k = n := by omega
      have HF : Hid (D = decide ((k : Int) ≤ 20)) := by
        show D = _
        rw [HD.out]; unfold fewB
        rw [Bool.eq_iff_iff]
        simp only [Bool.and_eq_true, decide_eq_true_eq, List.all_eq_true]
        refine ⟨fun q => by omega, fun q => ⟨fun s hs => ?_, by omega⟩⟩
        obtain ⟨j, hj, rfl⟩ := List.mem_iff_getElem.1 hs
        have := HG.out j (by omega)
        rw [List.getD_eq_getElem?_getD, List.getElem?_eq_getElem hj] at this
        exact this
      go_wp2
      go_ret
      exact ⟨by rw [HF.out]; rfl, rfl⟩
set_option maxRecDepth 100000 in
theorem Small_any {B : Nat} {w : World} {A : Option Addr} {n c : Nat} {ss : List (List Int)} (h : RS B w A n ss) (hB : B ≤ w.heap.size) (hn : n ≤ 9223372036854775807) (d wl ov : Int) :
    Calls Tryd.prog 10 #[.slice A n c, vLim d wl ov] w (VPost w (.bool (smallB ss d wl))) := by
  have H := Lib.hid h
  clear h
  have hu : smallB ss d wl = (decide (d ≤ 40) && (decide (wl ≤ 2000) && fewB ss)) := rfl
  obtain ⟨D, hD⟩ : ∃ D, D = smallB ss d wl := ⟨_, rfl⟩
  rw [← hD] at hu ⊢
  clear hD
  obtain ⟨F, hF⟩ : ∃ F, F = fewB ss := ⟨_, rfl⟩
  have HF := Lib.hid hF
  rw [← hF] at hu
  clear hF
  have HU := Lib.hid hu
  clear hu
  by_cases h1 : d ≤ 40
  · by_cases h2 : wl ≤ 2000
    · go_enter Tryd.func10, Tryd.ntmps10
      go_wp2_with (go_at_call 23; refine (Few_any (H.out.mono ((Below.refl _ _).alloc (Nat.le_refl _) _ |>.mono hB) (Nat.le_refl _)) hn).mono ?_; rw [← HF.out]; rintro e w1 ⟨rfl, rfl⟩)
      go_ret
      refine ⟨?_, ?_⟩
      · exact ret_bool (by rw [HU.out]; simp [h1, h2])
      · (repeat (first | exact Below.refl _ _ | assumption | refine Below.setCell ?_ (by (try simp); (try omega)) _ | refine Below.alloc ?_ (by (try simp); (try omega)) _ | refine below_setRow ?_ (by (try simp); (try omega)) _ | refine pw_below_drewN ?_ _ | refine Below.drew ?_))
    · go_enter Tryd.func10, Tryd.ntmps10
      go_wp2
      go_ret
      refine ⟨?_, ?_⟩
      · exact ret_bool (by rw [HU.out, decide_eq_false (show ¬ wl ≤ 2000 by omega), Bool.false_and, Bool.and_false])
      · (repeat (first | exact Below.refl _ _ | assumption | refine Below.setCell ?_ (by (try simp); (try omega)) _ | refine Below.alloc ?_ (by (try simp); (try omega)) _ | refine below_setRow ?_ (by (try simp); (try omega)) _ | refine pw_below_drewN ?_ _ | refine Below.drew ?_))
  · go_enter Tryd.func10, Tryd.ntmps10
    go_wp2
    go_ret
    refine ⟨?_, ?_⟩
    · exact ret_bool (by rw [HU.out, decide_eq_false (show ¬ d ≤ 40 by omega)]; rfl)
    · (repeat (first | exact Below.refl _ _ | assumption | refine Below.setCell ?_ (by (try simp); (try omega)) _ | refine Below.alloc ?_ (by (try simp); (try omega)) _ | refine below_setRow ?_ (by (try simp); (try omega)) _ | refine pw_below_drewN ?_ _ | refine Below.drew ?_))
/-- a message as an argument: nothing said of its sizes -/
structure ArgIn (B : Nat) (w : World) (A : Option Addr) (n : Nat) (ss : List (List Int)) : Prop where
  env : Env B w
  segs : RS B w A n ss
  n : n ≤ 9223372036854775807
  word : ∀ s ∈ ss, ∀ x ∈ s, U64 x
  bound : B ≤ w.heap.size
theorem ArgIn.below {B : Nat} {w w' : World} {A : Option Addr} {n : Nat} {ss : List (List Int)} (h : ArgIn B w A n ss) (hb : Below w.heap.size w w') : ArgIn B w' A n ss :=
  ⟨h.env.mono (hb.mono h.bound) (Nat.le_refl _), h.segs.mono (hb.mono h.bound) (Nat.le_refl _), h.n, h.word, Nat.le_trans h.bound hb.size⟩
theorem ArgIn.msg {B : Nat} {w w' : World} {A : Option Addr} {n : Nat} {ss : List (List Int)} (h : ArgIn B w A n ss) {d wl : Int} (hs : smallB ss d wl = true) (hb : Below w.heap.size w w') : MsgIn B w' A n ss :=
  ⟨(h.below hb).env, (h.below hb).segs, (smallB_wf hs h.word).1, (h.below hb).bound⟩
theorem ArgIn.small {B : Nat} {w w' : World} {A : Option Addr} {n c : Nat} {ss : List (List Int)} (h : ArgIn B w A n ss) (hb : Below w.heap.size w w') (d wl ov : Int) :
    Calls Tryd.prog 10 #[.slice A n c, vLim d wl ov] w' (VPost w' (.bool (smallB ss d wl))) :=
  Small_any (h.below hb).segs (h.below hb).bound h.n d wl ov
theorem ArgIn.awake {B : Nat} {w w' : World} {A : Option Addr} {n : Nat} {ss : List (List Int)} (h : ArgIn B w A n ss) (hb : Below w.heap.size w w') : Calls Tryd.prog 9 #[] w' (VPost w' (.bool true)) :=
  awake_any (h.below hb).env (h.below hb).bound
end Go.Proofs.YtelghkgnkncnoaaDoor
