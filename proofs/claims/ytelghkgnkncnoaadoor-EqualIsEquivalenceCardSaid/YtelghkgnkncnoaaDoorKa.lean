/- A part of the proof: the texts W37 L3 joined. -/
import Derived.Test.YtelghkgnkncnoaaDoorEd
import Derived.Test.YtelghkgnkncnoaaDoorPb
import Derived.Test.YtelghkgnkncnoaaDoorLa
import Derived.Test.YtelghkgnkncnoaaDoorTie
import Derived.Test.YtelghkgnkncnoaaDoorCards
import Derived.SevenTiedAt
/- Contract of the law EqualIsEquivalence. -/
set_option linter.unusedVariables false
set_option linter.unusedSimpArgs false
namespace Go.Proofs.YtelghkgnkncnoaaDoor
open Go.RowKit
set_option maxRecDepth 100000 in
set_option maxHeartbeats 4000000 in
theorem EqualIsEquivalence_small {B : Nat} {w : World} {A A' A'' : Option Addr} {n n' n'' c c' c'' : Nat} {a b e : List (List Int)} (ha : ArgIn B w A n a) (hb : ArgIn B w A' n' b) (he : ArgIn B w A'' n'' e) (d wl ov : Int)
    (s1 : smallB a d wl = true) (s2 : smallB b d wl = true) (s3 : smallB e d wl = true) :
    Calls Tryd.prog 3 #[.slice A n c, .slice A' n' c', .slice A'' n'' c'', vLim d wl ov] w (VPost w (.bool true)) := by
  have HA := Lib.hid ha
  have HB := Lib.hid hb
  have HE := Lib.hid he
  have S1 := Lib.hid s1
  have S2 := Lib.hid s2
  have S3 := Lib.hid s3
  have hd := (smallB_wf s1 ha.word).2.1
  have hwl := (smallB_wf s1 ha.word).2.2
  obtain ⟨M1, hM1⟩ : ∃ M, M = messagesV a a d wl := ⟨_, rfl⟩
  obtain ⟨M2, hM2⟩ : ∃ M, M = messagesV a b d wl := ⟨_, rfl⟩
  obtain ⟨M3, hM3⟩ : ∃ M, M = messagesV b a d wl := ⟨_, rfl⟩
  obtain ⟨M4, hM4⟩ : ∃ M, M = messagesV b e d wl := ⟨_, rfl⟩
  obtain ⟨M5, hM5⟩ : ∃ M, M = messagesV a e d wl := ⟨_, rfl⟩
  have r1 : M1.1 = (M1.2 == 0) := by rw [hM1]; exact messagesV_self (smallB_wf s1 ha.word).1 hwl
  have r2 : M2.1 = true → M2.2 = 0 := by rw [hM2]; exact messagesV_ok
  have r3 : M3.1 = M2.1 ∧ ((M3.2 == 0) = (M2.2 == 0)) := by rw [hM2, hM3]; exact messagesV_comm
  have r4 : M2.1 = true → M4.1 = true → M5.1 = true := by rw [hM2, hM4, hM5]; exact messagesV_trans
  obtain ⟨p1, e1⟩ := M1
  obtain ⟨p2, e2⟩ := M2
  obtain ⟨p3, e3⟩ := M3
  obtain ⟨p4, e4⟩ := M4
  obtain ⟨p5, e5⟩ := M5
  simp only at r1 r2 r3 r4
  obtain ⟨r3a, r3b⟩ := r3
  subst r3a r1
  have H1 := Lib.hid hM1
  have H2 := Lib.hid hM2
  have H3 := Lib.hid hM3
  have H4 := Lib.hid hM4
  have H5 := Lib.hid hM5
  have R2 := Lib.hid r2
  have R3 := Lib.hid r3b
  have R4 := Lib.hid r4
  clear ha hb he s1 s2 s3 hM1 hM2 hM3 hM4 hM5 r2 r3b r4
  go_enter Tryd.func3, Tryd.ntmps3
  go_wp2_with fail
  refine (HA.out.awake (by (repeat (first | exact Below.refl _ _ | assumption | refine Below.setCell ?_ (by (try simp); (try omega)) _ | refine Below.alloc ?_ (by (try simp); (try omega)) _ | refine below_setRow ?_ (by (try simp); (try omega)) _ | refine pw_below_drewN ?_ _ | refine Below.drew ?_)))).mono ?_
  rintro e w1 ⟨rfl, hb1⟩; have hB1 := below_step (w := w) (by (repeat (first | exact Below.refl _ _ | assumption | refine Below.setCell ?_ (by (try simp); (try omega)) _ | refine Below.alloc ?_ (by (try simp); (try omega)) _ | refine below_setRow ?_ (by (try simp); (try omega)) _ | refine pw_below_drewN ?_ _ | refine Below.drew ?_))) hb1; obtain ⟨hc1, hf1⟩ := bcell hb1; have hd1 := blk_below hb1; have hs1 := hB1.size; have hz1_0 : w.heap.size < w1.heap.size := (by have hq := hb1.size; (try simp at hq); omega); have hy1_0 : w.heap.size ≠ w1.heap.size := Nat.ne_of_lt hz1_0; have hk1_0 := hd1 (w.heap.size) (by (try simp); (try omega)); (try simp (disch := first | omega | (simp; omega)) only [blk_setRow_far, blk_alloc_past, blk_setCell_far, blk_drewN, blk_drew] at hk1_0); (try simp (disch := first | assumption | omega | (simp; done) | (simp; omega)) only [blk_setRow_far, blk_alloc_past, blk_alloc_new, blk_alloc_at, blk_setCell_far, blk_drewN, blk_drew] at hk1_0)
  go_wp2_with fail
  refine (HA.out.small (by (repeat (first | exact Below.refl _ _ | assumption | refine Below.setCell ?_ (by (try simp); (try omega)) _ | refine Below.alloc ?_ (by (try simp); (try omega)) _ | refine below_setRow ?_ (by (try simp); (try omega)) _ | refine pw_below_drewN ?_ _ | refine Below.drew ?_))) d wl ov).mono ?_
  rw [S1.out]
  rintro e w2 ⟨rfl, hb2⟩; have hB2 := below_step (w := w) (by (repeat (first | exact Below.refl _ _ | assumption | refine Below.setCell ?_ (by (try simp); (try omega)) _ | refine Below.alloc ?_ (by (try simp); (try omega)) _ | refine below_setRow ?_ (by (try simp); (try omega)) _ | refine pw_below_drewN ?_ _ | refine Below.drew ?_))) hb2; obtain ⟨hc2, hf2⟩ := bcell hb2; have hd2 := blk_below hb2; have hs2 := hB2.size; have hz2_0 : w.heap.size < w2.heap.size := (by have hq := hb2.size; (try simp at hq); omega); have hy2_0 : w.heap.size ≠ w2.heap.size := Nat.ne_of_lt hz2_0; have hk2_0 := hd2 (w.heap.size) (by (try simp); (try omega)); (try simp (disch := first | omega | (simp; omega)) only [blk_setRow_far, blk_alloc_past, blk_setCell_far, blk_drewN, blk_drew] at hk2_0); (try simp (disch := first | assumption | omega | (simp; done) | (simp; omega)) only [blk_setRow_far, blk_alloc_past, blk_alloc_new, blk_alloc_at, blk_setCell_far, blk_drewN, blk_drew] at hk2_0); (try rw [hk1_0] at hk2_0)
  go_wp2_with fail
  refine (HB.out.small (by (repeat (first | exact Below.refl _ _ | assumption | refine Below.setCell ?_ (by (try simp); (try omega)) _ | refine Below.alloc ?_ (by (try simp); (try omega)) _ | refine below_setRow ?_ (by (try simp); (try omega)) _ | refine pw_below_drewN ?_ _ | refine Below.drew ?_))) d wl ov).mono ?_
  rw [S2.out]
  rintro e w3 ⟨rfl, hb3⟩; have hB3 := below_step (w := w) (by (repeat (first | exact Below.refl _ _ | assumption | refine Below.setCell ?_ (by (try simp); (try omega)) _ | refine Below.alloc ?_ (by (try simp); (try omega)) _ | refine below_setRow ?_ (by (try simp); (try omega)) _ | refine pw_below_drewN ?_ _ | refine Below.drew ?_))) hb3; obtain ⟨hc3, hf3⟩ := bcell hb3; have hd3 := blk_below hb3; have hs3 := hB3.size; have hz3_0 : w.heap.size < w3.heap.size := (by have hq := hb3.size; (try simp at hq); omega); have hy3_0 : w.heap.size ≠ w3.heap.size := Nat.ne_of_lt hz3_0; have hk3_0 := hd3 (w.heap.size) (by (try simp); (try omega)); (try simp (disch := first | omega | (simp; omega)) only [blk_setRow_far, blk_alloc_past, blk_setCell_far, blk_drewN, blk_drew] at hk3_0); (try simp (disch := first | assumption | omega | (simp; done) | (simp; omega)) only [blk_setRow_far, blk_alloc_past, blk_alloc_new, blk_alloc_at, blk_setCell_far, blk_drewN, blk_drew] at hk3_0); (try rw [hk2_0] at hk3_0); (try rw [hk1_0] at hk3_0)
  go_wp2_with fail
  refine (HE.out.small (by (repeat (first | exact Below.refl _ _ | assumption | refine Below.setCell ?_ (by (try simp); (try omega)) _ | refine Below.alloc ?_ (by (try simp); (try omega)) _ | refine below_setRow ?_ (by (try simp); (try omega)) _ | refine pw_below_drewN ?_ _ | refine Below.drew ?_))) d wl ov).mono ?_
  rw [S3.out]
  rintro e w4 ⟨rfl, hb4⟩; have hB4 := below_step (w := w) (by (repeat (first | exact Below.refl _ _ | assumption | refine Below.setCell ?_ (by (try simp); (try omega)) _ | refine Below.alloc ?_ (by (try simp); (try omega)) _ | refine below_setRow ?_ (by (try simp); (try omega)) _ | refine pw_below_drewN ?_ _ | refine Below.drew ?_))) hb4; obtain ⟨hc4, hf4⟩ := bcell hb4; have hd4 := blk_below hb4; have hs4 := hB4.size; have hz4_0 : w.heap.size < w4.heap.size := (by have hq := hb4.size; (try simp at hq); omega); have hy4_0 : w.heap.size ≠ w4.heap.size := Nat.ne_of_lt hz4_0; have hk4_0 := hd4 (w.heap.size) (by (try simp); (try omega)); (try simp (disch := first | omega | (simp; omega)) only [blk_setRow_far, blk_alloc_past, blk_setCell_far, blk_drewN, blk_drew] at hk4_0); (try simp (disch := first | assumption | omega | (simp; done) | (simp; omega)) only [blk_setRow_far, blk_alloc_past, blk_alloc_new, blk_alloc_at, blk_setCell_far, blk_drewN, blk_drew] at hk4_0); (try rw [hk3_0] at hk4_0); (try rw [hk2_0] at hk4_0); (try rw [hk1_0] at hk4_0)
  go_wp2_with fail
  refine (Messages_any (HA.out.msg S1.out (by (repeat (first | exact Below.refl _ _ | assumption | refine Below.setCell ?_ (by (try simp); (try omega)) _ | refine Below.alloc ?_ (by (try simp); (try omega)) _ | refine below_setRow ?_ (by (try simp); (try omega)) _ | refine pw_below_drewN ?_ _ | refine Below.drew ?_)))) (HA.out.msg S1.out (by (repeat (first | exact Below.refl _ _ | assumption | refine Below.setCell ?_ (by (try simp); (try omega)) _ | refine Below.alloc ?_ (by (try simp); (try omega)) _ | refine below_setRow ?_ (by (try simp); (try omega)) _ | refine pw_below_drewN ?_ _ | refine Below.drew ?_)))) d wl ov hd hwl).mono ?_
  rw [← H1.out]
  rintro e w5 ⟨rfl, hb5⟩; have hB5 := below_step (w := w) (by (repeat (first | exact Below.refl _ _ | assumption | refine Below.setCell ?_ (by (try simp); (try omega)) _ | refine Below.alloc ?_ (by (try simp); (try omega)) _ | refine below_setRow ?_ (by (try simp); (try omega)) _ | refine pw_below_drewN ?_ _ | refine Below.drew ?_))) hb5; obtain ⟨hc5, hf5⟩ := bcell hb5; have hd5 := blk_below hb5; have hs5 := hB5.size; have hz5_0 : w.heap.size < w5.heap.size := (by have hq := hb5.size; (try simp at hq); omega); have hy5_0 : w.heap.size ≠ w5.heap.size := Nat.ne_of_lt hz5_0; have hk5_0 := hd5 (w.heap.size) (by (try simp); (try omega)); (try simp (disch := first | omega | (simp; omega)) only [blk_setRow_far, blk_alloc_past, blk_setCell_far, blk_drewN, blk_drew] at hk5_0); (try simp (disch := first | assumption | omega | (simp; done) | (simp; omega)) only [blk_setRow_far, blk_alloc_past, blk_alloc_new, blk_alloc_at, blk_setCell_far, blk_drewN, blk_drew] at hk5_0); (try rw [hk4_0] at hk5_0); (try rw [hk3_0] at hk5_0); (try rw [hk2_0] at hk5_0); (try rw [hk1_0] at hk5_0)
  go_wp2_with fail
  refine (Messages_any (HA.out.msg S1.out (by (repeat (first | exact Below.refl _ _ | assumption | refine Below.setCell ?_ (by (try simp); (try omega)) _ | refine Below.alloc ?_ (by (try simp); (try omega)) _ | refine below_setRow ?_ (by (try simp); (try omega)) _ | refine pw_below_drewN ?_ _ | refine Below.drew ?_)))) (HB.out.msg S2.out (by (repeat (first | exact Below.refl _ _ | assumption | refine Below.setCell ?_ (by (try simp); (try omega)) _ | refine Below.alloc ?_ (by (try simp); (try omega)) _ | refine below_setRow ?_ (by (try simp); (try omega)) _ | refine pw_below_drewN ?_ _ | refine Below.drew ?_)))) d wl ov hd hwl).mono ?_
  rw [← H2.out]
  rintro e w6 ⟨rfl, hb6⟩; have hB6 := below_step (w := w) (by (repeat (first | exact Below.refl _ _ | assumption | refine Below.setCell ?_ (by (try simp); (try omega)) _ | refine Below.alloc ?_ (by (try simp); (try omega)) _ | refine below_setRow ?_ (by (try simp); (try omega)) _ | refine pw_below_drewN ?_ _ | refine Below.drew ?_))) hb6; obtain ⟨hc6, hf6⟩ := bcell hb6; have hd6 := blk_below hb6; have hs6 := hB6.size; have hz6_0 : w.heap.size < w6.heap.size := (by have hq := hb6.size; (try simp at hq); omega); have hy6_0 : w.heap.size ≠ w6.heap.size := Nat.ne_of_lt hz6_0; have hk6_0 := hd6 (w.heap.size) (by (try simp); (try omega)); (try simp (disch := first | omega | (simp; omega)) only [blk_setRow_far, blk_alloc_past, blk_setCell_far, blk_drewN, blk_drew] at hk6_0); (try simp (disch := first | assumption | omega | (simp; done) | (simp; omega)) only [blk_setRow_far, blk_alloc_past, blk_alloc_new, blk_alloc_at, blk_setCell_far, blk_drewN, blk_drew] at hk6_0); (try rw [hk5_0] at hk6_0); (try rw [hk4_0] at hk6_0); (try rw [hk3_0] at hk6_0); (try rw [hk2_0] at hk6_0); (try rw [hk1_0] at hk6_0)
  go_wp2_with fail
  refine (Messages_any (HB.out.msg S2.out (by (repeat (first | exact Below.refl _ _ | assumption | refine Below.setCell ?_ (by (try simp); (try omega)) _ | refine Below.alloc ?_ (by (try simp); (try omega)) _ | refine below_setRow ?_ (by (try simp); (try omega)) _ | refine pw_below_drewN ?_ _ | refine Below.drew ?_)))) (HA.out.msg S1.out (by (repeat (first | exact Below.refl _ _ | assumption | refine Below.setCell ?_ (by (try simp); (try omega)) _ | refine Below.alloc ?_ (by (try simp); (try omega)) _ | refine below_setRow ?_ (by (try simp); (try omega)) _ | refine pw_below_drewN ?_ _ | refine Below.drew ?_)))) d wl ov hd hwl).mono ?_
  rw [← H3.out]
  rintro e w7 ⟨rfl, hb7⟩; have hB7 := below_step (w := w) (by (repeat (first | exact Below.refl _ _ | assumption | refine Below.setCell ?_ (by (try simp); (try omega)) _ | refine Below.alloc ?_ (by (try simp); (try omega)) _ | refine below_setRow ?_ (by (try simp); (try omega)) _ | refine pw_below_drewN ?_ _ | refine Below.drew ?_))) hb7; obtain ⟨hc7, hf7⟩ := bcell hb7; have hd7 := blk_below hb7; have hs7 := hB7.size; have hz7_0 : w.heap.size < w7.heap.size := (by have hq := hb7.size; (try simp at hq); omega); have hy7_0 : w.heap.size ≠ w7.heap.size := Nat.ne_of_lt hz7_0; have hk7_0 := hd7 (w.heap.size) (by (try simp); (try omega)); (try simp (disch := first | omega | (simp; omega)) only [blk_setRow_far, blk_alloc_past, blk_setCell_far, blk_drewN, blk_drew] at hk7_0); (try simp (disch := first | assumption | omega | (simp; done) | (simp; omega)) only [blk_setRow_far, blk_alloc_past, blk_alloc_new, blk_alloc_at, blk_setCell_far, blk_drewN, blk_drew] at hk7_0); (try rw [hk6_0] at hk7_0); (try rw [hk5_0] at hk7_0); (try rw [hk4_0] at hk7_0); (try rw [hk3_0] at hk7_0); (try rw [hk2_0] at hk7_0); (try rw [hk1_0] at hk7_0)
  go_wp2_with fail
  refine (Messages_any (HB.out.msg S2.out (by (repeat (first | exact Below.refl _ _ | assumption | refine Below.setCell ?_ (by (try simp); (try omega)) _ | refine Below.alloc ?_ (by (try simp); (try omega)) _ | refine below_setRow ?_ (by (try simp); (try omega)) _ | refine pw_below_drewN ?_ _ | refine Below.drew ?_)))) (HE.out.msg S3.out (by (repeat (first | exact Below.refl _ _ | assumption | refine Below.setCell ?_ (by (try simp); (try omega)) _ | refine Below.alloc ?_ (by (try simp); (try omega)) _ | refine below_setRow ?_ (by (try simp); (try omega)) _ | refine pw_below_drewN ?_ _ | refine Below.drew ?_)))) d wl ov hd hwl).mono ?_
  rw [← H4.out]
  rintro e w8 ⟨rfl, hb8⟩; have hB8 := below_step (w := w) (by (repeat (first | exact Below.refl _ _ | assumption | refine Below.setCell ?_ (by (try simp); (try omega)) _ | refine Below.alloc ?_ (by (try simp); (try omega)) _ | refine below_setRow ?_ (by (try simp); (try omega)) _ | refine pw_below_drewN ?_ _ | refine Below.drew ?_))) hb8; obtain ⟨hc8, hf8⟩ := bcell hb8; have hd8 := blk_below hb8; have hs8 := hB8.size; have hz8_0 : w.heap.size < w8.heap.size := (by have hq := hb8.size; (try simp at hq); omega); have hy8_0 : w.heap.size ≠ w8.heap.size := Nat.ne_of_lt hz8_0; have hk8_0 := hd8 (w.heap.size) (by (try simp); (try omega)); (try simp (disch := first | omega | (simp; omega)) only [blk_setRow_far, blk_alloc_past, blk_setCell_far, blk_drewN, blk_drew] at hk8_0); (try simp (disch := first | assumption | omega | (simp; done) | (simp; omega)) only [blk_setRow_far, blk_alloc_past, blk_alloc_new, blk_alloc_at, blk_setCell_far, blk_drewN, blk_drew] at hk8_0); (try rw [hk7_0] at hk8_0); (try rw [hk6_0] at hk8_0); (try rw [hk5_0] at hk8_0); (try rw [hk4_0] at hk8_0); (try rw [hk3_0] at hk8_0); (try rw [hk2_0] at hk8_0); (try rw [hk1_0] at hk8_0)
  go_wp2_with fail
  refine (Messages_any (HA.out.msg S1.out (by (repeat (first | exact Below.refl _ _ | assumption | refine Below.setCell ?_ (by (try simp); (try omega)) _ | refine Below.alloc ?_ (by (try simp); (try omega)) _ | refine below_setRow ?_ (by (try simp); (try omega)) _ | refine pw_below_drewN ?_ _ | refine Below.drew ?_)))) (HE.out.msg S3.out (by (repeat (first | exact Below.refl _ _ | assumption | refine Below.setCell ?_ (by (try simp); (try omega)) _ | refine Below.alloc ?_ (by (try simp); (try omega)) _ | refine below_setRow ?_ (by (try simp); (try omega)) _ | refine pw_below_drewN ?_ _ | refine Below.drew ?_)))) d wl ov hd hwl).mono ?_
  rw [← H5.out]
  rintro e w9 ⟨rfl, hb9⟩; have hB9 := below_step (w := w) (by (repeat (first | exact Below.refl _ _ | assumption | refine Below.setCell ?_ (by (try simp); (try omega)) _ | refine Below.alloc ?_ (by (try simp); (try omega)) _ | refine below_setRow ?_ (by (try simp); (try omega)) _ | refine pw_below_drewN ?_ _ | refine Below.drew ?_))) hb9; obtain ⟨hc9, hf9⟩ := bcell hb9; have hd9 := blk_below hb9; have hs9 := hB9.size; have hz9_0 : w.heap.size < w9.heap.size := (by have hq := hb9.size; (try simp at hq); omega); have hy9_0 : w.heap.size ≠ w9.heap.size := Nat.ne_of_lt hz9_0; have hk9_0 := hd9 (w.heap.size) (by (try simp); (try omega)); (try simp (disch := first | omega | (simp; omega)) only [blk_setRow_far, blk_alloc_past, blk_setCell_far, blk_drewN, blk_drew] at hk9_0); (try simp (disch := first | assumption | omega | (simp; done) | (simp; omega)) only [blk_setRow_far, blk_alloc_past, blk_alloc_new, blk_alloc_at, blk_setCell_far, blk_drewN, blk_drew] at hk9_0); (try rw [hk8_0] at hk9_0); (try rw [hk7_0] at hk9_0); (try rw [hk6_0] at hk9_0); (try rw [hk5_0] at hk9_0); (try rw [hk4_0] at hk9_0); (try rw [hk3_0] at hk9_0); (try rw [hk2_0] at hk9_0); (try rw [hk1_0] at hk9_0)
  clear hb1 hb2 hb3 hb4 hb5 hb6 hb7 hb8 hb9 hc1 hc2 hc3 hc4 hc5 hc6 hc7 hc8 hc9 hf1 hf2 hf3 hf4 hf5 hf6 hf7 hf8 hf9
  cases p3 with
  | true =>
    have z2 : e2 = 0 := R2.out rfl
    subst z2
    have z3 : e3 = 0 := by have := R3.out; simpa using this
    subst z3
    by_cases h4 : e4 = 0
    · subst h4
      by_cases h5 : e5 = 0
      · subst h5
        cases p4 with
        | true =>
          have z5 : p5 = true := R4.out rfl rfl
          subst z5
          go_wp2
          go_ret
          exact ⟨rfl, hB9⟩
        | false =>
          go_wp2
          go_ret
          exact ⟨rfl, hB9⟩
      · have n5 : (e5 != 0) = true := by simpa using h5
        go_wp2
        go_ret
        exact ⟨rfl, hB9⟩
    · have n4 : (e4 != 0) = true := by simpa using h4
      go_wp2
      go_ret
      exact ⟨rfl, hB9⟩
  | false =>
    by_cases h2 : e2 = 0
    · subst h2
      have z3 : e3 = 0 := by have := R3.out; simpa using this
      subst z3
      by_cases h4 : e4 = 0
      · subst h4
        by_cases h5 : e5 = 0
        · subst h5
          go_wp2
          go_ret
          exact ⟨rfl, hB9⟩
        · have n5 : (e5 != 0) = true := by simpa using h5
          go_wp2
          go_ret
          exact ⟨rfl, hB9⟩
      · have n4 : (e4 != 0) = true := by simpa using h4
        go_wp2
        go_ret
        exact ⟨rfl, hB9⟩
    · have n2 : (e2 == 0) = false := by simpa using h2
      have n3 : (e3 == 0) = false := by rw [R3.out]; exact n2
      by_cases h4 : e4 = 0
      · subst h4
        by_cases h5 : e5 = 0
        · subst h5
          go_wp2
          go_ret
          exact ⟨rfl, hB9⟩
        · have n5 : (e5 != 0) = true := by simpa using h5
          go_wp2
          go_ret
          exact ⟨rfl, hB9⟩
      · have n4 : (e4 != 0) = true := by simpa using h4
        go_wp2
        go_ret
        exact ⟨rfl, hB9⟩
set_option maxRecDepth 100000 in
theorem EqualIsEquivalence_no1 {B : Nat} {w : World} {A A' A'' : Option Addr} {n n' n'' c c' c'' : Nat} {a b e : List (List Int)} (ha : ArgIn B w A n a) (hb : ArgIn B w A' n' b) (he : ArgIn B w A'' n'' e) (d wl ov : Int)
    (s1 : smallB a d wl = false) :
    Calls Tryd.prog 3 #[.slice A n c, .slice A' n' c', .slice A'' n'' c'', vLim d wl ov] w (VPost w (.bool true)) := by
  have HA := Lib.hid ha
  have HB := Lib.hid hb
  have HE := Lib.hid he
  have S1 := Lib.hid s1
  clear ha hb he s1
  go_enter Tryd.func3, Tryd.ntmps3
  go_wp2_with fail
  refine (HA.out.awake (by (repeat (first | exact Below.refl _ _ | assumption | refine Below.setCell ?_ (by (try simp); (try omega)) _ | refine Below.alloc ?_ (by (try simp); (try omega)) _ | refine below_setRow ?_ (by (try simp); (try omega)) _ | refine pw_below_drewN ?_ _ | refine Below.drew ?_)))).mono ?_
  rintro e w1 ⟨rfl, hb1⟩; have hB1 := below_step (w := w) (by (repeat (first | exact Below.refl _ _ | assumption | refine Below.setCell ?_ (by (try simp); (try omega)) _ | refine Below.alloc ?_ (by (try simp); (try omega)) _ | refine below_setRow ?_ (by (try simp); (try omega)) _ | refine pw_below_drewN ?_ _ | refine Below.drew ?_))) hb1; obtain ⟨hc1, hf1⟩ := bcell hb1; have hd1 := blk_below hb1; have hs1 := hB1.size; have hz1_0 : w.heap.size < w1.heap.size := (by have hq := hb1.size; (try simp at hq); omega); have hy1_0 : w.heap.size ≠ w1.heap.size := Nat.ne_of_lt hz1_0; have hk1_0 := hd1 (w.heap.size) (by (try simp); (try omega)); (try simp (disch := first | omega | (simp; omega)) only [blk_setRow_far, blk_alloc_past, blk_setCell_far, blk_drewN, blk_drew] at hk1_0); (try simp (disch := first | assumption | omega | (simp; done) | (simp; omega)) only [blk_setRow_far, blk_alloc_past, blk_alloc_new, blk_alloc_at, blk_setCell_far, blk_drewN, blk_drew] at hk1_0)
  go_wp2_with fail
  refine (HA.out.small (by (repeat (first | exact Below.refl _ _ | assumption | refine Below.setCell ?_ (by (try simp); (try omega)) _ | refine Below.alloc ?_ (by (try simp); (try omega)) _ | refine below_setRow ?_ (by (try simp); (try omega)) _ | refine pw_below_drewN ?_ _ | refine Below.drew ?_))) d wl ov).mono ?_
  rw [S1.out]
  rintro e w2 ⟨rfl, hb2⟩; have hB2 := below_step (w := w) (by (repeat (first | exact Below.refl _ _ | assumption | refine Below.setCell ?_ (by (try simp); (try omega)) _ | refine Below.alloc ?_ (by (try simp); (try omega)) _ | refine below_setRow ?_ (by (try simp); (try omega)) _ | refine pw_below_drewN ?_ _ | refine Below.drew ?_))) hb2; obtain ⟨hc2, hf2⟩ := bcell hb2; have hd2 := blk_below hb2; have hs2 := hB2.size; have hz2_0 : w.heap.size < w2.heap.size := (by have hq := hb2.size; (try simp at hq); omega); have hy2_0 : w.heap.size ≠ w2.heap.size := Nat.ne_of_lt hz2_0; have hk2_0 := hd2 (w.heap.size) (by (try simp); (try omega)); (try simp (disch := first | omega | (simp; omega)) only [blk_setRow_far, blk_alloc_past, blk_setCell_far, blk_drewN, blk_drew] at hk2_0); (try simp (disch := first | assumption | omega | (simp; done) | (simp; omega)) only [blk_setRow_far, blk_alloc_past, blk_alloc_new, blk_alloc_at, blk_setCell_far, blk_drewN, blk_drew] at hk2_0); (try rw [hk1_0] at hk2_0)
  go_wp2_with fail
  refine (HA.out.awake (by (repeat (first | exact Below.refl _ _ | assumption | refine Below.setCell ?_ (by (try simp); (try omega)) _ | refine Below.alloc ?_ (by (try simp); (try omega)) _ | refine below_setRow ?_ (by (try simp); (try omega)) _ | refine pw_below_drewN ?_ _ | refine Below.drew ?_)))).mono ?_
  rintro e w5 ⟨rfl, hb5⟩; have hB5 := below_step (w := w) (by (repeat (first | exact Below.refl _ _ | assumption | refine Below.setCell ?_ (by (try simp); (try omega)) _ | refine Below.alloc ?_ (by (try simp); (try omega)) _ | refine below_setRow ?_ (by (try simp); (try omega)) _ | refine pw_below_drewN ?_ _ | refine Below.drew ?_))) hb5; obtain ⟨hc5, hf5⟩ := bcell hb5; have hd5 := blk_below hb5; have hs5 := hB5.size; have hz5_0 : w.heap.size < w5.heap.size := (by have hq := hb5.size; (try simp at hq); omega); have hy5_0 : w.heap.size ≠ w5.heap.size := Nat.ne_of_lt hz5_0; have hk5_0 := hd5 (w.heap.size) (by (try simp); (try omega)); (try simp (disch := first | omega | (simp; omega)) only [blk_setRow_far, blk_alloc_past, blk_setCell_far, blk_drewN, blk_drew] at hk5_0); (try simp (disch := first | assumption | omega | (simp; done) | (simp; omega)) only [blk_setRow_far, blk_alloc_past, blk_alloc_new, blk_alloc_at, blk_setCell_far, blk_drewN, blk_drew] at hk5_0); (try rw [hk4_0] at hk5_0); (try rw [hk3_0] at hk5_0); (try rw [hk2_0] at hk5_0); (try rw [hk1_0] at hk5_0)
  go_wp2
  go_ret
  exact ⟨rfl, hB5⟩
set_option maxRecDepth 100000 in
theorem EqualIsEquivalence_no2 {B : Nat} {w : World} {A A' A'' : Option Addr} {n n' n'' c c' c'' : Nat} {a b e : List (List Int)} (ha : ArgIn B w A n a) (hb : ArgIn B w A' n' b) (he : ArgIn B w A'' n'' e) (d wl ov : Int)
    (s1 : smallB a d wl = true)    (s2 : smallB b d wl = false) :
    Calls Tryd.prog 3 #[.slice A n c, .slice A' n' c', .slice A'' n'' c'', vLim d wl ov] w (VPost w (.bool true)) := by
  have HA := Lib.hid ha
  have HB := Lib.hid hb
  have HE := Lib.hid he
  have S1 := Lib.hid s1
  have S2 := Lib.hid s2
  clear ha hb he s1 s2
  go_enter Tryd.func3, Tryd.ntmps3
  go_wp2_with fail
  refine (HA.out.awake (by (repeat (first | exact Below.refl _ _ | assumption | refine Below.setCell ?_ (by (try simp); (try omega)) _ | refine Below.alloc ?_ (by (try simp); (try omega)) _ | refine below_setRow ?_ (by (try simp); (try omega)) _ | refine pw_below_drewN ?_ _ | refine Below.drew ?_)))).mono ?_
  rintro e w1 ⟨rfl, hb1⟩; have hB1 := below_step (w := w) (by (repeat (first | exact Below.refl _ _ | assumption | refine Below.setCell ?_ (by (try simp); (try omega)) _ | refine Below.alloc ?_ (by (try simp); (try omega)) _ | refine below_setRow ?_ (by (try simp); (try omega)) _ | refine pw_below_drewN ?_ _ | refine Below.drew ?_))) hb1; obtain ⟨hc1, hf1⟩ := bcell hb1; have hd1 := blk_below hb1; have hs1 := hB1.size; have hz1_0 : w.heap.size < w1.heap.size := (by have hq := hb1.size; (try simp at hq); omega); have hy1_0 : w.heap.size ≠ w1.heap.size := Nat.ne_of_lt hz1_0; have hk1_0 := hd1 (w.heap.size) (by (try simp); (try omega)); (try simp (disch := first | omega | (simp; omega)) only [blk_setRow_far, blk_alloc_past, blk_setCell_far, blk_drewN, blk_drew] at hk1_0); (try simp (disch := first | assumption | omega | (simp; done) | (simp; omega)) only [blk_setRow_far, blk_alloc_past, blk_alloc_new, blk_alloc_at, blk_setCell_far, blk_drewN, blk_drew] at hk1_0)
  go_wp2_with fail
  refine (HA.out.small (by (repeat (first | exact Below.refl _ _ | assumption | refine Below.setCell ?_ (by (try simp); (try omega)) _ | refine Below.alloc ?_ (by (try simp); (try omega)) _ | refine below_setRow ?_ (by (try simp); (try omega)) _ | refine pw_below_drewN ?_ _ | refine Below.drew ?_))) d wl ov).mono ?_
  rw [S1.out]
  rintro e w2 ⟨rfl, hb2⟩; have hB2 := below_step (w := w) (by (repeat (first | exact Below.refl _ _ | assumption | refine Below.setCell ?_ (by (try simp); (try omega)) _ | refine Below.alloc ?_ (by (try simp); (try omega)) _ | refine below_setRow ?_ (by (try simp); (try omega)) _ | refine pw_below_drewN ?_ _ | refine Below.drew ?_))) hb2; obtain ⟨hc2, hf2⟩ := bcell hb2; have hd2 := blk_below hb2; have hs2 := hB2.size; have hz2_0 : w.heap.size < w2.heap.size := (by have hq := hb2.size; (try simp at hq); omega); have hy2_0 : w.heap.size ≠ w2.heap.size := Nat.ne_of_lt hz2_0; have hk2_0 := hd2 (w.heap.size) (by (try simp); (try omega)); (try simp (disch := first | omega | (simp; omega)) only [blk_setRow_far, blk_alloc_past, blk_setCell_far, blk_drewN, blk_drew] at hk2_0); (try simp (disch := first | assumption | omega | (simp; done) | (simp; omega)) only [blk_setRow_far, blk_alloc_past, blk_alloc_new, blk_alloc_at, blk_setCell_far, blk_drewN, blk_drew] at hk2_0); (try rw [hk1_0] at hk2_0)
  go_wp2_with fail
  refine (HB.out.small (by (repeat (first | exact Below.refl _ _ | assumption | refine Below.setCell ?_ (by (try simp); (try omega)) _ | refine Below.alloc ?_ (by (try simp); (try omega)) _ | refine below_setRow ?_ (by (try simp); (try omega)) _ | refine pw_below_drewN ?_ _ | refine Below.drew ?_))) d wl ov).mono ?_
  rw [S2.out]
  rintro e w3 ⟨rfl, hb3⟩; have hB3 := below_step (w := w) (by (repeat (first | exact Below.refl _ _ | assumption | refine Below.setCell ?_ (by (try simp); (try omega)) _ | refine Below.alloc ?_ (by (try simp); (try omega)) _ | refine below_setRow ?_ (by (try simp); (try omega)) _ | refine pw_below_drewN ?_ _ | refine Below.drew ?_))) hb3; obtain ⟨hc3, hf3⟩ := bcell hb3; have hd3 := blk_below hb3; have hs3 := hB3.size; have hz3_0 : w.heap.size < w3.heap.size := (by have hq := hb3.size; (try simp at hq); omega); have hy3_0 : w.heap.size ≠ w3.heap.size := Nat.ne_of_lt hz3_0; have hk3_0 := hd3 (w.heap.size) (by (try simp); (try omega)); (try simp (disch := first | omega | (simp; omega)) only [blk_setRow_far, blk_alloc_past, blk_setCell_far, blk_drewN, blk_drew] at hk3_0); (try simp (disch := first | assumption | omega | (simp; done) | (simp; omega)) only [blk_setRow_far, blk_alloc_past, blk_alloc_new, blk_alloc_at, blk_setCell_far, blk_drewN, blk_drew] at hk3_0); (try rw [hk2_0] at hk3_0); (try rw [hk1_0] at hk3_0)
  go_wp2_with fail
  refine (HA.out.awake (by (repeat (first | exact Below.refl _ _ | assumption | refine Below.setCell ?_ (by (try simp); (try omega)) _ | refine Below.alloc ?_ (by (try simp); (try omega)) _ | refine below_setRow ?_ (by (try simp); (try omega)) _ | refine pw_below_drewN ?_ _ | refine Below.drew ?_)))).mono ?_
  rintro e w5 ⟨rfl, hb5⟩; have hB5 := below_step (w := w) (by (repeat (first | exact Below.refl _ _ | assumption | refine Below.setCell ?_ (by (try simp); (try omega)) _ | refine Below.alloc ?_ (by (try simp); (try omega)) _ | refine below_setRow ?_ (by (try simp); (try omega)) _ | refine pw_below_drewN ?_ _ | refine Below.drew ?_))) hb5; obtain ⟨hc5, hf5⟩ := bcell hb5; have hd5 := blk_below hb5; have hs5 := hB5.size; have hz5_0 : w.heap.size < w5.heap.size := (by have hq := hb5.size; (try simp at hq); omega); have hy5_0 : w.heap.size ≠ w5.heap.size := Nat.ne_of_lt hz5_0; have hk5_0 := hd5 (w.heap.size) (by (try simp); (try omega)); (try simp (disch := first | omega | (simp; omega)) only [blk_setRow_far, blk_alloc_past, blk_setCell_far, blk_drewN, blk_drew] at hk5_0); (try simp (disch := first | assumption | omega | (simp; done) | (simp; omega)) only [blk_setRow_far, blk_alloc_past, blk_alloc_new, blk_alloc_at, blk_setCell_far, blk_drewN, blk_drew] at hk5_0); (try rw [hk4_0] at hk5_0); (try rw [hk3_0] at hk5_0); (try rw [hk2_0] at hk5_0); (try rw [hk1_0] at hk5_0)
  go_wp2
  go_ret
  exact ⟨rfl, hB5⟩
set_option maxRecDepth 100000 in
theorem EqualIsEquivalence_no3 {B : Nat} {w : World} {A A' A'' : Option Addr} {n n' n'' c c' c'' : Nat} {a b e : List (List Int)} (ha : ArgIn B w A n a) (hb : ArgIn B w A' n' b) (he : ArgIn B w A'' n'' e) (d wl ov : Int)
    (s1 : smallB a d wl = true)    (s2 : smallB b d wl = true)    (s3 : smallB e d wl = false) :
    Calls Tryd.prog 3 #[.slice A n c, .slice A' n' c', .slice A'' n'' c'', vLim d wl ov] w (VPost w (.bool true)) := by
  have HA := Lib.hid ha
  have HB := Lib.hid hb
  have HE := Lib.hid he
  have S1 := Lib.hid s1
  have S2 := Lib.hid s2
  have S3 := Lib.hid s3
  clear ha hb he s1 s2 s3
  go_enter Tryd.func3, Tryd.ntmps3
  go_wp2_with fail
  refine (HA.out.awake (by (repeat (first | exact Below.refl _ _ | assumption | refine Below.setCell ?_ (by (try simp); (try omega)) _ | refine Below.alloc ?_ (by (try simp); (try omega)) _ | refine below_setRow ?_ (by (try simp); (try omega)) _ | refine pw_below_drewN ?_ _ | refine Below.drew ?_)))).mono ?_
  rintro e w1 ⟨rfl, hb1⟩; have hB1 := below_step (w := w) (by (repeat (first | exact Below.refl _ _ | assumption | refine Below.setCell ?_ (by (try simp); (try omega)) _ | refine Below.alloc ?_ (by (try simp); (try omega)) _ | refine below_setRow ?_ (by (try simp); (try omega)) _ | refine pw_below_drewN ?_ _ | refine Below.drew ?_))) hb1; obtain ⟨hc1, hf1⟩ := bcell hb1; have hd1 := blk_below hb1; have hs1 := hB1.size; have hz1_0 : w.heap.size < w1.heap.size := (by have hq := hb1.size; (try simp at hq); omega); have hy1_0 : w.heap.size ≠ w1.heap.size := Nat.ne_of_lt hz1_0; have hk1_0 := hd1 (w.heap.size) (by (try simp); (try omega)); (try simp (disch := first | omega | (simp; omega)) only [blk_setRow_far, blk_alloc_past, blk_setCell_far, blk_drewN, blk_drew] at hk1_0); (try simp (disch := first | assumption | omega | (simp; done) | (simp; omega)) only [blk_setRow_far, blk_alloc_past, blk_alloc_new, blk_alloc_at, blk_setCell_far, blk_drewN, blk_drew] at hk1_0)
  go_wp2_with fail
  refine (HA.out.small (by (repeat (first | exact Below.refl _ _ | assumption | refine Below.setCell ?_ (by (try simp); (try omega)) _ | refine Below.alloc ?_ (by (try simp); (try omega)) _ | refine below_setRow ?_ (by (try simp); (try omega)) _ | refine pw_below_drewN ?_ _ | refine Below.drew ?_))) d wl ov).mono ?_
  rw [S1.out]
  rintro e w2 ⟨rfl, hb2⟩; have hB2 := below_step (w := w) (by (repeat (first | exact Below.refl _ _ | assumption | refine Below.setCell ?_ (by (try simp); (try omega)) _ | refine Below.alloc ?_ (by (try simp); (try omega)) _ | refine below_setRow ?_ (by (try simp); (try omega)) _ | refine pw_below_drewN ?_ _ | refine Below.drew ?_))) hb2; obtain ⟨hc2, hf2⟩ := bcell hb2; have hd2 := blk_below hb2; have hs2 := hB2.size; have hz2_0 : w.heap.size < w2.heap.size := (by have hq := hb2.size; (try simp at hq); omega); have hy2_0 : w.heap.size ≠ w2.heap.size := Nat.ne_of_lt hz2_0; have hk2_0 := hd2 (w.heap.size) (by (try simp); (try omega)); (try simp (disch := first | omega | (simp; omega)) only [blk_setRow_far, blk_alloc_past, blk_setCell_far, blk_drewN, blk_drew] at hk2_0); (try simp (disch := first | assumption | omega | (simp; done) | (simp; omega)) only [blk_setRow_far, blk_alloc_past, blk_alloc_new, blk_alloc_at, blk_setCell_far, blk_drewN, blk_drew] at hk2_0); (try rw [hk1_0] at hk2_0)
  go_wp2_with fail
  refine (HB.out.small (by (repeat (first | exact Below.refl _ _ | assumption | refine Below.setCell ?_ (by (try simp); (try omega)) _ | refine Below.alloc ?_ (by (try simp); (try omega)) _ | refine below_setRow ?_ (by (try simp); (try omega)) _ | refine pw_below_drewN ?_ _ | refine Below.drew ?_))) d wl ov).mono ?_
  rw [S2.out]
  rintro e w3 ⟨rfl, hb3⟩; have hB3 := below_step (w := w) (by (repeat (first | exact Below.refl _ _ | assumption | refine Below.setCell ?_ (by (try simp); (try omega)) _ | refine Below.alloc ?_ (by (try simp); (try omega)) _ | refine below_setRow ?_ (by (try simp); (try omega)) _ | refine pw_below_drewN ?_ _ | refine Below.drew ?_))) hb3; obtain ⟨hc3, hf3⟩ := bcell hb3; have hd3 := blk_below hb3; have hs3 := hB3.size; have hz3_0 : w.heap.size < w3.heap.size := (by have hq := hb3.size; (try simp at hq); omega); have hy3_0 : w.heap.size ≠ w3.heap.size := Nat.ne_of_lt hz3_0; have hk3_0 := hd3 (w.heap.size) (by (try simp); (try omega)); (try simp (disch := first | omega | (simp; omega)) only [blk_setRow_far, blk_alloc_past, blk_setCell_far, blk_drewN, blk_drew] at hk3_0); (try simp (disch := first | assumption | omega | (simp; done) | (simp; omega)) only [blk_setRow_far, blk_alloc_past, blk_alloc_new, blk_alloc_at, blk_setCell_far, blk_drewN, blk_drew] at hk3_0); (try rw [hk2_0] at hk3_0); (try rw [hk1_0] at hk3_0)
  go_wp2_with fail
  refine (HE.out.small (by (repeat (first | exact Below.refl _ _ | assumption | refine Below.setCell ?_ (by (try simp); (try omega)) _ | refine Below.alloc ?_ (by (try simp); (try omega)) _ | refine below_setRow ?_ (by (try simp); (try omega)) _ | refine pw_below_drewN ?_ _ | refine Below.drew ?_))) d wl ov).mono ?_
  rw [S3.out]
  rintro e w4 ⟨rfl, hb4⟩; have hB4 := below_step (w := w) (by (repeat (first | exact Below.refl _ _ | assumption | refine Below.setCell ?_ (by (try simp); (try omega)) _ | refine Below.alloc ?_ (by (try simp); (try omega)) _ | refine below_setRow ?_ (by (try simp); (try omega)) _ | refine pw_below_drewN ?_ _ | refine Below.drew ?_))) hb4; obtain ⟨hc4, hf4⟩ := bcell hb4; have hd4 := blk_below hb4; have hs4 := hB4.size; have hz4_0 : w.heap.size < w4.heap.size := (by have hq := hb4.size; (try simp at hq); omega); have hy4_0 : w.heap.size ≠ w4.heap.size := Nat.ne_of_lt hz4_0; have hk4_0 := hd4 (w.heap.size) (by (try simp); (try omega)); (try simp (disch := first | omega | (simp; omega)) only [blk_setRow_far, blk_alloc_past, blk_setCell_far, blk_drewN, blk_drew] at hk4_0); (try simp (disch := first | assumption | omega | (simp; done) | (simp; omega)) only [blk_setRow_far, blk_alloc_past, blk_alloc_new, blk_alloc_at, blk_setCell_far, blk_drewN, blk_drew] at hk4_0); (try rw [hk3_0] at hk4_0); (try rw [hk2_0] at hk4_0); (try rw [hk1_0] at hk4_0)
  go_wp2_with fail
  refine (HA.out.awake (by (repeat (first | exact Below.refl _ _ | assumption | refine Below.setCell ?_ (by (try simp); (try omega)) _ | refine Below.alloc ?_ (by (try simp); (try omega)) _ | refine below_setRow ?_ (by (try simp); (try omega)) _ | refine pw_below_drewN ?_ _ | refine Below.drew ?_)))).mono ?_
  rintro e w5 ⟨rfl, hb5⟩; have hB5 := below_step (w := w) (by (repeat (first | exact Below.refl _ _ | assumption | refine Below.setCell ?_ (by (try simp); (try omega)) _ | refine Below.alloc ?_ (by (try simp); (try omega)) _ | refine below_setRow ?_ (by (try simp); (try omega)) _ | refine pw_below_drewN ?_ _ | refine Below.drew ?_))) hb5; obtain ⟨hc5, hf5⟩ := bcell hb5; have hd5 := blk_below hb5; have hs5 := hB5.size; have hz5_0 : w.heap.size < w5.heap.size := (by have hq := hb5.size; (try simp at hq); omega); have hy5_0 : w.heap.size ≠ w5.heap.size := Nat.ne_of_lt hz5_0; have hk5_0 := hd5 (w.heap.size) (by (try simp); (try omega)); (try simp (disch := first | omega | (simp; omega)) only [blk_setRow_far, blk_alloc_past, blk_setCell_far, blk_drewN, blk_drew] at hk5_0); (try simp (disch := first | assumption | omega | (simp; done) | (simp; omega)) only [blk_setRow_far, blk_alloc_past, blk_alloc_new, blk_alloc_at, blk_setCell_far, blk_drewN, blk_drew] at hk5_0); (try rw [hk4_0] at hk5_0); (try rw [hk3_0] at hk5_0); (try rw [hk2_0] at hk5_0); (try rw [hk1_0] at hk5_0)
  go_wp2
  go_ret
  exact ⟨rfl, hB5⟩
theorem EqualIsEquivalence_any {B : Nat} {w : World} {A A' A'' : Option Addr} {n n' n'' c c' c'' : Nat} {a b e : List (List Int)} (ha : ArgIn B w A n a) (hb : ArgIn B w A' n' b) (he : ArgIn B w A'' n'' e) (d wl ov : Int) :
    Calls Tryd.prog 3 #[.slice A n c, .slice A' n' c', .slice A'' n'' c'', vLim d wl ov] w (VPost w (.bool true)) := by
  cases s1 : smallB a d wl with
  | false => exact EqualIsEquivalence_no1 ha hb he d wl ov s1
  | true =>
    cases s2 : smallB b d wl with
    | false => exact EqualIsEquivalence_no2 ha hb he d wl ov s1 s2
    | true =>
      cases s3 : smallB e d wl with
      | false => exact EqualIsEquivalence_no3 ha hb he d wl ov s1 s2 s3
      | true => exact EqualIsEquivalence_small ha hb he d wl ov s1 s2 s3
end Go.Proofs.YtelghkgnkncnoaaDoor
/- EqualIsEquivalence: for every input the law returns true, and what it reads stays as it was; what the listed variables hold is tied to the program's text. -/
set_option linter.unusedVariables false
namespace Go.Proofs.YtelghkgnkncnoaaDoor
open Go.ChangeShapes Go.WideShapes Go.ChangeAt Go.WideElems Go.RowKit
set_option maxRecDepth 100000 in
theorem EqualIsEquivalence_lifted (os : Os) (started : os.Started) (H : Type) (enc : TypeId × Value → H) :
    ReturnsInHanded {} Tryd.checked os 3 .any (fun w args => (Rows.equalIsEquivalenceSpec.pre enc Tryd.prog Tryd.f3 [] false w args ∧ laidMetH Tryd.prog laidH w) ∧ sizedMet enc Tryd.prog Tryd.f3 (OpenSpec.ofChange Rows.equalIsEquivalenceSpec) false w args)
      (Rows.equalIsEquivalenceSpec.post enc Tryd.prog Tryd.f3 false true false false) := by
  refine returnsInHanded_of_change_and (C := Tryd.checked) (X := fun w _ => laidMetH Tryd.prog laidH w) (fun _ _ _ hh h => h.of_heap hh) own started (by kernel_rfl) Tryd.func3
    (ChangeSpec.witness_shaped (enc := enc) (C := Tryd.checked) (os := os) (X := fun w _ => laidMetH Tryd.prog laidH w) false (World.doorLaid Tryd.prog 600 os) #[.slice none 0 0, .slice none 0 0, .slice none 0 0, .agg #[.int .i64 0, .int .i64 0, .int .i64 0]] 8 rfl (World.shaped_of_RefB (by kernel_rfl) (by kernel_rfl)) (by kernel_rfl) (by kernel_rfl) (by kernel_rfl) (door_met os _)) ?_
  intro W base args ds gs before hval0 hW _ _ hL _
  have hval : ∀ (j : Nat) t v, Tryd.f3.params[j]? = some t → args[j]? = some v → Value.okWide Tryd.prog W .any base t v := hval0
  have hW' := hW
  obtain ⟨p, q, hA0, hV, rfl, hfz, hnd⟩ := hW
  have hA : DataW.TrodAll enc Tryd.prog W 0 (fun _ => true) true Tryd.f3.params.toList args.toList ds p := hA0
  rw [Tryd.params3] at hA hval
  obtain ⟨v0, v1, v2, v3, d0, d1, d2, d3, p0, p1, p2, p3, rfl, rfl, rfl, h0, h1, h2, h3⟩ := trodAll_four hA
  obtain ⟨rfl, rfl⟩ := trodVars_none hV
  have hE := env_of_laid hL
  obtain ⟨A0, n0, c0, s0, rfl, a0⟩ := open_msg (hval 0 22 v0 rfl rfl) h0 hE
  obtain ⟨A1, n1, c1, s1, rfl, a1⟩ := open_msg (hval 1 22 v1 rfl rfl) h1 hE
  obtain ⟨A2, n2, c2, s2, rfl, a2⟩ := open_msg (hval 2 22 v2 rfl rfl) h2 hE
  obtain ⟨x, y, z, rfl⟩ := open_lim (hval 3 24 v3 rfl rfl) h3
  refine (EqualIsEquivalence_any (c := c0) (c' := c1) (c'' := c2) a0 a1 a2 x y z).mono fun e W' ⟨he, hw⟩ => ?_
  subst he
  exact ⟨_, rfl, law_post laidOutA rfl (of_decide_eq_true (by kernel_rfl)) hW' rfl (by kernel_rfl) Tryd.underlying4 hw⟩
theorem equalIsEquivalence_holds : Rows.EqualIsEquivalenceSaid :=
  OpenClaim.holds_of_wide 3 Tryd.f3 rfl rfl rfl rfl rfl rfl rfl ⟨rfl, rfl, rfl, rfl, rfl⟩ rfl rfl rfl rfl rfl (by kernel_rfl) Tryd.func3 (by kernel_rfl)
    (of_decide_eq_true (by kernel_rfl)) (by unfold Func.isWrapper; first | (rw [if_pos (by decide +kernel)]; kernel_rfl) | (rw [if_neg (by decide +kernel)]; exact ⟨rfl, rfl⟩))
    (fun os started H enc _ => EqualIsEquivalence_lifted os started H enc)
theorem equalIsEquivalence_card : Rows.EqualIsEquivalenceCardSaid :=
  Claim7.holds_tied_plain_at .later [] [.funcs, .data] true (true, "6ec70fd0edd24abb5d337bde79ef0bb013abfad9384bdde4bb9ae22e5d9e36aa") true
    equalIsEquivalence_holds (fun _ h => by cases h) (by kernel_rfl) (fun _ h => by cases h) equalIsEquivalence_row_tie rfl ⟨rfl, rfl⟩ (by kernel_rfl) rfl
    (fun f fn hf hfn => by
      obtain rfl : f = 3 := Option.some.inj ((show Tryd.prog.funcNamed "capnp/capnplaw17.EqualIsEquivalence" = some 3 by kernel_rfl).symm.trans hf) |>.symm
      obtain rfl : fn = Tryd.f3 := (Option.some.inj (Tryd.func3.symm.trans hfn)).symm
      exact ⟨by kernel_rfl, fun j t ht => by
        rw [Tryd.params3] at ht
        have hm : t ∈ [22, 22, 22, 24] := by simpa using Array.mem_of_getElem? ht
        have hall : ([22, 22, 22, 24].all fun u => !Tryd.prog.wantsStandIn u) = true := by kernel_rfl
        exact (show Tryd.prog.wantsStandIn t = false by simpa using List.all_eq_true.1 hall t hm)⟩)
    (by kernel_rfl)
#print axioms equalIsEquivalence_card
end Go.Proofs.YtelghkgnkncnoaaDoor
