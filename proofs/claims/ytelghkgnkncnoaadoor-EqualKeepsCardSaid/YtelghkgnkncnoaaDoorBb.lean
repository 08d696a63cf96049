/- A part of the proof: the texts W5 W6 W7 joined. -/
import Derived.Test.YtelghkgnkncnoaaDoorBa
import Derived.Test.YtelghkgnkncnoaaDoorDa
/- Contract of far.double. -/
set_option linter.unusedVariables false
set_option linter.unusedSimpArgs false
namespace Go.Proofs.YtelghkgnkncnoaaDoor
open Go.RowKit
theorem mixed : Tryd.prog.follows .mixedOrders = true := by kernel_rfl
/-- two words, read out of a slice of two -/
def Sl2Post (w : World) (x y : Int) (e : Ending) (w' : World) : Prop :=
  ∃ b o c, e = .returned (.tuple #[.slice (some ⟨b, o, none⟩) 2 c, .bool true]) ∧ b < w'.heap.size ∧ w'.cell? ⟨b, o, none⟩ = some (.int .u64 x) ∧ w'.cell? ⟨b, o + 1, none⟩ = some (.int .u64 y) ∧ Below w.heap.size w w'
theorem Slice2 {B : Nat} {w : World} {A : Option Addr} {n c : Nat} {ss : List (List Int)} (hS : RS B w A n ss) (hw : WFS ss) (hB : B ≤ w.heap.size) (seg at_ : Int) (hb : inB ss seg at_ 2 = true) :
    Calls Tryd.prog 127 #[.slice A n c, .int .i64 seg, .int .i64 at_, .int .i64 2] w (Sl2Post w (wordAt ss seg at_) (wordAt ss seg (at_ + 1))) := by
  refine (Slice_yes hS hw hB seg at_ 2 hb).mono ?_
  rintro e w' ⟨A', c', rfl, hlc, ⟨_, hR⟩, hbel⟩
  have hl : (rangeAt ss seg at_ 2).length = 2 := rangeAt_length hb
  rw [hl] at hR ⊢
  obtain ⟨b, o, rfl, hbs, hc⟩ := hR (by omega)
  obtain ⟨h0, h1, h2, h3, h4, h5⟩ := inB_of hb
  refine ⟨b, o, c', rfl, hbs, ?_, ?_, hbel⟩
  · have := hc 0 (by omega)
    rw [Nat.add_zero] at this
    rw [this]; unfold rangeAt wordAt
    rw [show (2 : Int).toNat = 2 from rfl, getD_drop_take _ _ _ _ (by omega)]; rfl
  · have := hc 1 (by omega)
    rw [this]; unfold rangeAt wordAt
    rw [show (2 : Int).toNat = 2 from rfl, getD_drop_take _ _ _ _ (by omega), show (at_ + 1).toNat = at_.toNat + 1 from by omega]
set_option maxRecDepth 100000 in
set_option maxHeartbeats 4000000 in
theorem double_any {B : Nat} {w : World} {A : Option Addr} {n c : Nat} {ss : List (List Int)} (hE : Env B w) (hB : B ≤ w.heap.size) (hS : RS B w A n ss) (hw : WFS ss) (x : Int) (hx : U64 x) :
    Calls Tryd.prog 132 #[.slice A n c, .int .u64 x] w (VPost w (.tuple #[.agg #[.int .u64 (double ss x).w, .int .i64 (double ss x).seg, .int .i64 (double ss x).base], .int .i64 (double ss x).err])) := by
  have HL := Lib.hid (fun o => Landing_any (w := w.alloc o) (hE.mono ((Below.refl _ _).alloc hB o) (Nat.le_refl _)) (by simp; omega) x hx)
  obtain ⟨s0, s1⟩ := (decodeI_in x).seg
  obtain ⟨p0, p1⟩ := (decodeI_in x).pad
  have HE := Lib.hid hE
  have HS := Lib.hid hS
  have Hw := Lib.hid hw
  have Hx := Lib.hid hx
  clear hE hS hx hw
  by_cases hb : inB ss (decodeI x).seg (decodeI x).pad 2 = true
  · have HU := Lib.hid (wordAt_U64 Hw.out (decodeI x).seg (decodeI x).pad)
    have HU2 := Lib.hid (wordAt_U64 Hw.out (decodeI x).seg ((decodeI x).pad + 1))
    have Hb := Lib.hid hb
    clear hb
    go_enter Tryd.func132, Tryd.ntmps132
    go_wp2_with (first | (go_at_call 167; refine (HL.out _).mono ?_; rintro e w1 ⟨rfl, hb1⟩; have hB1 := below_step (w := w) (by (repeat (first | exact Below.refl _ _ | assumption | refine Below.setCell ?_ (by (try simp); (try omega)) _ | refine Below.alloc ?_ (by (try simp); (try omega)) _ | refine below_setRow ?_ (by (try simp); (try omega)) _ | refine pw_below_drewN ?_ _ | refine Below.drew ?_))) hb1; obtain ⟨hc1, hf1⟩ := bcell hb1; have hd1 := blk_below hb1; have hs1 := hB1.size; have hz1_0 : w.heap.size < w1.heap.size := (by have hq := hb1.size; (try simp at hq); omega); have hy1_0 : w.heap.size ≠ w1.heap.size := Nat.ne_of_lt hz1_0; have hk1_0 := hd1 (w.heap.size) (by (try simp); (try omega)); (try simp (disch := first | omega | (simp; omega)) only [blk_setRow_far, blk_alloc_past, blk_setCell_far, blk_drewN, blk_drew] at hk1_0)) |
        (go_at_call 127; refine (Slice2 (HS.out.mono (hB1.mono hB) (Nat.le_refl _)) Hw.out (Nat.le_trans hB hB1.size) _ _ Hb.out).mono ?_; rintro e w2 ⟨b2, o2, c2, rfl, hbs, hx0, hx1, hb2⟩; have hB2 := below_step (w := w) (by (repeat (first | exact Below.refl _ _ | assumption | refine Below.setCell ?_ (by (try simp); (try omega)) _ | refine Below.alloc ?_ (by (try simp); (try omega)) _ | refine below_setRow ?_ (by (try simp); (try omega)) _ | refine pw_below_drewN ?_ _ | refine Below.drew ?_))) hb2; obtain ⟨hc2, hf2⟩ := bcell hb2; have hd2 := blk_below hb2; have hs2 := hB2.size; have hz2_0 : w.heap.size < w2.heap.size := (by have hq := hb2.size; (try simp at hq); omega); have hy2_0 : w.heap.size ≠ w2.heap.size := Nat.ne_of_lt hz2_0; have hk2_0 := hd2 (w.heap.size) (by (try simp); (try omega)); (try simp (disch := first | omega | (simp; omega)) only [blk_setRow_far, blk_alloc_past, blk_setCell_far, blk_drewN, blk_drew] at hk2_0)))
    have hB2' : Below B w w2 := hB2.mono hB
    have HBz := Nat.le_trans hB hB2.size
    have HEw := Lib.hid (HE.out.mono hB2' HBz)
    have hD3 : (((decodeI (wordAt ss (decodeI x).seg (decodeI x).pad)).kind != 2) || (decodeI (wordAt ss (decodeI x).seg (decodeI x).pad)).double || decide (1 < (decodeI (wordAt ss (decodeI x).seg ((decodeI x).pad + 1))).kind) || ((decodeI (wordAt ss (decodeI x).seg ((decodeI x).pad + 1))).offset != 0)) = true → double ss x = ⟨0, 0, 0, 3⟩ := fun h => by
      unfold double; simp only [Hb.out, Bool.true_eq_false, if_false]; rw [if_pos h]
    have hD0 : (((decodeI (wordAt ss (decodeI x).seg (decodeI x).pad)).kind != 2) || (decodeI (wordAt ss (decodeI x).seg (decodeI x).pad)).double || decide (1 < (decodeI (wordAt ss (decodeI x).seg ((decodeI x).pad + 1))).kind) || ((decodeI (wordAt ss (decodeI x).seg ((decodeI x).pad + 1))).offset != 0)) = false → double ss x = ⟨wordAt ss (decodeI x).seg ((decodeI x).pad + 1), (decodeI (wordAt ss (decodeI x).seg (decodeI x).pad)).seg, (decodeI (wordAt ss (decodeI x).seg (decodeI x).pad)).pad, 0⟩ := fun h => by
      unfold double; simp only [Hb.out, Bool.true_eq_false, if_false]; rw [if_neg (by rw [h]; decide)]
    generalize hX0 : wordAt ss (decodeI x).seg (decodeI x).pad = X0 at *
    generalize hX1 : wordAt ss (decodeI x).seg ((decodeI x).pad + 1) = X1 at *
    have HD3 := Lib.hid hD3
    have HD0 := Lib.hid hD0
    clear hD3 hD0
    refine wp_region_free' 10 mixed (by kernel_rfl) (fun a b => Below a.heap.size a b) ((Below.refl _ _).drew) (fun a b c h k => h.trans (k.mono h.size))
      (fun i v W => match i with
        | 0 => v = .slice (some ⟨b2, o2, none⟩) 2 c2 | 1 => v = .pointer (some ⟨b2, o2, none⟩) | 2 => v = .int .u64 X0 | 3 => v = vPtr (decodeI X0)
        | 4 => v = .slice (some ⟨b2, o2, none⟩) 2 c2 | 5 => v = .pointer (some ⟨b2, o2 + 1, none⟩) | 6 => v = .int .u64 X1 | 7 => v = vPtr (decodeI X1)
        | _ => ∃ g cs, v = .pointer (some ⟨g, 0, none⟩) ∧ w2.heap.size ≤ g ∧ g < W.heap.size ∧ cs.size = 10 ∧ blk W g = some (.cells cs 95 (0, 0)))
      (fun j i v v' => j = 8 → i = 9 → v ≠ v') ?_ ?_ ?_
    · intro i hi v W W' h hle
      have hi' : i = 0 ∨ i = 1 ∨ i = 2 ∨ i = 3 ∨ i = 4 ∨ i = 5 ∨ i = 6 ∨ i = 7 ∨ i = 8 ∨ i = 9 := by omega
      rcases hi' with rfl | rfl | rfl | rfl | rfl | rfl | rfl | rfl | rfl | rfl
      all_goals first | exact h | (obtain ⟨g, cs, h1, h2, h3, h4, h5⟩ := h; exact ⟨g, cs, h1, h2, Nat.lt_of_lt_of_le h3 hle.size, h4, (blk_below hle g h3).trans h5⟩)
    · intro i hi a w hle hdf hag L hR hn
      clear hdf
      have hbs' : b2 < w.heap.size := Nat.lt_of_lt_of_le hbs hle.size
      have hx0' : w.cell? ⟨b2, o2, none⟩ = some (.int .u64 X0) := ((bcell hle).1 _ _ hbs).trans hx0
      have hx1' : w.cell? ⟨b2, o2 + 1, none⟩ = some (.int .u64 X1) := ((bcell hle).1 _ _ hbs).trans hx1
      have hi' : i = 0 ∨ i = 1 ∨ i = 2 ∨ i = 3 ∨ i = 4 ∨ i = 5 ∨ i = 6 ∨ i = 7 ∨ i = 8 ∨ i = 9 := by omega
      rcases hi' with rfl | rfl | rfl | rfl | rfl | rfl | rfl | rfl | rfl | rfl
      · have e8 := hag 8 rfl
        refine FreeOp.of _ rfl rfl _ rfl fun K hK => ?_
        go_simp
        exact hK _ _ rfl (Below.refl _ _) (fun j _ _ hj => ⟨fun _ h => by omega, fun h => by omega⟩)
      · have e27 : a.tmps.getD 27 undef = _ := hR 0 (by omega) (hn 0 rfl)
        refine FreeOp.of _ rfl rfl _ rfl fun K hK => ?_
        go_simp
        exact hK _ _ rfl (Below.refl _ _) (fun j _ _ hj => ⟨fun _ h => by omega, fun h => by omega⟩)
      · have e27 : a.tmps.getD 28 undef = _ := hR 1 (by omega) (hn 1 rfl)
        refine FreeOp.of _ rfl rfl _ rfl fun K hK => ?_
        go_simp
        exact hK _ _ rfl (Below.refl _ _) (fun j _ _ hj => ⟨fun _ h => by omega, fun h => by omega⟩)
      · have e27 : a.tmps.getD 29 undef = _ := hR 2 (by omega) (hn 2 rfl)
        refine FreeOp.of _ rfl rfl _ rfl fun K hK => ?_
        go_simp
        refine (Decode_any (HEw.out.mono hle (Nat.le_refl _)) hle.size X0 (hX0 ▸ HU.out)).mono ?_
        rintro e w' ⟨rfl, hb⟩
        exact hK _ _ rfl hb (fun j _ _ hj => ⟨fun _ h => by omega, fun h => by omega⟩)
      · have e8 := hag 8 rfl
        refine FreeOp.of _ rfl rfl _ rfl fun K hK => ?_
        go_simp
        exact hK _ _ rfl (Below.refl _ _) (fun j _ _ hj => ⟨fun _ h => by omega, fun h => by omega⟩)
      · have e27 : a.tmps.getD 31 undef = _ := hR 4 (by omega) (hn 4 rfl)
        refine FreeOp.of _ rfl rfl _ rfl fun K hK => ?_
        go_simp
        exact hK _ _ rfl (Below.refl _ _) (fun j _ _ hj => ⟨fun _ h => by omega, fun h => by omega⟩)
      · have e27 : a.tmps.getD 32 undef = _ := hR 5 (by omega) (hn 5 rfl)
        refine FreeOp.of _ rfl rfl _ rfl fun K hK => ?_
        go_simp
        exact hK _ _ rfl (Below.refl _ _) (fun j _ _ hj => ⟨fun _ h => by omega, fun h => by omega⟩)
      · have e27 : a.tmps.getD 33 undef = _ := hR 6 (by omega) (hn 6 rfl)
        refine FreeOp.of _ rfl rfl _ rfl fun K hK => ?_
        go_simp
        refine (Decode_any (HEw.out.mono hle (Nat.le_refl _)) hle.size X1 (hX1 ▸ HU2.out)).mono ?_
        rintro e w' ⟨rfl, hb⟩
        exact hK _ _ rfl hb (fun j _ _ hj => ⟨fun _ h => by omega, fun h => by omega⟩)
      · refine FreeOp.of _ rfl rfl _ rfl fun K hK => ?_
        go_simp
        refine hK _ _ ⟨w.heap.size, _, rfl, hle.size, by simp, rfl, blk_alloc_new _ _⟩ ((Below.refl _ _).alloc (Nat.le_refl _) _) (fun j hj hL hj8 => ⟨fun h => by omega, fun _ h => ?_⟩)
        subst h
        obtain ⟨g, cs, h1, h2, h3, h4, h5⟩ := hR 9 (by omega) hL
        rw [h1]; intro he; injection he with he; injection he with he; injection he; omega
      · refine FreeOp.of _ rfl rfl _ rfl fun K hK => ?_
        go_simp
        refine hK _ _ ⟨w.heap.size, _, rfl, hle.size, by simp, rfl, blk_alloc_new _ _⟩ ((Below.refl _ _).alloc (Nat.le_refl _) _) (fun j hj hL hj8 => ⟨fun h _ => ?_, fun h => by omega⟩)
        subst h
        obtain ⟨g, cs, h1, h2, h3, h4, h5⟩ := hR 8 (by omega) hL
        rw [h1]; intro he; injection he with he; injection he with he; injection he; omega
    · intro vs w3 hle hR hD
      have e0 : vs 0 = _ := hR 0 (by omega)
      have e1 : vs 1 = _ := hR 1 (by omega)
      have e2 : vs 2 = _ := hR 2 (by omega)
      have e3 : vs 3 = _ := hR 3 (by omega)
      have e4 : vs 4 = _ := hR 4 (by omega)
      have e5 : vs 5 = _ := hR 5 (by omega)
      have e6 : vs 6 = _ := hR 6 (by omega)
      have e7 : vs 7 = _ := hR 7 (by omega)
      obtain ⟨g8, cs8, e8, h81, h82, h83, h84⟩ := hR 8 (by omega)
      obtain ⟨g9, cs9, e9, h91, h92, h93, h94⟩ := hR 9 (by omega)
      have hne : g8 ≠ g9 := fun h => hD 8 9 (by omega) (by omega) (by omega) rfl rfl (by rw [e8, e9, h])
      simp only [putAll, slotOf, e0, e1, e2, e3, e4, e5, e6, e7, e8, e9]
      have HZ := Lib.hid (And.intro h82 h92)
      have hne' : g9 ≠ g8 := fun h => hne h.symm
      have hr8 : w.heap.size ≠ g8 := by omega
      have hr9 : w.heap.size ≠ g9 := by omega
      have hr8' : g8 ≠ w.heap.size := by omega
      have hq8 : b2 ≠ g8 := by omega
      have hq9 : b2 ≠ g9 := by omega
      have hr9' : g9 ≠ w.heap.size := by omega
      have hB3 := below_step hB2 hle
      obtain ⟨hc3, hf3⟩ := bcell hle
      have hd3 := blk_below hle
      clear hR hD e0 e1 e2 e3 e4 e5 e6 e7 e8 e9 h82 h92
      obtain ⟨q0, q1⟩ := (decodeI_in X0).seg
      by_cases t1 : ((decodeI X0).kind != 2) = true
      · have Hd := Lib.hid (HD3.out (by rw [t1]; simp))
        go_wp2
        refine bodyPost_ret (v := .tuple #[.agg #[.int .u64 0, .int .i64 0, .int .i64 0], .int .i64 3]) ((results_blk2 _ st_place rfl _ (w.heap.size ) rfl (by simp [go_sem, hd3, hd2, hd1, hz1_0, hz2_0, hr8, hr9, hr8', hr9', hne, hne', h84, h94, h83, h93]) (by simp [go_sem, hd3, hd2, hd1, hz1_0, hz2_0, hr8, hr9, hr8', hr9', hne, hne', h84, h94, h83, h93])).trans (by simp [go_sem, hd3, hd2, hd1, hz1_0, hz2_0, hr8, hr9, hr8', hr9', hne, hne', h84, h94, h83, h93]; try omega)) rfl ⟨by rw [Hd.out], ?_⟩
        (repeat (first | exact Below.refl _ _ | assumption | refine Below.setCell ?_ (by (try simp); (try omega)) _ | refine Below.alloc ?_ (by (try simp); (try omega)) _ | refine below_setRow ?_ (by (try simp); (try omega)) _ | refine pw_below_drewN ?_ _ | refine Below.drew ?_))
      have t1' : ((decodeI X0).kind != 2) = false := by simpa using t1
      clear t1
      by_cases t2 : (decodeI X0).double = true
      · have Hd := Lib.hid (HD3.out (by rw [t2]; simp))
        go_wp2
        refine bodyPost_ret (v := .tuple #[.agg #[.int .u64 0, .int .i64 0, .int .i64 0], .int .i64 3]) ((results_blk2 _ st_place rfl _ (w.heap.size ) rfl (by simp [go_sem, hd3, hd2, hd1, hz1_0, hz2_0, hr8, hr9, hr8', hr9', hne, hne', h84, h94, h83, h93]) (by simp [go_sem, hd3, hd2, hd1, hz1_0, hz2_0, hr8, hr9, hr8', hr9', hne, hne', h84, h94, h83, h93])).trans (by simp [go_sem, hd3, hd2, hd1, hz1_0, hz2_0, hr8, hr9, hr8', hr9', hne, hne', h84, h94, h83, h93]; try omega)) rfl ⟨by rw [Hd.out], ?_⟩
        (repeat (first | exact Below.refl _ _ | assumption | refine Below.setCell ?_ (by (try simp); (try omega)) _ | refine Below.alloc ?_ (by (try simp); (try omega)) _ | refine below_setRow ?_ (by (try simp); (try omega)) _ | refine pw_below_drewN ?_ _ | refine Below.drew ?_))
      have t2' : (decodeI X0).double = false := by simpa using t2
      clear t2
      by_cases t3 : 1 < (decodeI X1).kind
      · have Hd := Lib.hid (HD3.out (by simp [t3]))
        go_wp2
        refine bodyPost_ret (v := .tuple #[.agg #[.int .u64 0, .int .i64 0, .int .i64 0], .int .i64 3]) ((results_blk2 _ st_place rfl _ (w.heap.size ) rfl (by simp [go_sem, hd3, hd2, hd1, hz1_0, hz2_0, hr8, hr9, hr8', hr9', hne, hne', h84, h94, h83, h93]) (by simp [go_sem, hd3, hd2, hd1, hz1_0, hz2_0, hr8, hr9, hr8', hr9', hne, hne', h84, h94, h83, h93])).trans (by simp [go_sem, hd3, hd2, hd1, hz1_0, hz2_0, hr8, hr9, hr8', hr9', hne, hne', h84, h94, h83, h93]; try omega)) rfl ⟨by rw [Hd.out], ?_⟩
        (repeat (first | exact Below.refl _ _ | assumption | refine Below.setCell ?_ (by (try simp); (try omega)) _ | refine Below.alloc ?_ (by (try simp); (try omega)) _ | refine below_setRow ?_ (by (try simp); (try omega)) _ | refine pw_below_drewN ?_ _ | refine Below.drew ?_))
      by_cases t4 : ((decodeI X1).offset != 0) = true
      · have Hd := Lib.hid (HD3.out (by rw [t4]; simp))
        go_wp2
        refine bodyPost_ret (v := .tuple #[.agg #[.int .u64 0, .int .i64 0, .int .i64 0], .int .i64 3]) ((results_blk2 _ st_place rfl _ (w.heap.size ) rfl (by simp [go_sem, hd3, hd2, hd1, hz1_0, hz2_0, hr8, hr9, hr8', hr9', hne, hne', h84, h94, h83, h93]) (by simp [go_sem, hd3, hd2, hd1, hz1_0, hz2_0, hr8, hr9, hr8', hr9', hne, hne', h84, h94, h83, h93])).trans (by simp [go_sem, hd3, hd2, hd1, hz1_0, hz2_0, hr8, hr9, hr8', hr9', hne, hne', h84, h94, h83, h93]; try omega)) rfl ⟨by rw [Hd.out], ?_⟩
        (repeat (first | exact Below.refl _ _ | assumption | refine Below.setCell ?_ (by (try simp); (try omega)) _ | refine Below.alloc ?_ (by (try simp); (try omega)) _ | refine below_setRow ?_ (by (try simp); (try omega)) _ | refine pw_below_drewN ?_ _ | refine Below.drew ?_))
      have t4' : ((decodeI X1).offset != 0) = false := by simpa using t4
      clear t4
      have Hd := Lib.hid (HD0.out (by rw [t1', t2', t4', decide_eq_false t3]; rfl))
      go_wp2
      refine wp_region_splitN 9 mixed (by kernel_rfl) ?_; simp only [List.take_succ_cons, List.take_zero, List.drop_succ_cons, List.drop_zero]; (repeat (quiet_step (fail))); refine wpQuiet_nil ?_; rintro _ ⟨nq, rfl⟩
      go_wp2
      refine bodyPost_ret (v := .tuple #[.agg #[.int .u64 X1, .int .i64 (decodeI X0).seg, .int .i64 (decodeI X0).pad], .int .i64 0]) ((results_blk2 _ st_place rfl _ (w.heap.size ) rfl (by simp [go_sem, hd3, hd2, hd1, hz1_0, hz2_0, hr8, hr9, hr8', hr9', hne, hne', h84, h94, h83, h93]) (by simp [go_sem, hd3, hd2, hd1, hz1_0, hz2_0, hr8, hr9, hr8', hr9', hne, hne', h84, h94, h83, h93])).trans (by simp [go_sem, hd3, hd2, hd1, hz1_0, hz2_0, hr8, hr9, hr8', hr9', hne, hne', h84, h94, h83, h93]; try omega)) rfl ⟨by rw [Hd.out], ?_⟩
      (repeat (first | exact Below.refl _ _ | assumption | refine Below.setCell ?_ (by (try simp); (try omega)) _ | refine Below.alloc ?_ (by (try simp); (try omega)) _ | refine below_setRow ?_ (by (try simp); (try omega)) _ | refine pw_below_drewN ?_ _ | refine Below.drew ?_))
  · have hb' : inB ss (decodeI x).seg (decodeI x).pad 2 = false := by simpa using hb
    have hs : double ss x = ⟨0, 0, 0, 2⟩ := by unfold double; simp only [hb', if_true]
    rw [hs]
    have Hb := Lib.hid hb'
    clear hb hb' hs
    go_enter Tryd.func132, Tryd.ntmps132
    go_wp2_with (first | (go_at_call 167; refine (HL.out _).mono ?_; rintro e w1 ⟨rfl, hb1⟩; have hB1 := below_step (w := w) (by (repeat (first | exact Below.refl _ _ | assumption | refine Below.setCell ?_ (by (try simp); (try omega)) _ | refine Below.alloc ?_ (by (try simp); (try omega)) _ | refine below_setRow ?_ (by (try simp); (try omega)) _ | refine pw_below_drewN ?_ _ | refine Below.drew ?_))) hb1; obtain ⟨hc1, hf1⟩ := bcell hb1; have hd1 := blk_below hb1; have hs1 := hB1.size; have hz1_0 : w.heap.size < w1.heap.size := (by have hq := hb1.size; (try simp at hq); omega); have hy1_0 : w.heap.size ≠ w1.heap.size := Nat.ne_of_lt hz1_0; have hk1_0 := hd1 (w.heap.size) (by (try simp); (try omega)); (try simp (disch := first | omega | (simp; omega)) only [blk_setRow_far, blk_alloc_past, blk_setCell_far, blk_drewN, blk_drew] at hk1_0)) |
      (go_at_call 127; refine (Slice_no (HS.out.mono (hB1.mono hB) (Nat.le_refl _)) Hw.out _ _ _ Hb.out).mono ?_; rintro e w2 ⟨rfl, rfl⟩))
    refine bodyPost_ret (v := .tuple #[.agg #[.int .u64 0, .int .i64 0, .int .i64 0], .int .i64 2]) ((results_blk2 _ st_place rfl _ (w.heap.size ) rfl (by simp [go_sem, hd1, hz1_0]) (by simp [go_sem, hd1, hz1_0])).trans (by simp [go_sem, hd1, hz1_0]; try omega)) rfl ⟨rfl, ?_⟩
    (repeat (first | exact Below.refl _ _ | assumption | refine Below.setCell ?_ (by (try simp); (try omega)) _ | refine Below.alloc ?_ (by (try simp); (try omega)) _ | refine below_setRow ?_ (by (try simp); (try omega)) _ | refine pw_below_drewN ?_ _ | refine Below.drew ?_))
end Go.Proofs.YtelghkgnkncnoaaDoor
/- Contract of far.Follow. -/
set_option linter.unusedVariables false
set_option linter.unusedSimpArgs false
namespace Go.Proofs.YtelghkgnkncnoaaDoor
open Go.RowKit
theorem run_eq_u64 (a a' : Int) (W : World) : (Op.equalIn 9999 36 (.int .u64 a) (.int .u64 a')).run Tryd.prog W = .ok (a == a') W := by
  rw [show 9999 = 9998 + 1 from rfl, Op.equalIn]; simp
theorem run_eq_i64 (a a' : Int) (W : World) : (Op.equalIn 9999 3 (.int .i64 a) (.int .i64 a')).run Tryd.prog W = .ok (a == a') W := by
  rw [show 9999 = 9998 + 1 from rfl, Op.equalIn]; simp
theorem run_eq_place (a b c a' b' c' : Int) (W : World) : (Op.equal 168 (.agg #[.int .u64 a, .int .i64 b, .int .i64 c]) (.agg #[.int .u64 a', .int .i64 b', .int .i64 c'])).run Tryd.prog W = .ok (a == a' && (b == b' && c == c')) W := by
  have e0 : ∀ (a b c : Int) (W : World), (part 36 #[.int .u64 a, .int .i64 b, .int .i64 c] 0).run Tryd.prog W = .ok (.int .u64 a) W := fun _ _ _ _ => by kernel_rfl
  have e1 : ∀ (a b c : Int) (W : World), (part 3 #[.int .u64 a, .int .i64 b, .int .i64 c] 1).run Tryd.prog W = .ok (.int .i64 b) W := fun _ _ _ _ => by kernel_rfl
  have e2 : ∀ (a b c : Int) (W : World), (part 3 #[.int .u64 a, .int .i64 b, .int .i64 c] 2).run Tryd.prog W = .ok (.int .i64 c) W := fun _ _ _ _ => by kernel_rfl
  cases h1 : a == a' <;> cases h2 : b == b' <;> cases h3 : c == c'
  all_goals simp only [Op.equal, Op.maxDepth]
  all_goals rw [Op.equalIn]
  all_goals simp [h1, h2, h3, e0, e1, e2, run_eq_u64, run_eq_i64]
  done
@[go_sem] def cellsOf (x : Value) : Array Value := match x with
  | .agg cs => cs
  | _ => #[]
@[go_sem] def isInt (k : IntKind) (x : Value) : Bool := match x with
  | .int k' _ => k' == k
  | _ => false
@[go_sem] def numOf (x : Value) : Int := match x with
  | .int _ n => n
  | _ => 0
@[go_sem] def isPlace (x : Value) : Bool := (cellsOf x).size == 3 && (isInt .u64 ((cellsOf x).getD 0 undef) && (isInt .i64 ((cellsOf x).getD 1 undef) && isInt .i64 ((cellsOf x).getD 2 undef)))
@[go_sem] def eqPlace (x y : Value) : Bool := numOf ((cellsOf x).getD 0 undef) == numOf ((cellsOf y).getD 0 undef) && (numOf ((cellsOf x).getD 1 undef) == numOf ((cellsOf y).getD 1 undef) && numOf ((cellsOf x).getD 2 undef) == numOf ((cellsOf y).getD 2 undef))
theorem isInt_of {k : IntKind} {x : Value} (h : isInt k x = true) : x = .int k (numOf x) := by
  cases x <;> simp_all [isInt, numOf]
theorem isPlace_of {x : Value} (h : isPlace x = true) : x = .agg #[.int .u64 (numOf ((cellsOf x).getD 0 undef)), .int .i64 (numOf ((cellsOf x).getD 1 undef)), .int .i64 (numOf ((cellsOf x).getD 2 undef))] := by
  simp only [isPlace, Bool.and_eq_true, beq_iff_eq] at h
  obtain ⟨h0, h1, h2, h3⟩ := h
  cases x with
  | agg cs =>
    simp only [cellsOf] at *
    congr 1
    apply Array.ext
    · simp [h0]
    · intro i hi hi'
      have : i = 0 ∨ i = 1 ∨ i = 2 := by omega
      rcases this with rfl | rfl | rfl
      · have := isInt_of h1; simpa [Array.getD_eq_getD_getElem?, hi] using this
      · have := isInt_of h2; simpa [Array.getD_eq_getD_getElem?, hi] using this
      · have := isInt_of h3; simpa [Array.getD_eq_getD_getElem?, hi] using this
  | _ => simp [cellsOf] at h0
@[go_sem ↓] theorem xe_place (a : Act) (dst : Option Tmp) (x y : Operand) (r t : TypeId) (pos : String) (after : Array Edge) (gd : Option (Nat × Bool)) (w : World) (h : (isPlace (a.eval x) && isPlace (a.eval y)) = true) :
    (execOp a.eval ⟨dst, .binOp .eql 168 x y r, t, pos, after, gd⟩).run Tryd.prog w = .ok (.value (.bool (eqPlace (a.eval x) (a.eval y)))) w := by
  simp only [execOp]
  generalize a.eval x = X at *
  generalize a.eval y = Y at *
  simp only [Bool.and_eq_true] at h
  obtain ⟨hX, hY⟩ := h
  have hg : ∀ xs ys W, (eqGuard .eql 168 x y (.agg xs) (.agg ys)).run Tryd.prog W = .ok () W := fun xs ys W => by
    have hz : Tryd.prog.eqGuardType Tryd.prog.depth 168 = false := by kernel_rfl
    simp [eqGuard, hz]
  have h1 := isPlace_of hX
  have h2 := isPlace_of hY
  unfold eqPlace
  generalize numOf ((cellsOf X).getD 0 undef) = p0 at *
  generalize numOf ((cellsOf X).getD 1 undef) = p1 at *
  generalize numOf ((cellsOf X).getD 2 undef) = p2 at *
  generalize numOf ((cellsOf Y).getD 0 undef) = q0 at *
  generalize numOf ((cellsOf Y).getD 1 undef) = q1 at *
  generalize numOf ((cellsOf Y).getD 2 undef) = q2 at *
  subst h1 h2
  simp only [Sem.run_bind, hg, Result.andThen_ok, binOp, run_eq_place, Sem.run_pure]
theorem single_err (ss : List (List Int)) (x : Int) (h : (single ss x).err ≠ 0) : single ss x = ⟨0, 0, 0, (single ss x).err⟩ := by
  revert h; unfold single; dsimp only; (repeat' split) <;> simp
theorem double_err (ss : List (List Int)) (x : Int) (h : (double ss x).err ≠ 0) : double ss x = ⟨0, 0, 0, (double ss x).err⟩ := by
  revert h; unfold double; dsimp only; (repeat' split) <;> simp
@[reducible] def vFol (f : Fol) : Value := .tuple #[.int .u64 f.w, .int .i64 f.seg, .int .i64 f.base, .int .i64 f.err]
set_option maxRecDepth 100000 in
set_option maxHeartbeats 4000000 in
theorem Follow_any {B : Nat} {w : World} {A : Option Addr} {n c : Nat} {ss : List (List Int)} (hE : Env B w) (hB : B ≤ w.heap.size) (hS : RS B w A n ss) (hw : WFS ss) (seg at_ : Int) :
    Calls Tryd.prog 77 #[.slice A n c, .int .i64 seg, .int .i64 at_] w (VPost w (vFol (follow ss seg at_))) := by
  have HE := Lib.hid hE
  have HS := Lib.hid hS
  have Hw := Lib.hid hw
  clear hE hS hw
  by_cases hb : inB ss seg at_ 1 = true
  · have HU := Lib.hid (wordAt_U64 Hw.out seg at_)
    obtain ⟨h0, h1, h2, h3, h4, h5⟩ := inB_of hb
    have hsl := segLen_bd Hw.out seg
    have hat : at_ < 1000000 := by omega
    by_cases hk : ((decodeI (wordAt ss seg at_)).kind == 2) = true
    · have hs : follow ss seg at_ = if (decodeI (wordAt ss seg at_)).double then double ss (wordAt ss seg at_) else single ss (wordAt ss seg at_) := by unfold follow; simp only [hb, hk, if_true, Bool.true_eq_false, if_false]
      rw [hs]
      have Hb := Lib.hid hb
      have Hk := Lib.hid hk
      clear hb hs h0 h1 h3 h4 h5 hsl hk
      by_cases hd : (decodeI (wordAt ss seg at_)).double = true
      · rw [if_pos hd]
        by_cases he : (double ss (wordAt ss seg at_)).err = 0
        · go_enter Tryd.func77, Tryd.ntmps77
          go_wp2_with (first | (go_at_call 129; refine (Word_any HS.out Hw.out _ _).mono ?_; rw [Hb.out]; rintro e w2 ⟨rfl, hw2⟩; subst w2) |
                  (go_at_call 130; refine (IsFar_any (B := B) (HE.out.mono (Below.mono (B := w.heap.size) (by (repeat (first | exact Below.refl _ _ | assumption | refine Below.setCell ?_ (by (try simp); (try omega)) _ | refine Below.alloc ?_ (by (try simp); (try omega)) _ | refine below_setRow ?_ (by (try simp); (try omega)) _ | refine pw_below_drewN ?_ _ | refine Below.drew ?_))) hB) (Nat.le_refl _)) (Nat.le_trans hB (Below.size (w := w) (B := w.heap.size) (by (repeat (first | exact Below.refl _ _ | assumption | refine Below.setCell ?_ (by (try simp); (try omega)) _ | refine Below.alloc ?_ (by (try simp); (try omega)) _ | refine below_setRow ?_ (by (try simp); (try omega)) _ | refine pw_below_drewN ?_ _ | refine Below.drew ?_))))) _ HU.out).mono ?_; rw [Hk.out]; rintro e w3 ⟨rfl, hb3⟩; have hB3 := below_step (w := w) (by (repeat (first | exact Below.refl _ _ | assumption | refine Below.setCell ?_ (by (try simp); (try omega)) _ | refine Below.alloc ?_ (by (try simp); (try omega)) _ | refine below_setRow ?_ (by (try simp); (try omega)) _ | refine pw_below_drewN ?_ _ | refine Below.drew ?_))) hb3; obtain ⟨hc3, hf3⟩ := bcell hb3; have hd3 := blk_below hb3; have hs3 := hB3.size; have hz3_0 : w.heap.size < w3.heap.size := (by have hq := hb3.size; (try simp at hq); omega); have hy3_0 : w.heap.size ≠ w3.heap.size := Nat.ne_of_lt hz3_0; have hk3_0 := hd3 (w.heap.size) (by (try simp); (try omega)); (try simp (disch := first | omega | (simp; omega)) only [blk_setRow_far, blk_alloc_past, blk_setCell_far, blk_drewN, blk_drew] at hk3_0)) |
                  (go_at_call 79; refine (Decode_any (B := B) (HE.out.mono (Below.mono (B := w.heap.size) (by (repeat (first | exact Below.refl _ _ | assumption | refine Below.setCell ?_ (by (try simp); (try omega)) _ | refine Below.alloc ?_ (by (try simp); (try omega)) _ | refine below_setRow ?_ (by (try simp); (try omega)) _ | refine pw_below_drewN ?_ _ | refine Below.drew ?_))) hB) (Nat.le_refl _)) (Nat.le_trans hB (Below.size (w := w) (B := w.heap.size) (by (repeat (first | exact Below.refl _ _ | assumption | refine Below.setCell ?_ (by (try simp); (try omega)) _ | refine Below.alloc ?_ (by (try simp); (try omega)) _ | refine below_setRow ?_ (by (try simp); (try omega)) _ | refine pw_below_drewN ?_ _ | refine Below.drew ?_))))) _ HU.out).mono ?_; rintro e w4 ⟨rfl, hb4⟩; have hB4 := below_step (w := w) (by (repeat (first | exact Below.refl _ _ | assumption | refine Below.setCell ?_ (by (try simp); (try omega)) _ | refine Below.alloc ?_ (by (try simp); (try omega)) _ | refine below_setRow ?_ (by (try simp); (try omega)) _ | refine pw_below_drewN ?_ _ | refine Below.drew ?_))) hb4; obtain ⟨hc4, hf4⟩ := bcell hb4; have hd4 := blk_below hb4; have hs4 := hB4.size; have hz4_0 : w.heap.size < w4.heap.size := (by have hq := hb4.size; (try simp at hq); omega); have hy4_0 : w.heap.size ≠ w4.heap.size := Nat.ne_of_lt hz4_0; have hk4_0 := hd4 (w.heap.size) (by (try simp); (try omega)); (try simp (disch := first | omega | (simp; omega)) only [blk_setRow_far, blk_alloc_past, blk_setCell_far, blk_drewN, blk_drew] at hk4_0)) |
                  (go_at_call 132; refine (double_any (B := B) (HE.out.mono (Below.mono (B := w.heap.size) (by (repeat (first | exact Below.refl _ _ | assumption | refine Below.setCell ?_ (by (try simp); (try omega)) _ | refine Below.alloc ?_ (by (try simp); (try omega)) _ | refine below_setRow ?_ (by (try simp); (try omega)) _ | refine pw_below_drewN ?_ _ | refine Below.drew ?_))) hB) (Nat.le_refl _)) (Nat.le_trans hB (Below.size (w := w) (B := w.heap.size) (by (repeat (first | exact Below.refl _ _ | assumption | refine Below.setCell ?_ (by (try simp); (try omega)) _ | refine Below.alloc ?_ (by (try simp); (try omega)) _ | refine below_setRow ?_ (by (try simp); (try omega)) _ | refine pw_below_drewN ?_ _ | refine Below.drew ?_))))) (HS.out.mono (Below.mono (B := w.heap.size) (by (repeat (first | exact Below.refl _ _ | assumption | refine Below.setCell ?_ (by (try simp); (try omega)) _ | refine Below.alloc ?_ (by (try simp); (try omega)) _ | refine below_setRow ?_ (by (try simp); (try omega)) _ | refine pw_below_drewN ?_ _ | refine Below.drew ?_))) hB) (Nat.le_refl _)) Hw.out _ HU.out).mono ?_; rintro e w5 ⟨rfl, hb5⟩; have hB5 := below_step (w := w) (by (repeat (first | exact Below.refl _ _ | assumption | refine Below.setCell ?_ (by (try simp); (try omega)) _ | refine Below.alloc ?_ (by (try simp); (try omega)) _ | refine below_setRow ?_ (by (try simp); (try omega)) _ | refine pw_below_drewN ?_ _ | refine Below.drew ?_))) hb5; obtain ⟨hc5, hf5⟩ := bcell hb5; have hd5 := blk_below hb5; have hs5 := hB5.size; have hz5_0 : w.heap.size < w5.heap.size := (by have hq := hb5.size; (try simp at hq); omega); have hy5_0 : w.heap.size ≠ w5.heap.size := Nat.ne_of_lt hz5_0; have hk5_0 := hd5 (w.heap.size) (by (try simp); (try omega)); (try simp (disch := first | omega | (simp; omega)) only [blk_setRow_far, blk_alloc_past, blk_setCell_far, blk_drewN, blk_drew] at hk5_0)))
          all_goals (go_quiet (fail))
          all_goals go_wp2
          all_goals refine bodyPost_ret (v := vFol (double ss (wordAt ss seg at_))) (by first | (simp [results, Tryd.results77, go_sem, he]; done) | (rename_i hh; simp [results, Tryd.results77, go_sem, hh, he]; done)) rfl ⟨rfl, ?_⟩
          all_goals (repeat (first | exact Below.refl _ _ | assumption | refine Below.setCell ?_ (by (try simp); (try omega)) _ | refine Below.alloc ?_ (by (try simp); (try omega)) _ | refine below_setRow ?_ (by (try simp); (try omega)) _ | refine pw_below_drewN ?_ _ | refine Below.drew ?_))
        · have Hz := Lib.hid (double_err ss (wordAt ss seg at_) he)
          go_enter Tryd.func77, Tryd.ntmps77
          go_wp2_with (first | (go_at_call 129; refine (Word_any HS.out Hw.out _ _).mono ?_; rw [Hb.out]; rintro e w2 ⟨rfl, hw2⟩; subst w2) |
                  (go_at_call 130; refine (IsFar_any (B := B) (HE.out.mono (Below.mono (B := w.heap.size) (by (repeat (first | exact Below.refl _ _ | assumption | refine Below.setCell ?_ (by (try simp); (try omega)) _ | refine Below.alloc ?_ (by (try simp); (try omega)) _ | refine below_setRow ?_ (by (try simp); (try omega)) _ | refine pw_below_drewN ?_ _ | refine Below.drew ?_))) hB) (Nat.le_refl _)) (Nat.le_trans hB (Below.size (w := w) (B := w.heap.size) (by (repeat (first | exact Below.refl _ _ | assumption | refine Below.setCell ?_ (by (try simp); (try omega)) _ | refine Below.alloc ?_ (by (try simp); (try omega)) _ | refine below_setRow ?_ (by (try simp); (try omega)) _ | refine pw_below_drewN ?_ _ | refine Below.drew ?_))))) _ HU.out).mono ?_; rw [Hk.out]; rintro e w3 ⟨rfl, hb3⟩; have hB3 := below_step (w := w) (by (repeat (first | exact Below.refl _ _ | assumption | refine Below.setCell ?_ (by (try simp); (try omega)) _ | refine Below.alloc ?_ (by (try simp); (try omega)) _ | refine below_setRow ?_ (by (try simp); (try omega)) _ | refine pw_below_drewN ?_ _ | refine Below.drew ?_))) hb3; obtain ⟨hc3, hf3⟩ := bcell hb3; have hd3 := blk_below hb3; have hs3 := hB3.size; have hz3_0 : w.heap.size < w3.heap.size := (by have hq := hb3.size; (try simp at hq); omega); have hy3_0 : w.heap.size ≠ w3.heap.size := Nat.ne_of_lt hz3_0; have hk3_0 := hd3 (w.heap.size) (by (try simp); (try omega)); (try simp (disch := first | omega | (simp; omega)) only [blk_setRow_far, blk_alloc_past, blk_setCell_far, blk_drewN, blk_drew] at hk3_0)) |
                  (go_at_call 79; refine (Decode_any (B := B) (HE.out.mono (Below.mono (B := w.heap.size) (by (repeat (first | exact Below.refl _ _ | assumption | refine Below.setCell ?_ (by (try simp); (try omega)) _ | refine Below.alloc ?_ (by (try simp); (try omega)) _ | refine below_setRow ?_ (by (try simp); (try omega)) _ | refine pw_below_drewN ?_ _ | refine Below.drew ?_))) hB) (Nat.le_refl _)) (Nat.le_trans hB (Below.size (w := w) (B := w.heap.size) (by (repeat (first | exact Below.refl _ _ | assumption | refine Below.setCell ?_ (by (try simp); (try omega)) _ | refine Below.alloc ?_ (by (try simp); (try omega)) _ | refine below_setRow ?_ (by (try simp); (try omega)) _ | refine pw_below_drewN ?_ _ | refine Below.drew ?_))))) _ HU.out).mono ?_; rintro e w4 ⟨rfl, hb4⟩; have hB4 := below_step (w := w) (by (repeat (first | exact Below.refl _ _ | assumption | refine Below.setCell ?_ (by (try simp); (try omega)) _ | refine Below.alloc ?_ (by (try simp); (try omega)) _ | refine below_setRow ?_ (by (try simp); (try omega)) _ | refine pw_below_drewN ?_ _ | refine Below.drew ?_))) hb4; obtain ⟨hc4, hf4⟩ := bcell hb4; have hd4 := blk_below hb4; have hs4 := hB4.size; have hz4_0 : w.heap.size < w4.heap.size := (by have hq := hb4.size; (try simp at hq); omega); have hy4_0 : w.heap.size ≠ w4.heap.size := Nat.ne_of_lt hz4_0; have hk4_0 := hd4 (w.heap.size) (by (try simp); (try omega)); (try simp (disch := first | omega | (simp; omega)) only [blk_setRow_far, blk_alloc_past, blk_setCell_far, blk_drewN, blk_drew] at hk4_0)) |
                  (go_at_call 132; refine (double_any (B := B) (HE.out.mono (Below.mono (B := w.heap.size) (by (repeat (first | exact Below.refl _ _ | assumption | refine Below.setCell ?_ (by (try simp); (try omega)) _ | refine Below.alloc ?_ (by (try simp); (try omega)) _ | refine below_setRow ?_ (by (try simp); (try omega)) _ | refine pw_below_drewN ?_ _ | refine Below.drew ?_))) hB) (Nat.le_refl _)) (Nat.le_trans hB (Below.size (w := w) (B := w.heap.size) (by (repeat (first | exact Below.refl _ _ | assumption | refine Below.setCell ?_ (by (try simp); (try omega)) _ | refine Below.alloc ?_ (by (try simp); (try omega)) _ | refine below_setRow ?_ (by (try simp); (try omega)) _ | refine pw_below_drewN ?_ _ | refine Below.drew ?_))))) (HS.out.mono (Below.mono (B := w.heap.size) (by (repeat (first | exact Below.refl _ _ | assumption | refine Below.setCell ?_ (by (try simp); (try omega)) _ | refine Below.alloc ?_ (by (try simp); (try omega)) _ | refine below_setRow ?_ (by (try simp); (try omega)) _ | refine pw_below_drewN ?_ _ | refine Below.drew ?_))) hB) (Nat.le_refl _)) Hw.out _ HU.out).mono ?_; rw [Hz.out]; rintro e w5 ⟨rfl, hb5⟩; have hB5 := below_step (w := w) (by (repeat (first | exact Below.refl _ _ | assumption | refine Below.setCell ?_ (by (try simp); (try omega)) _ | refine Below.alloc ?_ (by (try simp); (try omega)) _ | refine below_setRow ?_ (by (try simp); (try omega)) _ | refine pw_below_drewN ?_ _ | refine Below.drew ?_))) hb5; obtain ⟨hc5, hf5⟩ := bcell hb5; have hd5 := blk_below hb5; have hs5 := hB5.size; have hz5_0 : w.heap.size < w5.heap.size := (by have hq := hb5.size; (try simp at hq); omega); have hy5_0 : w.heap.size ≠ w5.heap.size := Nat.ne_of_lt hz5_0; have hk5_0 := hd5 (w.heap.size) (by (try simp); (try omega)); (try simp (disch := first | omega | (simp; omega)) only [blk_setRow_far, blk_alloc_past, blk_setCell_far, blk_drewN, blk_drew] at hk5_0)))
          refine bodyPost_ret (v := vFol ⟨0, 0, 0, (double ss (wordAt ss seg at_)).err⟩) (by simp [results, Tryd.results77, go_sem]) rfl ⟨by rw [Hz.out], ?_⟩
          (repeat (first | exact Below.refl _ _ | assumption | refine Below.setCell ?_ (by (try simp); (try omega)) _ | refine Below.alloc ?_ (by (try simp); (try omega)) _ | refine below_setRow ?_ (by (try simp); (try omega)) _ | refine pw_below_drewN ?_ _ | refine Below.drew ?_))
      · have hd' : (decodeI (wordAt ss seg at_)).double = false := by simpa using hd
        rw [if_neg hd]
        clear hd
        by_cases he : (single ss (wordAt ss seg at_)).err = 0
        · go_enter Tryd.func77, Tryd.ntmps77
          go_wp2_with (first | (go_at_call 129; refine (Word_any HS.out Hw.out _ _).mono ?_; rw [Hb.out]; rintro e w2 ⟨rfl, hw2⟩; subst w2) |
                  (go_at_call 130; refine (IsFar_any (B := B) (HE.out.mono (Below.mono (B := w.heap.size) (by (repeat (first | exact Below.refl _ _ | assumption | refine Below.setCell ?_ (by (try simp); (try omega)) _ | refine Below.alloc ?_ (by (try simp); (try omega)) _ | refine below_setRow ?_ (by (try simp); (try omega)) _ | refine pw_below_drewN ?_ _ | refine Below.drew ?_))) hB) (Nat.le_refl _)) (Nat.le_trans hB (Below.size (w := w) (B := w.heap.size) (by (repeat (first | exact Below.refl _ _ | assumption | refine Below.setCell ?_ (by (try simp); (try omega)) _ | refine Below.alloc ?_ (by (try simp); (try omega)) _ | refine below_setRow ?_ (by (try simp); (try omega)) _ | refine pw_below_drewN ?_ _ | refine Below.drew ?_))))) _ HU.out).mono ?_; rw [Hk.out]; rintro e w3 ⟨rfl, hb3⟩; have hB3 := below_step (w := w) (by (repeat (first | exact Below.refl _ _ | assumption | refine Below.setCell ?_ (by (try simp); (try omega)) _ | refine Below.alloc ?_ (by (try simp); (try omega)) _ | refine below_setRow ?_ (by (try simp); (try omega)) _ | refine pw_below_drewN ?_ _ | refine Below.drew ?_))) hb3; obtain ⟨hc3, hf3⟩ := bcell hb3; have hd3 := blk_below hb3; have hs3 := hB3.size; have hz3_0 : w.heap.size < w3.heap.size := (by have hq := hb3.size; (try simp at hq); omega); have hy3_0 : w.heap.size ≠ w3.heap.size := Nat.ne_of_lt hz3_0; have hk3_0 := hd3 (w.heap.size) (by (try simp); (try omega)); (try simp (disch := first | omega | (simp; omega)) only [blk_setRow_far, blk_alloc_past, blk_setCell_far, blk_drewN, blk_drew] at hk3_0)) |
                  (go_at_call 79; refine (Decode_any (B := B) (HE.out.mono (Below.mono (B := w.heap.size) (by (repeat (first | exact Below.refl _ _ | assumption | refine Below.setCell ?_ (by (try simp); (try omega)) _ | refine Below.alloc ?_ (by (try simp); (try omega)) _ | refine below_setRow ?_ (by (try simp); (try omega)) _ | refine pw_below_drewN ?_ _ | refine Below.drew ?_))) hB) (Nat.le_refl _)) (Nat.le_trans hB (Below.size (w := w) (B := w.heap.size) (by (repeat (first | exact Below.refl _ _ | assumption | refine Below.setCell ?_ (by (try simp); (try omega)) _ | refine Below.alloc ?_ (by (try simp); (try omega)) _ | refine below_setRow ?_ (by (try simp); (try omega)) _ | refine pw_below_drewN ?_ _ | refine Below.drew ?_))))) _ HU.out).mono ?_; rintro e w4 ⟨rfl, hb4⟩; have hB4 := below_step (w := w) (by (repeat (first | exact Below.refl _ _ | assumption | refine Below.setCell ?_ (by (try simp); (try omega)) _ | refine Below.alloc ?_ (by (try simp); (try omega)) _ | refine below_setRow ?_ (by (try simp); (try omega)) _ | refine pw_below_drewN ?_ _ | refine Below.drew ?_))) hb4; obtain ⟨hc4, hf4⟩ := bcell hb4; have hd4 := blk_below hb4; have hs4 := hB4.size; have hz4_0 : w.heap.size < w4.heap.size := (by have hq := hb4.size; (try simp at hq); omega); have hy4_0 : w.heap.size ≠ w4.heap.size := Nat.ne_of_lt hz4_0; have hk4_0 := hd4 (w.heap.size) (by (try simp); (try omega)); (try simp (disch := first | omega | (simp; omega)) only [blk_setRow_far, blk_alloc_past, blk_setCell_far, blk_drewN, blk_drew] at hk4_0)) |
                  (go_at_call 131; refine (single_any (B := B) (HE.out.mono (Below.mono (B := w.heap.size) (by (repeat (first | exact Below.refl _ _ | assumption | refine Below.setCell ?_ (by (try simp); (try omega)) _ | refine Below.alloc ?_ (by (try simp); (try omega)) _ | refine below_setRow ?_ (by (try simp); (try omega)) _ | refine pw_below_drewN ?_ _ | refine Below.drew ?_))) hB) (Nat.le_refl _)) (Nat.le_trans hB (Below.size (w := w) (B := w.heap.size) (by (repeat (first | exact Below.refl _ _ | assumption | refine Below.setCell ?_ (by (try simp); (try omega)) _ | refine Below.alloc ?_ (by (try simp); (try omega)) _ | refine below_setRow ?_ (by (try simp); (try omega)) _ | refine pw_below_drewN ?_ _ | refine Below.drew ?_))))) (HS.out.mono (Below.mono (B := w.heap.size) (by (repeat (first | exact Below.refl _ _ | assumption | refine Below.setCell ?_ (by (try simp); (try omega)) _ | refine Below.alloc ?_ (by (try simp); (try omega)) _ | refine below_setRow ?_ (by (try simp); (try omega)) _ | refine pw_below_drewN ?_ _ | refine Below.drew ?_))) hB) (Nat.le_refl _)) Hw.out _ HU.out).mono ?_; rintro e w5 ⟨rfl, hb5⟩; have hB5 := below_step (w := w) (by (repeat (first | exact Below.refl _ _ | assumption | refine Below.setCell ?_ (by (try simp); (try omega)) _ | refine Below.alloc ?_ (by (try simp); (try omega)) _ | refine below_setRow ?_ (by (try simp); (try omega)) _ | refine pw_below_drewN ?_ _ | refine Below.drew ?_))) hb5; obtain ⟨hc5, hf5⟩ := bcell hb5; have hd5 := blk_below hb5; have hs5 := hB5.size; have hz5_0 : w.heap.size < w5.heap.size := (by have hq := hb5.size; (try simp at hq); omega); have hy5_0 : w.heap.size ≠ w5.heap.size := Nat.ne_of_lt hz5_0; have hk5_0 := hd5 (w.heap.size) (by (try simp); (try omega)); (try simp (disch := first | omega | (simp; omega)) only [blk_setRow_far, blk_alloc_past, blk_setCell_far, blk_drewN, blk_drew] at hk5_0)))
          all_goals (go_quiet (fail))
          all_goals go_wp2
          all_goals refine bodyPost_ret (v := vFol (single ss (wordAt ss seg at_))) (by first | (simp [results, Tryd.results77, go_sem, he]; done) | (rename_i hh; simp [results, Tryd.results77, go_sem, hh, he]; done)) rfl ⟨rfl, ?_⟩
          all_goals (repeat (first | exact Below.refl _ _ | assumption | refine Below.setCell ?_ (by (try simp); (try omega)) _ | refine Below.alloc ?_ (by (try simp); (try omega)) _ | refine below_setRow ?_ (by (try simp); (try omega)) _ | refine pw_below_drewN ?_ _ | refine Below.drew ?_))
        · have Hz := Lib.hid (single_err ss (wordAt ss seg at_) he)
          go_enter Tryd.func77, Tryd.ntmps77
          go_wp2_with (first | (go_at_call 129; refine (Word_any HS.out Hw.out _ _).mono ?_; rw [Hb.out]; rintro e w2 ⟨rfl, hw2⟩; subst w2) |
                  (go_at_call 130; refine (IsFar_any (B := B) (HE.out.mono (Below.mono (B := w.heap.size) (by (repeat (first | exact Below.refl _ _ | assumption | refine Below.setCell ?_ (by (try simp); (try omega)) _ | refine Below.alloc ?_ (by (try simp); (try omega)) _ | refine below_setRow ?_ (by (try simp); (try omega)) _ | refine pw_below_drewN ?_ _ | refine Below.drew ?_))) hB) (Nat.le_refl _)) (Nat.le_trans hB (Below.size (w := w) (B := w.heap.size) (by (repeat (first | exact Below.refl _ _ | assumption | refine Below.setCell ?_ (by (try simp); (try omega)) _ | refine Below.alloc ?_ (by (try simp); (try omega)) _ | refine below_setRow ?_ (by (try simp); (try omega)) _ | refine pw_below_drewN ?_ _ | refine Below.drew ?_))))) _ HU.out).mono ?_; rw [Hk.out]; rintro e w3 ⟨rfl, hb3⟩; have hB3 := below_step (w := w) (by (repeat (first | exact Below.refl _ _ | assumption | refine Below.setCell ?_ (by (try simp); (try omega)) _ | refine Below.alloc ?_ (by (try simp); (try omega)) _ | refine below_setRow ?_ (by (try simp); (try omega)) _ | refine pw_below_drewN ?_ _ | refine Below.drew ?_))) hb3; obtain ⟨hc3, hf3⟩ := bcell hb3; have hd3 := blk_below hb3; have hs3 := hB3.size; have hz3_0 : w.heap.size < w3.heap.size := (by have hq := hb3.size; (try simp at hq); omega); have hy3_0 : w.heap.size ≠ w3.heap.size := Nat.ne_of_lt hz3_0; have hk3_0 := hd3 (w.heap.size) (by (try simp); (try omega)); (try simp (disch := first | omega | (simp; omega)) only [blk_setRow_far, blk_alloc_past, blk_setCell_far, blk_drewN, blk_drew] at hk3_0)) |
                  (go_at_call 79; refine (Decode_any (B := B) (HE.out.mono (Below.mono (B := w.heap.size) (by (repeat (first | exact Below.refl _ _ | assumption | refine Below.setCell ?_ (by (try simp); (try omega)) _ | refine Below.alloc ?_ (by (try simp); (try omega)) _ | refine below_setRow ?_ (by (try simp); (try omega)) _ | refine pw_below_drewN ?_ _ | refine Below.drew ?_))) hB) (Nat.le_refl _)) (Nat.le_trans hB (Below.size (w := w) (B := w.heap.size) (by (repeat (first | exact Below.refl _ _ | assumption | refine Below.setCell ?_ (by (try simp); (try omega)) _ | refine Below.alloc ?_ (by (try simp); (try omega)) _ | refine below_setRow ?_ (by (try simp); (try omega)) _ | refine pw_below_drewN ?_ _ | refine Below.drew ?_))))) _ HU.out).mono ?_; rintro e w4 ⟨rfl, hb4⟩; have hB4 := below_step (w := w) (by (repeat (first | exact Below.refl _ _ | assumption | refine Below.setCell ?_ (by (try simp); (try omega)) _ | refine Below.alloc ?_ (by (try simp); (try omega)) _ | refine below_setRow ?_ (by (try simp); (try omega)) _ | refine pw_below_drewN ?_ _ | refine Below.drew ?_))) hb4; obtain ⟨hc4, hf4⟩ := bcell hb4; have hd4 := blk_below hb4; have hs4 := hB4.size; have hz4_0 : w.heap.size < w4.heap.size := (by have hq := hb4.size; (try simp at hq); omega); have hy4_0 : w.heap.size ≠ w4.heap.size := Nat.ne_of_lt hz4_0; have hk4_0 := hd4 (w.heap.size) (by (try simp); (try omega)); (try simp (disch := first | omega | (simp; omega)) only [blk_setRow_far, blk_alloc_past, blk_setCell_far, blk_drewN, blk_drew] at hk4_0)) |
                  (go_at_call 131; refine (single_any (B := B) (HE.out.mono (Below.mono (B := w.heap.size) (by (repeat (first | exact Below.refl _ _ | assumption | refine Below.setCell ?_ (by (try simp); (try omega)) _ | refine Below.alloc ?_ (by (try simp); (try omega)) _ | refine below_setRow ?_ (by (try simp); (try omega)) _ | refine pw_below_drewN ?_ _ | refine Below.drew ?_))) hB) (Nat.le_refl _)) (Nat.le_trans hB (Below.size (w := w) (B := w.heap.size) (by (repeat (first | exact Below.refl _ _ | assumption | refine Below.setCell ?_ (by (try simp); (try omega)) _ | refine Below.alloc ?_ (by (try simp); (try omega)) _ | refine below_setRow ?_ (by (try simp); (try omega)) _ | refine pw_below_drewN ?_ _ | refine Below.drew ?_))))) (HS.out.mono (Below.mono (B := w.heap.size) (by (repeat (first | exact Below.refl _ _ | assumption | refine Below.setCell ?_ (by (try simp); (try omega)) _ | refine Below.alloc ?_ (by (try simp); (try omega)) _ | refine below_setRow ?_ (by (try simp); (try omega)) _ | refine pw_below_drewN ?_ _ | refine Below.drew ?_))) hB) (Nat.le_refl _)) Hw.out _ HU.out).mono ?_; rw [Hz.out]; rintro e w5 ⟨rfl, hb5⟩; have hB5 := below_step (w := w) (by (repeat (first | exact Below.refl _ _ | assumption | refine Below.setCell ?_ (by (try simp); (try omega)) _ | refine Below.alloc ?_ (by (try simp); (try omega)) _ | refine below_setRow ?_ (by (try simp); (try omega)) _ | refine pw_below_drewN ?_ _ | refine Below.drew ?_))) hb5; obtain ⟨hc5, hf5⟩ := bcell hb5; have hd5 := blk_below hb5; have hs5 := hB5.size; have hz5_0 : w.heap.size < w5.heap.size := (by have hq := hb5.size; (try simp at hq); omega); have hy5_0 : w.heap.size ≠ w5.heap.size := Nat.ne_of_lt hz5_0; have hk5_0 := hd5 (w.heap.size) (by (try simp); (try omega)); (try simp (disch := first | omega | (simp; omega)) only [blk_setRow_far, blk_alloc_past, blk_setCell_far, blk_drewN, blk_drew] at hk5_0)))
          refine bodyPost_ret (v := vFol ⟨0, 0, 0, (single ss (wordAt ss seg at_)).err⟩) (by simp [results, Tryd.results77, go_sem]) rfl ⟨by rw [Hz.out], ?_⟩
          (repeat (first | exact Below.refl _ _ | assumption | refine Below.setCell ?_ (by (try simp); (try omega)) _ | refine Below.alloc ?_ (by (try simp); (try omega)) _ | refine below_setRow ?_ (by (try simp); (try omega)) _ | refine pw_below_drewN ?_ _ | refine Below.drew ?_))
    · have hk' : ((decodeI (wordAt ss seg at_)).kind == 2) = false := by simpa using hk
      have hs : follow ss seg at_ = ⟨wordAt ss seg at_, seg, at_ + 1, 0⟩ := by unfold follow; simp only [hb, hk', if_true, Bool.true_eq_false, if_false, Bool.false_eq_true]
      rw [hs]
      have Hb := Lib.hid hb
      have Hk := Lib.hid hk'
      clear hb hs h0 h1 h3 h4 h5 hsl hk hk'
      go_enter Tryd.func77, Tryd.ntmps77
      go_wp2_with (first | (go_at_call 129; refine (Word_any HS.out Hw.out _ _).mono ?_; rw [Hb.out]; rintro e w2 ⟨rfl, hw2⟩; subst w2) |
            (go_at_call 130; refine (IsFar_any (B := B) (HE.out.mono (Below.mono (B := w.heap.size) (by (repeat (first | exact Below.refl _ _ | assumption | refine Below.setCell ?_ (by (try simp); (try omega)) _ | refine Below.alloc ?_ (by (try simp); (try omega)) _ | refine below_setRow ?_ (by (try simp); (try omega)) _ | refine pw_below_drewN ?_ _ | refine Below.drew ?_))) hB) (Nat.le_refl _)) (Nat.le_trans hB (Below.size (w := w) (B := w.heap.size) (by (repeat (first | exact Below.refl _ _ | assumption | refine Below.setCell ?_ (by (try simp); (try omega)) _ | refine Below.alloc ?_ (by (try simp); (try omega)) _ | refine below_setRow ?_ (by (try simp); (try omega)) _ | refine pw_below_drewN ?_ _ | refine Below.drew ?_))))) _ HU.out).mono ?_; rw [Hk.out]; rintro e w3 ⟨rfl, hb3⟩; have hB3 := below_step (w := w) (by (repeat (first | exact Below.refl _ _ | assumption | refine Below.setCell ?_ (by (try simp); (try omega)) _ | refine Below.alloc ?_ (by (try simp); (try omega)) _ | refine below_setRow ?_ (by (try simp); (try omega)) _ | refine pw_below_drewN ?_ _ | refine Below.drew ?_))) hb3; obtain ⟨hc3, hf3⟩ := bcell hb3; have hd3 := blk_below hb3; have hs3 := hB3.size; have hz3_0 : w.heap.size < w3.heap.size := (by have hq := hb3.size; (try simp at hq); omega); have hy3_0 : w.heap.size ≠ w3.heap.size := Nat.ne_of_lt hz3_0; have hk3_0 := hd3 (w.heap.size) (by (try simp); (try omega)); (try simp (disch := first | omega | (simp; omega)) only [blk_setRow_far, blk_alloc_past, blk_setCell_far, blk_drewN, blk_drew] at hk3_0)))
      all_goals (go_quiet (fail))
      all_goals go_wp2
      all_goals refine bodyPost_ret (v := vFol ⟨wordAt ss seg at_, seg, at_ + 1, 0⟩) (by first | (simp [results, Tryd.results77, go_sem]; done) | (rename_i hh; simp [results, Tryd.results77, go_sem, hh]; done)) rfl ⟨rfl, ?_⟩
      all_goals (repeat (first | exact Below.refl _ _ | assumption | refine Below.setCell ?_ (by (try simp); (try omega)) _ | refine Below.alloc ?_ (by (try simp); (try omega)) _ | refine below_setRow ?_ (by (try simp); (try omega)) _ | refine pw_below_drewN ?_ _ | refine Below.drew ?_))
  · have hb' : inB ss seg at_ 1 = false := by simpa using hb
    have hs : follow ss seg at_ = ⟨0, 0, 0, 2⟩ := by unfold follow; simp only [hb', if_true]
    rw [hs]
    have Hb := Lib.hid hb'
    clear hb hb' hs
    go_enter Tryd.func77, Tryd.ntmps77
    go_wp2_with (first | (go_at_call 129; refine (Word_any HS.out Hw.out _ _).mono ?_; rw [Hb.out]; rintro e w2 ⟨rfl, hw2⟩; subst w2))
    refine bodyPost_ret (v := vFol ⟨0, 0, 0, 2⟩) (by simp [results, Tryd.results77, go_sem]) rfl ⟨rfl, ?_⟩
    (repeat (first | exact Below.refl _ _ | assumption | refine Below.setCell ?_ (by (try simp); (try omega)) _ | refine Below.alloc ?_ (by (try simp); (try omega)) _ | refine below_setRow ?_ (by (try simp); (try omega)) _ | refine pw_below_drewN ?_ _ | refine Below.drew ?_))
end Go.Proofs.YtelghkgnkncnoaaDoor
/- Contracts of package resolve. -/
set_option linter.unusedVariables false
set_option linter.unusedSimpArgs false
namespace Go.Proofs.YtelghkgnkncnoaaDoor
open Go.RowKit
@[reducible] def vObE (r : Ob × Int) : Value := .tuple #[vOb r.1, .int .i64 r.2]
theorem within_any {B : Nat} {w : World} {A : Option Addr} {n c : Nat} {ss : List (List Int)} (hB : B ≤ w.heap.size) (hS : RS B w A n ss) (hw : WFS ss) (o : Ob) (start k : Int) :
    Calls Tryd.prog 134 #[.slice A n c, vOb o, .int .i64 start, .int .i64 k] w (VPost w (vObE (within ss o start k))) := by
  have HS := Lib.hid hS
  have Hw := Lib.hid hw
  clear hS hw
  by_cases hb : inB ss o.seg start k = true
  · have hs : within ss o start k = (o, 0) := by unfold within; rw [if_pos hb]
    rw [hs]
    have Hb := Lib.hid hb
    clear hb hs
    go_enter Tryd.func134, Tryd.ntmps134
    go_wp2_with (go_at_call 166; refine (InBounds_any (HS.out.mono (Below.mono (B := w.heap.size) (by (repeat (first | exact Below.refl _ _ | assumption | refine Below.setCell ?_ (by (try simp); (try omega)) _ | refine Below.alloc ?_ (by (try simp); (try omega)) _ | refine below_setRow ?_ (by (try simp); (try omega)) _ | refine pw_below_drewN ?_ _ | refine Below.drew ?_))) hB) (Nat.le_refl _)) Hw.out _ _ _).mono ?_; rw [Hb.out]; rintro e w2 ⟨rfl, hw2⟩; subst w2)
    refine bodyPost_ret (v := vObE (o, 0)) ((results_blk2 _ st_Object rfl _ ((w.heap.size + 1) ) rfl (by simp [go_sem]) (by simp [go_sem])).trans (by simp [go_sem]; try omega)) rfl ⟨rfl, ?_⟩
    (repeat (first | exact Below.refl _ _ | assumption | refine Below.setCell ?_ (by (try simp); (try omega)) _ | refine Below.alloc ?_ (by (try simp); (try omega)) _ | refine below_setRow ?_ (by (try simp); (try omega)) _ | refine pw_below_drewN ?_ _ | refine Below.drew ?_))
  · have hb' : inB ss o.seg start k = false := by simpa using hb
    have hs : within ss o start k = (Ob.zero, 2) := by unfold within; rw [if_neg hb]
    rw [hs]
    have Hb := Lib.hid hb'
    clear hb hb' hs
    go_enter Tryd.func134, Tryd.ntmps134
    go_wp2_with (go_at_call 166; refine (InBounds_any (HS.out.mono (Below.mono (B := w.heap.size) (by (repeat (first | exact Below.refl _ _ | assumption | refine Below.setCell ?_ (by (try simp); (try omega)) _ | refine Below.alloc ?_ (by (try simp); (try omega)) _ | refine below_setRow ?_ (by (try simp); (try omega)) _ | refine pw_below_drewN ?_ _ | refine Below.drew ?_))) hB) (Nat.le_refl _)) Hw.out _ _ _).mono ?_; rw [Hb.out]; rintro e w2 ⟨rfl, hw2⟩; subst w2)
    refine bodyPost_ret (v := vObE (Ob.zero, 2)) ((results_blk2 _ st_Object rfl _ ((w.heap.size + 1) ) rfl (by simp [go_sem, Ob.zero]) (by simp [go_sem, Ob.zero])).trans (by simp [go_sem, Ob.zero]; try omega)) rfl ⟨rfl, ?_⟩
    (repeat (first | exact Below.refl _ _ | assumption | refine Below.setCell ?_ (by (try simp); (try omega)) _ | refine Below.alloc ?_ (by (try simp); (try omega)) _ | refine below_setRow ?_ (by (try simp); (try omega)) _ | refine pw_below_drewN ?_ _ | refine Below.drew ?_))
theorem other_any {w : World} {A : Option Addr} {n c : Nat} (p : Ptr) (x y : Int) :
    Calls Tryd.prog 82 #[.slice A n c, vPtr p, .int .i64 x, .int .i64 y] w (VPost w (vObE (if p.kind = 3 ∧ p.low = 0 then (Ob.zero, 6) else (Ob.zero, 4)))) := by
  by_cases h : p.kind = 3 ∧ p.low = 0
  · have H := Lib.hid (decide_eq_true h)
    rw [if_pos h]
    clear h
    go_enter Tryd.func82, Tryd.ntmps82
    go_wp2_with (go_at_call 136; refine (IsCapability_any _ _).mono ?_; rw [H.out]; rintro e w1 ⟨rfl, hb1⟩; have hB1 := below_step (w := w) (by (repeat (first | exact Below.refl _ _ | assumption | refine Below.setCell ?_ (by (try simp); (try omega)) _ | refine Below.alloc ?_ (by (try simp); (try omega)) _ | refine below_setRow ?_ (by (try simp); (try omega)) _ | refine pw_below_drewN ?_ _ | refine Below.drew ?_))) hb1; obtain ⟨hc1, hf1⟩ := bcell hb1; have hd1 := blk_below hb1; have hs1 := hB1.size; have hz1_0 : w.heap.size < w1.heap.size := (by have hq := hb1.size; (try simp at hq); omega); have hy1_0 : w.heap.size ≠ w1.heap.size := Nat.ne_of_lt hz1_0; have hk1_0 := hd1 (w.heap.size) (by (try simp); (try omega)); (try simp (disch := first | omega | (simp; omega)) only [blk_setRow_far, blk_alloc_past, blk_setCell_far, blk_drewN, blk_drew] at hk1_0); have hz1_1 : w.heap.size + 1 < w1.heap.size := (by have hq := hb1.size; (try simp at hq); omega); have hy1_1 : w.heap.size + 1 ≠ w1.heap.size := Nat.ne_of_lt hz1_1; have hk1_1 := hd1 (w.heap.size + 1) (by (try simp); (try omega)); (try simp (disch := first | omega | (simp; omega)) only [blk_setRow_far, blk_alloc_past, blk_setCell_far, blk_drewN, blk_drew] at hk1_1))
    refine bodyPost_ret (v := vObE (Ob.zero, 6)) ((results_blk2 _ st_Object rfl _ ((w.heap.size + 1) ) rfl (by simp [go_sem, Ob.zero, hd1, hz1_0, hz1_1, hy1_0, hy1_1]) (by simp [go_sem, Ob.zero, hd1, hz1_0, hz1_1, hy1_0, hy1_1])).trans (by simp [go_sem, Ob.zero, hd1, hz1_0, hz1_1, hy1_0, hy1_1]; try omega)) rfl ⟨rfl, ?_⟩
    (repeat (first | exact Below.refl _ _ | assumption | refine Below.setCell ?_ (by (try simp); (try omega)) _ | refine Below.alloc ?_ (by (try simp); (try omega)) _ | refine below_setRow ?_ (by (try simp); (try omega)) _ | refine pw_below_drewN ?_ _ | refine Below.drew ?_))
  · have H := Lib.hid (decide_eq_false h)
    rw [if_neg h]
    clear h
    go_enter Tryd.func82, Tryd.ntmps82
    go_wp2_with (go_at_call 136; refine (IsCapability_any _ _).mono ?_; rw [H.out]; rintro e w1 ⟨rfl, hb1⟩; have hB1 := below_step (w := w) (by (repeat (first | exact Below.refl _ _ | assumption | refine Below.setCell ?_ (by (try simp); (try omega)) _ | refine Below.alloc ?_ (by (try simp); (try omega)) _ | refine below_setRow ?_ (by (try simp); (try omega)) _ | refine pw_below_drewN ?_ _ | refine Below.drew ?_))) hb1; obtain ⟨hc1, hf1⟩ := bcell hb1; have hd1 := blk_below hb1; have hs1 := hB1.size; have hz1_0 : w.heap.size < w1.heap.size := (by have hq := hb1.size; (try simp at hq); omega); have hy1_0 : w.heap.size ≠ w1.heap.size := Nat.ne_of_lt hz1_0; have hk1_0 := hd1 (w.heap.size) (by (try simp); (try omega)); (try simp (disch := first | omega | (simp; omega)) only [blk_setRow_far, blk_alloc_past, blk_setCell_far, blk_drewN, blk_drew] at hk1_0); have hz1_1 : w.heap.size + 1 < w1.heap.size := (by have hq := hb1.size; (try simp at hq); omega); have hy1_1 : w.heap.size + 1 ≠ w1.heap.size := Nat.ne_of_lt hz1_1; have hk1_1 := hd1 (w.heap.size + 1) (by (try simp); (try omega)); (try simp (disch := first | omega | (simp; omega)) only [blk_setRow_far, blk_alloc_past, blk_setCell_far, blk_drewN, blk_drew] at hk1_1))
    refine bodyPost_ret (v := vObE (Ob.zero, 4)) ((results_blk2 _ st_Object rfl _ ((w.heap.size + 1) ) rfl (by simp [go_sem, Ob.zero, hd1, hz1_0, hz1_1, hy1_0, hy1_1]) (by simp [go_sem, Ob.zero, hd1, hz1_0, hz1_1, hy1_0, hy1_1])).trans (by simp [go_sem, Ob.zero, hd1, hz1_0, hz1_1, hy1_0, hy1_1]; try omega)) rfl ⟨rfl, ?_⟩
    (repeat (first | exact Below.refl _ _ | assumption | refine Below.setCell ?_ (by (try simp); (try omega)) _ | refine Below.alloc ?_ (by (try simp); (try omega)) _ | refine below_setRow ?_ (by (try simp); (try omega)) _ | refine pw_below_drewN ?_ _ | refine Below.drew ?_))
theorem structure_any {B : Nat} {w : World} {A : Option Addr} {n c : Nat} {ss : List (List Int)} (hB : B ≤ w.heap.size) (hS : RS B w A n ss) (hw : WFS ss) (p : Ptr) (hp : PtrIn p) (seg start : Int) :
    Calls Tryd.prog 80 #[.slice A n c, vPtr p, .int .i64 seg, .int .i64 start] w (VPost w (vObE (within ss ⟨1, seg, start, p.data, p.ptrs, 0, 0, p.data + p.ptrs⟩ start (p.data + p.ptrs)))) := by
  have HS := Lib.hid hS
  have Hw := Lib.hid hw
  obtain ⟨d0, d1⟩ := hp.data
  obtain ⟨p0, p1⟩ := hp.ptrs
  clear hS hw hp
  go_enter Tryd.func80, Tryd.ntmps80
  go_wp2_with (go_at_call 134; refine (within_any (B := B) (Nat.le_trans hB (Below.size (w := w) (B := w.heap.size) (by (repeat (first | exact Below.refl _ _ | assumption | refine Below.setCell ?_ (by (try simp); (try omega)) _ | refine Below.alloc ?_ (by (try simp); (try omega)) _ | refine below_setRow ?_ (by (try simp); (try omega)) _ | refine pw_below_drewN ?_ _ | refine Below.drew ?_))))) (HS.out.mono (Below.mono (B := w.heap.size) (by (repeat (first | exact Below.refl _ _ | assumption | refine Below.setCell ?_ (by (try simp); (try omega)) _ | refine Below.alloc ?_ (by (try simp); (try omega)) _ | refine below_setRow ?_ (by (try simp); (try omega)) _ | refine pw_below_drewN ?_ _ | refine Below.drew ?_))) hB) (Nat.le_refl _)) Hw.out ⟨1, seg, start, p.data, p.ptrs, 0, 0, p.data + p.ptrs⟩ _ _).mono ?_; rintro e w1 ⟨rfl, hb1⟩; have hB1 := below_step (w := w) (by (repeat (first | exact Below.refl _ _ | assumption | refine Below.setCell ?_ (by (try simp); (try omega)) _ | refine Below.alloc ?_ (by (try simp); (try omega)) _ | refine below_setRow ?_ (by (try simp); (try omega)) _ | refine pw_below_drewN ?_ _ | refine Below.drew ?_))) hb1; obtain ⟨hc1, hf1⟩ := bcell hb1; have hd1 := blk_below hb1; have hs1 := hB1.size; have hz1_0 : w.heap.size < w1.heap.size := (by have hq := hb1.size; (try simp at hq); omega); have hy1_0 : w.heap.size ≠ w1.heap.size := Nat.ne_of_lt hz1_0; have hk1_0 := hd1 (w.heap.size) (by (try simp); (try omega)); (try simp (disch := first | omega | (simp; omega)) only [blk_setRow_far, blk_alloc_past, blk_setCell_far, blk_drewN, blk_drew] at hk1_0); have hz1_1 : w.heap.size + 1 < w1.heap.size := (by have hq := hb1.size; (try simp at hq); omega); have hy1_1 : w.heap.size + 1 ≠ w1.heap.size := Nat.ne_of_lt hz1_1; have hk1_1 := hd1 (w.heap.size + 1) (by (try simp); (try omega)); (try simp (disch := first | omega | (simp; omega)) only [blk_setRow_far, blk_alloc_past, blk_setCell_far, blk_drewN, blk_drew] at hk1_1); have hz1_2 : w.heap.size + 1 + 1 < w1.heap.size := (by have hq := hb1.size; (try simp at hq); omega); have hy1_2 : w.heap.size + 1 + 1 ≠ w1.heap.size := Nat.ne_of_lt hz1_2; have hk1_2 := hd1 (w.heap.size + 1 + 1) (by (try simp); (try omega)); (try simp (disch := first | omega | (simp; omega)) only [blk_setRow_far, blk_alloc_past, blk_setCell_far, blk_drewN, blk_drew] at hk1_2))
  refine bodyPost_ret (v := vObE (within ss ⟨1, seg, start, p.data, p.ptrs, 0, 0, p.data + p.ptrs⟩ start (p.data + p.ptrs))) ((results_blk2 _ st_Object rfl _ ((w.heap.size + 1) ) rfl (by simp [go_sem, hd1, hz1_0, hz1_1, hy1_0, hy1_1]) (by simp [go_sem, hd1, hz1_0, hz1_1, hy1_0, hy1_1])).trans (by simp [go_sem, hd1, hz1_0, hz1_1, hy1_0, hy1_1]; try omega)) rfl ⟨rfl, ?_⟩
  (repeat (first | exact Below.refl _ _ | assumption | refine Below.setCell ?_ (by (try simp); (try omega)) _ | refine Below.alloc ?_ (by (try simp); (try omega)) _ | refine below_setRow ?_ (by (try simp); (try omega)) _ | refine pw_below_drewN ?_ _ | refine Below.drew ?_))
set_option maxRecDepth 100000 in
set_option maxHeartbeats 4000000 in
theorem composite_any {B : Nat} {w : World} {A : Option Addr} {n c : Nat} {ss : List (List Int)} (hE : Env B w) (hB : B ≤ w.heap.size) (hS : RS B w A n ss) (hw : WFS ss) (p : Ptr) (hp : PtrIn p) (seg start : Int) :
    Calls Tryd.prog 135 #[.slice A n c, vPtr p, .int .i64 seg, .int .i64 start] w (VPost w (vObE (composite ss p seg start))) := by
  have HE := Lib.hid hE
  have HS := Lib.hid hS
  have Hw := Lib.hid hw
  obtain ⟨c0, c1⟩ := hp.count
  clear hE hS hw hp
  by_cases hb : inB ss seg start (p.count + 1) = true
  · obtain ⟨h0, h1, h2, h3, h4, h5⟩ := inB_of hb
    have hsl := segLen_bd Hw.out seg
    have hst : start < 1000000 := by omega
    have hb1 : inB ss seg start 1 = true := decide_eq_true ⟨h0, h1, h2, by omega, h4, by omega⟩
    have Hb := Lib.hid hb
    have Hb1 := Lib.hid hb1
    have HU := Lib.hid (wordAt_U64 Hw.out seg start)
    clear h0 h1 h3 h4 h5 hsl hb1
    generalize hX : wordAt ss seg start = X at *
    obtain ⟨d0, d1⟩ := (decodeI_in X).data
    obtain ⟨p0, p1⟩ := (decodeI_in X).ptrs
    obtain ⟨o0, o1⟩ := (decodeI_in X).offset
    have HD3 := Lib.hid (show ((((decodeI X).kind != 0) || decide ((decodeI X).offset < 0) || decide (p.count < (decodeI X).offset * ((decodeI X).data + (decodeI X).ptrs))) = true → composite ss p seg start = (Ob.zero, 5)) from fun h => by
      unfold composite; dsimp only; rw [hX, if_neg (by rw [hb]; decide), if_pos h])
    have HD0 := Lib.hid (show ((((decodeI X).kind != 0) || decide ((decodeI X).offset < 0) || decide (p.count < (decodeI X).offset * ((decodeI X).data + (decodeI X).ptrs))) = false → composite ss p seg start = (⟨2, seg, start + 1, (decodeI X).data, (decodeI X).ptrs, 7, (decodeI X).offset, p.count + 1 + (if (decodeI X).data + (decodeI X).ptrs = 0 then (decodeI X).offset else 0)⟩, 0)) from fun h => by
      unfold composite; dsimp only; rw [hX, if_neg (by rw [hb]; decide), if_neg (by rw [h]; decide)])
    have HX := Lib.hid hX
    clear hb hX
    by_cases t1 : ((decodeI X).kind != 0) = true
    · have Hd := Lib.hid (HD3.out (by rw [t1]; simp))
      go_enter Tryd.func135, Tryd.ntmps135
      go_wp2_with (first | (go_at_call 166; refine (InBounds_any (HS.out.mono (Below.mono (B := w.heap.size) (by (repeat (first | exact Below.refl _ _ | assumption | refine Below.setCell ?_ (by (try simp); (try omega)) _ | refine Below.alloc ?_ (by (try simp); (try omega)) _ | refine below_setRow ?_ (by (try simp); (try omega)) _ | refine pw_below_drewN ?_ _ | refine Below.drew ?_))) hB) (Nat.le_refl _)) Hw.out _ _ _).mono ?_; rw [Hb.out]; rintro e w2 ⟨rfl, hw2⟩; subst w2) |
        (go_at_call 129; refine (Word_any (HS.out.mono (Below.mono (B := w.heap.size) (by (repeat (first | exact Below.refl _ _ | assumption | refine Below.setCell ?_ (by (try simp); (try omega)) _ | refine Below.alloc ?_ (by (try simp); (try omega)) _ | refine below_setRow ?_ (by (try simp); (try omega)) _ | refine pw_below_drewN ?_ _ | refine Below.drew ?_))) hB) (Nat.le_refl _)) Hw.out _ _).mono ?_; rw [Hb1.out, HX.out]; rintro e w2 ⟨rfl, hw2⟩; subst w2) |
        (go_at_call 79; refine (Decode_any (B := B) (HE.out.mono (Below.mono (B := w.heap.size) (by (repeat (first | exact Below.refl _ _ | assumption | refine Below.setCell ?_ (by (try simp); (try omega)) _ | refine Below.alloc ?_ (by (try simp); (try omega)) _ | refine below_setRow ?_ (by (try simp); (try omega)) _ | refine pw_below_drewN ?_ _ | refine Below.drew ?_))) hB) (Nat.le_refl _)) (Nat.le_trans hB (Below.size (w := w) (B := w.heap.size) (by (repeat (first | exact Below.refl _ _ | assumption | refine Below.setCell ?_ (by (try simp); (try omega)) _ | refine Below.alloc ?_ (by (try simp); (try omega)) _ | refine below_setRow ?_ (by (try simp); (try omega)) _ | refine pw_below_drewN ?_ _ | refine Below.drew ?_))))) _ HU.out).mono ?_; rintro e w1 ⟨rfl, hb1⟩; have hB1 := below_step (w := w) (by (repeat (first | exact Below.refl _ _ | assumption | refine Below.setCell ?_ (by (try simp); (try omega)) _ | refine Below.alloc ?_ (by (try simp); (try omega)) _ | refine below_setRow ?_ (by (try simp); (try omega)) _ | refine pw_below_drewN ?_ _ | refine Below.drew ?_))) hb1; obtain ⟨hc1, hf1⟩ := bcell hb1; have hd1 := blk_below hb1; have hs1 := hB1.size; have hz1_0 : w.heap.size < w1.heap.size := (by have hq := hb1.size; (try simp at hq); omega); have hy1_0 : w.heap.size ≠ w1.heap.size := Nat.ne_of_lt hz1_0; have hk1_0 := hd1 (w.heap.size) (by (try simp); (try omega)); (try simp (disch := first | omega | (simp; omega)) only [blk_setRow_far, blk_alloc_past, blk_setCell_far, blk_drewN, blk_drew] at hk1_0); have hz1_1 : w.heap.size + 1 < w1.heap.size := (by have hq := hb1.size; (try simp at hq); omega); have hy1_1 : w.heap.size + 1 ≠ w1.heap.size := Nat.ne_of_lt hz1_1; have hk1_1 := hd1 (w.heap.size + 1) (by (try simp); (try omega)); (try simp (disch := first | omega | (simp; omega)) only [blk_setRow_far, blk_alloc_past, blk_setCell_far, blk_drewN, blk_drew] at hk1_1)))
      refine bodyPost_ret (v := vObE (Ob.zero, 5)) ((results_blk2 _ st_Object rfl _ ((w.heap.size + 1) ) rfl (by simp [go_sem, Ob.zero, hd1, hz1_0, hz1_1, hy1_0, hy1_1]) (by simp [go_sem, Ob.zero, hd1, hz1_0, hz1_1, hy1_0, hy1_1])).trans (by simp [go_sem, Ob.zero, hd1, hz1_0, hz1_1, hy1_0, hy1_1]; try omega)) rfl ⟨by rw [Hd.out], ?_⟩
      (repeat (first | exact Below.refl _ _ | assumption | refine Below.setCell ?_ (by (try simp); (try omega)) _ | refine Below.alloc ?_ (by (try simp); (try omega)) _ | refine below_setRow ?_ (by (try simp); (try omega)) _ | refine pw_below_drewN ?_ _ | refine Below.drew ?_))
    have t1' : ((decodeI X).kind != 0) = false := by simpa using t1
    clear t1
    by_cases t2 : (decodeI X).offset < 0
    · have Hd := Lib.hid (HD3.out (by simp [t2]))
      go_enter Tryd.func135, Tryd.ntmps135
      go_wp2_with (first | (go_at_call 166; refine (InBounds_any (HS.out.mono (Below.mono (B := w.heap.size) (by (repeat (first | exact Below.refl _ _ | assumption | refine Below.setCell ?_ (by (try simp); (try omega)) _ | refine Below.alloc ?_ (by (try simp); (try omega)) _ | refine below_setRow ?_ (by (try simp); (try omega)) _ | refine pw_below_drewN ?_ _ | refine Below.drew ?_))) hB) (Nat.le_refl _)) Hw.out _ _ _).mono ?_; rw [Hb.out]; rintro e w2 ⟨rfl, hw2⟩; subst w2) |
        (go_at_call 129; refine (Word_any (HS.out.mono (Below.mono (B := w.heap.size) (by (repeat (first | exact Below.refl _ _ | assumption | refine Below.setCell ?_ (by (try simp); (try omega)) _ | refine Below.alloc ?_ (by (try simp); (try omega)) _ | refine below_setRow ?_ (by (try simp); (try omega)) _ | refine pw_below_drewN ?_ _ | refine Below.drew ?_))) hB) (Nat.le_refl _)) Hw.out _ _).mono ?_; rw [Hb1.out, HX.out]; rintro e w2 ⟨rfl, hw2⟩; subst w2) |
        (go_at_call 79; refine (Decode_any (B := B) (HE.out.mono (Below.mono (B := w.heap.size) (by (repeat (first | exact Below.refl _ _ | assumption | refine Below.setCell ?_ (by (try simp); (try omega)) _ | refine Below.alloc ?_ (by (try simp); (try omega)) _ | refine below_setRow ?_ (by (try simp); (try omega)) _ | refine pw_below_drewN ?_ _ | refine Below.drew ?_))) hB) (Nat.le_refl _)) (Nat.le_trans hB (Below.size (w := w) (B := w.heap.size) (by (repeat (first | exact Below.refl _ _ | assumption | refine Below.setCell ?_ (by (try simp); (try omega)) _ | refine Below.alloc ?_ (by (try simp); (try omega)) _ | refine below_setRow ?_ (by (try simp); (try omega)) _ | refine pw_below_drewN ?_ _ | refine Below.drew ?_))))) _ HU.out).mono ?_; rintro e w1 ⟨rfl, hb1⟩; have hB1 := below_step (w := w) (by (repeat (first | exact Below.refl _ _ | assumption | refine Below.setCell ?_ (by (try simp); (try omega)) _ | refine Below.alloc ?_ (by (try simp); (try omega)) _ | refine below_setRow ?_ (by (try simp); (try omega)) _ | refine pw_below_drewN ?_ _ | refine Below.drew ?_))) hb1; obtain ⟨hc1, hf1⟩ := bcell hb1; have hd1 := blk_below hb1; have hs1 := hB1.size; have hz1_0 : w.heap.size < w1.heap.size := (by have hq := hb1.size; (try simp at hq); omega); have hy1_0 : w.heap.size ≠ w1.heap.size := Nat.ne_of_lt hz1_0; have hk1_0 := hd1 (w.heap.size) (by (try simp); (try omega)); (try simp (disch := first | omega | (simp; omega)) only [blk_setRow_far, blk_alloc_past, blk_setCell_far, blk_drewN, blk_drew] at hk1_0); have hz1_1 : w.heap.size + 1 < w1.heap.size := (by have hq := hb1.size; (try simp at hq); omega); have hy1_1 : w.heap.size + 1 ≠ w1.heap.size := Nat.ne_of_lt hz1_1; have hk1_1 := hd1 (w.heap.size + 1) (by (try simp); (try omega)); (try simp (disch := first | omega | (simp; omega)) only [blk_setRow_far, blk_alloc_past, blk_setCell_far, blk_drewN, blk_drew] at hk1_1)))
      refine bodyPost_ret (v := vObE (Ob.zero, 5)) ((results_blk2 _ st_Object rfl _ ((w.heap.size + 1) ) rfl (by simp [go_sem, Ob.zero, hd1, hz1_0, hz1_1, hy1_0, hy1_1]) (by simp [go_sem, Ob.zero, hd1, hz1_0, hz1_1, hy1_0, hy1_1])).trans (by simp [go_sem, Ob.zero, hd1, hz1_0, hz1_1, hy1_0, hy1_1]; try omega)) rfl ⟨by rw [Hd.out], ?_⟩
      (repeat (first | exact Below.refl _ _ | assumption | refine Below.setCell ?_ (by (try simp); (try omega)) _ | refine Below.alloc ?_ (by (try simp); (try omega)) _ | refine below_setRow ?_ (by (try simp); (try omega)) _ | refine pw_below_drewN ?_ _ | refine Below.drew ?_))
    obtain ⟨m0, m1⟩ := mul_bd (Int.not_lt.1 t2) (Int.le_of_lt o1) (show 0 ≤ (decodeI X).data + (decodeI X).ptrs by omega) (show (decodeI X).data + (decodeI X).ptrs ≤ 131072 by omega)
    by_cases t3 : p.count < (decodeI X).offset * ((decodeI X).data + (decodeI X).ptrs)
    · have Hd := Lib.hid (HD3.out (by simp [t3]))
      go_enter Tryd.func135, Tryd.ntmps135
      go_wp2_with (first | (go_at_call 166; refine (InBounds_any (HS.out.mono (Below.mono (B := w.heap.size) (by (repeat (first | exact Below.refl _ _ | assumption | refine Below.setCell ?_ (by (try simp); (try omega)) _ | refine Below.alloc ?_ (by (try simp); (try omega)) _ | refine below_setRow ?_ (by (try simp); (try omega)) _ | refine pw_below_drewN ?_ _ | refine Below.drew ?_))) hB) (Nat.le_refl _)) Hw.out _ _ _).mono ?_; rw [Hb.out]; rintro e w2 ⟨rfl, hw2⟩; subst w2) |
        (go_at_call 129; refine (Word_any (HS.out.mono (Below.mono (B := w.heap.size) (by (repeat (first | exact Below.refl _ _ | assumption | refine Below.setCell ?_ (by (try simp); (try omega)) _ | refine Below.alloc ?_ (by (try simp); (try omega)) _ | refine below_setRow ?_ (by (try simp); (try omega)) _ | refine pw_below_drewN ?_ _ | refine Below.drew ?_))) hB) (Nat.le_refl _)) Hw.out _ _).mono ?_; rw [Hb1.out, HX.out]; rintro e w2 ⟨rfl, hw2⟩; subst w2) |
        (go_at_call 79; refine (Decode_any (B := B) (HE.out.mono (Below.mono (B := w.heap.size) (by (repeat (first | exact Below.refl _ _ | assumption | refine Below.setCell ?_ (by (try simp); (try omega)) _ | refine Below.alloc ?_ (by (try simp); (try omega)) _ | refine below_setRow ?_ (by (try simp); (try omega)) _ | refine pw_below_drewN ?_ _ | refine Below.drew ?_))) hB) (Nat.le_refl _)) (Nat.le_trans hB (Below.size (w := w) (B := w.heap.size) (by (repeat (first | exact Below.refl _ _ | assumption | refine Below.setCell ?_ (by (try simp); (try omega)) _ | refine Below.alloc ?_ (by (try simp); (try omega)) _ | refine below_setRow ?_ (by (try simp); (try omega)) _ | refine pw_below_drewN ?_ _ | refine Below.drew ?_))))) _ HU.out).mono ?_; rintro e w1 ⟨rfl, hb1⟩; have hB1 := below_step (w := w) (by (repeat (first | exact Below.refl _ _ | assumption | refine Below.setCell ?_ (by (try simp); (try omega)) _ | refine Below.alloc ?_ (by (try simp); (try omega)) _ | refine below_setRow ?_ (by (try simp); (try omega)) _ | refine pw_below_drewN ?_ _ | refine Below.drew ?_))) hb1; obtain ⟨hc1, hf1⟩ := bcell hb1; have hd1 := blk_below hb1; have hs1 := hB1.size; have hz1_0 : w.heap.size < w1.heap.size := (by have hq := hb1.size; (try simp at hq); omega); have hy1_0 : w.heap.size ≠ w1.heap.size := Nat.ne_of_lt hz1_0; have hk1_0 := hd1 (w.heap.size) (by (try simp); (try omega)); (try simp (disch := first | omega | (simp; omega)) only [blk_setRow_far, blk_alloc_past, blk_setCell_far, blk_drewN, blk_drew] at hk1_0); have hz1_1 : w.heap.size + 1 < w1.heap.size := (by have hq := hb1.size; (try simp at hq); omega); have hy1_1 : w.heap.size + 1 ≠ w1.heap.size := Nat.ne_of_lt hz1_1; have hk1_1 := hd1 (w.heap.size + 1) (by (try simp); (try omega)); (try simp (disch := first | omega | (simp; omega)) only [blk_setRow_far, blk_alloc_past, blk_setCell_far, blk_drewN, blk_drew] at hk1_1)))
      refine bodyPost_ret (v := vObE (Ob.zero, 5)) ((results_blk2 _ st_Object rfl _ ((w.heap.size + 1) ) rfl (by simp [go_sem, Ob.zero, hd1, hz1_0, hz1_1, hy1_0, hy1_1]) (by simp [go_sem, Ob.zero, hd1, hz1_0, hz1_1, hy1_0, hy1_1])).trans (by simp [go_sem, Ob.zero, hd1, hz1_0, hz1_1, hy1_0, hy1_1]; try omega)) rfl ⟨by rw [Hd.out], ?_⟩
      (repeat (first | exact Below.refl _ _ | assumption | refine Below.setCell ?_ (by (try simp); (try omega)) _ | refine Below.alloc ?_ (by (try simp); (try omega)) _ | refine below_setRow ?_ (by (try simp); (try omega)) _ | refine pw_below_drewN ?_ _ | refine Below.drew ?_))
    have Hd := Lib.hid (HD0.out (by rw [t1', decide_eq_false t2, decide_eq_false t3]; rfl))
    by_cases t4 : (decodeI X).data + (decodeI X).ptrs = 0
    · go_enter Tryd.func135, Tryd.ntmps135
      go_wp2_with (first | (go_at_call 166; refine (InBounds_any (HS.out.mono (Below.mono (B := w.heap.size) (by (repeat (first | exact Below.refl _ _ | assumption | refine Below.setCell ?_ (by (try simp); (try omega)) _ | refine Below.alloc ?_ (by (try simp); (try omega)) _ | refine below_setRow ?_ (by (try simp); (try omega)) _ | refine pw_below_drewN ?_ _ | refine Below.drew ?_))) hB) (Nat.le_refl _)) Hw.out _ _ _).mono ?_; rw [Hb.out]; rintro e w2 ⟨rfl, hw2⟩; subst w2) |
        (go_at_call 129; refine (Word_any (HS.out.mono (Below.mono (B := w.heap.size) (by (repeat (first | exact Below.refl _ _ | assumption | refine Below.setCell ?_ (by (try simp); (try omega)) _ | refine Below.alloc ?_ (by (try simp); (try omega)) _ | refine below_setRow ?_ (by (try simp); (try omega)) _ | refine pw_below_drewN ?_ _ | refine Below.drew ?_))) hB) (Nat.le_refl _)) Hw.out _ _).mono ?_; rw [Hb1.out, HX.out]; rintro e w2 ⟨rfl, hw2⟩; subst w2) |
        (go_at_call 79; refine (Decode_any (B := B) (HE.out.mono (Below.mono (B := w.heap.size) (by (repeat (first | exact Below.refl _ _ | assumption | refine Below.setCell ?_ (by (try simp); (try omega)) _ | refine Below.alloc ?_ (by (try simp); (try omega)) _ | refine below_setRow ?_ (by (try simp); (try omega)) _ | refine pw_below_drewN ?_ _ | refine Below.drew ?_))) hB) (Nat.le_refl _)) (Nat.le_trans hB (Below.size (w := w) (B := w.heap.size) (by (repeat (first | exact Below.refl _ _ | assumption | refine Below.setCell ?_ (by (try simp); (try omega)) _ | refine Below.alloc ?_ (by (try simp); (try omega)) _ | refine below_setRow ?_ (by (try simp); (try omega)) _ | refine pw_below_drewN ?_ _ | refine Below.drew ?_))))) _ HU.out).mono ?_; rintro e w1 ⟨rfl, hb1⟩; have hB1 := below_step (w := w) (by (repeat (first | exact Below.refl _ _ | assumption | refine Below.setCell ?_ (by (try simp); (try omega)) _ | refine Below.alloc ?_ (by (try simp); (try omega)) _ | refine below_setRow ?_ (by (try simp); (try omega)) _ | refine pw_below_drewN ?_ _ | refine Below.drew ?_))) hb1; obtain ⟨hc1, hf1⟩ := bcell hb1; have hd1 := blk_below hb1; have hs1 := hB1.size; have hz1_0 : w.heap.size < w1.heap.size := (by have hq := hb1.size; (try simp at hq); omega); have hy1_0 : w.heap.size ≠ w1.heap.size := Nat.ne_of_lt hz1_0; have hk1_0 := hd1 (w.heap.size) (by (try simp); (try omega)); (try simp (disch := first | omega | (simp; omega)) only [blk_setRow_far, blk_alloc_past, blk_setCell_far, blk_drewN, blk_drew] at hk1_0); have hz1_1 : w.heap.size + 1 < w1.heap.size := (by have hq := hb1.size; (try simp at hq); omega); have hy1_1 : w.heap.size + 1 ≠ w1.heap.size := Nat.ne_of_lt hz1_1; have hk1_1 := hd1 (w.heap.size + 1) (by (try simp); (try omega)); (try simp (disch := first | omega | (simp; omega)) only [blk_setRow_far, blk_alloc_past, blk_setCell_far, blk_drewN, blk_drew] at hk1_1)))
      refine bodyPost_ret (v := vObE (⟨2, seg, start + 1, (decodeI X).data, (decodeI X).ptrs, 7, (decodeI X).offset, p.count + 1 + (decodeI X).offset⟩, 0)) ((results_blk2 _ st_Object rfl _ ((w.heap.size + 1) ) rfl (by simp [go_sem, hd1, hz1_0, hz1_1, hy1_0, hy1_1]) (by simp [go_sem, hd1, hz1_0, hz1_1, hy1_0, hy1_1])).trans (by simp [go_sem, hd1, hz1_0, hz1_1, hy1_0, hy1_1]; try omega)) rfl ⟨by rw [Hd.out, if_pos t4], ?_⟩
      (repeat (first | exact Below.refl _ _ | assumption | refine Below.setCell ?_ (by (try simp); (try omega)) _ | refine Below.alloc ?_ (by (try simp); (try omega)) _ | refine below_setRow ?_ (by (try simp); (try omega)) _ | refine pw_below_drewN ?_ _ | refine Below.drew ?_))
    · go_enter Tryd.func135, Tryd.ntmps135
      go_wp2_with (first | (go_at_call 166; refine (InBounds_any (HS.out.mono (Below.mono (B := w.heap.size) (by (repeat (first | exact Below.refl _ _ | assumption | refine Below.setCell ?_ (by (try simp); (try omega)) _ | refine Below.alloc ?_ (by (try simp); (try omega)) _ | refine below_setRow ?_ (by (try simp); (try omega)) _ | refine pw_below_drewN ?_ _ | refine Below.drew ?_))) hB) (Nat.le_refl _)) Hw.out _ _ _).mono ?_; rw [Hb.out]; rintro e w2 ⟨rfl, hw2⟩; subst w2) |
        (go_at_call 129; refine (Word_any (HS.out.mono (Below.mono (B := w.heap.size) (by (repeat (first | exact Below.refl _ _ | assumption | refine Below.setCell ?_ (by (try simp); (try omega)) _ | refine Below.alloc ?_ (by (try simp); (try omega)) _ | refine below_setRow ?_ (by (try simp); (try omega)) _ | refine pw_below_drewN ?_ _ | refine Below.drew ?_))) hB) (Nat.le_refl _)) Hw.out _ _).mono ?_; rw [Hb1.out, HX.out]; rintro e w2 ⟨rfl, hw2⟩; subst w2) |
        (go_at_call 79; refine (Decode_any (B := B) (HE.out.mono (Below.mono (B := w.heap.size) (by (repeat (first | exact Below.refl _ _ | assumption | refine Below.setCell ?_ (by (try simp); (try omega)) _ | refine Below.alloc ?_ (by (try simp); (try omega)) _ | refine below_setRow ?_ (by (try simp); (try omega)) _ | refine pw_below_drewN ?_ _ | refine Below.drew ?_))) hB) (Nat.le_refl _)) (Nat.le_trans hB (Below.size (w := w) (B := w.heap.size) (by (repeat (first | exact Below.refl _ _ | assumption | refine Below.setCell ?_ (by (try simp); (try omega)) _ | refine Below.alloc ?_ (by (try simp); (try omega)) _ | refine below_setRow ?_ (by (try simp); (try omega)) _ | refine pw_below_drewN ?_ _ | refine Below.drew ?_))))) _ HU.out).mono ?_; rintro e w1 ⟨rfl, hb1⟩; have hB1 := below_step (w := w) (by (repeat (first | exact Below.refl _ _ | assumption | refine Below.setCell ?_ (by (try simp); (try omega)) _ | refine Below.alloc ?_ (by (try simp); (try omega)) _ | refine below_setRow ?_ (by (try simp); (try omega)) _ | refine pw_below_drewN ?_ _ | refine Below.drew ?_))) hb1; obtain ⟨hc1, hf1⟩ := bcell hb1; have hd1 := blk_below hb1; have hs1 := hB1.size; have hz1_0 : w.heap.size < w1.heap.size := (by have hq := hb1.size; (try simp at hq); omega); have hy1_0 : w.heap.size ≠ w1.heap.size := Nat.ne_of_lt hz1_0; have hk1_0 := hd1 (w.heap.size) (by (try simp); (try omega)); (try simp (disch := first | omega | (simp; omega)) only [blk_setRow_far, blk_alloc_past, blk_setCell_far, blk_drewN, blk_drew] at hk1_0); have hz1_1 : w.heap.size + 1 < w1.heap.size := (by have hq := hb1.size; (try simp at hq); omega); have hy1_1 : w.heap.size + 1 ≠ w1.heap.size := Nat.ne_of_lt hz1_1; have hk1_1 := hd1 (w.heap.size + 1) (by (try simp); (try omega)); (try simp (disch := first | omega | (simp; omega)) only [blk_setRow_far, blk_alloc_past, blk_setCell_far, blk_drewN, blk_drew] at hk1_1)))
      refine bodyPost_ret (v := vObE (⟨2, seg, start + 1, (decodeI X).data, (decodeI X).ptrs, 7, (decodeI X).offset, p.count + 1⟩, 0)) ((results_blk2 _ st_Object rfl _ ((w.heap.size + 1) ) rfl (by simp [go_sem, hd1, hz1_0, hz1_1, hy1_0, hy1_1]) (by simp [go_sem, hd1, hz1_0, hz1_1, hy1_0, hy1_1])).trans (by simp [go_sem, hd1, hz1_0, hz1_1, hy1_0, hy1_1]; try omega)) rfl ⟨by rw [Hd.out, if_neg t4, Int.add_zero], ?_⟩
      (repeat (first | exact Below.refl _ _ | assumption | refine Below.setCell ?_ (by (try simp); (try omega)) _ | refine Below.alloc ?_ (by (try simp); (try omega)) _ | refine below_setRow ?_ (by (try simp); (try omega)) _ | refine pw_below_drewN ?_ _ | refine Below.drew ?_))
  · have hb' : inB ss seg start (p.count + 1) = false := by simpa using hb
    have hs : composite ss p seg start = (Ob.zero, 2) := by unfold composite; rw [if_pos hb']
    rw [hs]
    have Hb := Lib.hid hb'
    clear hb hb' hs
    go_enter Tryd.func135, Tryd.ntmps135
    go_wp2_with (first | (go_at_call 166; refine (InBounds_any (HS.out.mono (Below.mono (B := w.heap.size) (by (repeat (first | exact Below.refl _ _ | assumption | refine Below.setCell ?_ (by (try simp); (try omega)) _ | refine Below.alloc ?_ (by (try simp); (try omega)) _ | refine below_setRow ?_ (by (try simp); (try omega)) _ | refine pw_below_drewN ?_ _ | refine Below.drew ?_))) hB) (Nat.le_refl _)) Hw.out _ _ _).mono ?_; rw [Hb.out]; rintro e w2 ⟨rfl, hw2⟩; subst w2))
    refine bodyPost_ret (v := vObE (Ob.zero, 2)) ((results_blk2 _ st_Object rfl _ ((w.heap.size + 1) ) rfl (by simp [go_sem, Ob.zero]) (by simp [go_sem, Ob.zero])).trans (by simp [go_sem, Ob.zero]; try omega)) rfl ⟨rfl, ?_⟩
    (repeat (first | exact Below.refl _ _ | assumption | refine Below.setCell ?_ (by (try simp); (try omega)) _ | refine Below.alloc ?_ (by (try simp); (try omega)) _ | refine below_setRow ?_ (by (try simp); (try omega)) _ | refine pw_below_drewN ?_ _ | refine Below.drew ?_))
end Go.Proofs.YtelghkgnkncnoaaDoor
