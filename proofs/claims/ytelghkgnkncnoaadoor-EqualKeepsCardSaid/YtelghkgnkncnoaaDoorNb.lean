/- A part of the proof: the texts W17 W18 W19 joined. -/
import Derived.Test.YtelghkgnkncnoaaDoorNa
import Derived.Test.YtelghkgnkncnoaaDoorDa
import Derived.Deep.AppendLies
/- Contract of denote's reader.list at a composite list, out of that of value. -/
set_option linter.unusedVariables false
set_option linter.unusedSimpArgs false
namespace Go.Proofs.YtelghkgnkncnoaaDoor
open Go.RowKit
/-- what holds inside the region that reads an element and appends it -/
structure CInv (wr : World) (R : Nat) (rd : Int → Option Obj) (mm m2 : Int) (x : Nd) (G : Prop) (V : Nat → Value) (L : Nat → Bool) (vs : Nat → Value) (W : World) : Prop where
  but : But wr.heap.size R wr W
  before : L 7 = false → blk W R = rd mm
  after : L 7 = true → ∃ cs : List Value, vs 7 = .agg cs.toArray ∧ NdV (From wr.heap.size W) W x cs ∧ blk W R = rd m2 ∧ G
  vals : ∀ i, i < 7 → L i = true → vs i = V i
  row : L 8 = true → L 7 = true ∧ ∃ (g : Nat) (cs : List Value), vs 7 = .agg cs.toArray ∧ vs 8 = .slice (some ⟨g, 0, none⟩) 1 1 ∧ wr.heap.size ≤ g ∧ g < W.heap.size ∧ blk W g = some (.cells cs.toArray 42 (0, 0))
theorem CInv.quiet {wr W W' : World} {R : Nat} {rd : Int → Option Obj} {mm m2 : Int} {x : Nd} {G : Prop} {V : Nat → Value} {L : Nat → Bool} {vs : Nat → Value} (h : CInv wr R rd mm m2 x G V L vs W) (hR : R < wr.heap.size) {i : Nat} (hi : i < 7) (hb : Below W.heap.size W W') :
    After 9 i (V i) (CInv wr R rd mm m2 x G V) L vs W' := by
  intro L' vs' h1 h2 h3 h4
  have hs := h.but.size
  have hs2 := hb.size
  refine ⟨h.but.trans ((But.of hb).mono hs), fun h7 => ?_, fun h7 => ?_, fun j hj hl => ?_, fun h8 => ?_⟩
  · rw [h2 7 (by omega)] at h7
    rw [blk_below hb R (by omega)]; exact h.before h7
  · rw [h2 7 (by omega)] at h7
    obtain ⟨cs, e1, e2, e3, e4⟩ := h.after h7
    refine ⟨cs, by rw [h4 7 (by omega) (by omega)]; exact e1, e2.mono (fun b hb' => ⟨hb'.1, by have := hb'.2; omega⟩) (fun b hb' => blk_below hb b hb'.2), by rw [blk_below hb R (by omega)]; exact e3, e4⟩
  · by_cases hji : j = i
    · subst hji; exact h3
    · rw [h4 j (by omega) hji]; exact h.vals j hj (by rw [← h2 j hji]; exact hl)
  · rw [h2 8 (by omega)] at h8
    obtain ⟨e7, g, cs, e1, e2, e3, e4, e5⟩ := h.row h8
    refine ⟨by rw [h2 7 (by omega)]; exact e7, g, cs, by rw [h4 7 (by omega) (by omega)]; exact e1, by rw [h4 8 (by omega) (by omega)]; exact e2, e3, by omega, by rw [blk_below hb g e4]; exact e5⟩
theorem CInv.node {wr W W' : World} {R : Nat} {rd : Int → Option Obj} {mm m2 : Int} {x : Nd} {G : Prop} {V : Nat → Value} {L : Nat → Bool} {vs : Nat → Value} (h : CInv wr R rd mm m2 x G V L vs W) (hl : L 7 = false) {cs : List Value} (hb : But W.heap.size R W W') (hx : NdV (From W.heap.size W') W' x cs) (hr : blk W' R = rd m2) (hG : G) :
    After 9 7 (.agg cs.toArray) (CInv wr R rd mm m2 x G V) L vs W' := by
  intro L' vs' h1 h2 h3 h4
  have hs := h.but.size
  refine ⟨h.but.trans (hb.mono hs), fun h7 => ?_, fun h7 => ⟨cs, h3, hx.mono (fun b hb' => ⟨by have := hb'.1; omega, hb'.2⟩) (fun _ _ => rfl), hr, hG⟩, fun j hj hl' => ?_, fun h8 => ?_⟩
  · rw [h1] at h7; cases h7
  · rw [h4 j (by omega) (by omega)]; exact h.vals j hj (by rw [← h2 j (by omega)]; exact hl')
  · rw [h2 8 (by omega)] at h8
    rw [(h.row h8).1] at hl; cases hl
theorem CInv.slice {wr W : World} {R : Nat} {rd : Int → Option Obj} {mm m2 : Int} {x : Nd} {G : Prop} {V : Nat → Value} {L : Nat → Bool} {vs : Nat → Value} (h : CInv wr R rd mm m2 x G V L vs W) (hR : R < wr.heap.size) (hl : L 7 = true) {cs : List Value} (hc : vs 7 = .agg cs.toArray) :
    After 9 8 (.slice (some ⟨W.heap.size, 0, none⟩) 1 1) (CInv wr R rd mm m2 x G V) L vs (W.alloc (.cells cs.toArray 42)) := by
  intro L' vs' h1 h2 h3 h4
  have hs := h.but.size
  have hb : Below W.heap.size W (W.alloc (.cells cs.toArray 42)) := (Below.refl _ _).alloc (Nat.le_refl _) _
  obtain ⟨cs', e1, e2, e3, e4⟩ := h.after hl
  refine ⟨h.but.trans ((But.of hb).mono hs), fun h7 => ?_, fun h7 => ?_, fun j hj hl' => ?_, fun h8 => ?_⟩
  · rw [h2 7 (by omega), hl] at h7; cases h7
  · refine ⟨cs', by rw [h4 7 (by omega) (by omega)]; exact e1, e2.mono (fun b hb' => ⟨hb'.1, by have := hb'.2; simp; omega⟩) (fun b hb' => blk_below hb b hb'.2), by rw [blk_below hb R (by omega)]; exact e3, e4⟩
  · rw [h4 j (by omega) (by omega)]; exact h.vals j hj (by rw [← h2 j (by omega)]; exact hl')
  · exact ⟨by rw [h2 7 (by omega)]; exact hl, W.heap.size, cs, by rw [h4 7 (by omega) (by omega)]; exact hc, h3, hs, by simp, blk_alloc_new _ _⟩
theorem five {l : List Value} (h : l.length = 5) : ∃ a b c d e, l = [a, b, c, d, e] := by
  match l, h with
  | [a, b, c, d, e], _ => exact ⟨a, b, c, d, e, rfl⟩
set_option maxRecDepth 100000 in
set_option maxHeartbeats 1000000 in
theorem rlist_comp {k : Nat} (hV : ValueSaid k) {B R : Nat} {w : World} {A : Option Addr} {n c : Nat} {ss : List (List Int)} {dl wl ol m : Int} (h : RdIn B R w A n c ss dl wl ol m) (sg at_ da pt : Int) (N : Nat) (co : Int) (ho : ObIn ss ⟨2, sg, at_, da, pt, 7, N, co⟩) (hN : N ≤ 1000000) (d : Int) (d0 : 0 ≤ d) (d1 : d ≤ 1000000) (hk : k = (dl + 1 - (d + 1)).toNat) :
    Calls Tryd.prog 124 #[.pointer (some ⟨R, 0, none⟩), vOb ⟨2, sg, at_, da, pt, 7, N, co⟩, .int .i64 d] w (NPost w R (rdC A n c dl wl ol) (listV ss (valueV ss k) ⟨2, sg, at_, da, pt, 7, N, co⟩ m)) := by
  have o2 := ho.data
  have o3 := ho.ptrs
  have o4 := (inB_of ho.inb).2.2.1
  have o5 := (inB_of ho.inb).2.2.2.2.1
  have o6 := (segLen_bd h.wf sg).2
  simp only at o2 o3 o4 o5
  have HV := Lib.hid hV
  have H := Lib.hid h
  have HO := Lib.hid ho
  have HK := Lib.hid hk
  have hRw := h.lt
  obtain ⟨f, hf⟩ : ∃ f : Int → Nat → Tv, f = fun (m : Int) (i : Nat) => structV ss (valueV ss k) (element ⟨2, sg, at_, da, pt, 7, N, co⟩ (i : Int)) m := ⟨_, rfl⟩
  have hL : Hid (listV ss (valueV ss k) ⟨2, sg, at_, da, pt, 7, N, co⟩ m = mapNd (fun l => .mk 2 7 N [] l) (upto f m N)) := by show _ = _; unfold listV compV; dsimp only; rw [if_neg (by omega), if_pos rfl, hf]; rfl
  have HF := Lib.hid hf
  have hLow : Hid (∀ i, Low fun m => f m i) := by intro i; rw [hf]; exact structV_low (fun seg at_ => valueV_low h.wf k seg at_) _
  have hr := Lib.hid h.row
  obtain ⟨i0, hi, hz0, hz1, hz2⟩ := info_parts info_Node
  clear hV h ho hk hf
  rw [hL.out]
  go_enter Tryd.func124, Tryd.ntmps124
  go_wp2
  go_loopw [40] (fun i wr => ∃ (j : Nat) (l : List Nd) (mm : Int) (xs : List Value) (A' : Option Addr) (c' : Nat), j ≤ N ∧ i = .int .i64 j ∧ upto f m j = .ok (l, mm) ∧ wr.ownsRow (w.heap.size + 3) 42 5 (.slice A' j c') j xs ∧ NdsV (Grow (w.heap.size + 3) wr (.slice A' j c')) wr l xs ∧ But w.heap.size R w wr ∧ w.heap.size + 3 ≤ wr.heap.size ∧ blk wr R = rdC A n c dl wl ol mm ∧
      blk wr w.heap.size = some (.cells #[.int .i64 2, .int .i64 sg, .int .i64 at_, .int .i64 da, .int .i64 pt, .int .i64 7, .int .i64 N, .int .i64 co] 61 (0, 0)) ∧
      blk wr (w.heap.size + 1) = some (.cells #[.int .i64 0, .int .i64 0, .int .i64 0, .slice none 0 0, .slice none 0 0] 42 (0, 0)) ∧
      blk wr (w.heap.size + 1 + 1) = some (.cells #[.int .i64 2, .int .i64 7, .int .i64 N, .slice none 0 0, .slice A' j c'] 42 (0, 0))) (fun i _ => N - (intOf i).toNat)
  case atStart =>
    refine ⟨0, [], m, [], none, 0, Nat.zero_le _, rfl, rfl, World.ownsRow_nil _ _ _ _, rfl, by (repeat (first | exact But.refl _ _ _ | assumption | exact But.of (by assumption) | refine But.setCell ?_ (by (try simp); (try omega)) _ | refine But.alloc ?_ (by (try simp); (try omega)) _ | refine But.setRow ?_ (by (try simp); (try omega)) _ | refine But.drewN ?_ _ | refine But.drew ?_)), by simp [World.setRow], ?_, ?_, ?_, ?_⟩
    · rw [blk_setRow_far _ _ _ _ (by omega), blk_alloc_past _ _ _ (by simp; omega), blk_alloc_past _ _ _ (by simp; omega), blk_alloc_past _ _ _ hRw]; exact hr.out
    · rw [blk_setRow_far _ _ _ _ (by omega)]; go_simp
    · rw [blk_setRow_far _ _ _ _ (by omega)]; go_simp
    · rw [blk_setRow_at]; go_simp
  case round =>
    obtain ⟨j, l, mm, xs, A', c', hj, rfl, hu, hown, hnd, hbut, hsz, hkR, hk0, hk1, hk2⟩ := hrel
    have HU := Lib.hid hu
    have HO1 := Lib.hid hown
    have HD := Lib.hid hnd
    have HB := Lib.hid hbut
    have hmm := upto_low hLow.out H.out.m0 hu
    have H1 : Hid (RdIn B R wr A n c ss dl wl ol mm) := H.out.next hbut hkR hmm.1 hmm.2
    have hkR' : Hid (blk wr R = rdC A n c dl wl ol mm) := hkR
    clear hu hown hnd hbut hmm hkR
    by_cases hlt : j < N
    · have HEl := Lib.hid (element_in HO.out rfl rfl (i := (j : Int)) (by omega) (by simp only; omega))
      obtain ⟨x, m2, hxm⟩ : ∃ x m2, ∀ y z, f mm j = .ok (y, z) → y = x ∧ z = m2 := by
        cases f mm j with
        | error e => exact ⟨.null, 0, fun y z h => by cases h⟩
        | ok r => exact ⟨r.1, r.2, fun y z h => by cases h; exact ⟨rfl, rfl⟩⟩
      have Hxm := Lib.hid hxm
      have hRr : R < wr.heap.size := by omega
      clear hxm
      go_wp2
      refine wp_region_inv' 9 mixed (by kernel_rfl) (CInv wr R (rdC A n c dl wl ol) mm m2 x (f mm j = .ok (x, m2)) (fun i => match i with | 0 => .pointer (some ⟨w.heap.size + 1 + 1, 4, none⟩) | 1 => .slice A' j c' | 2 => .pointer (some ⟨R, 0, none⟩) | 3 => vOb ⟨2, sg, at_, da, pt, 7, N, co⟩ | 4 => .int .i64 (j : Int) | 5 => vOb (element ⟨2, sg, at_, da, pt, 7, N, co⟩ (j : Int)) | _ => .int .i64 d)) ?_ ?_ ?_
      · intro L vs hL0
        exact ⟨(But.refl _ _ _).drew, fun _ => hkR'.out, (fun h7 => by rw [hL0 7 (by omega)] at h7; cases h7), (fun i hi h7 => by rw [hL0 i (by omega)] at h7; cases h7), (fun h8 => by rw [hL0 8 (by omega)] at h8; cases h8)⟩
      · intro i hi a W hdf hag L _ hl hn hI
        have Hdf := Lib.hid hdf
        have hkW0 := (hI.but.block w.heap.size (by omega) (by omega)).trans hk0
        have hkW2 := (hI.but.block (w.heap.size + 1 + 1) (by omega) (by omega)).trans hk2
        have hi' : i = 0 ∨ i = 1 ∨ i = 2 ∨ i = 3 ∨ i = 4 ∨ i = 5 ∨ i = 6 ∨ i = 7 ∨ i = 8 := by omega
        clear hdf
        rcases hi' with rfl | rfl | rfl | rfl | rfl | rfl | rfl | rfl | rfl
        · have e7 := hag 7 rfl; have E7 := e7; rw [Array.getD_eq_getD_getElem?] at E7
          refine InvOp.of _ rfl rfl _ rfl fun K hK => ?_
          go_simp
          exact hK _ _ (hI.quiet hRr (by omega) (Below.refl _ _))
        · have e43 : a.tmps.getD 43 undef = .pointer (some ⟨w.heap.size + 1 + 1, 4, none⟩) := hI.vals 0 (by omega) (hn 0 rfl); have E43 := e43; rw [Array.getD_eq_getD_getElem?] at E43
          refine InvOp.of _ rfl rfl _ rfl fun K hK => ?_
          go_simp
          exact hK _ _ (hI.quiet hRr (by omega) (Below.refl _ _))
        · have e0 := hag 0 rfl; have E0 := e0; rw [Array.getD_eq_getD_getElem?] at E0
          refine InvOp.of _ rfl rfl _ rfl fun K hK => ?_
          go_simp
          exact hK _ _ (hI.quiet hRr (by omega) (Below.refl _ _))
        · have e4 := hag 4 rfl; have E4 := e4; rw [Array.getD_eq_getD_getElem?] at E4
          refine InvOp.of _ rfl rfl _ rfl fun K hK => ?_
          go_simp
          exact hK _ _ (hI.quiet hRr (by omega) (Below.refl _ _))
        · have e8 := hag 8 rfl; have E8 := e8; rw [Array.getD_eq_getD_getElem?] at E8
          refine InvOp.of _ rfl rfl _ rfl fun K hK => ?_
          go_simp
          exact hK _ _ (hI.quiet hRr (by omega) (Below.refl _ _))
        · have e46 : a.tmps.getD 46 undef = vOb ⟨2, sg, at_, da, pt, 7, N, co⟩ := hI.vals 3 (by omega) (hn 3 rfl); have E46 := e46; rw [Array.getD_eq_getD_getElem?] at E46; have e47 : a.tmps.getD 47 undef = .int .i64 (j : Int) := hI.vals 4 (by omega) (hn 4 rfl); have E47 := e47; rw [Array.getD_eq_getD_getElem?] at E47
          refine InvOp.of _ rfl rfl _ rfl fun K hK => ?_
          go_simp
          refine (Element_any ⟨2, sg, at_, da, pt, 7, N, co⟩ _ _ o2.1 o2.2 o3.1 o3.2 (by omega) (by omega) o4 (by simp only; omega)).mono ?_; rintro e w' ⟨rfl, hb⟩; exact hK _ _ (hI.quiet hRr (by omega) hb)
        · have e2 := hag 2 rfl; have E2 := e2; rw [Array.getD_eq_getD_getElem?] at E2
          refine InvOp.of _ rfl rfl _ rfl fun K hK => ?_
          go_simp
          exact hK _ _ (hI.quiet hRr (by omega) (Below.refl _ _))
        · have e45 : a.tmps.getD 45 undef = .pointer (some ⟨R, 0, none⟩) := hI.vals 2 (by omega) (hn 2 rfl); have E45 := e45; rw [Array.getD_eq_getD_getElem?] at E45; have e48 : a.tmps.getD 48 undef = vOb (element ⟨2, sg, at_, da, pt, 7, N, co⟩ (j : Int)) := hI.vals 5 (by omega) (hn 5 rfl); have E48 := e48; rw [Array.getD_eq_getD_getElem?] at E48; have e49 : a.tmps.getD 49 undef = .int .i64 d := hI.vals 6 (by omega) (hn 6 rfl); have E49 := e49; rw [Array.getD_eq_getD_getElem?] at E49; have e7n := hI.before hl; have e7r : RdIn B R W A n c ss dl wl ol mm := H1.out.next hI.but e7n H1.out.m0 (Int.le_refl _); have Hr := Lib.hid e7r; clear e7r e7n
          refine InvOp.of _ rfl rfl _ rfl fun K hK => ?_
          go_simp
          refine (rstructure_any HV.out Hr.out (element ⟨2, sg, at_, da, pt, 7, N, co⟩ (j : Int)) HEl.out rfl d d0 d1 HK.out).mono ?_
          rw [show structV ss (valueV ss k) (element ⟨2, sg, at_, da, pt, 7, N, co⟩ (j : Int)) mm = f mm j from by rw [HF.out]]
          cases hfj : f mm j with
          | error e =>
            rintro e' w' ⟨rfl, hb⟩
            refine ⟨Hdf.out, ?_⟩
            rw [upto_step_err HU.out hfj hlt]
            exact ⟨rfl, HB.out.trans ((hI.but.trans (hb.mono hI.but.size)).mono HB.out.size)⟩
          | ok r =>
            obtain ⟨x', m2'⟩ := r
            rintro e' w' ⟨cs, rfl, hx, hb, hr'⟩
            obtain ⟨rfl, rfl⟩ : x' = x ∧ m2' = m2 := by exact Hxm.out _ _ hfj
            exact hK _ _ (hI.node hl hb hx hr' hfj)
        · have hl7 : L 7 = true := hn 7 rfl; obtain ⟨cs, e50, hx, _, _⟩ := hI.after hl7; obtain ⟨q0, q1, q2, q3, q4, rfl⟩ := five hx.length; clear hx; have e50' : a.tmps.getD 50 undef = .agg #[q0, q1, q2, q3, q4] := e50; have E50 := e50'; rw [Array.getD_eq_getD_getElem?] at E50
          refine InvOp.of _ rfl rfl _ rfl fun K hK => ?_
          go_simp
          exact hK _ _ (hI.slice hRr hl7 e50)
      · intro vs W L hall hI
        have e0 := hI.vals 0 (by omega) (hall 0 (by omega))
        have e1 := hI.vals 1 (by omega) (hall 1 (by omega))
        have e2 := hI.vals 2 (by omega) (hall 2 (by omega))
        have e3 := hI.vals 3 (by omega) (hall 3 (by omega))
        have e4 := hI.vals 4 (by omega) (hall 4 (by omega))
        have e5 := hI.vals 5 (by omega) (hall 5 (by omega))
        have e6 := hI.vals 6 (by omega) (hall 6 (by omega))
        obtain ⟨cs, e7, hx, hr7, hG⟩ := hI.after (hall 7 (by omega))
        have HE := Lib.hid (upto_step_ok HU.out hG)
        clear hG
        obtain ⟨_, g, cs', e7', e8, hg1, hg2, hg3⟩ := hI.row (hall 8 (by omega))
        obtain rfl : cs = cs' := by
          have := e7.symm.trans e7'
          simpa using this
        try dsimp only at e0 e1 e2 e3 e4 e5 e6
        simp only [putAll, slotOf, Option.bind_some, Act.put, List.getElem?_toArray, List.getElem?_cons_zero, List.getElem?_cons_succ, List.setIfInBounds_toArray, List.set_cons_zero, List.set_cons_succ, e0, e1, e2, e3, e4, e5, e6, e7, e8, List.drop_succ_cons, List.drop_zero]
        have HX := Lib.hid hx
        have HR7 := Lib.hid hr7
        have HB7 := Lib.hid hI.but
        have HG := Lib.hid hg3
        have HO7 := Lib.hid (own_but HO1.out hI.but (by omega))
        have hkW0 := (hI.but.block w.heap.size (by omega) (by omega)).trans hk0
        have hkW1 := (hI.but.block (w.heap.size + 1) (by omega) (by omega)).trans hk1
        have hkW2 := (hI.but.block (w.heap.size + 1 + 1) (by omega) (by omega)).trans hk2
        have hsW := hI.but.size
        clear e0 e1 e2 e3 e4 e5 e6 e7 e7' e8 hx hr7 hI hall hg3
        go_wp2_with (at_builtin; (refine wpList_append_lies _ rfl _ _ 40 rfl (w.heap.size + 3) 42 i0 _ 5 72 Tryd.underlying40 hi hz0 hz1 hz2 rfl (by decide) _ _ _ rfl HO7.out ⟨g, 0, none⟩ 1 1 cs rfl (by rw [HX.out.length]) (World.news_of_block HG.out) HX.out.cells (by omega) (by unfold maxLen; omega) (by omega) (by omega) W.heap.size rfl ?_; intro g' cap' w1 hown' hgrow hat hlt'; have hkA0 := (grown_far hgrow (b := w.heap.size) (by omega) (fun e => by have := (own_ge HO7.out _ e).1; omega)).trans hkW0; have hkA1 := (grown_far hgrow (b := w.heap.size + 1) (by omega) (fun e => by have := (own_ge HO7.out _ e).1; omega)).trans hkW1; have hkA2 := (grown_far hgrow (b := w.heap.size + 1 + 1) (by omega) (fun e => by have := (own_ge HO7.out _ e).1; omega)).trans hkW2))
        have g1 : blk w1 R = rdC A n c dl wl ol m2 := (grown_far hgrow (by omega) (fun e => by have := (own_ge HO7.out R e).1; omega)).trans HR7.out
        have g3 := nds_step2 HD.out HO1.out HB7.out (by omega) (by omega) HX.out hgrow (v' := .slice (some ⟨g', 0, none⟩) (j + 1) cap') (by rcases hat with e | e; exact .inl e.symm; exact .inr (by rw [e]; rfl))
        have hsA := hgrow.size
        have g0 : But w.heap.size R w w1 := (HB.out.trans (HB7.out.mono HB.out.size)).grown hgrow (by have := HB.out.size; omega) (fun b hb => by have := (own_ge HO7.out b hb).1; omega)
        have hge := (own_ge hown' g' rfl).1
        refine ⟨⟨j + 1, l ++ [x], m2, xs ++ cs, some ⟨g', 0, none⟩, cap', by omega, by go_num, ?_, ?_, ?_, ?_, ?_, ?_, ?_, ?_, ?_⟩, by simp [intOf]; omega⟩
        · exact HE.out
        · exact ownsRow_setCell_below hown' (by simp) _
        · exact g3.mono (fun b hb => ⟨hb.1, by simp [World.setCell]; exact hb.2.1, hb.2.2⟩) (fun b hb => blk_setCell_far _ _ _ _ _ (by have := hb.1; omega))
        · (repeat (first | exact But.refl _ _ _ | assumption | exact But.of (by assumption) | refine But.setCell ?_ (by (try simp); (try omega)) _ | refine But.alloc ?_ (by (try simp); (try omega)) _ | refine But.setRow ?_ (by (try simp); (try omega)) _ | refine But.drewN ?_ _ | refine But.drew ?_))
        · simp [World.setCell]; omega
        · rw [blk_setCell_far _ _ _ _ _ (by omega)]; exact g1
        · rw [blk_setCell_far _ _ _ _ _ (by omega)]; exact hkA0
        · rw [blk_setCell_far _ _ _ _ _ (by omega)]; exact hkA1
        · rw [blk_setCell_at, hkA2]; rfl
    · obtain rfl : j = N := by omega
      go_wp2
      refine bodyPost_ret (v := .agg #[.int .i64 2, .int .i64 7, .int .i64 j, .slice none 0 0, .slice A' j c']) ((results_blk _ st_Node rfl _ ((w.heap.size + 1) ) rfl (by simp [go_sem, hk0, hk1, hk2]) (by simp [go_sem, hk0, hk1, hk2])).trans (by simp [go_sem, hk0, hk1, hk2]; try omega)) rfl ?_
      rw [HU.out]
      have hlen := upto_length HU.out
      obtain ⟨A2, c2, e1, hl2, hq2⟩ := kids_of HO1.out hlen HD.out
      rw [hlen] at e1
      obtain ⟨rfl, rfl⟩ : A' = A2 ∧ c' = c2 := by simpa using e1
      refine ⟨_, rfl, ?_, ?_, ?_⟩
      · have h := nd_mk (w1 := w) (w3 := wr.setRow (w.heap.size + 1) #[.int .i64 2, .int .i64 7, .int .i64 j, .slice none 0 0, .slice A' j c']) (H := w.heap.size) (k := 2) (e := 7) (n := (j : Int)) (S1 := fun _ => False) (RWS.nil .u8 _ _ none) (Nat.le_refl 0) (fun b hb => hb.elim) hq2 hl2 (fun b hb => by
          obtain ⟨q1, q2⟩ := hb
          refine ⟨by omega, by simp [World.setRow]; omega, blk_setRow_far _ _ _ _ (by omega)⟩)
        rw [hlen] at h
        exact h
      · have hBB := HB.out
        (repeat (first | exact But.refl _ _ _ | assumption | exact But.of (by assumption) | refine But.setCell ?_ (by (try simp); (try omega)) _ | refine But.alloc ?_ (by (try simp); (try omega)) _ | refine But.setRow ?_ (by (try simp); (try omega)) _ | refine But.drewN ?_ _ | refine But.drew ?_))
      · rw [blk_setRow_far _ _ _ _ (by omega)]
        exact hkR'.out
end Go.Proofs.YtelghkgnkncnoaaDoor
/- Contract of denote's reader.value: the ways on which it ends early. -/
set_option linter.unusedVariables false
set_option linter.unusedSimpArgs false
namespace Go.Proofs.YtelghkgnkncnoaaDoor
open Go.RowKit
section
variable {B R : Nat} {w : World} {A : Option Addr} {n c : Nat} {ss : List (List Int)} {dl wl ol m : Int}
theorem RdIn.follow (h : RdIn B R w A n c ss dl wl ol m) (seg at_ : Int) : Calls Tryd.prog 77 #[.slice A n c, .int .i64 seg, .int .i64 at_] w (VPost w (vFol (follow ss seg at_))) :=
  Follow_any h.env (Nat.le_trans h.low (Nat.le_of_lt h.lt)) h.segs h.wf seg at_
theorem RdIn.obj (h : RdIn B R w A n c ss dl wl ol m) (seg at_ : Int) : Calls Tryd.prog 48 #[.slice A n c, .int .i64 seg, .int .i64 at_] w (VPost w (vObE (object ss seg at_))) :=
  Object_any h.env (Nat.le_trans h.low (Nat.le_of_lt h.lt)) h.segs h.wf seg at_
set_option maxRecDepth 100000 in
theorem value_far (h : RdIn B R w A n c ss dl wl ol m) (seg at_ d : Int) (he : (follow ss seg at_).err ≠ 0) :
    Calls Tryd.prog 70 #[.pointer (some ⟨R, 0, none⟩), .int .i64 seg, .int .i64 at_, .int .i64 d] w (NPost w R (rdC A n c dl wl ol) (.error (follow ss seg at_).err)) := by
  have H := Lib.hid h
  have hr := h.row
  have hRw := h.lt
  unfold rdr at hr
  generalize hF : follow ss seg at_ = F at *
  have HF := Lib.hid hF
  clear h hF
  go_enter Tryd.func70, Tryd.ntmps70
  go_wp2_with (first | (go_at_call 77; refine ((H.out.same (by (repeat (first | exact Below.refl _ _ | assumption | refine Below.setCell ?_ (by (try simp); (try omega)) _ | refine Below.alloc ?_ (by (try simp); (try omega)) _ | refine below_setRow ?_ (by (try simp); (try omega)) _ | refine pw_below_drewN ?_ _ | refine Below.drew ?_)))).follow _ _).mono ?_; rw [HF.out]; rintro e w1 ⟨rfl, hb1⟩; have hB1 := below_step (w := w) (by (repeat (first | exact Below.refl _ _ | assumption | refine Below.setCell ?_ (by (try simp); (try omega)) _ | refine Below.alloc ?_ (by (try simp); (try omega)) _ | refine below_setRow ?_ (by (try simp); (try omega)) _ | refine pw_below_drewN ?_ _ | refine Below.drew ?_))) hb1; obtain ⟨hc1, hf1⟩ := bcell hb1; have hd1 := blk_below hb1; have hs1 := hB1.size; have hz1_0 : w.heap.size < w1.heap.size := (by have hq := hb1.size; (try simp at hq); omega); have hy1_0 : w.heap.size ≠ w1.heap.size := Nat.ne_of_lt hz1_0; have hk1_0 := hd1 (w.heap.size) (by (try simp); (try omega)); (try simp (disch := first | omega | (simp; omega)) only [blk_setRow_far, blk_alloc_past, blk_setCell_far, blk_drewN, blk_drew] at hk1_0); have hkR1 := hd1 R (by (try simp); (try omega)); (try simp (disch := first | assumption | omega | (simp; omega)) only [blk_setRow_far, blk_alloc_past, blk_setCell_far, blk_drewN, blk_drew] at hkR1); (try rw [hr] at hkR1); (try simp (disch := first | assumption | omega | (simp; done) | (simp; omega)) only [blk_setRow_far, blk_alloc_past, blk_alloc_new, blk_alloc_at, blk_setCell_far, blk_drewN, blk_drew] at hk1_0)) | (go_at_call 120; refine (check_err _ he _).mono ?_; rintro e w2 ⟨rfl, hw2⟩; subst hw2))
  exact ⟨rfl, rfl, But.of hB1⟩
set_option maxRecDepth 100000 in
theorem value_null (h : RdIn B R w A n c ss dl wl ol m) (seg at_ d : Int) (he : (follow ss seg at_).err = 0) (hz : (follow ss seg at_).w = 0) :
    Calls Tryd.prog 70 #[.pointer (some ⟨R, 0, none⟩), .int .i64 seg, .int .i64 at_, .int .i64 d] w (NPost w R (rdC A n c dl wl ol) (.ok (.null, m))) := by
  have H := Lib.hid h
  have hr := h.row
  have HR := Lib.hid h.row
  have hRw := h.lt
  unfold rdr at hr
  generalize hF : follow ss seg at_ = F at *
  have HF := Lib.hid hF
  obtain ⟨fw, fs, fb, fe⟩ := F
  simp only at he hz
  subst he hz
  clear h hF
  go_enter Tryd.func70, Tryd.ntmps70
  go_wp2_with (first | (go_at_call 77; refine ((H.out.same (by (repeat (first | exact Below.refl _ _ | assumption | refine Below.setCell ?_ (by (try simp); (try omega)) _ | refine Below.alloc ?_ (by (try simp); (try omega)) _ | refine below_setRow ?_ (by (try simp); (try omega)) _ | refine pw_below_drewN ?_ _ | refine Below.drew ?_)))).follow _ _).mono ?_; rw [HF.out]; rintro e w1 ⟨rfl, hb1⟩; have hB1 := below_step (w := w) (by (repeat (first | exact Below.refl _ _ | assumption | refine Below.setCell ?_ (by (try simp); (try omega)) _ | refine Below.alloc ?_ (by (try simp); (try omega)) _ | refine below_setRow ?_ (by (try simp); (try omega)) _ | refine pw_below_drewN ?_ _ | refine Below.drew ?_))) hb1; obtain ⟨hc1, hf1⟩ := bcell hb1; have hd1 := blk_below hb1; have hs1 := hB1.size; have hz1_0 : w.heap.size < w1.heap.size := (by have hq := hb1.size; (try simp at hq); omega); have hy1_0 : w.heap.size ≠ w1.heap.size := Nat.ne_of_lt hz1_0; have hk1_0 := hd1 (w.heap.size) (by (try simp); (try omega)); (try simp (disch := first | omega | (simp; omega)) only [blk_setRow_far, blk_alloc_past, blk_setCell_far, blk_drewN, blk_drew] at hk1_0); have hkR1 := hd1 R (by (try simp); (try omega)); (try simp (disch := first | assumption | omega | (simp; omega)) only [blk_setRow_far, blk_alloc_past, blk_setCell_far, blk_drewN, blk_drew] at hkR1); (try rw [hr] at hkR1); (try simp (disch := first | assumption | omega | (simp; done) | (simp; omega)) only [blk_setRow_far, blk_alloc_past, blk_alloc_new, blk_alloc_at, blk_setCell_far, blk_drewN, blk_drew] at hk1_0)) | (go_at_call 120; refine (check_ok _).mono ?_; rintro e w2 ⟨rfl, hw2⟩; subst hw2) | (go_at_call 78; refine (IsNull_any _ _).mono ?_; rintro e w2 ⟨rfl, hw2⟩; subst w2))
  refine bodyPost_ret (v := .agg #[.int .i64 0, .int .i64 0, .int .i64 0, .slice none 0 0, .slice none 0 0]) ((results_blk _ st_Node rfl _ (w.heap.size ) rfl (by simp [go_sem, hk1_0]) (by simp [go_sem, hk1_0])).trans (by simp [go_sem, hk1_0]; try omega)) rfl ?_
  exact ⟨_, rfl, NdV.null _ _, But.of (by (repeat (first | exact Below.refl _ _ | assumption | refine Below.setCell ?_ (by (try simp); (try omega)) _ | refine Below.alloc ?_ (by (try simp); (try omega)) _ | refine below_setRow ?_ (by (try simp); (try omega)) _ | refine pw_below_drewN ?_ _ | refine Below.drew ?_))), by rw [blk_setRow_far _ _ _ _ (by omega)]; exact hkR1⟩
set_option maxRecDepth 100000 in
theorem value_deep (h : RdIn B R w A n c ss dl wl ol m) (seg at_ d : Int) (he : (follow ss seg at_).err = 0) (hz : (follow ss seg at_).w ≠ 0) (hd : dl < d) :
    Calls Tryd.prog 70 #[.pointer (some ⟨R, 0, none⟩), .int .i64 seg, .int .i64 at_, .int .i64 d] w (NPost w R (rdC A n c dl wl ol) (.error 7)) := by
  have H := Lib.hid h
  have hr := h.row
  have HR := Lib.hid h.row
  have hRw := h.lt
  unfold rdr at hr
  generalize hF : follow ss seg at_ = F at *
  have HF := Lib.hid hF
  obtain ⟨fw, fs, fb, fe⟩ := F
  simp only at he hz
  subst he
  have bz : (fw == 0) = false := by simpa using hz
  clear h hF
  go_enter Tryd.func70, Tryd.ntmps70
  go_wp2_with (first | (go_at_call 77; refine ((H.out.same (by (repeat (first | exact Below.refl _ _ | assumption | refine Below.setCell ?_ (by (try simp); (try omega)) _ | refine Below.alloc ?_ (by (try simp); (try omega)) _ | refine below_setRow ?_ (by (try simp); (try omega)) _ | refine pw_below_drewN ?_ _ | refine Below.drew ?_)))).follow _ _).mono ?_; rw [HF.out]; rintro e w1 ⟨rfl, hb1⟩; have hB1 := below_step (w := w) (by (repeat (first | exact Below.refl _ _ | assumption | refine Below.setCell ?_ (by (try simp); (try omega)) _ | refine Below.alloc ?_ (by (try simp); (try omega)) _ | refine below_setRow ?_ (by (try simp); (try omega)) _ | refine pw_below_drewN ?_ _ | refine Below.drew ?_))) hb1; obtain ⟨hc1, hf1⟩ := bcell hb1; have hd1 := blk_below hb1; have hs1 := hB1.size; have hz1_0 : w.heap.size < w1.heap.size := (by have hq := hb1.size; (try simp at hq); omega); have hy1_0 : w.heap.size ≠ w1.heap.size := Nat.ne_of_lt hz1_0; have hk1_0 := hd1 (w.heap.size) (by (try simp); (try omega)); (try simp (disch := first | omega | (simp; omega)) only [blk_setRow_far, blk_alloc_past, blk_setCell_far, blk_drewN, blk_drew] at hk1_0); have hkR1 := hd1 R (by (try simp); (try omega)); (try simp (disch := first | assumption | omega | (simp; omega)) only [blk_setRow_far, blk_alloc_past, blk_setCell_far, blk_drewN, blk_drew] at hkR1); (try rw [hr] at hkR1); (try simp (disch := first | assumption | omega | (simp; done) | (simp; omega)) only [blk_setRow_far, blk_alloc_past, blk_alloc_new, blk_alloc_at, blk_setCell_far, blk_drewN, blk_drew] at hk1_0)) | (go_at_call 120; (with_reducible refine (check_ok _).mono ?_); rintro e w2 ⟨rfl, hw2⟩; subst hw2) | (go_at_call 78; refine (IsNull_any _ _).mono ?_; rintro e w2 ⟨rfl, hw2⟩; subst w2) | (go_at_call 121; refine (Enter_any _ _ _ _ _).mono ?_; rintro e w2 ⟨rfl, hb2⟩; have hB2 := below_step (w := w) (by (repeat (first | exact Below.refl _ _ | assumption | refine Below.setCell ?_ (by (try simp); (try omega)) _ | refine Below.alloc ?_ (by (try simp); (try omega)) _ | refine below_setRow ?_ (by (try simp); (try omega)) _ | refine pw_below_drewN ?_ _ | refine Below.drew ?_))) hb2; obtain ⟨hc2, hf2⟩ := bcell hb2; have hd2 := blk_below hb2; have hs2 := hB2.size; have hz2_0 : w.heap.size < w2.heap.size := (by have hq := hb2.size; (try simp at hq); omega); have hy2_0 : w.heap.size ≠ w2.heap.size := Nat.ne_of_lt hz2_0; have hk2_0 := hd2 (w.heap.size) (by (try simp); (try omega)); (try simp (disch := first | omega | (simp; omega)) only [blk_setRow_far, blk_alloc_past, blk_setCell_far, blk_drewN, blk_drew] at hk2_0); have hkR2 := hd2 R (by (try simp); (try omega)); (try simp (disch := first | assumption | omega | (simp; omega)) only [blk_setRow_far, blk_alloc_past, blk_setCell_far, blk_drewN, blk_drew] at hkR2); (try rw [hr] at hkR2); (try rw [hkR1] at hkR2); (try simp (disch := first | assumption | omega | (simp; done) | (simp; omega)) only [blk_setRow_far, blk_alloc_past, blk_alloc_new, blk_alloc_at, blk_setCell_far, blk_drewN, blk_drew] at hk2_0)) | (go_at_call 120; refine (check_err 7 (by omega) _).mono ?_; rintro e w3 ⟨rfl, hw2⟩; subst hw2))
  exact ⟨rfl, rfl, But.of (by (repeat (first | exact Below.refl _ _ | assumption | refine Below.setCell ?_ (by (try simp); (try omega)) _ | refine Below.alloc ?_ (by (try simp); (try omega)) _ | refine below_setRow ?_ (by (try simp); (try omega)) _ | refine pw_below_drewN ?_ _ | refine Below.drew ?_)))⟩
end
end Go.Proofs.YtelghkgnkncnoaaDoor
/- Contract of denote's reader.value: the ways that come to an object. -/
set_option linter.unusedVariables false
set_option linter.unusedSimpArgs false
namespace Go.Proofs.YtelghkgnkncnoaaDoor
open Go.RowKit
theorem charge_poor (m cost : Int) (w : World) (m0 : 0 ≤ m) (m1 : m ≤ 4611686018427387904) (c0 : 0 ≤ cost) (c1 : cost ≤ 4611686018427387904) (h : m < cost) : Calls Tryd.prog 122 #[.agg #[.int .i64 m], .int .i64 cost] w (VPost w (.tuple #[.agg #[.int .i64 m], .int .i64 8])) := by
  have hC := Charge_any m cost w m0 m1 c0 c1
  rw [if_pos h] at hC
  exact hC
theorem charge_rich (m cost : Int) (w : World) (m0 : 0 ≤ m) (m1 : m ≤ 4611686018427387904) (c0 : 0 ≤ cost) (c1 : cost ≤ 4611686018427387904) (h : ¬ m < cost) : Calls Tryd.prog 122 #[.agg #[.int .i64 m], .int .i64 cost] w (VPost w (.tuple #[.agg #[.int .i64 (m - cost)], .int .i64 0])) := by
  have hC := Charge_any m cost w m0 m1 c0 c1
  rw [if_neg h] at hC
  exact hC
section
variable {B R : Nat} {w : World} {A : Option Addr} {n c : Nat} {ss : List (List Int)} {dl wl ol m : Int}
set_option maxRecDepth 100000 in
theorem value_noobj (h : RdIn B R w A n c ss dl wl ol m) (seg at_ d : Int) (he : (follow ss seg at_).err = 0) (hz : (follow ss seg at_).w ≠ 0) (hd : d ≤ dl) (ho : (object ss seg at_).2 ≠ 0) :
    Calls Tryd.prog 70 #[.pointer (some ⟨R, 0, none⟩), .int .i64 seg, .int .i64 at_, .int .i64 d] w (NPost w R (rdC A n c dl wl ol) (.error (object ss seg at_).2)) := by
  have H := Lib.hid h
  have hr := h.row
  have HR := Lib.hid h.row
  have hRw := h.lt
  have hdn : ¬ dl < d := by omega
  unfold rdr at hr
  generalize hF : follow ss seg at_ = F at *
  generalize hO : object ss seg at_ = O at *
  have HF := Lib.hid hF
  have HOb := Lib.hid hO
  obtain ⟨fw, fs, fb, fe⟩ := F
  obtain ⟨o, oe⟩ := O
  simp only at he hz ho
  subst he
  have bz : (fw == 0) = false := by simpa using hz
  clear h hF hO
  go_enter Tryd.func70, Tryd.ntmps70
  go_wp2_with (first | (go_at_call 77; refine ((H.out.same (by (repeat (first | exact Below.refl _ _ | assumption | refine Below.setCell ?_ (by (try simp); (try omega)) _ | refine Below.alloc ?_ (by (try simp); (try omega)) _ | refine below_setRow ?_ (by (try simp); (try omega)) _ | refine pw_below_drewN ?_ _ | refine Below.drew ?_)))).follow _ _).mono ?_; rw [HF.out]; rintro e w1 ⟨rfl, hb1⟩; have hB1 := below_step (w := w) (by (repeat (first | exact Below.refl _ _ | assumption | refine Below.setCell ?_ (by (try simp); (try omega)) _ | refine Below.alloc ?_ (by (try simp); (try omega)) _ | refine below_setRow ?_ (by (try simp); (try omega)) _ | refine pw_below_drewN ?_ _ | refine Below.drew ?_))) hb1; obtain ⟨hc1, hf1⟩ := bcell hb1; have hd1 := blk_below hb1; have hs1 := hB1.size; have hz1_0 : w.heap.size < w1.heap.size := (by have hq := hb1.size; (try simp at hq); omega); have hy1_0 : w.heap.size ≠ w1.heap.size := Nat.ne_of_lt hz1_0; have hk1_0 := hd1 (w.heap.size) (by (try simp); (try omega)); (try simp (disch := first | omega | (simp; omega)) only [blk_setRow_far, blk_alloc_past, blk_setCell_far, blk_drewN, blk_drew] at hk1_0); have hkR1 := hd1 R (by (try simp); (try omega)); (try simp (disch := first | assumption | omega | (simp; omega)) only [blk_setRow_far, blk_alloc_past, blk_setCell_far, blk_drewN, blk_drew] at hkR1); (try rw [hr] at hkR1); (try simp (disch := first | assumption | omega | (simp; done) | (simp; omega)) only [blk_setRow_far, blk_alloc_past, blk_alloc_new, blk_alloc_at, blk_setCell_far, blk_drewN, blk_drew] at hk1_0)) | (go_at_call 120; (with_reducible refine (check_ok _).mono ?_); rintro e w2 ⟨rfl, hw2⟩; subst hw2) | (go_at_call 78; refine (IsNull_any _ _).mono ?_; rintro e w2 ⟨rfl, hw2⟩; subst w2) | (go_at_call 121; refine (Enter_any _ _ _ _ _).mono ?_; rintro e w2 ⟨rfl, hb2⟩; have hB2 := below_step (w := w) (by (repeat (first | exact Below.refl _ _ | assumption | refine Below.setCell ?_ (by (try simp); (try omega)) _ | refine Below.alloc ?_ (by (try simp); (try omega)) _ | refine below_setRow ?_ (by (try simp); (try omega)) _ | refine pw_below_drewN ?_ _ | refine Below.drew ?_))) hb2; obtain ⟨hc2, hf2⟩ := bcell hb2; have hd2 := blk_below hb2; have hs2 := hB2.size; have hz2_0 : w.heap.size < w2.heap.size := (by have hq := hb2.size; (try simp at hq); omega); have hy2_0 : w.heap.size ≠ w2.heap.size := Nat.ne_of_lt hz2_0; have hk2_0 := hd2 (w.heap.size) (by (try simp); (try omega)); (try simp (disch := first | omega | (simp; omega)) only [blk_setRow_far, blk_alloc_past, blk_setCell_far, blk_drewN, blk_drew] at hk2_0); have hkR2 := hd2 R (by (try simp); (try omega)); (try simp (disch := first | assumption | omega | (simp; omega)) only [blk_setRow_far, blk_alloc_past, blk_setCell_far, blk_drewN, blk_drew] at hkR2); (try rw [hr] at hkR2); (try rw [hkR1] at hkR2); (try simp (disch := first | assumption | omega | (simp; done) | (simp; omega)) only [blk_setRow_far, blk_alloc_past, blk_alloc_new, blk_alloc_at, blk_setCell_far, blk_drewN, blk_drew] at hk2_0)) | (go_at_call 48; refine ((H.out.same hB2).obj _ _).mono ?_; rw [HOb.out]; rintro e w3 ⟨rfl, hb3⟩; have hB3 := below_step (w := w) (by (repeat (first | exact Below.refl _ _ | assumption | refine Below.setCell ?_ (by (try simp); (try omega)) _ | refine Below.alloc ?_ (by (try simp); (try omega)) _ | refine below_setRow ?_ (by (try simp); (try omega)) _ | refine pw_below_drewN ?_ _ | refine Below.drew ?_))) hb3; obtain ⟨hc3, hf3⟩ := bcell hb3; have hd3 := blk_below hb3; have hs3 := hB3.size; have hz3_0 : w.heap.size < w3.heap.size := (by have hq := hb3.size; (try simp at hq); omega); have hy3_0 : w.heap.size ≠ w3.heap.size := Nat.ne_of_lt hz3_0; have hk3_0 := hd3 (w.heap.size) (by (try simp); (try omega)); (try simp (disch := first | omega | (simp; omega)) only [blk_setRow_far, blk_alloc_past, blk_setCell_far, blk_drewN, blk_drew] at hk3_0); have hkR3 := hd3 R (by (try simp); (try omega)); (try simp (disch := first | assumption | omega | (simp; omega)) only [blk_setRow_far, blk_alloc_past, blk_setCell_far, blk_drewN, blk_drew] at hkR3); (try rw [hr] at hkR3); (try rw [hkR2] at hkR3); (try rw [hkR1] at hkR3); (try simp (disch := first | assumption | omega | (simp; done) | (simp; omega)) only [blk_setRow_far, blk_alloc_past, blk_alloc_new, blk_alloc_at, blk_setCell_far, blk_drewN, blk_drew] at hk3_0)) | (go_at_call 120; refine (check_err _ ho _).mono ?_; rintro e w4 ⟨rfl, hw2⟩; subst hw2))
  exact ⟨rfl, rfl, But.of ((hB3.alloc hB3.size _).trans (below_setRow (Below.refl _ _) (by have := hB3.size; omega) _))⟩
set_option maxRecDepth 100000 in
theorem value_poor (h : RdIn B R w A n c ss dl wl ol m) (seg at_ d : Int) (he : (follow ss seg at_).err = 0) (hz : (follow ss seg at_).w ≠ 0) (hd : d ≤ dl) (ho : (object ss seg at_).2 = 0) (hc : ObCost (object ss seg at_).1) (hm : m < (object ss seg at_).1.cost) :
    Calls Tryd.prog 70 #[.pointer (some ⟨R, 0, none⟩), .int .i64 seg, .int .i64 at_, .int .i64 d] w (NPost w R (rdC A n c dl wl ol) (.error 8)) := by
  have H := Lib.hid h
  have hr := h.row
  have HR := Lib.hid h.row
  have hRw := h.lt
  have hdn : ¬ dl < d := by omega
  have m0 := h.m0
  have m1 := h.m1
  unfold rdr at hr
  generalize hF : follow ss seg at_ = F at *
  generalize hO : object ss seg at_ = O at *
  have HF := Lib.hid hF
  have HOb := Lib.hid hO
  obtain ⟨fw, fs, fb, fe⟩ := F
  obtain ⟨o, oe⟩ := O
  simp only at he hz ho hm hc
  have c0 := hc.low
  have c1 := hc.high
  subst he ho
  have bz : (fw == 0) = false := by simpa using hz
  clear h hF hO hc
  go_enter Tryd.func70, Tryd.ntmps70
  go_wp2_with (first | (go_at_call 77; refine ((H.out.same (by (repeat (first | exact Below.refl _ _ | assumption | refine Below.setCell ?_ (by (try simp); (try omega)) _ | refine Below.alloc ?_ (by (try simp); (try omega)) _ | refine below_setRow ?_ (by (try simp); (try omega)) _ | refine pw_below_drewN ?_ _ | refine Below.drew ?_)))).follow _ _).mono ?_; rw [HF.out]; rintro e w1 ⟨rfl, hb1⟩; have hB1 := below_step (w := w) (by (repeat (first | exact Below.refl _ _ | assumption | refine Below.setCell ?_ (by (try simp); (try omega)) _ | refine Below.alloc ?_ (by (try simp); (try omega)) _ | refine below_setRow ?_ (by (try simp); (try omega)) _ | refine pw_below_drewN ?_ _ | refine Below.drew ?_))) hb1; obtain ⟨hc1, hf1⟩ := bcell hb1; have hd1 := blk_below hb1; have hs1 := hB1.size; have hz1_0 : w.heap.size < w1.heap.size := (by have hq := hb1.size; (try simp at hq); omega); have hy1_0 : w.heap.size ≠ w1.heap.size := Nat.ne_of_lt hz1_0; have hk1_0 := hd1 (w.heap.size) (by (try simp); (try omega)); (try simp (disch := first | omega | (simp; omega)) only [blk_setRow_far, blk_alloc_past, blk_setCell_far, blk_drewN, blk_drew] at hk1_0); have hkR1 := hd1 R (by (try simp); (try omega)); (try simp (disch := first | assumption | omega | (simp; omega)) only [blk_setRow_far, blk_alloc_past, blk_setCell_far, blk_drewN, blk_drew] at hkR1); (try rw [hr] at hkR1); (try simp (disch := first | assumption | omega | (simp; done) | (simp; omega)) only [blk_setRow_far, blk_alloc_past, blk_alloc_new, blk_alloc_at, blk_setCell_far, blk_drewN, blk_drew] at hk1_0)) | (go_at_call 120; (with_reducible refine (check_ok _).mono ?_); rintro e w2 ⟨rfl, hw2⟩; subst hw2) | (go_at_call 78; refine (IsNull_any _ _).mono ?_; rintro e w2 ⟨rfl, hw2⟩; subst w2) | (go_at_call 121; refine (Enter_any _ _ _ _ _).mono ?_; rintro e w2 ⟨rfl, hb2⟩; have hB2 := below_step (w := w) (by (repeat (first | exact Below.refl _ _ | assumption | refine Below.setCell ?_ (by (try simp); (try omega)) _ | refine Below.alloc ?_ (by (try simp); (try omega)) _ | refine below_setRow ?_ (by (try simp); (try omega)) _ | refine pw_below_drewN ?_ _ | refine Below.drew ?_))) hb2; obtain ⟨hc2, hf2⟩ := bcell hb2; have hd2 := blk_below hb2; have hs2 := hB2.size; have hz2_0 : w.heap.size < w2.heap.size := (by have hq := hb2.size; (try simp at hq); omega); have hy2_0 : w.heap.size ≠ w2.heap.size := Nat.ne_of_lt hz2_0; have hk2_0 := hd2 (w.heap.size) (by (try simp); (try omega)); (try simp (disch := first | omega | (simp; omega)) only [blk_setRow_far, blk_alloc_past, blk_setCell_far, blk_drewN, blk_drew] at hk2_0); have hkR2 := hd2 R (by (try simp); (try omega)); (try simp (disch := first | assumption | omega | (simp; omega)) only [blk_setRow_far, blk_alloc_past, blk_setCell_far, blk_drewN, blk_drew] at hkR2); (try rw [hr] at hkR2); (try rw [hkR1] at hkR2); (try simp (disch := first | assumption | omega | (simp; done) | (simp; omega)) only [blk_setRow_far, blk_alloc_past, blk_alloc_new, blk_alloc_at, blk_setCell_far, blk_drewN, blk_drew] at hk2_0)) | (go_at_call 48; (refine ((H.out.same hB2).obj _ _).mono ?_; rw [HOb.out]; rintro e w3 ⟨rfl, hb3⟩; have hB3 := below_step (w := w) (by (repeat (first | exact Below.refl _ _ | assumption | refine Below.setCell ?_ (by (try simp); (try omega)) _ | refine Below.alloc ?_ (by (try simp); (try omega)) _ | refine below_setRow ?_ (by (try simp); (try omega)) _ | refine pw_below_drewN ?_ _ | refine Below.drew ?_))) hb3; obtain ⟨hc3, hf3⟩ := bcell hb3; have hd3 := blk_below hb3; have hs3 := hB3.size; have hz3_0 : w.heap.size < w3.heap.size := (by have hq := hb3.size; (try simp at hq); omega); have hy3_0 : w.heap.size ≠ w3.heap.size := Nat.ne_of_lt hz3_0; have hk3_0 := hd3 (w.heap.size) (by (try simp); (try omega)); (try simp (disch := first | omega | (simp; omega)) only [blk_setRow_far, blk_alloc_past, blk_setCell_far, blk_drewN, blk_drew] at hk3_0); have hkR3 := hd3 R (by (try simp); (try omega)); (try simp (disch := first | assumption | omega | (simp; omega)) only [blk_setRow_far, blk_alloc_past, blk_setCell_far, blk_drewN, blk_drew] at hkR3); (try rw [hr] at hkR3); (try rw [hkR2] at hkR3); (try rw [hkR1] at hkR3); (try simp (disch := first | assumption | omega | (simp; done) | (simp; omega)) only [blk_setRow_far, blk_alloc_past, blk_alloc_new, blk_alloc_at, blk_setCell_far, blk_drewN, blk_drew] at hk3_0); have hR3 : R < w3.heap.size + 1 := (by have hq := hB3.size; omega); have hR3' : R ≠ w3.heap.size := (by have hq := hB3.size; omega))))
  obtain ⟨w4, hw4⟩ : ∃ w4, w4 = (w3.alloc (.cells #[.int .i64 0, .int .i64 0, .int .i64 0, .int .i64 0, .int .i64 0, .int .i64 0, .int .i64 0, .int .i64 0] 61)).setRow w3.heap.size #[.int .i64 o.kind, .int .i64 o.seg, .int .i64 o.at_, .int .i64 o.data, .int .i64 o.ptrs, .int .i64 o.elem, .int .i64 o.n, .int .i64 o.cost] := ⟨_, rfl⟩
  have hs3' := hB3.size
  have hs4 : w4.heap.size = w3.heap.size + 1 := by rw [hw4]; simp [World.setRow]
  have hb4 : Below w3.heap.size w3 w4 := by rw [hw4]; exact below_setRow ((Below.refl _ _).alloc (Nat.le_refl _) _) (Nat.le_refl _) _
  have hkR4 : blk w4 R = rdC A n c dl wl ol m := (blk_below hb4 R (by omega)).trans hkR3
  have hkO4 : blk w4 w3.heap.size = some (.cells #[.int .i64 o.kind, .int .i64 o.seg, .int .i64 o.at_, .int .i64 o.data, .int .i64 o.ptrs, .int .i64 o.elem, .int .i64 o.n, .int .i64 o.cost] 61 (0, 0)) := by
    rw [hw4, blk_setRow_at, blk_alloc_new]; rfl
  rw [← hw4]
  have hRr : R < w4.heap.size := by omega
  have HB4 := Lib.hid (hB3.trans (hb4.mono hs3'))
  clear hw4 hb4
  refine wp_region_inv' 14 mixed (by kernel_rfl) (SInv (w4) R (rdC A n c dl wl ol m) (rdC A n c dl wl ol m) 14 13 (fun i => match i with | 0 => .pointer (some ⟨R, 0, none⟩) | 1 => .pointer (some ⟨R, 0, none⟩) | 2 => .pointer (some ⟨R, 0, none⟩) | 3 => .pointer (some ⟨R, 4, none⟩) | 4 => .agg #[.int .i64 m] | 5 => .pointer (some ⟨w3.heap.size, 7, none⟩) | 6 => .int .i64 o.cost | 7 => .tuple #[.agg #[.int .i64 m], .int .i64 8] | 8 => .tuple #[.agg #[.int .i64 m], .int .i64 8] | 9 => .agg #[.int .i64 m] | 10 => .int .i64 8 | 11 => .pointer (some ⟨R, 0, none⟩) | 12 => .pointer (some ⟨R, 4, none⟩) | _ => undef)) ?_ ?_ ?_
  · intro L vs hL0
    exact ⟨(But.refl _ _ _).drew, (fun _ => by first | assumption | exact hkR'.out), (fun h7 => by rw [hL0 13 (by omega)] at h7; cases h7), (fun i hi _ h7 => by rw [hL0 i (by omega)] at h7; cases h7)⟩
  · intro i hi a W hdf hag L hcl hl hn hI
    have Hdf := Lib.hid hdf; clear hdf; have Hcl := Lib.hid hcl; clear hcl
    have hkW3 := (hI.but.block w3.heap.size (by omega) (by omega)).trans hkO4
    have hi' : i = 0 ∨ i = 1 ∨ i = 2 ∨ i = 3 ∨ i = 4 ∨ i = 5 ∨ i = 6 ∨ i = 7 ∨ i = 8 ∨ i = 9 ∨ i = 10 ∨ i = 11 ∨ i = 12 ∨ i = 13 := by omega
    rcases hi' with rfl | rfl | rfl | rfl | rfl | rfl | rfl | rfl | rfl | rfl | rfl | rfl | rfl | rfl
    · have e0 := hag 0 rfl; have E0 := e0; rw [Array.getD_eq_getD_getElem?] at E0; (try have hkR' := hI.before (not_yet Hcl.out hl (by decide) rfl); unfold rdC rdr at hkR'); refine InvOp.of _ rfl rfl _ rfl fun K hK => ?_
      go_simp
      exact hK _ _ (hI.quiet hRr (by omega) (by omega) (Below.refl _ _))
    · have e0 := hag 0 rfl; have E0 := e0; rw [Array.getD_eq_getD_getElem?] at E0; (try have hkR' := hI.before (not_yet Hcl.out hl (by decide) rfl); unfold rdC rdr at hkR'); refine InvOp.of _ rfl rfl _ rfl fun K hK => ?_
      go_simp
      exact hK _ _ (hI.quiet hRr (by omega) (by omega) (Below.refl _ _))
    · have e52 : a.tmps.getD 52 undef = .pointer (some ⟨R, 0, none⟩) := hI.vals 1 (by omega) (by omega) (hn 1 rfl); have E52 := e52; rw [Array.getD_eq_getD_getElem?] at E52; (try have hkR' := hI.before (not_yet Hcl.out hl (by decide) rfl); unfold rdC rdr at hkR'); refine InvOp.of _ rfl rfl _ rfl fun K hK => ?_
      go_simp
      exact hK _ _ (hI.quiet hRr (by omega) (by omega) (Below.refl _ _))
    · have e53 : a.tmps.getD 53 undef = .pointer (some ⟨R, 0, none⟩) := hI.vals 2 (by omega) (by omega) (hn 2 rfl); have E53 := e53; rw [Array.getD_eq_getD_getElem?] at E53; (try have hkR' := hI.before (not_yet Hcl.out hl (by decide) rfl); unfold rdC rdr at hkR'); refine InvOp.of _ rfl rfl _ rfl fun K hK => ?_
      go_simp
      exact hK _ _ (hI.quiet hRr (by omega) (by omega) (Below.refl _ _))
    · have e54 : a.tmps.getD 54 undef = .pointer (some ⟨R, 4, none⟩) := hI.vals 3 (by omega) (by omega) (hn 3 rfl); have E54 := e54; rw [Array.getD_eq_getD_getElem?] at E54; (try have hkR' := hI.before (not_yet Hcl.out hl (by decide) rfl); unfold rdC rdr at hkR'); refine InvOp.of _ rfl rfl _ rfl fun K hK => ?_
      go_simp
      exact hK _ _ (hI.quiet hRr (by omega) (by omega) (Below.refl _ _))
    · have e13 := hag 13 rfl; have E13 := e13; rw [Array.getD_eq_getD_getElem?] at E13; (try have hkR' := hI.before (not_yet Hcl.out hl (by decide) rfl); unfold rdC rdr at hkR'); refine InvOp.of _ rfl rfl _ rfl fun K hK => ?_
      go_simp
      exact hK _ _ (hI.quiet hRr (by omega) (by omega) (Below.refl _ _))
    · have e56 : a.tmps.getD 56 undef = .pointer (some ⟨w3.heap.size, 7, none⟩) := hI.vals 5 (by omega) (by omega) (hn 5 rfl); have E56 := e56; rw [Array.getD_eq_getD_getElem?] at E56; (try have hkR' := hI.before (not_yet Hcl.out hl (by decide) rfl); unfold rdC rdr at hkR'); refine InvOp.of _ rfl rfl _ rfl fun K hK => ?_
      go_simp
      exact hK _ _ (hI.quiet hRr (by omega) (by omega) (Below.refl _ _))
    · have e55 : a.tmps.getD 55 undef = .agg #[.int .i64 m] := hI.vals 4 (by omega) (by omega) (hn 4 rfl); have E55 := e55; rw [Array.getD_eq_getD_getElem?] at E55; have e57 : a.tmps.getD 57 undef = .int .i64 o.cost := hI.vals 6 (by omega) (by omega) (hn 6 rfl); have E57 := e57; rw [Array.getD_eq_getD_getElem?] at E57; (try have hkR' := hI.before (not_yet Hcl.out hl (by decide) rfl); unfold rdC rdr at hkR'); refine InvOp.of _ rfl rfl _ rfl fun K hK => ?_
      go_simp
      refine (charge_poor m o.cost W m0 (by omega) c0 (by omega) hm).mono ?_; rintro e w' ⟨rfl, hb⟩; exact hK _ _ (hI.quiet hRr (by omega) (by omega) hb)
    · have e58 : a.tmps.getD 58 undef = .tuple #[.agg #[.int .i64 m], .int .i64 8] := hI.vals 7 (by omega) (by omega) (hn 7 rfl); have E58 := e58; rw [Array.getD_eq_getD_getElem?] at E58; (try have hkR' := hI.before (not_yet Hcl.out hl (by decide) rfl); unfold rdC rdr at hkR'); refine InvOp.of _ rfl rfl _ rfl fun K hK => ?_
      go_simp
      exact hK _ _ (hI.quiet hRr (by omega) (by omega) (Below.refl _ _))
    · have e50 : a.tmps.getD 50 undef = .tuple #[.agg #[.int .i64 m], .int .i64 8] := hI.vals 8 (by omega) (by omega) (hn 8 rfl); have E50 := e50; rw [Array.getD_eq_getD_getElem?] at E50; (try have hkR' := hI.before (not_yet Hcl.out hl (by decide) rfl); unfold rdC rdr at hkR'); refine InvOp.of _ rfl rfl _ rfl fun K hK => ?_
      go_simp
      exact hK _ _ (hI.quiet hRr (by omega) (by omega) (Below.refl _ _))
    · have e50 : a.tmps.getD 50 undef = .tuple #[.agg #[.int .i64 m], .int .i64 8] := hI.vals 8 (by omega) (by omega) (hn 8 rfl); have E50 := e50; rw [Array.getD_eq_getD_getElem?] at E50; (try have hkR' := hI.before (not_yet Hcl.out hl (by decide) rfl); unfold rdC rdr at hkR'); refine InvOp.of _ rfl rfl _ rfl fun K hK => ?_
      go_simp
      exact hK _ _ (hI.quiet hRr (by omega) (by omega) (Below.refl _ _))
    · have e51 : a.tmps.getD 51 undef = .pointer (some ⟨R, 0, none⟩) := hI.vals 0 (by omega) (by omega) (hn 0 rfl); have E51 := e51; rw [Array.getD_eq_getD_getElem?] at E51; (try have hkR' := hI.before (not_yet Hcl.out hl (by decide) rfl); unfold rdC rdr at hkR'); refine InvOp.of _ rfl rfl _ rfl fun K hK => ?_
      go_simp
      exact hK _ _ (hI.quiet hRr (by omega) (by omega) (Below.refl _ _))
    · have e61 : a.tmps.getD 61 undef = .pointer (some ⟨R, 0, none⟩) := hI.vals 11 (by omega) (by omega) (hn 11 rfl); have E61 := e61; rw [Array.getD_eq_getD_getElem?] at E61; (try have hkR' := hI.before (not_yet Hcl.out hl (by decide) rfl); unfold rdC rdr at hkR'); refine InvOp.of _ rfl rfl _ rfl fun K hK => ?_
      go_simp
      exact hK _ _ (hI.quiet hRr (by omega) (by omega) (Below.refl _ _))
    · have e62 : a.tmps.getD 62 undef = .pointer (some ⟨R, 4, none⟩) := hI.vals 12 (by omega) (by omega) (hn 12 rfl); have E62 := e62; rw [Array.getD_eq_getD_getElem?] at E62; have e59 : a.tmps.getD 59 undef = .agg #[.int .i64 m] := hI.vals 9 (by omega) (by omega) (hn 9 rfl); have E59 := e59; rw [Array.getD_eq_getD_getElem?] at E59; have hkR' := hI.before hl; (try unfold rdC rdr at hkR'); refine InvOp.ofNone _ rfl rfl rfl fun K hK => ?_
      go_simp
      exact hK _ (hI.store hl (But.setCell (p := ⟨R, _, none⟩) (But.refl _ _ _) (.inr rfl) _) (by rw [blk_setCell_at, hkR']; rfl))
  · intro vs W L hall hI
    have e0 := hI.vals 0 (by omega) (by omega) (hall 0 (by omega))
    have e1 := hI.vals 1 (by omega) (by omega) (hall 1 (by omega))
    have e2 := hI.vals 2 (by omega) (by omega) (hall 2 (by omega))
    have e3 := hI.vals 3 (by omega) (by omega) (hall 3 (by omega))
    have e4 := hI.vals 4 (by omega) (by omega) (hall 4 (by omega))
    have e5 := hI.vals 5 (by omega) (by omega) (hall 5 (by omega))
    have e6 := hI.vals 6 (by omega) (by omega) (hall 6 (by omega))
    have e7 := hI.vals 7 (by omega) (by omega) (hall 7 (by omega))
    have e8 := hI.vals 8 (by omega) (by omega) (hall 8 (by omega))
    have e9 := hI.vals 9 (by omega) (by omega) (hall 9 (by omega))
    have e10 := hI.vals 10 (by omega) (by omega) (hall 10 (by omega))
    have e11 := hI.vals 11 (by omega) (by omega) (hall 11 (by omega))
    have e12 := hI.vals 12 (by omega) (by omega) (hall 12 (by omega))
    try dsimp only at e0 e1 e2 e3 e4 e5 e6 e7 e8 e9 e10 e11 e12
    simp only [putAll, slotOf, Option.bind_some, Act.put, List.getElem?_toArray, List.getElem?_cons_zero, List.getElem?_cons_succ, List.setIfInBounds_toArray, List.set_cons_zero, List.set_cons_succ, e0, e1, e2, e3, e4, e5, e6, e7, e8, e9, e10, e11, e12, List.drop_succ_cons, List.drop_zero]
    have hkR' := hI.after (hall 13 (by omega)); have HBw := Lib.hid hI.but; have hsW := hI.but.size; have hkW3 := (hI.but.block w3.heap.size (by omega) (by omega)).trans hkO4; clear e0 e1 e2 e3 e4 e5 e6 e7 e8 e9 e10 e11 e12 hI hall
    go_wp2_with (go_at_call 120; refine (check_err 8 (by omega) _).mono ?_; rintro e w5 ⟨rfl, hw2⟩; subst hw2)
    exact ⟨rfl, rfl, (But.of HB4.out).trans (HBw.out.mono (by have := HB4.out.size; omega))⟩
end
end Go.Proofs.YtelghkgnkncnoaaDoor
