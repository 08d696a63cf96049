/- A part of the proof: the texts App W38 L4 joined. -/
import Derived.Test.YtelghkgnkncnoaaDoorEd
import Derived.Lib.AppendZerosOnto
import Derived.Test.YtelghkgnkncnoaaDoorLa
import Derived.Test.YtelghkgnkncnoaaDoorTie
import Derived.Test.YtelghkgnkncnoaaDoorCards
import Derived.SevenTiedAt
/- What append does to a row of words that the call owns. -/
set_option linter.unusedVariables false
namespace Go.Proofs.YtelghkgnkncnoaaDoor
open Go.RowKit
/-- the value is a slice over a row of the call's own, which holds these words -/
def OwnW (B : Nat) (W : World) (v : Value) (l : List Int) : Prop := ∃ g cap, v = .slice (some ⟨g, 0, none⟩) l.length cap ∧ W.ownsRow B 36 1 (.slice (some ⟨g, 0, none⟩) l.length cap) l.length (uns .u64 l)
theorem OwnW.grown {B : Nat} {W W' : World} {v : Value} {l : List Int} (h : OwnW B W v l) (hb : Below W.heap.size W W') : OwnW B W' v l := by
  obtain ⟨g, cap, rfl, ho⟩ := h
  refine ⟨g, cap, rfl, ?_⟩
  exact ho.kept (row := none) ⟨hb.os, hb.tape, hb.output, hb.size, fun k hk _ => hb.block k hk⟩ (Or.inr (by simp [Value.ownBlock]))
theorem own_cases {W : World} {B n cap g : Nat} {e : TypeId} {xs : List Value} (h : W.ownsRow B e 1 (.slice (some ⟨g, 0, none⟩) n cap) n xs) :
    ∃ cur, B ≤ g ∧ W.heap[g]? = some (.cells cur e (0, 0)) ∧ n ≤ cap ∧ cap ≤ maxLen ∧ cur.size = cap * 1 ∧ cur.toList.take (n * 1) = xs := by
  rcases h.2 with ⟨h1, _⟩ | ⟨g', cap', cur, h1, h2, h3, h4, h5, h6, h7⟩
  · cases h1
  · cases h1
    exact ⟨cur, h2, h3, h4, h5, h6, h7⟩
theorem OwnW.rw {B : Nat} {W : World} {v : Value} {l : List Int} (h : OwnW B W v l) : ∃ A c, v = .slice A l.length c ∧ RW .u64 W.heap.size W A l.length l := by
  obtain ⟨g, cap, rfl, ho⟩ := h
  obtain ⟨cur, _, hg, _, _, _, ht⟩ := own_cases ho
  refine ⟨_, cap, rfl, rfl, fun h0 => ⟨g, 0, rfl, (Array.getElem?_eq_some_iff.1 hg).1, fun j hj => ?_⟩⟩
  have e1 : cur.toList[j]? = some (.int .u64 (l.getD j 0)) := by
    have e2 : (cur.toList.take (l.length * 1))[j]? = some (.int .u64 (l.getD j 0)) := by
      rw [ht]; simp [uns, List.getElem?_map, List.getElem?_eq_getElem hj]
    rw [List.getElem?_take_of_lt (by omega)] at e2
    exact e2
  rw [cell_of_row W g (0 + j) cur _ (0, 0) hg]
  simpa using e1
theorem grown_below {B : Nat} {w W W' : World} {g : Nat} (h : Below B w W) (hg : W.grownBy W' (some g)) (h1 : B ≤ g) (h2 : B ≤ W.heap.size) : Below B w W' :=
  ⟨hg.os.trans h.os, hg.tape.trans h.tape, hg.output.trans h.output, Nat.le_trans h.size hg.size, fun k hk => (hg.block k (by omega) (fun e => by cases e; omega)).trans (h.block k hk)⟩
theorem OwnW.lit {B : Nat} {W : World} (hB : B ≤ W.heap.size) : OwnW B (W.alloc (.cells #[] 36 (0, 0))) (.slice (some ⟨W.heap.size, 0, none⟩) 0 0) [] :=
  ⟨W.heap.size, 0, rfl, World.ownsRow_lit W #[] 0 hB (by unfold maxLen; omega) rfl⟩
theorem addr_add (b o j : Nat) : (⟨b, o, none⟩ : Addr).add j = ⟨b, o + j, none⟩ := by
  unfold Addr.add
  by_cases h : j = 0
  · subst h; simp
  · simp [h]
theorem u64_info : ∃ i, Tryd.prog.info? 36 = some i ∧ i.zero = some (.int .u64 0) ∧ i.size = 1 ∧ i.bytes = 8 := by
  have h : (Tryd.prog.info? 36).map (fun i => (i.zero, i.size, i.bytes)) = some (some (.int .u64 0), 1, 8) := by kernel_rfl
  obtain ⟨i, hi, he⟩ := Option.map_eq_some_iff.1 h
  simp only [Prod.mk.injEq] at he
  exact ⟨i, hi, he.1, he.2.1, he.2.2⟩
set_option maxRecDepth 100000 in
/-- append(v, src...) -/
theorem app_src {W : World} {B Bs c : Nat} {v : Value} {l m : List Int} {A : Option Addr} (ty : TypeId) (h : OwnW B W v l) (hs : RW .u64 Bs W A m.length m) (hl : l.length + m.length ≤ 1000000) (hB : B ≤ W.heap.size) {w : World} (hw : Below B w W) :
    ∃ v' W', (Builtin.append_ #[31, 31] ty #[v, .slice A m.length c]).run Tryd.prog W = .ok v' W' ∧ OwnW B W' v' (l ++ m) ∧ Below B w W' := by
  obtain ⟨g, cap, rfl, ho⟩ := h
  obtain ⟨i, hi, hz0, hz1, hz2⟩ := u64_info
  have hgB : B ≤ g := (own_ge ho g (by simp [Value.ownBlock])).1
  by_cases hm : m = []
  · subst hm
    obtain ⟨cur, _, hg, hn, _, _, _⟩ := own_cases ho
    refine ⟨.slice (some ⟨g, 0, none⟩) l.length cap, W, ?_, by rw [List.append_nil]; exact ⟨g, cap, rfl, ho⟩, hw⟩
    have hf : (Builtin.firstCells 1 0 (.slice A 0 c)).run Tryd.prog W = .ok #[] W := by
      cases A <;> simp [Builtin.firstCells, loadCells, loadCellsFrom]
    simp [Builtin.append_, run_underlying Tryd.underlying31, sizeOf, typeInfo, hi, hz1, Builtin.lenOf, hn, hf, Addr.add_lit, storeCells]
  · have hpos : 0 < m.length := List.length_pos_iff.2 hm
    obtain ⟨b, o, rfl, _, hc⟩ := hs.2 hpos
    obtain ⟨v', W', hr, h2, h3, h4⟩ := run_append_own (P := Tryd.prog) W B 31 ty 36 i (.int .u64 0) 1 8 Tryd.underlying31 hi hz0 hz1 hz2 rfl (by decide) _ _ _ ho ⟨b, o, none⟩ m.length c (uns .u64 m) (by rw [uns_length]; omega)
      (fun j u hu => by
        obtain ⟨hj, rfl⟩ := uns_get _ _ _ _ hu
        rw [addr_add]; exact hc j hj) (uns_one _ _) (by simp only [maxLen]; omega) (by omega) hB
    obtain ⟨g', cap', rfl, h5⟩ := own_some h2 (by omega)
    refine ⟨_, W', hr, ⟨g', cap', by rw [List.length_append], ?_⟩, grown_below hw h3 hgB hB⟩
    rw [List.length_append, uns_append]; exact h5
theorem zeros_uns (k : Nat) : (Builtin.zeroCells #[.int .u64 0] k).toList = uns .u64 (List.replicate k 0) := by
  apply List.ext_getElem
  · simp [uns, Builtin.zeroCells]
  · intro i h1 h2
    simp [uns, Builtin.zeroCells, Nat.mod_one]
set_option maxRecDepth 100000 in
/-- append(v, make([]uint64, k)...) -/
theorem app_zeros {W : World} {B k : Nat} {v : Value} {l : List Int} (ty : TypeId) (h : OwnW B W v l) (hk : k ≤ 8) (hl : l.length ≤ 1000000) (hB : B ≤ W.heap.size) {w : World} (hw : Below B w W) :
    ∃ v' W', (Builtin.append_ #[31, 3] ty #[v, .int .i64 k]).run Tryd.prog W = .ok v' W' ∧ OwnW B W' v' (l ++ List.replicate k 0) ∧ Below B w W' := by
  obtain ⟨g, cap, rfl, ho⟩ := h
  obtain ⟨i, hi, hz0, hz1, hz2⟩ := u64_info
  have hgB : B ≤ g := (own_ge ho g (by simp [Value.ownBlock])).1
  obtain ⟨cur, _, hg, hn, hcm, hcs, ht⟩ := own_cases ho
  have hwr : IntKind.i64.wrap (k : Int) = k := by rw [IntKind.wrap_i64]; omega
  have hneg : ¬ ((k : Int) < 0) := by omega
  have hbig : ¬ (281474976710656 < (k : Int) * 8) := by omega
  have hzl : (Builtin.zeroCells #[.int .u64 0] k).toList.length = k := by rw [zeros_uns, uns_length, List.length_replicate]
  have hz1' : ∀ u ∈ (Builtin.zeroCells #[.int .u64 0] k).toList, u.oneCell' = true := by rw [zeros_uns]; exact uns_one _ _
  have hlk : (l ++ List.replicate k 0).length = l.length + k := by rw [List.length_append, List.length_replicate]
  by_cases h0 : k = 0
  · subst h0
    refine ⟨.slice (some ⟨g, 0, none⟩) l.length cap, W, ?_, by simpa using ⟨g, cap, rfl, ho⟩, hw⟩
    simp [Builtin.append_, run_underlying Tryd.underlying31, run_underlying Tryd.underlying3, sizeOf, typeInfo, hi, hz2, hn, Addr.add_lit, storeCells, asInt, asIntOf, show IntKind.i64.wrap 0 = 0 from rfl]
  · by_cases hroom : l.length + k ≤ cap
    · have hst := run_storeCells_at Tryd.prog g (l.length * 1) 36 (Builtin.zeroCells #[.int .u64 0] k).toList 0 cur W hg (by rw [hzl]; omega) hz1'
      simp only [Nat.add_zero] at hst
      refine ⟨.slice (some ⟨g, 0, none⟩) (l.length + k) cap, W.setRow g (cur.toList.take (l.length * 1) ++ (Builtin.zeroCells #[.int .u64 0] k).toList ++ cur.toList.drop (l.length * 1 + (Builtin.zeroCells #[.int .u64 0] k).toList.length)).toArray, ?_, ⟨g, cap, by rw [hlk], ?_⟩, grown_below hw ⟨rfl, rfl, rfl, by simp, fun j _ hj => setRow_other W g j _ (fun e => hj (by rw [e]))⟩ hgB hB⟩
      · simp [Builtin.append_, run_underlying Tryd.underlying31, run_underlying Tryd.underlying3, sizeOf, typeInfo, zeroValue, hi, hz0, hz1, hz2, hwr, hneg, hbig, h0, hroom, Addr.add_lit, asInt, asIntOf]
        simp only [Nat.mul_one, List.append_assoc, Array.length_toList] at hst
        rw [show (Value.int .u64 0).cells = #[.int .u64 0] from rfl, hst]
        rfl
      · rw [hlk]
        refine ⟨by rw [uns_length, hlk]; omega, .inr ⟨g, cap, _, rfl, hgB, setRow_heap W g cur _ 36 _ hg, hroom, hcm, ?_, ?_⟩⟩
        · simp only [List.size_toArray, List.length_append, List.length_take, List.length_drop, Array.length_toList, hzl]
          omega
        · rw [uns_append, ← zeros_uns]
          simp only [ht]
          have : (uns .u64 l ++ (Builtin.zeroCells #[.int .u64 0] k).toList).length = (l.length + k) * 1 := by rw [List.length_append, hzl, uns_length]; omega
          rw [← this]
          exact List.take_left
    · have hold : (Builtin.firstCells i.size l.length (.slice (some ⟨g, 0, none⟩) l.length cap)).run Tryd.prog W.drew = .ok (uns .u64 l).toArray W.drew := by
        rw [hz1]
        exact run_firstCells_some (P := Tryd.prog) W.drew 1 l.length ⟨g, 0, none⟩ l.length cap (uns .u64 l) (by rw [uns_length]; omega) (ho.cells (g := g) rfl)
      have hr := Lib.run_append_grow_zeros (P := Tryd.prog) W 31 3 ty 36 i (.int .u64 0) .i64 .i64 Tryd.underlying31 Tryd.underlying3 hi hz0 (some ⟨g, 0, none⟩) l.length cap (uns .u64 l) hold k (by omega) (by omega) (by omega) (by omega) (by rw [hz2]; omega) (growslice_fits (by omega) (by rw [hz2]; omega))
      have hge := grownCap_ge W (l.length + k) cap 36
      have hcm' : grownCap W (l.length + k) cap 36 ≤ maxLen := grownCap_le_maxLen W (l.length + k) cap 36 (by simp only [maxLen]; omega)
      refine ⟨_, _, hr, ⟨W.heap.size, _, by rw [hlk], ?_⟩, (hw.drew).alloc (by exact hB) _⟩
      rw [hlk]
      refine ⟨by rw [uns_length, hlk]; omega, .inr ⟨W.heap.size, _, _, rfl, hB, heap_alloc_new W.drew _, hge, hcm', ?_, ?_⟩⟩
      · simp only [Array.size_append, List.size_toArray, size_zeroCells, uns_length]
        show l.length + k * 1 + (grownCap W (l.length + k) cap 36 - (l.length + k)) * 1 = _
        omega
      · show (((uns .u64 l).toArray ++ Builtin.zeroCells #[.int .u64 0] k) ++ Builtin.zeroCells #[.int .u64 0] _).toList.take _ = _
        simp only [Array.toList_append, List.append_assoc]
        rw [← List.append_assoc, zeros_uns, ← uns_append]
        have : (uns .u64 (l ++ List.replicate k 0)).length = (l.length + k) * 1 := by rw [uns_length, hlk]; omega
        rw [← this]
        exact List.take_left
end Go.Proofs.YtelghkgnkncnoaaDoor
/- Contract of the law EqualData. -/
set_option linter.unusedVariables false
set_option linter.unusedSimpArgs false
namespace Go.Proofs.YtelghkgnkncnoaaDoor
open Go.RowKit
theorem getD_zeros (a : List Int) (k i : Nat) : (a ++ List.replicate k 0).getD i 0 = a.getD i 0 := by
  simp only [List.getD_eq_getElem?_getD]
  by_cases h : i < a.length
  · rw [List.getElem?_append_left h]
  · rw [List.getElem?_append_right (by omega), List.getElem?_eq_none (l := a) (by omega)]
    by_cases h2 : i - a.length < k
    · rw [List.getElem?_replicate_of_lt h2]; rfl
    · rw [List.getElem?_eq_none (by rw [List.length_replicate]; omega)]
theorem dataEq_zeros (a b : List Int) (k : Nat) : dataEq (a ++ List.replicate k 0) b = dataEq a b := by
  rw [Bool.eq_iff_iff, dataEq_iff, dataEq_iff]
  simp only [getD_zeros]
theorem dataEq_self (a : List Int) (k : Nat) : dataEq a (a ++ List.replicate k 0) = true := by
  rw [dataEq_iff]
  simp only [getD_zeros, implies_true]
theorem dataEq_more (a : List Int) (k : Nat) (y : Int) : dataEq (a ++ List.replicate k 0 ++ [y]) a = (y == 0) := by
  rw [Bool.eq_iff_iff, dataEq_iff, beq_iff_eq]
  have hl : (a ++ List.replicate k 0).length = a.length + k := by rw [List.length_append, List.length_replicate]
  refine ⟨fun h => ?_, fun h i => ?_⟩
  · have := h (a.length + k)
    rw [List.getD_eq_getElem?_getD, List.getElem?_append_right (by omega), List.getD_eq_getElem?_getD, List.getElem?_eq_none (l := a) (by omega), hl] at this
    simpa using this
  · subst h
    have : a ++ List.replicate k 0 ++ [0] = a ++ List.replicate (k + 1) 0 := by
      rw [List.append_assoc, List.replicate_succ']
    rw [this, getD_zeros]
set_option maxRecDepth 100000 in
set_option maxHeartbeats 4000000 in
theorem EqualData_small {B : Nat} {w : World} {A A' : Option Addr} {n n' c c' : Nat} {a b : List Int} (hE : Env B w) (hB : B ≤ w.heap.size) (ha : RW .u64 B w A n a) (hb : RW .u64 B w A' n' b) (hn : n ≤ 200) (hn' : n' ≤ 200) (z y : Int) (z0 : 0 ≤ z) (z1 : z < 256) :
    Calls Tryd.prog 5 #[.slice A n c, .slice A' n' c', .int .u8 z, .int .u64 y] w (VPost w (.bool true)) := by
  obtain rfl := ha.1
  obtain rfl := hb.1
  have HE := Lib.hid hE
  have HA := Lib.hid ha
  have HB := Lib.hid hb
  clear hE ha hb
  obtain ⟨k, hk, hk8⟩ : ∃ k : Nat, z % 9 = (k : Int) ∧ k ≤ 8 := ⟨(z % 9).toNat, by omega, by omega⟩
  obtain ⟨X, hX⟩ : ∃ X, X = a ++ List.replicate k 0 := ⟨_, rfl⟩
  have lX : X.length ≤ 208 := by rw [hX, List.length_append, List.length_replicate]; omega
  obtain ⟨Y, hY⟩ : ∃ Y, Y = X ++ [y] := ⟨_, rfl⟩
  have lY : Y.length ≤ 209 := by rw [hY, List.length_append, List.length_singleton]; omega
  obtain ⟨D, hD⟩ : ∃ D, D = dataEq a b := ⟨_, rfl⟩
  have D2 := Lib.hid (show dataEq b a = D by rw [hD, dataEq_comm])
  have D3 := Lib.hid (show dataEq X b = D by rw [hD, hX, dataEq_zeros])
  have D5 := Lib.hid (show dataEq a X = true by rw [hX, dataEq_self])
  have D6 := Lib.hid (show dataEq Y a = (y == 0) by rw [hY, hX, dataEq_more])
  have HX := Lib.hid hX
  have HY := Lib.hid hY
  have HD := Lib.hid hD.symm
  clear hX hY hD
  go_enter Tryd.func5, Tryd.ntmps5
  go_wp2_with fail
  refine (awake_any HE.out hB).mono ?_
  rintro e w1 ⟨rfl, hb1⟩; have hB1 := below_step (w := w) (by (repeat (first | exact Below.refl _ _ | assumption | refine Below.setCell ?_ (by (try simp); (try omega)) _ | refine Below.alloc ?_ (by (try simp); (try omega)) _ | refine below_setRow ?_ (by (try simp); (try omega)) _ | refine pw_below_drewN ?_ _ | refine Below.drew ?_))) hb1; obtain ⟨hc1, hf1⟩ := bcell hb1; have hd1 := blk_below hb1; have hs1 := hB1.size
  have hl1 : w.heap.size ≤ w1.heap.size := hB1.size
  go_wp2_with (at_builtin; (first
    | (obtain ⟨v4, W4, hr4, ho4, hw4⟩ := app_src (B := W2.heap.size) (w := W2) 31 (ho3.grown ((Below.refl _ _).alloc (Nat.le_refl _) _)) (RW.of_block (heap_alloc_new W3 _) (by simp) 1 rfl : RW .u64 (W3.heap.size + 1) (W3.alloc (.cells (uns .u64 [y]).toArray 36 (0, 0))) (some ⟨W3.heap.size, 0, none⟩) 1 [y]) (by simp only [List.length_singleton]; omega) (by simp only [World.size_alloc]; omega) (by (repeat (first | exact Below.refl _ _ | assumption | refine Below.setCell ?_ (by (try simp); (try omega)) _ | refine Below.alloc ?_ (by (try simp); (try omega)) _ | refine below_setRow ?_ (by (try simp); (try omega)) _ | refine pw_below_drewN ?_ _ | refine Below.drew ?_))); refine Lib.wpList_append_run _ rfl _ _ _ _ rfl _ _ rfl rfl _ _ hr4 ?_; rw [← HY.out] at ho4)
    | (obtain ⟨v3, W3, hr3, ho3, hw3⟩ := app_src (B := W2.heap.size) (w := W2) 31 (OwnW.lit (W := W2) (Nat.le_refl _)) (hq2.mono (Below.mono (B := W2.heap.size) (by (repeat (first | exact Below.refl _ _ | assumption | refine Below.setCell ?_ (by (try simp); (try omega)) _ | refine Below.alloc ?_ (by (try simp); (try omega)) _ | refine below_setRow ?_ (by (try simp); (try omega)) _ | refine pw_below_drewN ?_ _ | refine Below.drew ?_))) (Nat.le_refl _)) (Nat.le_refl _)) (by simp only [List.length_nil]; omega) (by simp only [World.size_alloc]; omega) (by (repeat (first | exact Below.refl _ _ | assumption | refine Below.setCell ?_ (by (try simp); (try omega)) _ | refine Below.alloc ?_ (by (try simp); (try omega)) _ | refine below_setRow ?_ (by (try simp); (try omega)) _ | refine pw_below_drewN ?_ _ | refine Below.drew ?_))); refine Lib.wpList_append_run _ rfl _ _ _ _ rfl _ _ rfl rfl _ _ hr3 ?_; rw [List.nil_append] at ho3; have hl4 := hw3.size)
    | (obtain ⟨v2, W2, hr2, ho2, hw2⟩ := app_zeros (B := w.heap.size) (w := w) (k := k) 31 ho1 hk8 (by omega) hl2 hw1; refine Lib.wpList_append_run _ rfl _ _ _ _ rfl _ _ rfl rfl _ _ hr2 ?_; rw [← HX.out] at ho2; obtain ⟨A2, c2, rfl, hq2⟩ := ho2.rw; have hl3 := hw2.size; clear ho1 hw1 hr1 hr2 hl2)
    | (obtain ⟨v1, W1, hr1, ho1, hw1⟩ := app_src (B := w.heap.size) (w := w) 31 (OwnW.lit (W := w1) hl1) (HA.out.mono (Below.mono (B := w.heap.size) (by (repeat (first | exact Below.refl _ _ | assumption | refine Below.setCell ?_ (by (try simp); (try omega)) _ | refine Below.alloc ?_ (by (try simp); (try omega)) _ | refine below_setRow ?_ (by (try simp); (try omega)) _ | refine pw_below_drewN ?_ _ | refine Below.drew ?_))) hB) (Nat.le_refl _)) (by simp only [List.length_nil]; omega) (by simp only [World.size_alloc]; omega) (by (repeat (first | exact Below.refl _ _ | assumption | refine Below.setCell ?_ (by (try simp); (try omega)) _ | refine Below.alloc ?_ (by (try simp); (try omega)) _ | refine below_setRow ?_ (by (try simp); (try omega)) _ | refine pw_below_drewN ?_ _ | refine Below.drew ?_))); refine Lib.wpList_append_run _ rfl _ _ _ _ rfl _ _ rfl rfl _ _ hr1 ?_; rw [List.nil_append] at ho1; have hl2 := hw1.size)))
  obtain ⟨A4, c4, rfl, hq4⟩ := ho4.rw
  have hB4 : Below w.heap.size w W4 := below_then hw2 hl3 hw4
  have HX2 := Lib.hid (hq2.mono hw4 hw4.size)
  have HY2 := Lib.hid hq4
  clear hq2 hq4 ho4 ho3 ho2 hw3
  go_wp2_with fail
  refine (Data_any (HA.out.mono (Below.mono (B := w.heap.size) (by (repeat (first | exact Below.refl _ _ | assumption | refine Below.setCell ?_ (by (try simp); (try omega)) _ | refine Below.alloc ?_ (by (try simp); (try omega)) _ | refine below_setRow ?_ (by (try simp); (try omega)) _ | refine pw_below_drewN ?_ _ | refine Below.drew ?_))) hB) (Nat.le_refl _)) (HB.out.mono (Below.mono (B := w.heap.size) (by (repeat (first | exact Below.refl _ _ | assumption | refine Below.setCell ?_ (by (try simp); (try omega)) _ | refine Below.alloc ?_ (by (try simp); (try omega)) _ | refine below_setRow ?_ (by (try simp); (try omega)) _ | refine pw_below_drewN ?_ _ | refine Below.drew ?_))) hB) (Nat.le_refl _)) (by omega) (by omega)).mono ?_
  rw [HD.out]
  rintro e w5 ⟨rfl, hb5⟩; have hB5 := below_step (w := w) (by (repeat (first | exact Below.refl _ _ | assumption | refine Below.setCell ?_ (by (try simp); (try omega)) _ | refine Below.alloc ?_ (by (try simp); (try omega)) _ | refine below_setRow ?_ (by (try simp); (try omega)) _ | refine pw_below_drewN ?_ _ | refine Below.drew ?_))) hb5; obtain ⟨hc5, hf5⟩ := bcell hb5; have hd5 := blk_below hb5; have hs5 := hB5.size
  go_wp2_with fail
  refine (Data_any (HB.out.mono (Below.mono (B := w.heap.size) (by (repeat (first | exact Below.refl _ _ | assumption | refine Below.setCell ?_ (by (try simp); (try omega)) _ | refine Below.alloc ?_ (by (try simp); (try omega)) _ | refine below_setRow ?_ (by (try simp); (try omega)) _ | refine pw_below_drewN ?_ _ | refine Below.drew ?_))) hB) (Nat.le_refl _)) (HA.out.mono (Below.mono (B := w.heap.size) (by (repeat (first | exact Below.refl _ _ | assumption | refine Below.setCell ?_ (by (try simp); (try omega)) _ | refine Below.alloc ?_ (by (try simp); (try omega)) _ | refine below_setRow ?_ (by (try simp); (try omega)) _ | refine pw_below_drewN ?_ _ | refine Below.drew ?_))) hB) (Nat.le_refl _)) (by omega) (by omega)).mono ?_
  rw [D2.out]
  rintro e w6 ⟨rfl, hb6⟩; have hB6 := below_step (w := w) (by (repeat (first | exact Below.refl _ _ | assumption | refine Below.setCell ?_ (by (try simp); (try omega)) _ | refine Below.alloc ?_ (by (try simp); (try omega)) _ | refine below_setRow ?_ (by (try simp); (try omega)) _ | refine pw_below_drewN ?_ _ | refine Below.drew ?_))) hb6; obtain ⟨hc6, hf6⟩ := bcell hb6; have hd6 := blk_below hb6; have hs6 := hB6.size
  have hx6 : Below W4.heap.size W4 w6 := (hb5.trans (hb6.mono hb5.size))
  go_wp2_with fail
  refine (Data_any (HX2.out.mono hx6 hx6.size) (HB.out.mono (Below.mono (B := w.heap.size) (by (repeat (first | exact Below.refl _ _ | assumption | refine Below.setCell ?_ (by (try simp); (try omega)) _ | refine Below.alloc ?_ (by (try simp); (try omega)) _ | refine below_setRow ?_ (by (try simp); (try omega)) _ | refine pw_below_drewN ?_ _ | refine Below.drew ?_))) hB) (Nat.le_trans hB hB6.size)) (by omega) (by omega)).mono ?_
  rw [D3.out]
  rintro e w7 ⟨rfl, hb7⟩; have hB7 := below_step (w := w) (by (repeat (first | exact Below.refl _ _ | assumption | refine Below.setCell ?_ (by (try simp); (try omega)) _ | refine Below.alloc ?_ (by (try simp); (try omega)) _ | refine below_setRow ?_ (by (try simp); (try omega)) _ | refine pw_below_drewN ?_ _ | refine Below.drew ?_))) hb7; obtain ⟨hc7, hf7⟩ := bcell hb7; have hd7 := blk_below hb7; have hs7 := hB7.size
  go_wp2_with fail
  refine (Data_any (HA.out.mono (Below.mono (B := w.heap.size) (by (repeat (first | exact Below.refl _ _ | assumption | refine Below.setCell ?_ (by (try simp); (try omega)) _ | refine Below.alloc ?_ (by (try simp); (try omega)) _ | refine below_setRow ?_ (by (try simp); (try omega)) _ | refine pw_below_drewN ?_ _ | refine Below.drew ?_))) hB) (Nat.le_refl _)) (HB.out.mono (Below.mono (B := w.heap.size) (by (repeat (first | exact Below.refl _ _ | assumption | refine Below.setCell ?_ (by (try simp); (try omega)) _ | refine Below.alloc ?_ (by (try simp); (try omega)) _ | refine below_setRow ?_ (by (try simp); (try omega)) _ | refine pw_below_drewN ?_ _ | refine Below.drew ?_))) hB) (Nat.le_refl _)) (by omega) (by omega)).mono ?_
  rw [HD.out]
  rintro e w8 ⟨rfl, hb8⟩; have hB8 := below_step (w := w) (by (repeat (first | exact Below.refl _ _ | assumption | refine Below.setCell ?_ (by (try simp); (try omega)) _ | refine Below.alloc ?_ (by (try simp); (try omega)) _ | refine below_setRow ?_ (by (try simp); (try omega)) _ | refine pw_below_drewN ?_ _ | refine Below.drew ?_))) hb8; obtain ⟨hc8, hf8⟩ := bcell hb8; have hd8 := blk_below hb8; have hs8 := hB8.size
  have hx8 : Below W4.heap.size W4 w8 := (hx6.trans ((hb7.trans (hb8.mono hb7.size)).mono hx6.size))
  go_wp2_with fail
  refine (Data_any (HA.out.mono (Below.mono (B := w.heap.size) (by (repeat (first | exact Below.refl _ _ | assumption | refine Below.setCell ?_ (by (try simp); (try omega)) _ | refine Below.alloc ?_ (by (try simp); (try omega)) _ | refine below_setRow ?_ (by (try simp); (try omega)) _ | refine pw_below_drewN ?_ _ | refine Below.drew ?_))) hB) (Nat.le_trans hB hB8.size)) (HX2.out.mono hx8 hx8.size) (by omega) (by omega)).mono ?_
  rw [D5.out]
  rintro e w9 ⟨rfl, hb9⟩; have hB9 := below_step (w := w) (by (repeat (first | exact Below.refl _ _ | assumption | refine Below.setCell ?_ (by (try simp); (try omega)) _ | refine Below.alloc ?_ (by (try simp); (try omega)) _ | refine below_setRow ?_ (by (try simp); (try omega)) _ | refine pw_below_drewN ?_ _ | refine Below.drew ?_))) hb9; obtain ⟨hc9, hf9⟩ := bcell hb9; have hd9 := blk_below hb9; have hs9 := hB9.size
  have hx9 : Below W4.heap.size W4 w9 := (hx8.trans (hb9.mono hx8.size))
  go_wp2_with fail
  refine (Data_any (HY2.out.mono hx9 hx9.size) (HA.out.mono (Below.mono (B := w.heap.size) (by (repeat (first | exact Below.refl _ _ | assumption | refine Below.setCell ?_ (by (try simp); (try omega)) _ | refine Below.alloc ?_ (by (try simp); (try omega)) _ | refine below_setRow ?_ (by (try simp); (try omega)) _ | refine pw_below_drewN ?_ _ | refine Below.drew ?_))) hB) (Nat.le_trans hB hB9.size)) (by omega) (by omega)).mono ?_
  rw [D6.out]
  rintro e w10 ⟨rfl, hb10⟩; have hB10 := below_step (w := w) (by (repeat (first | exact Below.refl _ _ | assumption | refine Below.setCell ?_ (by (try simp); (try omega)) _ | refine Below.alloc ?_ (by (try simp); (try omega)) _ | refine below_setRow ?_ (by (try simp); (try omega)) _ | refine pw_below_drewN ?_ _ | refine Below.drew ?_))) hb10; obtain ⟨hc10, hf10⟩ := bcell hb10; have hd10 := blk_below hb10; have hs10 := hB10.size
  go_wp2
  go_ret
  exact ⟨rfl, hB10⟩
set_option maxRecDepth 100000 in
theorem EqualData_no1 {B : Nat} {w : World} {A A' : Option Addr} {n n' c c' : Nat} (hE : Env B w) (hB : B ≤ w.heap.size) (hn : ¬ n ≤ 200) (z y : Int) :
    Calls Tryd.prog 5 #[.slice A n c, .slice A' n' c', .int .u8 z, .int .u64 y] w (VPost w (.bool true)) := by
  have HE := Lib.hid hE
  clear hE
  go_enter Tryd.func5, Tryd.ntmps5
  go_wp2_with fail
  refine (awake_any HE.out hB).mono ?_
  rintro e w1 ⟨rfl, hb1⟩; have hB1 := below_step (w := w) (by (repeat (first | exact Below.refl _ _ | assumption | refine Below.setCell ?_ (by (try simp); (try omega)) _ | refine Below.alloc ?_ (by (try simp); (try omega)) _ | refine below_setRow ?_ (by (try simp); (try omega)) _ | refine pw_below_drewN ?_ _ | refine Below.drew ?_))) hb1; obtain ⟨hc1, hf1⟩ := bcell hb1; have hd1 := blk_below hb1; have hs1 := hB1.size
  have HE1 := Lib.hid (HE.out.mono (Below.mono hB1 hB) (Nat.le_refl _))
  have hB1' : B ≤ w1.heap.size := Nat.le_trans hB hB1.size
  go_wp2_with fail
  refine (awake_any HE1.out hB1').mono ?_
  rintro e w2 ⟨rfl, hb2⟩; have hB2 := below_step (w := w) (by (repeat (first | exact Below.refl _ _ | assumption | refine Below.setCell ?_ (by (try simp); (try omega)) _ | refine Below.alloc ?_ (by (try simp); (try omega)) _ | refine below_setRow ?_ (by (try simp); (try omega)) _ | refine pw_below_drewN ?_ _ | refine Below.drew ?_))) hb2; obtain ⟨hc2, hf2⟩ := bcell hb2; have hd2 := blk_below hb2; have hs2 := hB2.size
  go_wp2
  go_ret
  exact ⟨rfl, hB2⟩
set_option maxRecDepth 100000 in
theorem EqualData_no2 {B : Nat} {w : World} {A A' : Option Addr} {n n' c c' : Nat} (hE : Env B w) (hB : B ≤ w.heap.size) (hn : n ≤ 200) (hn' : ¬ n' ≤ 200) (z y : Int) :
    Calls Tryd.prog 5 #[.slice A n c, .slice A' n' c', .int .u8 z, .int .u64 y] w (VPost w (.bool true)) := by
  have HE := Lib.hid hE
  clear hE
  go_enter Tryd.func5, Tryd.ntmps5
  go_wp2_with fail
  refine (awake_any HE.out hB).mono ?_
  rintro e w1 ⟨rfl, hb1⟩; have hB1 := below_step (w := w) (by (repeat (first | exact Below.refl _ _ | assumption | refine Below.setCell ?_ (by (try simp); (try omega)) _ | refine Below.alloc ?_ (by (try simp); (try omega)) _ | refine below_setRow ?_ (by (try simp); (try omega)) _ | refine pw_below_drewN ?_ _ | refine Below.drew ?_))) hb1; obtain ⟨hc1, hf1⟩ := bcell hb1; have hd1 := blk_below hb1; have hs1 := hB1.size
  have HE1 := Lib.hid (HE.out.mono (Below.mono hB1 hB) (Nat.le_refl _))
  have hB1' : B ≤ w1.heap.size := Nat.le_trans hB hB1.size
  go_wp2_with fail
  refine (awake_any HE1.out hB1').mono ?_
  rintro e w2 ⟨rfl, hb2⟩; have hB2 := below_step (w := w) (by (repeat (first | exact Below.refl _ _ | assumption | refine Below.setCell ?_ (by (try simp); (try omega)) _ | refine Below.alloc ?_ (by (try simp); (try omega)) _ | refine below_setRow ?_ (by (try simp); (try omega)) _ | refine pw_below_drewN ?_ _ | refine Below.drew ?_))) hb2; obtain ⟨hc2, hf2⟩ := bcell hb2; have hd2 := blk_below hb2; have hs2 := hB2.size
  go_wp2
  go_ret
  exact ⟨rfl, hB2⟩
theorem EqualData_any {B : Nat} {w : World} {A A' : Option Addr} {n n' c c' : Nat} {a b : List Int} (hE : Env B w) (hB : B ≤ w.heap.size) (ha : RW .u64 B w A n a) (hb : RW .u64 B w A' n' b) (z y : Int) (z0 : 0 ≤ z) (z1 : z < 256) :
    Calls Tryd.prog 5 #[.slice A n c, .slice A' n' c', .int .u8 z, .int .u64 y] w (VPost w (.bool true)) := by
  by_cases h1 : n ≤ 200
  · by_cases h2 : n' ≤ 200
    · exact EqualData_small hE hB ha hb h1 h2 z y z0 z1
    · exact EqualData_no2 hE hB h1 h2 z y
  · exact EqualData_no1 hE hB h1 z y
end Go.Proofs.YtelghkgnkncnoaaDoor
/- EqualData: for every input the law returns true, and what it reads stays as it was; what the listed variables hold is tied to the program's text. -/
set_option linter.unusedVariables false
namespace Go.Proofs.YtelghkgnkncnoaaDoor
open Go.ChangeShapes Go.WideShapes Go.ChangeAt Go.WideElems Go.RowKit
set_option maxRecDepth 100000 in
theorem EqualData_lifted (os : Os) (started : os.Started) (H : Type) (enc : TypeId × Value → H) :
    ReturnsInHanded {} Tryd.checked os 5 .any (fun w args => (Rows.equalDataSpec.pre enc Tryd.prog Tryd.f5 [] false w args ∧ laidMetH Tryd.prog laidH w) ∧ sizedMet enc Tryd.prog Tryd.f5 (OpenSpec.ofChange Rows.equalDataSpec) false w args)
      (Rows.equalDataSpec.post enc Tryd.prog Tryd.f5 false true false false) := by
  refine returnsInHanded_of_change_and (C := Tryd.checked) (X := fun w _ => laidMetH Tryd.prog laidH w) (fun _ _ _ hh h => h.of_heap hh) own started (by kernel_rfl) Tryd.func5
    (ChangeSpec.witness_shaped (enc := enc) (C := Tryd.checked) (os := os) (X := fun w _ => laidMetH Tryd.prog laidH w) false (World.doorLaid Tryd.prog 600 os) #[.slice none 0 0, .slice none 0 0, .int .u8 0, .int .u64 0] 8 rfl (World.shaped_of_RefB (by kernel_rfl) (by kernel_rfl)) (by kernel_rfl) (by kernel_rfl) (by kernel_rfl) (door_met os _)) ?_
  intro W base args ds gs before hval0 hW _ _ hL _
  have hval : ∀ (j : Nat) t v, Tryd.f5.params[j]? = some t → args[j]? = some v → Value.okWide Tryd.prog W .any base t v := hval0
  have hW' := hW
  obtain ⟨p, q, hA0, hV, rfl, hfz, hnd⟩ := hW
  have hA : DataW.TrodAll enc Tryd.prog W 0 (fun _ => true) true Tryd.f5.params.toList args.toList ds p := hA0
  rw [Tryd.params5] at hA hval
  obtain ⟨v0, v1, v2, v3, d0, d1, d2, d3, p0, p1, p2, p3, rfl, rfl, rfl, h0, h1, h2, h3⟩ := trodAll_four hA
  obtain ⟨rfl, rfl⟩ := trodVars_none hV
  have hE := env_of_laid hL
  obtain ⟨A0, n0, c0, s0, rfl, a0⟩ := open_words (hval 0 31 v0 rfl rfl) h0
  obtain ⟨A1, n1, c1, s1, rfl, a1⟩ := open_words (hval 1 31 v1 rfl rfl) h1
  obtain ⟨x, rfl, rfl, rfl, wx⟩ := open_int Tryd.underlying5 (hval 2 5 v2 rfl rfl) h2
  obtain ⟨y, rfl, rfl, rfl, wy⟩ := open_int Tryd.underlying36 (hval 3 36 v3 rfl rfl) h3
  have hx := u8_of_wf wx
  refine (EqualData_any (c := c0) (c' := c1) hE (Nat.le_refl _) a0 a1 x y hx.1 hx.2).mono fun e W' ⟨he, hw⟩ => ?_
  subst he
  exact ⟨_, rfl, law_post laidOutA rfl (of_decide_eq_true (by kernel_rfl)) hW' rfl (by kernel_rfl) Tryd.underlying4 hw⟩
theorem equalData_holds : Rows.EqualDataSaid :=
  OpenClaim.holds_of_wide 5 Tryd.f5 rfl rfl rfl rfl rfl rfl rfl ⟨rfl, rfl, rfl, rfl, rfl⟩ rfl rfl rfl rfl rfl (by kernel_rfl) Tryd.func5 (by kernel_rfl)
    (of_decide_eq_true (by kernel_rfl)) (by unfold Func.isWrapper; first | (rw [if_pos (by decide +kernel)]; kernel_rfl) | (rw [if_neg (by decide +kernel)]; exact ⟨rfl, rfl⟩))
    (fun os started H enc _ => EqualData_lifted os started H enc)
theorem equalData_card : Rows.EqualDataCardSaid :=
  Claim7.holds_tied_plain_at .later [] [.funcs, .data] true (true, "6ec70fd0edd24abb5d337bde79ef0bb013abfad9384bdde4bb9ae22e5d9e36aa") true
    equalData_holds (fun _ h => by cases h) (by kernel_rfl) (fun _ h => by cases h) equalData_row_tie rfl ⟨rfl, rfl⟩ (by kernel_rfl) rfl
    (fun f fn hf hfn => by
      obtain rfl : f = 5 := Option.some.inj ((show Tryd.prog.funcNamed "capnp/capnplaw17.EqualData" = some 5 by kernel_rfl).symm.trans hf) |>.symm
      obtain rfl : fn = Tryd.f5 := (Option.some.inj (Tryd.func5.symm.trans hfn)).symm
      exact ⟨by kernel_rfl, fun j t ht => by
        rw [Tryd.params5] at ht
        have hm : t ∈ [31, 31, 5, 36] := by simpa using Array.mem_of_getElem? ht
        have hall : ([31, 31, 5, 36].all fun u => !Tryd.prog.wantsStandIn u) = true := by kernel_rfl
        exact (show Tryd.prog.wantsStandIn t = false by simpa using List.all_eq_true.1 hall t hm)⟩)
    (by kernel_rfl)
#print axioms equalData_card
end Go.Proofs.YtelghkgnkncnoaaDoor
