/- A part of the proof: the texts App App2 W39 W40 W41 L5 joined. -/
import Derived.Test.YtelghkgnkncnoaaDoorEd
import Derived.Lib.AppendZerosOnto
import Derived.Test.YtelghkgnkncnoaaDoorLa
import Derived.Test.YtelghkgnkncnoaaDoorTie
import Derived.Test.YtelghkgnkncnoaaDoorCards
import Derived.SevenTiedAt
/- What append does to a row of words that the call owns. -/
set_option linter.unusedVariables false
namespace Go.Proofs.YtelghkgnkncnoaaDoor
open Go.RowKit
/-- the value is a slice over a row of the call's own, which holds these words -/
def OwnW (B : Nat) (W : World) (v : Value) (l : List Int) : Prop := ∃ g cap, v = .slice (some ⟨g, 0, none⟩) l.length cap ∧ W.ownsRow B 36 1 (.slice (some ⟨g, 0, none⟩) l.length cap) l.length (uns .u64 l)
theorem OwnW.grown {B : Nat} {W W' : World} {v : Value} {l : List Int} (h : OwnW B W v l) (hb : Below W.heap.size W W') : OwnW B W' v l := by
  obtain ⟨g, cap, rfl, ho⟩ := h
  refine ⟨g, cap, rfl, ?_⟩
  exact ho.kept (row := none) ⟨hb.os, hb.tape, hb.output, hb.size, fun k hk _ => hb.block k hk⟩ (Or.inr (by simp [Value.ownBlock]))
theorem own_cases {W : World} {B n cap g : Nat} {e : TypeId} {xs : List Value} (h : W.ownsRow B e 1 (.slice (some ⟨g, 0, none⟩) n cap) n xs) :
    ∃ cur, B ≤ g ∧ W.heap[g]? = some (.cells cur e (0, 0)) ∧ n ≤ cap ∧ cap ≤ maxLen ∧ cur.size = cap * 1 ∧ cur.toList.take (n * 1) = xs := by
  rcases h.2 with ⟨h1, _⟩ | ⟨g', cap', cur, h1, h2, h3, h4, h5, h6, h7⟩
  · cases h1
  · cases h1
    exact ⟨cur, h2, h3, h4, h5, h6, h7⟩
theorem OwnW.rw {B : Nat} {W : World} {v : Value} {l : List Int} (h : OwnW B W v l) : ∃ A c, v = .slice A l.length c ∧ RW .u64 W.heap.size W A l.length l := by
  obtain ⟨g, cap, rfl, ho⟩ := h
  obtain ⟨cur, _, hg, _, _, _, ht⟩ := own_cases ho
  refine ⟨_, cap, rfl, rfl, fun h0 => ⟨g, 0, rfl, (Array.getElem?_eq_some_iff.1 hg).1, fun j hj => ?_⟩⟩
  have e1 : cur.toList[j]? = some (.int .u64 (l.getD j 0)) := by
    have e2 : (cur.toList.take (l.length * 1))[j]? = some (.int .u64 (l.getD j 0)) := by
      rw [ht]; simp [uns, List.getElem?_map, List.getElem?_eq_getElem hj]
    rw [List.getElem?_take_of_lt (by omega)] at e2
    exact e2
  rw [cell_of_row W g (0 + j) cur _ (0, 0) hg]
  simpa using e1
theorem grown_below {B : Nat} {w W W' : World} {g : Nat} (h : Below B w W) (hg : W.grownBy W' (some g)) (h1 : B ≤ g) (h2 : B ≤ W.heap.size) : Below B w W' :=
  ⟨hg.os.trans h.os, hg.tape.trans h.tape, hg.output.trans h.output, Nat.le_trans h.size hg.size, fun k hk => (hg.block k (by omega) (fun e => by cases e; omega)).trans (h.block k hk)⟩
theorem OwnW.lit {B : Nat} {W : World} (hB : B ≤ W.heap.size) : OwnW B (W.alloc (.cells #[] 36 (0, 0))) (.slice (some ⟨W.heap.size, 0, none⟩) 0 0) [] :=
  ⟨W.heap.size, 0, rfl, World.ownsRow_lit W #[] 0 hB (by unfold maxLen; omega) rfl⟩
theorem addr_add (b o j : Nat) : (⟨b, o, none⟩ : Addr).add j = ⟨b, o + j, none⟩ := by
  unfold Addr.add
  by_cases h : j = 0
  · subst h; simp
  · simp [h]
theorem u64_info : ∃ i, Tryd.prog.info? 36 = some i ∧ i.zero = some (.int .u64 0) ∧ i.size = 1 ∧ i.bytes = 8 := by
  have h : (Tryd.prog.info? 36).map (fun i => (i.zero, i.size, i.bytes)) = some (some (.int .u64 0), 1, 8) := by kernel_rfl
  obtain ⟨i, hi, he⟩ := Option.map_eq_some_iff.1 h
  simp only [Prod.mk.injEq] at he
  exact ⟨i, hi, he.1, he.2.1, he.2.2⟩
set_option maxRecDepth 100000 in
/-- append(v, src...) -/
theorem app_src {W : World} {B Bs c : Nat} {v : Value} {l m : List Int} {A : Option Addr} (ty : TypeId) (h : OwnW B W v l) (hs : RW .u64 Bs W A m.length m) (hl : l.length + m.length ≤ 1000000) (hB : B ≤ W.heap.size) {w : World} (hw : Below B w W) :
    ∃ v' W', (Builtin.append_ #[31, 31] ty #[v, .slice A m.length c]).run Tryd.prog W = .ok v' W' ∧ OwnW B W' v' (l ++ m) ∧ Below B w W' := by
  obtain ⟨g, cap, rfl, ho⟩ := h
  obtain ⟨i, hi, hz0, hz1, hz2⟩ := u64_info
  have hgB : B ≤ g := (own_ge ho g (by simp [Value.ownBlock])).1
  by_cases hm : m = []
  · subst hm
    obtain ⟨cur, _, hg, hn, _, _, _⟩ := own_cases ho
    refine ⟨.slice (some ⟨g, 0, none⟩) l.length cap, W, ?_, by rw [List.append_nil]; exact ⟨g, cap, rfl, ho⟩, hw⟩
    have hf : (Builtin.firstCells 1 0 (.slice A 0 c)).run Tryd.prog W = .ok #[] W := by
      cases A <;> simp [Builtin.firstCells, loadCells, loadCellsFrom]
    simp [Builtin.append_, run_underlying Tryd.underlying31, sizeOf, typeInfo, hi, hz1, Builtin.lenOf, hn, hf, Addr.add_lit, storeCells]
  · have hpos : 0 < m.length := List.length_pos_iff.2 hm
    obtain ⟨b, o, rfl, _, hc⟩ := hs.2 hpos
    obtain ⟨v', W', hr, h2, h3, h4⟩ := run_append_own (P := Tryd.prog) W B 31 ty 36 i (.int .u64 0) 1 8 Tryd.underlying31 hi hz0 hz1 hz2 rfl (by decide) _ _ _ ho ⟨b, o, none⟩ m.length c (uns .u64 m) (by rw [uns_length]; omega)
      (fun j u hu => by
        obtain ⟨hj, rfl⟩ := uns_get _ _ _ _ hu
        rw [addr_add]; exact hc j hj) (uns_one _ _) (by simp only [maxLen]; omega) (by omega) hB
    obtain ⟨g', cap', rfl, h5⟩ := own_some h2 (by omega)
    refine ⟨_, W', hr, ⟨g', cap', by rw [List.length_append], ?_⟩, grown_below hw h3 hgB hB⟩
    rw [List.length_append, uns_append]; exact h5
theorem zeros_uns (k : Nat) : (Builtin.zeroCells #[.int .u64 0] k).toList = uns .u64 (List.replicate k 0) := by
  apply List.ext_getElem
  · simp [uns, Builtin.zeroCells]
  · intro i h1 h2
    simp [uns, Builtin.zeroCells, Nat.mod_one]
set_option maxRecDepth 100000 in
/-- append(v, make([]uint64, k)...) -/
theorem app_zeros {W : World} {B k : Nat} {v : Value} {l : List Int} (ty : TypeId) (h : OwnW B W v l) (hk : k ≤ 8) (hl : l.length ≤ 1000000) (hB : B ≤ W.heap.size) {w : World} (hw : Below B w W) :
    ∃ v' W', (Builtin.append_ #[31, 3] ty #[v, .int .i64 k]).run Tryd.prog W = .ok v' W' ∧ OwnW B W' v' (l ++ List.replicate k 0) ∧ Below B w W' := by
  obtain ⟨g, cap, rfl, ho⟩ := h
  obtain ⟨i, hi, hz0, hz1, hz2⟩ := u64_info
  have hgB : B ≤ g := (own_ge ho g (by simp [Value.ownBlock])).1
  obtain ⟨cur, _, hg, hn, hcm, hcs, ht⟩ := own_cases ho
  have hwr : IntKind.i64.wrap (k : Int) = k := by rw [IntKind.wrap_i64]; omega
  have hneg : ¬ ((k : Int) < 0) := by omega
  have hbig : ¬ (281474976710656 < (k : Int) * 8) := by omega
  have hzl : (Builtin.zeroCells #[.int .u64 0] k).toList.length = k := by rw [zeros_uns, uns_length, List.length_replicate]
  have hz1' : ∀ u ∈ (Builtin.zeroCells #[.int .u64 0] k).toList, u.oneCell' = true := by rw [zeros_uns]; exact uns_one _ _
  have hlk : (l ++ List.replicate k 0).length = l.length + k := by rw [List.length_append, List.length_replicate]
  by_cases h0 : k = 0
  · subst h0
    refine ⟨.slice (some ⟨g, 0, none⟩) l.length cap, W, ?_, by simpa using ⟨g, cap, rfl, ho⟩, hw⟩
    simp [Builtin.append_, run_underlying Tryd.underlying31, run_underlying Tryd.underlying3, sizeOf, typeInfo, hi, hz2, hn, Addr.add_lit, storeCells, asInt, asIntOf, show IntKind.i64.wrap 0 = 0 from rfl]
  · by_cases hroom : l.length + k ≤ cap
    · have hst := run_storeCells_at Tryd.prog g (l.length * 1) 36 (Builtin.zeroCells #[.int .u64 0] k).toList 0 cur W hg (by rw [hzl]; omega) hz1'
      simp only [Nat.add_zero] at hst
      refine ⟨.slice (some ⟨g, 0, none⟩) (l.length + k) cap, W.setRow g (cur.toList.take (l.length * 1) ++ (Builtin.zeroCells #[.int .u64 0] k).toList ++ cur.toList.drop (l.length * 1 + (Builtin.zeroCells #[.int .u64 0] k).toList.length)).toArray, ?_, ⟨g, cap, by rw [hlk], ?_⟩, grown_below hw ⟨rfl, rfl, rfl, by simp, fun j _ hj => setRow_other W g j _ (fun e => hj (by rw [e]))⟩ hgB hB⟩
      · simp [Builtin.append_, run_underlying Tryd.underlying31, run_underlying Tryd.underlying3, sizeOf, typeInfo, zeroValue, hi, hz0, hz1, hz2, hwr, hneg, hbig, h0, hroom, Addr.add_lit, asInt, asIntOf]
        simp only [Nat.mul_one, List.append_assoc, Array.length_toList] at hst
        rw [show (Value.int .u64 0).cells = #[.int .u64 0] from rfl, hst]
        rfl
      · rw [hlk]
        refine ⟨by rw [uns_length, hlk]; omega, .inr ⟨g, cap, _, rfl, hgB, setRow_heap W g cur _ 36 _ hg, hroom, hcm, ?_, ?_⟩⟩
        · simp only [List.size_toArray, List.length_append, List.length_take, List.length_drop, Array.length_toList, hzl]
          omega
        · rw [uns_append, ← zeros_uns]
          simp only [ht]
          have : (uns .u64 l ++ (Builtin.zeroCells #[.int .u64 0] k).toList).length = (l.length + k) * 1 := by rw [List.length_append, hzl, uns_length]; omega
          rw [← this]
          exact List.take_left
    · have hold : (Builtin.firstCells i.size l.length (.slice (some ⟨g, 0, none⟩) l.length cap)).run Tryd.prog W.drew = .ok (uns .u64 l).toArray W.drew := by
        rw [hz1]
        exact run_firstCells_some (P := Tryd.prog) W.drew 1 l.length ⟨g, 0, none⟩ l.length cap (uns .u64 l) (by rw [uns_length]; omega) (ho.cells (g := g) rfl)
      have hr := Lib.run_append_grow_zeros (P := Tryd.prog) W 31 3 ty 36 i (.int .u64 0) .i64 .i64 Tryd.underlying31 Tryd.underlying3 hi hz0 (some ⟨g, 0, none⟩) l.length cap (uns .u64 l) hold k (by omega) (by omega) (by omega) (by omega) (by rw [hz2]; omega) (growslice_fits (by omega) (by rw [hz2]; omega))
      have hge := grownCap_ge W (l.length + k) cap 36
      have hcm' : grownCap W (l.length + k) cap 36 ≤ maxLen := grownCap_le_maxLen W (l.length + k) cap 36 (by simp only [maxLen]; omega)
      refine ⟨_, _, hr, ⟨W.heap.size, _, by rw [hlk], ?_⟩, (hw.drew).alloc (by exact hB) _⟩
      rw [hlk]
      refine ⟨by rw [uns_length, hlk]; omega, .inr ⟨W.heap.size, _, _, rfl, hB, heap_alloc_new W.drew _, hge, hcm', ?_, ?_⟩⟩
      · simp only [Array.size_append, List.size_toArray, size_zeroCells, uns_length]
        show l.length + k * 1 + (grownCap W (l.length + k) cap 36 - (l.length + k)) * 1 = _
        omega
      · show (((uns .u64 l).toArray ++ Builtin.zeroCells #[.int .u64 0] k) ++ Builtin.zeroCells #[.int .u64 0] _).toList.take _ = _
        simp only [Array.toList_append, List.append_assoc]
        rw [← List.append_assoc, zeros_uns, ← uns_append]
        have : (uns .u64 (l ++ List.replicate k 0)).length = (l.length + k) * 1 := by rw [uns_length, hlk]; omega
        rw [← this]
        exact List.take_left
end Go.Proofs.YtelghkgnkncnoaaDoor
/- Rows of slices of words that the call owns. -/
set_option linter.unusedVariables false
namespace Go.Proofs.YtelghkgnkncnoaaDoor
open Go.RowKit
def RowP (S : Nat → Prop) (w : World) (l : List Int) (v : Value) : Prop := ∃ A c, v = .slice A l.length c ∧ l.length ≤ c ∧ RWS .u64 S w A l.length l
theorem RowP.mono {S S' : Nat → Prop} {w w' : World} {l : List Int} {v : Value} (h : RowP S w l v) (hs : ∀ b, S b → S' b) (hb : ∀ b, S b → blk w' b = blk w b) : RowP S' w' l v := by
  obtain ⟨A, c, e, h1, h2⟩ := h
  exact ⟨A, c, e, h1, h2.mono hs hb⟩
def SegV (S : Nat → Prop) (w : World) (ss : List (List Int)) (xs : List Value) : Prop := xs.length = ss.length ∧ ∀ j, j < ss.length → ∃ x, xs[j]? = some x ∧ RowP S w (ss.getD j []) x
theorem SegV.mono {S S' : Nat → Prop} {w w' : World} {ss : List (List Int)} {xs : List Value} (h : SegV S w ss xs) (hs : ∀ b, S b → S' b) (hb : ∀ b, S b → blk w' b = blk w b) : SegV S' w' ss xs :=
  ⟨h.1, fun j hj => by
    obtain ⟨x, h1, h2⟩ := h.2 j hj
    exact ⟨x, h1, h2.mono hs hb⟩⟩
theorem SegV.snoc {S : Nat → Prop} {w : World} {ss : List (List Int)} {xs : List Value} {l : List Int} {u : Value} (h : SegV S w ss xs) (hu : RowP S w l u) : SegV S w (ss ++ [l]) (xs ++ [u]) := by
  refine ⟨by simp [h.1], fun j hj => ?_⟩
  rw [List.length_append, List.length_singleton] at hj
  by_cases hlt : j < ss.length
  · obtain ⟨x, h1, h2⟩ := h.2 j hlt
    refine ⟨x, by rw [List.getElem?_append_left (by rw [h.1]; exact hlt)]; exact h1, ?_⟩
    rw [List.getD_eq_getElem?_getD, List.getElem?_append_left hlt, ← List.getD_eq_getElem?_getD]; exact h2
  · obtain rfl : j = ss.length := by omega
    refine ⟨u, by rw [List.getElem?_append_right (by rw [h.1]; exact Nat.le_refl _), h.1]; simp, ?_⟩
    rw [List.getD_eq_getElem?_getD, List.getElem?_append_right (Nat.le_refl _)]; simpa using hu
/-- a slice over a row of the call's own, which holds slices over rows of its own -/
def OwnS (B : Nat) (W : World) (v : Value) (ss : List (List Int)) : Prop :=
  ∃ g cap xs, v = .slice (some ⟨g, 0, none⟩) ss.length cap ∧ W.ownsRow B 31 1 (.slice (some ⟨g, 0, none⟩) ss.length cap) ss.length xs ∧ SegV (Grow B W v) W ss xs
theorem OwnS.lit {B : Nat} {W : World} (hB : B ≤ W.heap.size) : OwnS B (W.alloc (.cells #[] 31 (0, 0))) (.slice (some ⟨W.heap.size, 0, none⟩) 0 0) [] :=
  ⟨W.heap.size, 0, [], rfl, World.ownsRow_lit W #[] 0 hB (by unfold maxLen; omega) rfl, rfl, fun j hj => absurd hj (by simp)⟩
theorem OwnS.grown {B : Nat} {W W' : World} {v : Value} {ss : List (List Int)} (h : OwnS B W v ss) (hb : Below W.heap.size W W') : OwnS B W' v ss := by
  obtain ⟨g, cap, xs, rfl, ho, hs⟩ := h
  refine ⟨g, cap, xs, rfl, ?_, hs.mono (fun b hb' => ⟨hb'.1, by have := hb.size; have := hb'.2.1; omega, hb'.2.2⟩) (fun b hb' => hb.block b hb'.2.1)⟩
  exact ho.kept (row := none) ⟨hb.os, hb.tape, hb.output, hb.size, fun k hk _ => hb.block k hk⟩ (Or.inr (by simp [Value.ownBlock]))
theorem OwnS.rs {B : Nat} {W : World} {v : Value} {ss : List (List Int)} (h : OwnS B W v ss) : ∃ A c, v = .slice A ss.length c ∧ RS W.heap.size W A ss.length ss := by
  obtain ⟨g, cap, xs, rfl, ho, hs⟩ := h
  obtain ⟨cur, _, hg, _, _, _, ht⟩ := own_cases ho
  refine ⟨_, cap, rfl, rfl, fun h0 => ⟨g, 0, rfl, (Array.getElem?_eq_some_iff.1 hg).1, fun j hj => ?_⟩⟩
  obtain ⟨x, hx, A, c, rfl, hc, hr⟩ := hs.2 j hj
  refine ⟨A, c, ?_, hc, hr.rw (fun b hb => hb.2.1)⟩
  have e1 : cur.toList[j]? = some (.slice A (ss.getD j []).length c) := by
    have e2 : (cur.toList.take (ss.length * 1))[j]? = some (.slice A (ss.getD j []).length c) := by rw [ht]; exact hx
    rw [List.getElem?_take_of_lt (by omega)] at e2
    exact e2
  rw [cell_of_row W g (0 + j) cur _ (0, 0) hg]
  simpa using e1
theorem seg_info : ∃ i, Tryd.prog.info? 31 = some i ∧ i.zero = some (.slice none 0 0) ∧ i.size = 1 ∧ i.bytes = 24 := by
  have h : (Tryd.prog.info? 31).map (fun i => (i.zero, i.size, i.bytes)) = some (some (.slice none 0 0), 1, 24) := by kernel_rfl
  obtain ⟨i, hi, he⟩ := Option.map_eq_some_iff.1 h
  simp only [Prod.mk.injEq] at he
  exact ⟨i, hi, he.1, he.2.1, he.2.2⟩
/-- a row made since lies apart -/
theorem row_apart {B : Nat} {W W1 : World} {v u : Value} {ss : List (List Int)} {l : List Int} (h : OwnS B W v ss) (hB : B ≤ W.heap.size) (hu : OwnW W.heap.size W1 u l) : RowP (Grow B W1 v) W1 l u := by
  obtain ⟨g, cap, xs, rfl, ho, _⟩ := h
  have hg := (own_ge ho g (by simp [Value.ownBlock])).2
  obtain ⟨g', cap', rfl, ho'⟩ := hu
  obtain ⟨cur, hle, hg', hn, _, _, ht⟩ := own_cases ho'
  refine ⟨_, cap', rfl, hn, rfl, fun h0 => ⟨g', 0, rfl, ⟨by omega, (Array.getElem?_eq_some_iff.1 hg').1, fun e => by simp [Value.ownBlock] at e; omega⟩, fun j hj => ?_⟩⟩
  have e1 : cur.toList[j]? = some (.int .u64 (l.getD j 0)) := by
    have e2 : (cur.toList.take (l.length * 1))[j]? = some (.int .u64 (l.getD j 0)) := by
      rw [ht]; simp [uns, List.getElem?_map, List.getElem?_eq_getElem hj]
    rw [List.getElem?_take_of_lt (by omega)] at e2
    exact e2
  rw [cell_of_row W1 g' (0 + j) cur _ (0, 0) hg']
  simpa using e1
set_option maxRecDepth 100000 in
/-- append(v, u), u in a row of its own at the heap's end -/
theorem app_seg {W0 W : World} {B : Nat} {v u : Value} {ss : List (List Int)} {l : List Int} (ty : TypeId) (h0 : OwnS B W0 v ss) (hb : Below W0.heap.size W0 W) (hu : OwnW W0.heap.size W u l) (hl : ss.length ≤ 1000000) (hB : B ≤ W0.heap.size) {w : World} (hw : Below B w W) :
    ∃ v' W', (Builtin.append_ #[22, 22] ty #[v, .slice (some ⟨W.heap.size, 0, none⟩) 1 1]).run Tryd.prog (W.alloc (.cells #[u] 31 (0, 0))) = .ok v' W' ∧ OwnS B W' v' (ss ++ [l]) ∧ Below B w W' ∧
      (∀ k, k < W.heap.size → v.ownBlock ≠ some k → blk W' k = blk W k) ∧ (v'.ownBlock = v.ownBlock ∨ ∃ g, v'.ownBlock = some g ∧ W.heap.size ≤ g) ∧ W.heap.size ≤ W'.heap.size := by
  have hr := row_apart h0 hB hu
  have h1 := h0.grown (hb.alloc hb.size (.cells #[u] 31 (0, 0)))
  have hWB : B ≤ W.heap.size := Nat.le_trans hB hb.size
  have hr1 : RowP (Grow B (W.alloc (.cells #[u] 31 (0, 0))) v) (W.alloc (.cells #[u] 31 (0, 0))) l u :=
    hr.mono (fun b hb' => ⟨hb'.1, by have := hb'.2.1; simp; omega, hb'.2.2⟩) (fun b hb' => Below.heap_alloc W _ b hb'.2.1)
  obtain ⟨gu, capu, rfl, _⟩ := hu
  obtain ⟨g, cap, xs, rfl, ho, hs⟩ := h1
  have hgB : B ≤ g := (own_ge ho g (by simp [Value.ownBlock])).1
  obtain ⟨i, hi, hz0, hz1, hz2⟩ := seg_info
  obtain ⟨v', W', hrun, h2, h3, _, h5⟩ := run_append_own_at (P := Tryd.prog) (W.alloc (.cells #[.slice (some ⟨gu, 0, none⟩) l.length capu] 31 (0, 0))) B 22 ty 31 i (.slice none 0 0) 1 24 Tryd.underlying22 hi hz0 hz1 hz2 rfl (by decide) _ _ _ ho ⟨W.heap.size, 0, none⟩ 1 1 [.slice (some ⟨gu, 0, none⟩) l.length capu] rfl
    (cell_one_new W _ _) (by intro x hx; simp at hx; subst hx; rfl) (by simp only [maxLen]; omega) (by omega) (by simp; omega)
  obtain ⟨g', cap', rfl, h6⟩ := own_some h2 (by omega)
  have hsz := h3.size
  refine ⟨_, W', hrun, ⟨g', cap', _, by rw [List.length_append, List.length_singleton], by rw [List.length_append, List.length_singleton]; exact h6, ?_⟩, grown_below (hw.alloc hWB _) h3 hgB (by simp; omega), fun k hk hne => ?_, ?_, by simp at hsz; omega⟩
  rotate_left
  · exact (h3.block k (by simp; omega) (fun e => hne e.symm)).trans (Below.heap_alloc W _ k hk)
  · rcases h5 with e | e
    · exact .inl e
    · exact .inr ⟨_, e, by simp⟩
  have hgr : ∀ b, Grow B (W.alloc (.cells #[.slice (some ⟨gu, 0, none⟩) l.length capu] 31 (0, 0))) (.slice (some ⟨g, 0, none⟩) ss.length cap) b → Grow B W' (.slice (some ⟨g', 0, none⟩) (ss.length + 1) cap') b := fun b hb' => by
    refine ⟨hb'.1, by have := hb'.2.1; omega, ?_⟩
    rcases h5 with e | e
    · rw [e]; exact hb'.2.2
    · rw [e]; intro e2; have := Option.some.inj e2; have := hb'.2.1; omega
  have hbk : ∀ b, Grow B (W.alloc (.cells #[.slice (some ⟨gu, 0, none⟩) l.length capu] 31 (0, 0))) (.slice (some ⟨g, 0, none⟩) ss.length cap) b → blk W' b = blk (W.alloc (.cells #[.slice (some ⟨gu, 0, none⟩) l.length capu] 31 (0, 0))) b :=
    fun b hb' => h3.block b hb'.2.1 (fun e => hb'.2.2 e.symm)
  exact (hs.mono hgr hbk).snoc (hr1.mono hgr hbk)
/-- but for one empty row a message is as it was -/
theorem RS.but {B R : Nat} {W W' : World} {A : Option Addr} {n : Nat} {ss : List (List Int)} {T : TypeId} {fr : Nat × Nat} (h : RS B W A n ss) (hB : B ≤ W.heap.size) (hb : But W.heap.size R W W') (hR : blk W R = some (.cells #[] T fr)) : RS W'.heap.size W' A n ss := by
  have hs := hb.size
  have hne : ∀ b o x, W.cell? ⟨b, o, none⟩ = some x → b ≠ R := fun b o x hc e => by
    subst e
    unfold blk at hR
    simp [World.cell?, hR] at hc
  have hcell : ∀ b o x, b < B → W.cell? ⟨b, o, none⟩ = some x → W'.cell? ⟨b, o, none⟩ = some x := fun b o x hlt hc => by
    rw [cell_of_blk_eq (hb.block b (by omega) (hne b o x hc))]; exact hc
  refine ⟨h.1, fun hn => ?_⟩
  obtain ⟨b, o, e, hlt, hc⟩ := h.2 hn
  refine ⟨b, o, e, by omega, fun j hj => ?_⟩
  obtain ⟨A', c, h1, h2, h3⟩ := hc j hj
  refine ⟨A', c, hcell _ _ _ hlt h1, h2, h3.1, fun h0 => ?_⟩
  obtain ⟨b', o', e', hlt', hc'⟩ := h3.2 h0
  exact ⟨b', o', e', by omega, fun i hi => hcell _ _ _ hlt' (hc' i hi)⟩
theorem OwnS.empty {B g : Nat} {W : World} (hg : blk W g = some (.cells #[] 31 (0, 0))) (hB : B ≤ g) : OwnS B W (.slice (some ⟨g, 0, none⟩) 0 0) [] :=
  ⟨g, 0, [], rfl, ⟨rfl, .inr ⟨g, 0, #[], rfl, hB, hg, Nat.le_refl _, Nat.zero_le _, rfl, rfl⟩⟩, rfl, fun j hj => absurd hj (by simp)⟩
theorem But.far {B R : Nat} {a w w' : World} (h : But B R a w) (hs : w.os = w'.os ∧ w.tape = w'.tape ∧ w.output = w'.output) (hz : w.heap.size ≤ w'.heap.size) (hb : ∀ k, k < B → k ≠ R → blk w' k = blk w k) : But B R a w' :=
  ⟨hs.1.symm.trans h.os, hs.2.1.symm.trans h.tape, hs.2.2.symm.trans h.output, Nat.le_trans h.size hz, fun k hk hr => (hb k hk hr).trans (h.block k hk hr)⟩
end Go.Proofs.YtelghkgnkncnoaaDoor
/- Contracts of the references' SameWords and Same. -/
set_option linter.unusedVariables false
set_option linter.unusedSimpArgs false
namespace Go.Proofs.YtelghkgnkncnoaaDoor
open Go.RowKit
set_option maxRecDepth 100000 in
set_option maxHeartbeats 1000000 in
theorem SameWords_any {B B' : Nat} {w : World} {A A' : Option Addr} {n m c c' : Nat} {a b : List Int} (ha : RW .u64 B w A n a) (hb : RW .u64 B' w A' m b) (hn : n ≤ 1000000) :
    Calls Tryd.prog 29 #[.slice A n c, .slice A' m c'] w fun e w' => e = .returned (.bool (decide (a = b))) ∧ ∃ q, w' = w.drewN q := by
  have la := ha.1
  have lb := hb.1
  have HA := Lib.hid ha
  have HB := Lib.hid hb
  obtain ⟨D, hD⟩ : ∃ D, D = decide (a = b) := ⟨_, rfl⟩
  have HD := Lib.hid hD
  rw [← hD]
  clear ha hb hD
  by_cases hnm : n = m
  · subst hnm
    go_enter Tryd.func29, Tryd.ntmps29
    go_wp2
    go_loopw [5] (fun i wr => ∃ k : Nat, k ≤ n ∧ i = .int .i64 k ∧ (∀ j, j < k → a.getD j 0 = b.getD j 0) ∧ ∃ q, wr = w.drewN q) (fun i _ => n - (intOf i).toNat)
    case atStart => exact ⟨0, Nat.zero_le _, rfl, fun j hj => by omega, 0, rfl⟩
    case round =>
      obtain ⟨k, hk, rfl, hag, q0, rfl⟩ := hrel
      have HG := Lib.hid hag
      clear hag
      by_cases hlt : k < n
      · obtain ⟨ba, oa, e1, hba, ca⟩ := HA.out.at_ (k : Int) (by omega) (by omega)
        subst e1
        simp only [Int.toNat_natCast] at ca
        obtain ⟨x, hx⟩ : ∃ x, x = a.getD k 0 := ⟨_, rfl⟩
        rw [← hx] at ca
        have HX := Lib.hid hx
        clear hx
        obtain ⟨bb, ob, e2, hbb, cb⟩ := HB.out.at_ (k : Int) (by omega) (by omega)
        subst e2
        simp only [Int.toNat_natCast] at cb
        obtain ⟨y, hy⟩ : ∃ y, y = b.getD k 0 := ⟨_, rfl⟩
        rw [← hy] at cb
        have HY := Lib.hid hy
        clear hy
        by_cases hxy : x = y
        · subst hxy
          have hne : (x != x) = false := by simp
          go_wp2
          go_quiet (fail)
          go_wp2
          go_roundw
          case rel => exact ⟨k + 1, by omega, by go_num, fun j hj => by
            by_cases hjk : j < k
            · exact HG.out j hjk
            · obtain rfl : j = k := by omega
              rw [← HX.out, ← HY.out], _, rfl⟩
          case measure => simp [intOf]; omega
        · have hne : (x != y) = true := by simpa using hxy
          have HF : Hid (D = false) := by
            show D = false
            rw [HD.out, decide_eq_false_iff_not]
            intro h
            subst h
            exact hxy (by rw [HX.out, HY.out])
          go_wp2
          go_quiet (fail)
          go_wp2
          go_ret
          exact ⟨by rw [HF.out]; rfl, _, by first | rfl | exact World.drewN_drewN _ _ _⟩
      · obtain rfl : k = n := by omega
        have HF : Hid (D = true) := by
          show D = true
          rw [HD.out, decide_eq_true_iff]
          apply List.ext_getElem (by omega)
          intro j h1 h2
          have := HG.out j (by omega)
          rwa [List.getD_eq_getElem?_getD, List.getD_eq_getElem?_getD, List.getElem?_eq_getElem h1, List.getElem?_eq_getElem h2] at this
        go_wp2
        go_ret
        exact ⟨by rw [HF.out]; rfl, _, rfl⟩
  · have HF : Hid (D = false) := by
      show D = false
      rw [HD.out, decide_eq_false_iff_not]
      intro h
      subst h
      omega
    have hne : ((n : Int) != m) = true := by simp; omega
    go_enter Tryd.func29, Tryd.ntmps29
    go_wp2
    go_ret
    exact ⟨by rw [HF.out]; rfl, 0, rfl⟩
theorem rs_drew {B : Nat} {w : World} {A : Option Addr} {n : Nat} {ss : List (List Int)} (h : RS B w A n ss) (q : Nat) : RS B (w.drewN q) A n ss := h.mono (pw_below_drewN (Below.refl _ _) q) (Nat.le_refl _)
theorem rw_drew {k : IntKind} {B : Nat} {w : World} {A : Option Addr} {n : Nat} {l : List Int} (h : RW k B w A n l) (q : Nat) : RW k B (w.drewN q) A n l := h.mono (pw_below_drewN (Below.refl _ _) q) (Nat.le_refl _)
set_option maxRecDepth 100000 in
set_option maxHeartbeats 1000000 in
theorem Same_any {B B' : Nat} {w : World} {A A' : Option Addr} {n m c c' : Nat} {a b : List (List Int)} (ha : RS B w A n a) (hb : RS B' w A' m b) (hn : n ≤ 1000000) (hs : ∀ s ∈ a, s.length ≤ 1000000) :
    Calls Tryd.prog 13 #[.slice A n c, .slice A' m c'] w fun e w' => e = .returned (.bool (decide (a = b))) ∧ ∃ q, w' = w.drewN q := by
  have la := ha.1
  have lb := hb.1
  have HA := Lib.hid ha
  have HB := Lib.hid hb
  have HS := Lib.hid hs
  obtain ⟨D, hD⟩ : ∃ D, D = decide (a = b) := ⟨_, rfl⟩
  have HD := Lib.hid hD
  rw [← hD]
  clear ha hb hD hs
  by_cases hnm : n = m
  · subst hnm
    go_enter Tryd.func13, Tryd.ntmps13
    go_wp2
    go_loopw [5] (fun i wr => ∃ k : Nat, k ≤ n ∧ i = .int .i64 k ∧ (∀ j, j < k → a.getD j [] = b.getD j []) ∧ ∃ q, wr = w.drewN q) (fun i _ => n - (intOf i).toNat)
    case atStart => exact ⟨0, Nat.zero_le _, rfl, fun j hj => by omega, 0, rfl⟩
    case round =>
      obtain ⟨k, hk, rfl, hag, q0, rfl⟩ := hrel
      have HG := Lib.hid hag
      clear hag
      by_cases hlt : k < n
      · obtain ⟨ba, oa, Aa, Ca, e1, hba, ca, _, ra⟩ := HA.out.seg (k : Int) (by omega) (by omega)
        subst e1
        simp only [Int.toNat_natCast] at ca ra
        obtain ⟨bb, ob, Ab, Cb, e2, hbb, cb, _, rb⟩ := HB.out.seg (k : Int) (by omega) (by omega)
        subst e2
        simp only [Int.toNat_natCast] at cb rb
        have hsx : (a.getD k []).length ≤ 1000000 := HS.out _ (by rw [List.getD_eq_getElem?_getD, List.getElem?_eq_getElem (by omega)]; exact List.getElem_mem _)
        obtain ⟨x, hx⟩ : ∃ x, x = a.getD k [] := ⟨_, rfl⟩
        rw [← hx] at ca ra hsx
        have HX := Lib.hid hx
        clear hx
        obtain ⟨y, hy⟩ : ∃ y, y = b.getD k [] := ⟨_, rfl⟩
        rw [← hy] at cb rb
        have HY := Lib.hid hy
        clear hy
        have RA := Lib.hid ra
        have RB := Lib.hid rb
        clear ra rb
        obtain ⟨E, hE⟩ : ∃ E, E = decide (x = y) := ⟨_, rfl⟩
        have HE := Lib.hid hE
        clear hE
        cases E with
        | true =>
          go_wp2
          go_quiet ((refine (SameWords_any (rw_drew RA.out _) (rw_drew RB.out _) hsx).mono ?_; rw [← HE.out]; rintro e w' ⟨rfl, q, hw⟩; exact ⟨rfl, _, by rw [hw, World.drewN_drewN, Nat.add_assoc]⟩))
          go_wp2
          go_roundw
          case rel => exact ⟨k + 1, by omega, by go_num, fun j hj => by
            by_cases hjk : j < k
            · exact HG.out j hjk
            · obtain rfl : j = k := by omega
              rw [← HX.out, ← HY.out]; exact of_decide_eq_true HE.out.symm, _, rfl⟩
          case measure => simp [intOf]; omega
        | false =>
          have HF : Hid (D = false) := by
            show D = false
            rw [HD.out, decide_eq_false_iff_not]
            intro h
            subst h
            exact of_decide_eq_false HE.out.symm (by rw [HX.out, HY.out])
          go_wp2
          go_quiet ((refine (SameWords_any (rw_drew RA.out _) (rw_drew RB.out _) hsx).mono ?_; rw [← HE.out]; rintro e w' ⟨rfl, q, hw⟩; exact ⟨rfl, _, by rw [hw, World.drewN_drewN, Nat.add_assoc]⟩))
          go_wp2
          go_ret
          exact ⟨by rw [HF.out]; rfl, _, by first | rfl | exact World.drewN_drewN _ _ _⟩
      · obtain rfl : k = n := by omega
        have HF : Hid (D = true) := by
          show D = true
          rw [HD.out, decide_eq_true_iff]
          apply List.ext_getElem (by omega)
          intro j h1 h2
          have := HG.out j (by omega)
          rwa [List.getD_eq_getElem?_getD, List.getD_eq_getElem?_getD, List.getElem?_eq_getElem h1, List.getElem?_eq_getElem h2] at this
        go_wp2
        go_ret
        exact ⟨by rw [HF.out]; rfl, _, rfl⟩
  · have HF : Hid (D = false) := by
      show D = false
      rw [HD.out, decide_eq_false_iff_not]
      intro h
      subst h
      omega
    have hne : ((n : Int) != m) = true := by simp; omega
    go_enter Tryd.func13, Tryd.ntmps13
    go_wp2
    go_ret
    exact ⟨by rw [HF.out]; rfl, 0, rfl⟩
end Go.Proofs.YtelghkgnkncnoaaDoor
/- Contract of the law EqualKeeps. -/
set_option linter.unusedVariables false
set_option linter.unusedSimpArgs false
namespace Go.Proofs.YtelghkgnkncnoaaDoor
open Go.RowKit
theorem take_snoc {ss : List (List Int)} {k : Nat} (h : k < ss.length) : ss.take (k + 1) = ss.take k ++ [ss.getD k []] := by
  rw [List.take_succ_eq_append_getElem h, List.getD_eq_getElem?_getD, List.getElem?_eq_getElem h]; rfl
theorem Data_same {B : Nat} {w : World} {A A' : Option Addr} {n m c c' : Nat} {a b : List Int} (ha : RW .u64 B w A n a) (hb : RW .u64 B w A' m b) (hn : n ≤ 1000000) (hm : m ≤ 1000000) :
    Calls Tryd.prog 14 #[.slice A n c, .slice A' m c'] w fun e w' => e = .returned (.bool (dataEq a b)) ∧ w = w' := by
  by_cases h : n < m
  · rw [dataEq_comm]
    exact Data_short hb ha hm h
  · exact Data_long ha hb hn h
theorem few_len {ss : List (List Int)} (h : ∀ s ∈ ss, s.length ≤ 300) (j : Nat) : (ss.getD j []).length ≤ 1000000 := by
  rw [List.getD_eq_getElem?_getD]
  by_cases hj : j < ss.length
  · rw [List.getElem?_eq_getElem hj]
    have := h _ (List.getElem_mem hj)
    simp only [Option.getD_some]; omega
  · rw [List.getElem?_eq_none (by omega)]; simp
theorem _root_.Go.RowKit.Below.drewN' {B : Nat} {w W : World} (h : Below B w W) (n : Nat) : Below B w (W.drewN n) := ⟨h.os, h.tape, h.output, h.size, h.block⟩
set_option maxRecDepth 100000 in
set_option maxHeartbeats 3000000 in
theorem EqualKeeps_small {B : Nat} {w : World} {A A' : Option Addr} {n n' c c' : Nat} {a b : List (List Int)} (ha : ArgIn B w A n a) (hb : ArgIn B w A' n' b) (d wl ov : Int) (s1 : smallB a d wl = true) (s2 : smallB b d wl = true) :
    Calls Tryd.prog 6 #[.slice A n c, .slice A' n' c', vLim d wl ov] w (VPost w (.bool true)) := by
  obtain rfl := ha.segs.1
  obtain rfl := hb.segs.1
  have HA := Lib.hid ha
  have HB := Lib.hid hb
  have S1 := Lib.hid s1
  have S2 := Lib.hid s2
  have F1 := Lib.hid (smallB_few s1)
  have F2 := Lib.hid (smallB_few s2)
  have hd := (smallB_wf s1 ha.word).2.1
  have hwl := (smallB_wf s1 ha.word).2.2
  have hn := (smallB_few s1).1
  have hn' := (smallB_few s2).1
  have hBw := ha.bound
  clear ha hb s1 s2
  go_enter Tryd.func6, Tryd.ntmps6
  go_wp2_with fail
  refine (HA.out.awake (by (repeat (first | exact Below.refl _ _ | assumption | refine Below.setCell ?_ (by (try simp); (try omega)) _ | refine Below.alloc ?_ (by (try simp); (try omega)) _ | refine below_setRow ?_ (by (try simp); (try omega)) _ | refine pw_below_drewN ?_ _ | refine Below.drew ?_)))).mono ?_
  rintro e w1 ⟨rfl, hb1⟩; have hB1 := below_step (w := w) (by (repeat (first | exact Below.refl _ _ | assumption | refine Below.setCell ?_ (by (try simp); (try omega)) _ | refine Below.alloc ?_ (by (try simp); (try omega)) _ | refine below_setRow ?_ (by (try simp); (try omega)) _ | refine pw_below_drewN ?_ _ | refine Below.drew ?_))) hb1; obtain ⟨hc1, hf1⟩ := bcell hb1; have hd1 := blk_below hb1; have hs1 := hB1.size; have hz1_0 : w.heap.size < w1.heap.size := (by have hq := hb1.size; (try simp at hq); omega); have hy1_0 : w.heap.size ≠ w1.heap.size := Nat.ne_of_lt hz1_0; have hk1_0 := hd1 (w.heap.size) (by (try simp); (try omega)); (try simp (disch := first | omega | (simp; omega)) only [blk_setRow_far, blk_alloc_past, blk_setCell_far, blk_drewN, blk_drew] at hk1_0); (try simp (disch := first | assumption | omega | (simp; done) | (simp; omega)) only [blk_setRow_far, blk_alloc_past, blk_alloc_new, blk_alloc_at, blk_setCell_far, blk_drewN, blk_drew] at hk1_0)
  have hk1 : blk w1 w.heap.size = some (.cells #[.int .i64 d, .int .i64 wl, .int .i64 ov] 24 (0, 0)) := (hd1 _ (by simp)).trans (by simp (disch := first | assumption | omega | (simp; done) | (simp; omega) | (simp [World.setRow]; done) | (simp [World.setRow]; omega)) only [blk_alloc_past, blk_alloc_new, blk_alloc_at, blk_setRow_far, blk_setRow_at, reRow, blk_drew]; first | done | rfl)
  go_wp2_with fail
  refine (HA.out.small (by (repeat (first | exact Below.refl _ _ | assumption | refine Below.setCell ?_ (by (try simp); (try omega)) _ | refine Below.alloc ?_ (by (try simp); (try omega)) _ | refine below_setRow ?_ (by (try simp); (try omega)) _ | refine pw_below_drewN ?_ _ | refine Below.drew ?_))) d wl ov).mono ?_
  rw [S1.out]
  rintro e w2 ⟨rfl, hb2⟩; have hB2 := below_step (w := w) (by (repeat (first | exact Below.refl _ _ | assumption | refine Below.setCell ?_ (by (try simp); (try omega)) _ | refine Below.alloc ?_ (by (try simp); (try omega)) _ | refine below_setRow ?_ (by (try simp); (try omega)) _ | refine pw_below_drewN ?_ _ | refine Below.drew ?_))) hb2; obtain ⟨hc2, hf2⟩ := bcell hb2; have hd2 := blk_below hb2; have hs2 := hB2.size; have hz2_0 : w.heap.size < w2.heap.size := (by have hq := hb2.size; (try simp at hq); omega); have hy2_0 : w.heap.size ≠ w2.heap.size := Nat.ne_of_lt hz2_0; have hk2_0 := hd2 (w.heap.size) (by (try simp); (try omega)); (try simp (disch := first | omega | (simp; omega)) only [blk_setRow_far, blk_alloc_past, blk_setCell_far, blk_drewN, blk_drew] at hk2_0); (try simp (disch := first | assumption | omega | (simp; done) | (simp; omega)) only [blk_setRow_far, blk_alloc_past, blk_alloc_new, blk_alloc_at, blk_setCell_far, blk_drewN, blk_drew] at hk2_0); (try rw [hk1_0] at hk2_0)
  have hk2 : blk w2 w.heap.size = some (.cells #[.int .i64 d, .int .i64 wl, .int .i64 ov] 24 (0, 0)) := (hd2 _ (by omega)).trans hk1
  go_wp2_with fail
  refine (HB.out.small (by (repeat (first | exact Below.refl _ _ | assumption | refine Below.setCell ?_ (by (try simp); (try omega)) _ | refine Below.alloc ?_ (by (try simp); (try omega)) _ | refine below_setRow ?_ (by (try simp); (try omega)) _ | refine pw_below_drewN ?_ _ | refine Below.drew ?_))) d wl ov).mono ?_
  rw [S2.out]
  rintro e w3 ⟨rfl, hb3⟩; have hB3 := below_step (w := w) (by (repeat (first | exact Below.refl _ _ | assumption | refine Below.setCell ?_ (by (try simp); (try omega)) _ | refine Below.alloc ?_ (by (try simp); (try omega)) _ | refine below_setRow ?_ (by (try simp); (try omega)) _ | refine pw_below_drewN ?_ _ | refine Below.drew ?_))) hb3; obtain ⟨hc3, hf3⟩ := bcell hb3; have hd3 := blk_below hb3; have hs3 := hB3.size; have hz3_0 : w.heap.size < w3.heap.size := (by have hq := hb3.size; (try simp at hq); omega); have hy3_0 : w.heap.size ≠ w3.heap.size := Nat.ne_of_lt hz3_0; have hk3_0 := hd3 (w.heap.size) (by (try simp); (try omega)); (try simp (disch := first | omega | (simp; omega)) only [blk_setRow_far, blk_alloc_past, blk_setCell_far, blk_drewN, blk_drew] at hk3_0); (try simp (disch := first | assumption | omega | (simp; done) | (simp; omega)) only [blk_setRow_far, blk_alloc_past, blk_alloc_new, blk_alloc_at, blk_setCell_far, blk_drewN, blk_drew] at hk3_0); (try rw [hk2_0] at hk3_0); (try rw [hk1_0] at hk3_0)
  have hk3 : blk w3 w.heap.size = some (.cells #[.int .i64 d, .int .i64 wl, .int .i64 ov] 24 (0, 0)) := (hd3 _ (by omega)).trans hk2
  clear hb1 hb2 hb3 hc1 hc2 hc3 hf1 hf2 hf3
  have h3s : w.heap.size < w3.heap.size := by have := hB3.size; omega
  have hX0 : blk ((w3.alloc (.cells #[] 31 (0, 0))).alloc (.cells #[] 31 (0, 0))) w3.heap.size = some (.cells #[] 31 (0, 0)) := (by simp (disch := first | assumption | omega | (simp; done) | (simp; omega) | (simp [World.setRow]; done) | (simp [World.setRow]; omega)) only [blk_alloc_past, blk_alloc_new, blk_alloc_at, blk_setRow_far, blk_setRow_at, reRow, blk_drew]; first | done | rfl)
  have hY0 : blk ((w3.alloc (.cells #[] 31 (0, 0))).alloc (.cells #[] 31 (0, 0))) (w3.heap.size + 1) = some (.cells #[] 31 (0, 0)) := (by simp (disch := first | assumption | omega | (simp; done) | (simp; omega) | (simp [World.setRow]; done) | (simp [World.setRow]; omega)) only [blk_alloc_past, blk_alloc_new, blk_alloc_at, blk_setRow_far, blk_setRow_at, reRow, blk_drew]; first | done | rfl)
  have hL0' : blk ((w3.alloc (.cells #[] 31 (0, 0))).alloc (.cells #[] 31 (0, 0))) w.heap.size = blk w3 w.heap.size := (by simp (disch := first | assumption | omega | (simp; done) | (simp; omega) | (simp [World.setRow]; done) | (simp [World.setRow]; omega)) only [blk_alloc_past, blk_alloc_new, blk_alloc_at, blk_setRow_far, blk_setRow_at, reRow, blk_drew]; first | done | rfl)
  have hL0 := hL0'.trans hk3
  have hS0 : ((w3.alloc (.cells #[] 31 (0, 0))).alloc (.cells #[] 31 (0, 0))).heap.size = w3.heap.size + 1 + 1 := by simp
  have hB0 : Below w.heap.size w ((w3.alloc (.cells #[] 31 (0, 0))).alloc (.cells #[] 31 (0, 0))) := by (repeat (first | exact Below.refl _ _ | assumption | refine Below.setCell ?_ (by (try simp); (try omega)) _ | refine Below.alloc ?_ (by (try simp); (try omega)) _ | refine below_setRow ?_ (by (try simp); (try omega)) _ | refine pw_below_drewN ?_ _ | refine Below.drew ?_))
  clear hL0' hd1 hd2 hd3 hk1 hk2 hk3 hk1_0 hk2_0 hk3_0 hz1_0 hz2_0 hz3_0 hy1_0 hy2_0 hy3_0 hs1 hs2 hs3 hB1 hB2 hB3
  go_wp2
  generalize ((w3.alloc (.cells #[] 31 (0, 0))).alloc (.cells #[] 31 (0, 0))) = W0 at hX0 hY0 hL0 hS0 hB0 ⊢
  go_loopw [7, 9] (fun v i wr => ∃ k : Nat, k ≤ a.length ∧ i = .int .i64 k ∧ OwnS w.heap.size wr v (a.take k) ∧ But W0.heap.size (w3.heap.size) W0 wr ∧ (v.ownBlock = some (w3.heap.size) ∨ ∃ g, v.ownBlock = some g ∧ W0.heap.size ≤ g)) (fun _ i _ => a.length - (intOf i).toNat)
  case atStart => exact ⟨0, Nat.zero_le _, rfl, OwnS.empty hX0 (by omega), But.refl _ _ _, .inl rfl⟩
  case round =>
    obtain ⟨k, hk, rfl, hown, hbut, hat⟩ := hrel
    have hBr : Below w.heap.size w wr := hB0.trans (hbut.below (by omega) (by omega))
    have hrs := hBr.size
    have hws := hbut.size
    by_cases hlt : k < a.length
    · obtain ⟨b0, o0, A1, c1, rfl, hb0, hcell, _, hr⟩ := (HA.out.below hBr).segs.seg (k : Int) (by omega) (by omega)
      simp only [Int.toNat_natCast] at hcell hr
      have hlen : (a.getD k []).length ≤ 300 := F1.out.2 _ (by rw [List.getD_eq_getElem?_getD, List.getElem?_eq_getElem (by omega)]; exact List.getElem_mem _)
      obtain ⟨X, hX⟩ : ∃ X, X = a.getD k [] := ⟨_, rfl⟩
      rw [← hX] at hcell hr hlen
      have hcell' : (wr.alloc (.cells #[] 36 (0, 0))).cell? ⟨b0, o0 + k, none⟩ = some (.slice A1 X.length c1) := by rw [(bcell (Below.alloc (Below.refl wr.heap.size wr) (Nat.le_refl _) _)).1 _ _ (by omega)]; exact hcell
      have HX := Lib.hid hX
      have HR := Lib.hid hr
      have HO := Lib.hid hown
      have HU := Lib.hid hbut
      have HT := Lib.hid hat
      clear hX hr hown hbut hat
      go_wp2_with (at_builtin; (first
        | (obtain ⟨v2, W2, hr2, ho2, hw2, hf2, ha2, hz2⟩ := app_seg (w := w) 22 HO.out hw1 ho1 (by rw [List.length_take]; omega) hrs (below_then hBr hrs hw1); refine Lib.wpList_append_run _ rfl _ _ _ _ rfl _ _ rfl rfl _ _ hr2 ?_)
        | (obtain ⟨v1, W1, hr1, ho1, hw1⟩ := app_src (B := wr.heap.size) (w := wr) 31 (OwnW.lit (W := wr) (Nat.le_refl _)) (HR.out.mono (Below.mono (B := wr.heap.size) (by (repeat (first | exact Below.refl _ _ | assumption | refine Below.setCell ?_ (by (try simp); (try omega)) _ | refine Below.alloc ?_ (by (try simp); (try omega)) _ | refine below_setRow ?_ (by (try simp); (try omega)) _ | refine pw_below_drewN ?_ _ | refine Below.drew ?_))) (by omega)) (Nat.le_refl _)) (by simp only [List.length_nil]; omega) (by simp only [World.size_alloc]; omega) (by (repeat (first | exact Below.refl _ _ | assumption | refine Below.setCell ?_ (by (try simp); (try omega)) _ | refine Below.alloc ?_ (by (try simp); (try omega)) _ | refine below_setRow ?_ (by (try simp); (try omega)) _ | refine pw_below_drewN ?_ _ | refine Below.drew ?_))); refine Lib.wpList_append_run _ rfl _ _ _ _ rfl _ _ rfl rfl _ _ hr1 ?_; rw [List.nil_append] at ho1; obtain ⟨g1, cp1, rfl, _⟩ := id ho1; have hl1 := hw1.size)))
      go_roundw
      case rel =>
        refine ⟨k + 1, by omega, by go_num, by rw [take_snoc (by omega), ← HX.out]; exact ho2, HU.out.far ⟨hBr.os.trans hw2.os.symm, hBr.tape.trans hw2.tape.symm, hBr.output.trans hw2.output.symm⟩ ?_ (fun q hq hne => ?_), ?_⟩
        · omega
        · rw [hf2 q (by omega) (fun e => by rcases HT.out with e2 | ⟨g, e2, hg⟩ <;> (rw [e2] at e; have := Option.some.inj e; omega))]
          exact hw1.block q (by omega)
        · rcases ha2 with e | ⟨g, e, hg⟩
          · rcases HT.out with e2 | ⟨g, e2, hg⟩
            · exact .inl (e.trans e2)
            · exact .inr ⟨g, e.trans e2, hg⟩
          · exact .inr ⟨g, e, by omega⟩
      case measure => simp [intOf]; omega
    · rw [show k = a.length by omega, List.take_length] at hown
      obtain ⟨Ax, cx, rfl, hx⟩ := hown.rs
      rename World => wx
      have hBx := hBr
      have hYw : blk wx (w3.heap.size + 1) = some (.cells #[] 31 (0, 0)) := (hbut.block _ (by omega) (by omega)).trans hY0
      have hLw : blk wx w.heap.size = some (.cells #[.int .i64 d, .int .i64 wl, .int .i64 ov] 24 (0, 0)) := (hbut.block _ (by omega) (by omega)).trans hL0
      clear hown hbut hat hBr hX0 hY0 hL0 hB0
      go_wp2
      go_loopw [8, 10] (fun v i wr => ∃ k : Nat, k ≤ b.length ∧ i = .int .i64 k ∧ OwnS w.heap.size wr v (b.take k) ∧ But wx.heap.size (w3.heap.size + 1) wx wr ∧ (v.ownBlock = some (w3.heap.size + 1) ∨ ∃ g, v.ownBlock = some g ∧ wx.heap.size ≤ g)) (fun _ i _ => b.length - (intOf i).toNat)
      case atStart => exact ⟨0, Nat.zero_le _, rfl, OwnS.empty hYw (by omega), But.refl _ _ _, .inl rfl⟩
      case round =>
        obtain ⟨k, hk, rfl, hown, hbut, hat⟩ := hrel
        have hBr : Below w.heap.size w wr := hBx.trans (hbut.below (by omega) (by omega))
        have hrs := hBr.size
        have hws := hbut.size
        by_cases hlt : k < b.length
        · obtain ⟨b0, o0, A1, c1, rfl, hb0, hcell, _, hr⟩ := (HB.out.below hBr).segs.seg (k : Int) (by omega) (by omega)
          simp only [Int.toNat_natCast] at hcell hr
          have hlen : (b.getD k []).length ≤ 300 := F2.out.2 _ (by rw [List.getD_eq_getElem?_getD, List.getElem?_eq_getElem (by omega)]; exact List.getElem_mem _)
          obtain ⟨X, hX⟩ : ∃ X, X = b.getD k [] := ⟨_, rfl⟩
          rw [← hX] at hcell hr hlen
          have hcell' : (wr.alloc (.cells #[] 36 (0, 0))).cell? ⟨b0, o0 + k, none⟩ = some (.slice A1 X.length c1) := by rw [(bcell (Below.alloc (Below.refl wr.heap.size wr) (Nat.le_refl _) _)).1 _ _ (by omega)]; exact hcell
          have HX := Lib.hid hX
          have HR := Lib.hid hr
          have HO := Lib.hid hown
          have HU := Lib.hid hbut
          have HT := Lib.hid hat
          clear hX hr hown hbut hat
          go_wp2_with (at_builtin; (first
            | (obtain ⟨v2, W2, hr2, ho2, hw2, hf2, ha2, hz2⟩ := app_seg (w := w) 22 HO.out hw1 ho1 (by rw [List.length_take]; omega) hrs (below_then hBr hrs hw1); refine Lib.wpList_append_run _ rfl _ _ _ _ rfl _ _ rfl rfl _ _ hr2 ?_)
            | (obtain ⟨v1, W1, hr1, ho1, hw1⟩ := app_src (B := wr.heap.size) (w := wr) 31 (OwnW.lit (W := wr) (Nat.le_refl _)) (HR.out.mono (Below.mono (B := wr.heap.size) (by (repeat (first | exact Below.refl _ _ | assumption | refine Below.setCell ?_ (by (try simp); (try omega)) _ | refine Below.alloc ?_ (by (try simp); (try omega)) _ | refine below_setRow ?_ (by (try simp); (try omega)) _ | refine pw_below_drewN ?_ _ | refine Below.drew ?_))) (by omega)) (Nat.le_refl _)) (by simp only [List.length_nil]; omega) (by simp only [World.size_alloc]; omega) (by (repeat (first | exact Below.refl _ _ | assumption | refine Below.setCell ?_ (by (try simp); (try omega)) _ | refine Below.alloc ?_ (by (try simp); (try omega)) _ | refine below_setRow ?_ (by (try simp); (try omega)) _ | refine pw_below_drewN ?_ _ | refine Below.drew ?_))); refine Lib.wpList_append_run _ rfl _ _ _ _ rfl _ _ rfl rfl _ _ hr1 ?_; rw [List.nil_append] at ho1; obtain ⟨g1, cp1, rfl, _⟩ := id ho1; have hl1 := hw1.size)))
          go_roundw
          case rel =>
            refine ⟨k + 1, by omega, by go_num, by rw [take_snoc (by omega), ← HX.out]; exact ho2, HU.out.far ⟨hBr.os.trans hw2.os.symm, hBr.tape.trans hw2.tape.symm, hBr.output.trans hw2.output.symm⟩ ?_ (fun q hq hne => ?_), ?_⟩
            · omega
            · rw [hf2 q (by omega) (fun e => by rcases HT.out with e2 | ⟨g, e2, hg⟩ <;> (rw [e2] at e; have := Option.some.inj e; omega))]
              exact hw1.block q (by omega)
            · rcases ha2 with e | ⟨g, e, hg⟩
              · rcases HT.out with e2 | ⟨g, e2, hg⟩
                · exact .inl (e.trans e2)
                · exact .inr ⟨g, e.trans e2, hg⟩
              · exact .inr ⟨g, e, by omega⟩
          case measure => simp [intOf]; omega
        · rw [show k = b.length by omega, List.take_length] at hown
          obtain ⟨Ay, cy, rfl, hy⟩ := hown.rs
          rename World => wy
          have hBy := hBr
          have hx' := hx.but (Nat.le_refl _) hbut hYw
          have hLy : blk wy w.heap.size = some (.cells #[.int .i64 d, .int .i64 wl, .int .i64 ov] 24 (0, 0)) := (hbut.block _ (by omega) (by omega)).trans hLw
          have mx : MsgIn wy.heap.size wy Ax a.length a := ⟨HA.out.env.mono (hBy.mono hBw) (Nat.le_trans hBw hBy.size), hx', (smallB_wf S1.out HA.out.word).1, Nat.le_refl _⟩
          have my : MsgIn wy.heap.size wy Ay b.length b := ⟨HB.out.env.mono (hBy.mono hBw) (Nat.le_trans hBw hBy.size), hy, (smallB_wf S2.out HB.out.word).1, Nat.le_refl _⟩
          have MX := Lib.hid mx
          have MY := Lib.hid my
          clear mx my hx' hy hx hown hat hbut hYw hLw hBx hBr hS0 hrs hws
          go_wp2_with fail
          refine (Messages_any MX.out MY.out d wl ov hd hwl).mono ?_
          rintro e w6 ⟨rfl, hb6⟩
          have hB6 : Below w.heap.size w w6 := below_then hBy hBy.size hb6
          have NX := Lib.hid (MX.out.below hb6)
          have NY := Lib.hid (MY.out.below hb6)
          clear MX MY hBy hb6 hLy
          go_wp2
          go_loopw [11] (fun i wr => ∃ k : Nat, k ≤ a.length ∧ i = .int .i64 k ∧ ∃ q, wr = w6.drewN q) (fun i _ => a.length - (intOf i).toNat)
          case atStart => exact ⟨0, Nat.zero_le _, rfl, 0, rfl⟩
          case round =>
            obtain ⟨k, hk, rfl, q0, rfl⟩ := hrel
            by_cases hka : k < a.length
            · by_cases hkb : k < b.length
              · obtain ⟨ba, oa, Aa, Ca, rfl, hba, ca, _, ra⟩ := NX.out.segs.seg (k : Int) (by omega) (by omega)
                obtain ⟨bb, ob, Ab, Cb, rfl, hbb, cb, _, rb⟩ := NY.out.segs.seg (k : Int) (by omega) (by omega)
                simp only [Int.toNat_natCast] at ca ra cb rb
                have lx := few_len F1.out.2 k
                have ly := few_len F2.out.2 k
                obtain ⟨X, hX⟩ : ∃ X, X = a.getD k [] := ⟨_, rfl⟩
                rw [← hX] at ca ra lx
                clear hX
                obtain ⟨Y, hY⟩ : ∃ Y, Y = b.getD k [] := ⟨_, rfl⟩
                rw [← hY] at cb rb ly
                clear hY
                have RA := Lib.hid ra
                have RB := Lib.hid rb
                clear ra rb
                go_wp2
                go_quiet ((refine (Data_same (rw_drew RA.out _) (rw_drew RB.out _) lx ly).mono ?_; rintro e w' ⟨rfl, hw⟩; exact ⟨rfl, _, hw.symm⟩))
                go_wp2
                go_roundw
                case rel => exact ⟨k + 1, by omega, by go_num, _, rfl⟩
                case measure => simp [intOf]; omega
              · go_wp2_with fail
                refine (Same_any (rs_drew NX.out.segs _) (HA.out.below (hB6.drewN' q0)).segs (by omega) (fun s hs => by have := F1.out.2 s hs; omega)).mono ?_
                rw [decide_eq_true (rfl : a = a)]
                rintro e w7 ⟨rfl, q7, rfl⟩
                go_wp2_with fail
                refine (Same_any (rs_drew NY.out.segs _) (HB.out.below (hB6.drewN' _)).segs (by omega) (fun s hs => by have := F2.out.2 s hs; omega)).mono ?_
                rw [decide_eq_true (rfl : b = b)]
                rintro e w8 ⟨rfl, q8, rfl⟩
                go_wp2
                go_ret
                exact ⟨rfl, hB6.drewN' _⟩
            · go_wp2_with fail
              refine (Same_any (rs_drew NX.out.segs _) (HA.out.below (hB6.drewN' q0)).segs (by omega) (fun s hs => by have := F1.out.2 s hs; omega)).mono ?_
              rw [decide_eq_true (rfl : a = a)]
              rintro e w7 ⟨rfl, q7, rfl⟩
              go_wp2_with fail
              refine (Same_any (rs_drew NY.out.segs _) (HB.out.below (hB6.drewN' _)).segs (by omega) (fun s hs => by have := F2.out.2 s hs; omega)).mono ?_
              rw [decide_eq_true (rfl : b = b)]
              rintro e w8 ⟨rfl, q8, rfl⟩
              go_wp2
              go_ret
              exact ⟨rfl, hB6.drewN' _⟩
end Go.Proofs.YtelghkgnkncnoaaDoor
/- Contract of the law EqualKeeps, whole. -/
set_option linter.unusedVariables false
set_option linter.unusedSimpArgs false
namespace Go.Proofs.YtelghkgnkncnoaaDoor
open Go.RowKit
set_option maxRecDepth 100000 in
theorem EqualKeeps_no1 {B : Nat} {w : World} {A A' : Option Addr} {n n' c c' : Nat} {a : List (List Int)} (ha : ArgIn B w A n a) (d wl ov : Int) (s1 : smallB a d wl = false) :
    Calls Tryd.prog 6 #[.slice A n c, .slice A' n' c', vLim d wl ov] w (VPost w (.bool true)) := by
  have HA := Lib.hid ha
  have S1 := Lib.hid s1
  clear ha s1
  go_enter Tryd.func6, Tryd.ntmps6
  go_wp2_with fail
  refine (HA.out.awake (by (repeat (first | exact Below.refl _ _ | assumption | refine Below.setCell ?_ (by (try simp); (try omega)) _ | refine Below.alloc ?_ (by (try simp); (try omega)) _ | refine below_setRow ?_ (by (try simp); (try omega)) _ | refine pw_below_drewN ?_ _ | refine Below.drew ?_)))).mono ?_
  rintro e w1 ⟨rfl, hb1⟩; have hB1 := below_step (w := w) (by (repeat (first | exact Below.refl _ _ | assumption | refine Below.setCell ?_ (by (try simp); (try omega)) _ | refine Below.alloc ?_ (by (try simp); (try omega)) _ | refine below_setRow ?_ (by (try simp); (try omega)) _ | refine pw_below_drewN ?_ _ | refine Below.drew ?_))) hb1; obtain ⟨hc1, hf1⟩ := bcell hb1; have hd1 := blk_below hb1; have hs1 := hB1.size; have hz1_0 : w.heap.size < w1.heap.size := (by have hq := hb1.size; (try simp at hq); omega); have hy1_0 : w.heap.size ≠ w1.heap.size := Nat.ne_of_lt hz1_0; have hk1_0 := hd1 (w.heap.size) (by (try simp); (try omega)); (try simp (disch := first | omega | (simp; omega)) only [blk_setRow_far, blk_alloc_past, blk_setCell_far, blk_drewN, blk_drew] at hk1_0); (try simp (disch := first | assumption | omega | (simp; done) | (simp; omega)) only [blk_setRow_far, blk_alloc_past, blk_alloc_new, blk_alloc_at, blk_setCell_far, blk_drewN, blk_drew] at hk1_0)
  go_wp2_with fail
  refine (HA.out.small (by (repeat (first | exact Below.refl _ _ | assumption | refine Below.setCell ?_ (by (try simp); (try omega)) _ | refine Below.alloc ?_ (by (try simp); (try omega)) _ | refine below_setRow ?_ (by (try simp); (try omega)) _ | refine pw_below_drewN ?_ _ | refine Below.drew ?_))) d wl ov).mono ?_
  rw [S1.out]
  rintro e w2 ⟨rfl, hb2⟩; have hB2 := below_step (w := w) (by (repeat (first | exact Below.refl _ _ | assumption | refine Below.setCell ?_ (by (try simp); (try omega)) _ | refine Below.alloc ?_ (by (try simp); (try omega)) _ | refine below_setRow ?_ (by (try simp); (try omega)) _ | refine pw_below_drewN ?_ _ | refine Below.drew ?_))) hb2; obtain ⟨hc2, hf2⟩ := bcell hb2; have hd2 := blk_below hb2; have hs2 := hB2.size; have hz2_0 : w.heap.size < w2.heap.size := (by have hq := hb2.size; (try simp at hq); omega); have hy2_0 : w.heap.size ≠ w2.heap.size := Nat.ne_of_lt hz2_0; have hk2_0 := hd2 (w.heap.size) (by (try simp); (try omega)); (try simp (disch := first | omega | (simp; omega)) only [blk_setRow_far, blk_alloc_past, blk_setCell_far, blk_drewN, blk_drew] at hk2_0); (try simp (disch := first | assumption | omega | (simp; done) | (simp; omega)) only [blk_setRow_far, blk_alloc_past, blk_alloc_new, blk_alloc_at, blk_setCell_far, blk_drewN, blk_drew] at hk2_0); (try rw [hk1_0] at hk2_0)
  go_wp2_with fail
  refine (HA.out.awake (by (repeat (first | exact Below.refl _ _ | assumption | refine Below.setCell ?_ (by (try simp); (try omega)) _ | refine Below.alloc ?_ (by (try simp); (try omega)) _ | refine below_setRow ?_ (by (try simp); (try omega)) _ | refine pw_below_drewN ?_ _ | refine Below.drew ?_)))).mono ?_
  rintro e w5 ⟨rfl, hb5⟩; have hB5 := below_step (w := w) (by (repeat (first | exact Below.refl _ _ | assumption | refine Below.setCell ?_ (by (try simp); (try omega)) _ | refine Below.alloc ?_ (by (try simp); (try omega)) _ | refine below_setRow ?_ (by (try simp); (try omega)) _ | refine pw_below_drewN ?_ _ | refine Below.drew ?_))) hb5; obtain ⟨hc5, hf5⟩ := bcell hb5; have hd5 := blk_below hb5; have hs5 := hB5.size; have hz5_0 : w.heap.size < w5.heap.size := (by have hq := hb5.size; (try simp at hq); omega); have hy5_0 : w.heap.size ≠ w5.heap.size := Nat.ne_of_lt hz5_0; have hk5_0 := hd5 (w.heap.size) (by (try simp); (try omega)); (try simp (disch := first | omega | (simp; omega)) only [blk_setRow_far, blk_alloc_past, blk_setCell_far, blk_drewN, blk_drew] at hk5_0); (try simp (disch := first | assumption | omega | (simp; done) | (simp; omega)) only [blk_setRow_far, blk_alloc_past, blk_alloc_new, blk_alloc_at, blk_setCell_far, blk_drewN, blk_drew] at hk5_0); (try rw [hk4_0] at hk5_0); (try rw [hk3_0] at hk5_0); (try rw [hk2_0] at hk5_0); (try rw [hk1_0] at hk5_0)
  go_wp2
  go_ret
  exact ⟨rfl, hB5⟩
set_option maxRecDepth 100000 in
theorem EqualKeeps_no2 {B : Nat} {w : World} {A A' : Option Addr} {n n' c c' : Nat} {a b : List (List Int)} (ha : ArgIn B w A n a) (hb : ArgIn B w A' n' b) (d wl ov : Int) (s1 : smallB a d wl = true) (s2 : smallB b d wl = false) :
    Calls Tryd.prog 6 #[.slice A n c, .slice A' n' c', vLim d wl ov] w (VPost w (.bool true)) := by
  have HA := Lib.hid ha
  have HB := Lib.hid hb
  have S1 := Lib.hid s1
  have S2 := Lib.hid s2
  clear ha hb s1 s2
  go_enter Tryd.func6, Tryd.ntmps6
  go_wp2_with fail
  refine (HA.out.awake (by (repeat (first | exact Below.refl _ _ | assumption | refine Below.setCell ?_ (by (try simp); (try omega)) _ | refine Below.alloc ?_ (by (try simp); (try omega)) _ | refine below_setRow ?_ (by (try simp); (try omega)) _ | refine pw_below_drewN ?_ _ | refine Below.drew ?_)))).mono ?_
  rintro e w1 ⟨rfl, hb1⟩; have hB1 := below_step (w := w) (by (repeat (first | exact Below.refl _ _ | assumption | refine Below.setCell ?_ (by (try simp); (try omega)) _ | refine Below.alloc ?_ (by (try simp); (try omega)) _ | refine below_setRow ?_ (by (try simp); (try omega)) _ | refine pw_below_drewN ?_ _ | refine Below.drew ?_))) hb1; obtain ⟨hc1, hf1⟩ := bcell hb1; have hd1 := blk_below hb1; have hs1 := hB1.size; have hz1_0 : w.heap.size < w1.heap.size := (by have hq := hb1.size; (try simp at hq); omega); have hy1_0 : w.heap.size ≠ w1.heap.size := Nat.ne_of_lt hz1_0; have hk1_0 := hd1 (w.heap.size) (by (try simp); (try omega)); (try simp (disch := first | omega | (simp; omega)) only [blk_setRow_far, blk_alloc_past, blk_setCell_far, blk_drewN, blk_drew] at hk1_0); (try simp (disch := first | assumption | omega | (simp; done) | (simp; omega)) only [blk_setRow_far, blk_alloc_past, blk_alloc_new, blk_alloc_at, blk_setCell_far, blk_drewN, blk_drew] at hk1_0)
  go_wp2_with fail
  refine (HA.out.small (by (repeat (first | exact Below.refl _ _ | assumption | refine Below.setCell ?_ (by (try simp); (try omega)) _ | refine Below.alloc ?_ (by (try simp); (try omega)) _ | refine below_setRow ?_ (by (try simp); (try omega)) _ | refine pw_below_drewN ?_ _ | refine Below.drew ?_))) d wl ov).mono ?_
  rw [S1.out]
  rintro e w2 ⟨rfl, hb2⟩; have hB2 := below_step (w := w) (by (repeat (first | exact Below.refl _ _ | assumption | refine Below.setCell ?_ (by (try simp); (try omega)) _ | refine Below.alloc ?_ (by (try simp); (try omega)) _ | refine below_setRow ?_ (by (try simp); (try omega)) _ | refine pw_below_drewN ?_ _ | refine Below.drew ?_))) hb2; obtain ⟨hc2, hf2⟩ := bcell hb2; have hd2 := blk_below hb2; have hs2 := hB2.size; have hz2_0 : w.heap.size < w2.heap.size := (by have hq := hb2.size; (try simp at hq); omega); have hy2_0 : w.heap.size ≠ w2.heap.size := Nat.ne_of_lt hz2_0; have hk2_0 := hd2 (w.heap.size) (by (try simp); (try omega)); (try simp (disch := first | omega | (simp; omega)) only [blk_setRow_far, blk_alloc_past, blk_setCell_far, blk_drewN, blk_drew] at hk2_0); (try simp (disch := first | assumption | omega | (simp; done) | (simp; omega)) only [blk_setRow_far, blk_alloc_past, blk_alloc_new, blk_alloc_at, blk_setCell_far, blk_drewN, blk_drew] at hk2_0); (try rw [hk1_0] at hk2_0)
  go_wp2_with fail
  refine (HB.out.small (by (repeat (first | exact Below.refl _ _ | assumption | refine Below.setCell ?_ (by (try simp); (try omega)) _ | refine Below.alloc ?_ (by (try simp); (try omega)) _ | refine below_setRow ?_ (by (try simp); (try omega)) _ | refine pw_below_drewN ?_ _ | refine Below.drew ?_))) d wl ov).mono ?_
  rw [S2.out]
  rintro e w3 ⟨rfl, hb3⟩; have hB3 := below_step (w := w) (by (repeat (first | exact Below.refl _ _ | assumption | refine Below.setCell ?_ (by (try simp); (try omega)) _ | refine Below.alloc ?_ (by (try simp); (try omega)) _ | refine below_setRow ?_ (by (try simp); (try omega)) _ | refine pw_below_drewN ?_ _ | refine Below.drew ?_))) hb3; obtain ⟨hc3, hf3⟩ := bcell hb3; have hd3 := blk_below hb3; have hs3 := hB3.size; have hz3_0 : w.heap.size < w3.heap.size := (by have hq := hb3.size; (try simp at hq); omega); have hy3_0 : w.heap.size ≠ w3.heap.size := Nat.ne_of_lt hz3_0; have hk3_0 := hd3 (w.heap.size) (by (try simp); (try omega)); (try simp (disch := first | omega | (simp; omega)) only [blk_setRow_far, blk_alloc_past, blk_setCell_far, blk_drewN, blk_drew] at hk3_0); (try simp (disch := first | assumption | omega | (simp; done) | (simp; omega)) only [blk_setRow_far, blk_alloc_past, blk_alloc_new, blk_alloc_at, blk_setCell_far, blk_drewN, blk_drew] at hk3_0); (try rw [hk2_0] at hk3_0); (try rw [hk1_0] at hk3_0)
  go_wp2_with fail
  refine (HA.out.awake (by (repeat (first | exact Below.refl _ _ | assumption | refine Below.setCell ?_ (by (try simp); (try omega)) _ | refine Below.alloc ?_ (by (try simp); (try omega)) _ | refine below_setRow ?_ (by (try simp); (try omega)) _ | refine pw_below_drewN ?_ _ | refine Below.drew ?_)))).mono ?_
  rintro e w5 ⟨rfl, hb5⟩; have hB5 := below_step (w := w) (by (repeat (first | exact Below.refl _ _ | assumption | refine Below.setCell ?_ (by (try simp); (try omega)) _ | refine Below.alloc ?_ (by (try simp); (try omega)) _ | refine below_setRow ?_ (by (try simp); (try omega)) _ | refine pw_below_drewN ?_ _ | refine Below.drew ?_))) hb5; obtain ⟨hc5, hf5⟩ := bcell hb5; have hd5 := blk_below hb5; have hs5 := hB5.size; have hz5_0 : w.heap.size < w5.heap.size := (by have hq := hb5.size; (try simp at hq); omega); have hy5_0 : w.heap.size ≠ w5.heap.size := Nat.ne_of_lt hz5_0; have hk5_0 := hd5 (w.heap.size) (by (try simp); (try omega)); (try simp (disch := first | omega | (simp; omega)) only [blk_setRow_far, blk_alloc_past, blk_setCell_far, blk_drewN, blk_drew] at hk5_0); (try simp (disch := first | assumption | omega | (simp; done) | (simp; omega)) only [blk_setRow_far, blk_alloc_past, blk_alloc_new, blk_alloc_at, blk_setCell_far, blk_drewN, blk_drew] at hk5_0); (try rw [hk4_0] at hk5_0); (try rw [hk3_0] at hk5_0); (try rw [hk2_0] at hk5_0); (try rw [hk1_0] at hk5_0)
  go_wp2
  go_ret
  exact ⟨rfl, hB5⟩
theorem EqualKeeps_any {B : Nat} {w : World} {A A' : Option Addr} {n n' c c' : Nat} {a b : List (List Int)} (ha : ArgIn B w A n a) (hb : ArgIn B w A' n' b) (d wl ov : Int) :
    Calls Tryd.prog 6 #[.slice A n c, .slice A' n' c', vLim d wl ov] w (VPost w (.bool true)) := by
  cases s1 : smallB a d wl with
  | false => exact EqualKeeps_no1 ha d wl ov s1
  | true =>
    cases s2 : smallB b d wl with
    | false => exact EqualKeeps_no2 ha hb d wl ov s1 s2
    | true => exact EqualKeeps_small ha hb d wl ov s1 s2
end Go.Proofs.YtelghkgnkncnoaaDoor
/- EqualKeeps: for every input the law returns true, and what it reads stays as it was; what the listed variables hold is tied to the program's text. -/
set_option linter.unusedVariables false
namespace Go.Proofs.YtelghkgnkncnoaaDoor
open Go.ChangeShapes Go.WideShapes Go.ChangeAt Go.WideElems Go.RowKit
set_option maxRecDepth 100000 in
theorem EqualKeeps_lifted (os : Os) (started : os.Started) (H : Type) (enc : TypeId × Value → H) :
    ReturnsInHanded {} Tryd.checked os 6 .any (fun w args => (Rows.equalKeepsSpec.pre enc Tryd.prog Tryd.f6 [] false w args ∧ laidMetH Tryd.prog laidH w) ∧ sizedMet enc Tryd.prog Tryd.f6 (OpenSpec.ofChange Rows.equalKeepsSpec) false w args)
      (Rows.equalKeepsSpec.post enc Tryd.prog Tryd.f6 false true false false) := by
  refine returnsInHanded_of_change_and (C := Tryd.checked) (X := fun w _ => laidMetH Tryd.prog laidH w) (fun _ _ _ hh h => h.of_heap hh) own started (by kernel_rfl) Tryd.func6
    (ChangeSpec.witness_shaped (enc := enc) (C := Tryd.checked) (os := os) (X := fun w _ => laidMetH Tryd.prog laidH w) false (World.doorLaid Tryd.prog 600 os) #[.slice none 0 0, .slice none 0 0, .agg #[.int .i64 0, .int .i64 0, .int .i64 0]] 8 rfl (World.shaped_of_RefB (by kernel_rfl) (by kernel_rfl)) (by kernel_rfl) (by kernel_rfl) (by kernel_rfl) (door_met os _)) ?_
  intro W base args ds gs before hval0 hW _ _ hL _
  have hval : ∀ (j : Nat) t v, Tryd.f6.params[j]? = some t → args[j]? = some v → Value.okWide Tryd.prog W .any base t v := hval0
  have hW' := hW
  obtain ⟨p, q, hA0, hV, rfl, hfz, hnd⟩ := hW
  have hA : DataW.TrodAll enc Tryd.prog W 0 (fun _ => true) true Tryd.f6.params.toList args.toList ds p := hA0
  rw [Tryd.params6] at hA hval
  obtain ⟨v0, v1, v2, d0, d1, d2, p0, p1, p2, rfl, rfl, rfl, h0, h1, h2⟩ := trodAll_three hA
  obtain ⟨rfl, rfl⟩ := trodVars_none hV
  have hE := env_of_laid hL
  obtain ⟨A0, n0, c0, s0, rfl, a0⟩ := open_msg (hval 0 22 v0 rfl rfl) h0 hE
  obtain ⟨A1, n1, c1, s1, rfl, a1⟩ := open_msg (hval 1 22 v1 rfl rfl) h1 hE
  obtain ⟨x, y, z, rfl⟩ := open_lim (hval 2 24 v2 rfl rfl) h2
  refine (EqualKeeps_any (c := c0) (c' := c1) a0 a1 x y z).mono fun e W' ⟨he, hw⟩ => ?_
  subst he
  exact ⟨_, rfl, law_post laidOutA rfl (of_decide_eq_true (by kernel_rfl)) hW' rfl (by kernel_rfl) Tryd.underlying4 hw⟩
theorem equalKeeps_holds : Rows.EqualKeepsSaid :=
  OpenClaim.holds_of_wide 6 Tryd.f6 rfl rfl rfl rfl rfl rfl rfl ⟨rfl, rfl, rfl, rfl, rfl⟩ rfl rfl rfl rfl rfl (by kernel_rfl) Tryd.func6 (by kernel_rfl)
    (of_decide_eq_true (by kernel_rfl)) (by unfold Func.isWrapper; first | (rw [if_pos (by decide +kernel)]; kernel_rfl) | (rw [if_neg (by decide +kernel)]; exact ⟨rfl, rfl⟩))
    (fun os started H enc _ => EqualKeeps_lifted os started H enc)
theorem equalKeeps_card : Rows.EqualKeepsCardSaid :=
  Claim7.holds_tied_plain_at .later [] [.funcs, .data] true (true, "6ec70fd0edd24abb5d337bde79ef0bb013abfad9384bdde4bb9ae22e5d9e36aa") true
    equalKeeps_holds (fun _ h => by cases h) (by kernel_rfl) (fun _ h => by cases h) equalKeeps_row_tie rfl ⟨rfl, rfl⟩ (by kernel_rfl) rfl
    (fun f fn hf hfn => by
      obtain rfl : f = 6 := Option.some.inj ((show Tryd.prog.funcNamed "capnp/capnplaw17.EqualKeeps" = some 6 by kernel_rfl).symm.trans hf) |>.symm
      obtain rfl : fn = Tryd.f6 := (Option.some.inj (Tryd.func6.symm.trans hfn)).symm
      exact ⟨by kernel_rfl, fun j t ht => by
        rw [Tryd.params6] at ht
        have hm : t ∈ [22, 22, 24] := by simpa using Array.mem_of_getElem? ht
        have hall : ([22, 22, 24].all fun u => !Tryd.prog.wantsStandIn u) = true := by kernel_rfl
        exact (show Tryd.prog.wantsStandIn t = false by simpa using List.all_eq_true.1 hall t hm)⟩)
    (by kernel_rfl)
#print axioms equalKeeps_card
end Go.Proofs.YtelghkgnkncnoaaDoor
