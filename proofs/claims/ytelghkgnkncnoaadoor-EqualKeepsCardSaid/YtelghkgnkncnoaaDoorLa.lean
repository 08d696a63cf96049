/- A part of the proof: the texts L1 L2 joined. -/
import Derived.Test.YtelghkgnkncnoaaDoorRows
import Derived.Test.YtelghkgnkncnoaaDoorBa
import Derived.ProofKit
import Derived.LaidMore
import Derived.OpenShut
import Derived.Maps.Keyed
import Derived.Stop.Joined
import Derived.Test.YtelghkgnkncnoaaDoorEd
import Derived.Deep.Matrix
import Derived.Carry
import Derived.Lib.SmallJoins
/- What the laid variables give the walks: the environment; and the door's own heap meets the condition. -/
set_option linter.unusedVariables false
namespace Go.Proofs.YtelghkgnkncnoaaDoor
open Go.ChangeShapes Go.WideShapes Go.ChangeAt Go.WideElems Go.RowKit
theorem own : ownKnob Tryd.prog.godebug = none := by kernel_rfl
theorem gDec : Tryd.prog.globalNamed "capnp/pointer.decoders" = some 0 := by kernel_rfl
theorem gBits : Tryd.prog.globalNamed "capnp/listsize.bits" = some 1 := by kernel_rfl
theorem tDec : (Tryd.prog.globals[0]?).map (·.type) = some 172 := by kernel_rfl
theorem tBits : (Tryd.prog.globals[1]?).map (·.type) = some 184 := by kernel_rfl
abbrev laidH : List (String × DataW Unit) := [("capnp/pointer.decoders", Rows.laid_capnp_pointer_decoders), ("capnp/listsize.bits", Rows.laid_capnp_listsize_bits)]
theorem door_met (os : Os) (args : Array Value) : laidMetH Tryd.prog laidH ((World.doorLaid Tryd.prog 600 os).forCall (fun _ _ => 0) ⟨#[], args, []⟩).memory :=
  laidMetH_of_parts3 (fuel := 8) (laidMet_of_run' 8 (by kernel_rfl) (by kernel_rfl)) (by kernel_rfl) (by kernel_rfl)
theorem elemAt_func {H : Type} {enc : TypeId × Value → H} {P : Program} {base : Nat} {held : Bool} {e : TypeId} {ps rs : Array TypeId} {va : Bool} (he : P.underlying e = some (.func ps rs va)) {W : World} {sp : Nat → Bool} {n : Nat} {v : Value} {z : DataW H × List MemPlace} (h : elemAt enc P W base sp held n e v = some z) : DataW.trod enc P W base sp held n e [v] = some z := by
  unfold elemAt at h
  split at h
  · rename_i hf
    cases v <;> simp [Value.formed, he, Value.cells] at hf h
    all_goals exact h
  · cases h
theorem dec_of {W W' : World} {n : Nat} {bm : Nat} {es : Array MapEntry} {clock : Nat} (F : Fit Tryd.prog 3 (elemAt (funcToken Tryd.prog) Tryd.prog W 0 (fun _ => true) true n 122) es clock)
    (hb : W'.heap[bm]? = some (.map es clock)) (k : Int) (hw : (Lit.int .i64 k).wf = true) (b : UInt8) (r : List UInt8) (f0 : FuncId)
    (hat : ∀ zd, (DataW.map ((es.toList.map (rg Tryd.prog 3 (elemAt (funcToken Tryd.prog) Tryd.prog W 0 (fun _ => true) true n 122))).foldr DataW.insert [])).atKey (.int .i64 k) zd = .held (b :: r))
    (hone : ((List.range Tryd.prog.funcs.size).filter fun f => (Tryd.prog.funcs[f]?).any (·.name.toUTF8.data.toList == b :: r)) = [f0]) :
    (Instr.lookup 172 (.map (some bm)) (.int .i64 k) false).run Tryd.prog W' = .ok (.func (.func f0) #[] #[]) W' := by
  rcases Maps.fit_look (w := W') false (Maps.int_keyed Tryd.underlying3) Tryd.underlying172 (z := .nilFunc) (by kernel_rfl) hb F (Maps.keyOf_int_mk Tryd.underlying3 hw) with ⟨_, _, h⟩ | ⟨e0, y, _, _, hrun, hR, h, _⟩
  · have h1 := h .nil
    rw [hat] at h1; cases h1
  · have h1 := h .nil
    rw [hat] at h1
    obtain ⟨yd, yp⟩ := y
    simp only at h1
    subst h1
    have hv := func_of_trod Tryd.underlying122 hone (elemAt_func Tryd.underlying122 hR)
    rw [hv] at hrun
    exact hrun
theorem lt_of_cell {W : World} {g j : Nat} {v : Value} (h : W.cell? ⟨g, j, none⟩ = some v) : g < W.heap.size := by
  unfold World.cell? at h
  cases e : W.heap[g]? with
  | none => simp only [e] at h; cases h
  | some o => exact (Array.getElem?_eq_some_iff.1 e).1
/-- the names' tails -/
abbrev nmD (i : UInt8) : List UInt8 := [97, 112, 110, 112, 47, 112, 111, 105, 110, 116, 101, 114, 46, 100, 101, 99, 111, 100, 101, 114, 115, 36, i]
theorem env_of_laid {W : World} (h : laidMetH Tryd.prog laidH W) : Env W.heap.size W := by
  obtain ⟨g0, t0, cs0, f0, p0, hg0, ht0, hv0, hd0⟩ := h.funcs (List.mem_cons_self ..)
  have h2 : laidMet Tryd.prog [("capnp/listsize.bits", Rows.laid_capnp_listsize_bits)] W := h.1
  obtain ⟨ps, ⟨g1, t1, cs1, f1, p1, q1, hg1, ht1, hv1, hd1, _⟩, _, _⟩ := h2
  obtain rfl := Option.some.inj (gDec.symm.trans hg0)
  obtain rfl := Option.some.inj (gBits.symm.trans hg1)
  obtain rfl := Option.some.inj (tDec.symm.trans ht0)
  obtain rfl := Option.some.inj (tBits.symm.trans ht1)
  constructor
  · rcases open_map Tryd.underlying172 hd0 with ⟨_, hx⟩ | ⟨bm, es, clock, m, rfl, hcs, hb, _, F, hx⟩
    · have hx1 := congrArg Prod.fst hx
      exact absurd hx1 (fun e => by cases e)
    simp only [Prod.mk.injEq] at hx
    have hx1 := hx.1
    have hcell := World.var?_cell hg0 hv0 0
    rw [Array.eq_one_of_toList hcs] at hcell
    refine ⟨bm, (Array.getElem?_eq_some_iff.1 hb).1, ?_, by simpa using hcell, fun W' hW' => ?_⟩
    · have hc : W.cell? ⟨0, 0, none⟩ = some (.map (some bm)) := by simpa using hcell
      exact lt_of_cell hc
    · rw [hb] at hW'
      exact ⟨dec_of F hW' 0 rfl 99 (nmD 49) 197 (fun zd => by rw [← hx1]; kernel_rfl) (by kernel_rfl), dec_of F hW' 1 rfl 99 (nmD 50) 199 (fun zd => by rw [← hx1]; kernel_rfl) (by kernel_rfl),
        dec_of F hW' 2 rfl 99 (nmD 51) 200 (fun zd => by rw [← hx1]; kernel_rfl) (by kernel_rfl), dec_of F hW' 3 rfl 99 (nmD 52) 201 (fun zd => by rw [← hx1]; kernel_rfl) (by kernel_rfl)⟩
  · obtain ⟨xs, m, rfl, hx1, hlen, hn, hel⟩ := DataW.trod_array Tryd.underlying184 hd1
    have c3 : Tryd.prog.cellsOf 3 = 1 := by kernel_rfl
    have c8 : Tryd.prog.cellsOf 184 = 8 := by kernel_rfl
    have hcell := fun j => World.var?_cell hg1 hv1 j
    simp only [Prod.mk.injEq, Rows.laid_capnp_listsize_bits, DataW.agg.injEq] at hx1
    have each : ∀ j, j < 8 → W.cell? ⟨1, j, none⟩ = some (.int .i64 (bitsI (j : Int))) := by
      intro j hj
      have h0 := hel j hj
      rw [c3, List.getElem?_eq_getElem (by omega)] at h0
      obtain ⟨k, e1, e2, _⟩ := DataW.trod_int Tryd.underlying3 h0
      rw [hcell, ← Array.getElem?_toList]
      have hk : (xs.map (·.1))[j]? = some (.lit (.int .i64 k)) := by
        rw [List.getElem?_map, List.getElem?_eq_getElem (by omega), e2]; rfl
      rw [← hx1.1] at hk
      have ht : cs1.toList[j]? = some (.int .i64 k) := by
        have := congrArg (fun l => l[0]?) e1
        simp only [Nat.mul_one] at this
        rw [List.getElem?_take_of_lt (by omega), List.getElem?_drop] at this
        simpa using this
      rw [ht]
      have hjj : j = 0 ∨ j = 1 ∨ j = 2 ∨ j = 3 ∨ j = 4 ∨ j = 5 ∨ j = 6 ∨ j = 7 := by omega
      rcases hjj with rfl | rfl | rfl | rfl | rfl | rfl | rfl | rfl <;> simp at hk <;> subst hk <;> rfl
    refine ⟨?_, each⟩
    exact lt_of_cell (each 0 (by omega))
end Go.Proofs.YtelghkgnkncnoaaDoor
/- The arguments of the laws, opened; the row's last step. -/
set_option linter.unusedVariables false
namespace Go.Proofs.YtelghkgnkncnoaaDoor
open Go.ChangeShapes Go.WideShapes Go.ChangeAt Go.WideElems Go.RowKit Go.Deep
theorem laidOutA : laidOutB Tryd.prog = true := by kernel_rfl
theorem stays_all {H : Type} {enc : TypeId × Value → H} {P : Program} (hl : laidOutB P = true) {W W' : World} (hb : Below W.heap.size W W') {sp : Nat → Bool} :
    ∀ (ts : List TypeId) (vs : List Value) (ds : List (DataW H)) (ps : List MemPlace), (∀ t ∈ ts, P.readableRec t = true ∧ t < P.types.size) → DataW.TrodAll enc P W 0 (fun _ => true) true ts vs ds ps → (∀ x ∈ ps, x.block < W.heap.size) → (∀ x ∈ ps, sp x.block = true) →
      DataW.TrodAll enc P W' 0 sp true ts vs ds ps := by
  intro ts
  induction ts with
  | nil =>
    intro vs ds ps _ h _ _
    cases vs <;> cases ds <;> exact h
  | cons t ts ih =>
    intro vs ds ps hr h hlt hs
    obtain ⟨v, vs', d, ds', p, q, rfl, rfl, rfl, h1, h2⟩ := trodAll_cons h
    have ht := hr t (List.mem_cons_self ..)
    exact ⟨p, q, WideElems.Trod_stays hl ht.1 ht.2 h1 (fun x hx => hb.same (hlt x (List.mem_append_left _ hx))) (fun x hx => hs x (List.mem_append_left _ hx)),
      ih vs' ds' q (fun t' h' => hr t' (List.mem_cons_of_mem _ h')) h2 (fun x hx => hlt x (List.mem_append_right _ hx)) (fun x hx => hs x (List.mem_append_right _ hx)), rfl⟩
/-- the law answered true and left what it read as it was -/
theorem law_post {H : Type} {enc : TypeId × Value → H} {P : Program} (hl : laidOutB P = true) {f : Func} {s : ChangeSpec} {W W' : World} {args : Array Value} {ds : List (DataW H)} {before : List MemPlace} {tb : TypeId}
    (hv : s.vars = []) (ht : ∀ t ∈ f.params.toList, P.readableRec t = true ∧ t < P.types.size) (hW : DataW.Whole enc P f.params.toList s.vars false W args.toList ds [] before)
    (hfn : s.fn H (ds ++ []) = { results := [.lit (.bool true)], args := ds }) (hr : f.resultTypes = #[tb]) (hub : P.underlying tb = some .bool) (hb : Below W.heap.size W W') :
    s.post enc P f false true false false W args (.bool true) W' := by
  have hlt : ∀ x ∈ before, x.block < W.heap.size := fun x hx => hW.lt x hx
  obtain ⟨p, q, hA, hV, rfl, hz, hn⟩ := id hW
  rw [hv] at hV
  obtain ⟨_, rfl⟩ := trodVars_none hV
  refine ⟨ds, [], p ++ [], [], p, [], hW, ?_, ?_, ?_, hb.frame _, fun h => by cases h⟩
  · rw [hfn, hr]
    exact trodAll_mk1 (shut_bool hub _)
  · rw [hfn]
    exact stays_all hl hb _ _ _ _ ht hA (fun x hx => hlt x (by simpa using hx)) (fun x hx => by simpa using hlt x (by simpa using hx))
  · rw [hfn, hv]; rfl
theorem add_at (b o j : Nat) : (⟨b, o, none⟩ : Addr).add j = ⟨b, o + j, none⟩ := by
  unfold Addr.add
  by_cases h : j = 0
  · subst h; simp
  · simp [h]
theorem getD_take {l : List Int} {n j : Nat} (h : j < n) : (l.take n).getD j 0 = l.getD j 0 := by
  rw [List.getD_eq_getElem?_getD, List.getD_eq_getElem?_getD, List.getElem?_take_of_lt h]
theorem u64_of_wf {x : Int} (h : (Lit.int .u64 x).wf = true) : U64 x := by
  simp only [Lit.wf, Bool.and_eq_true, decide_eq_true_eq] at h
  have h0 : IntKind.u64.min = 0 := rfl
  have h1 : IntKind.u64.max = 18446744073709551615 := rfl
  unfold U64
  omega
set_option maxRecDepth 100000 in
theorem open_msg {H : Type} {enc : TypeId × Value → H} {W : World} {r : Reach} {b0 : Nat} {v : Value} {d : DataW H} {p : List MemPlace} (hv : Value.okWide Tryd.prog W r b0 22 v) (h : DataW.Trod enc Tryd.prog W 0 (fun _ => true) true 22 v d p) (hE : Env W.heap.size W) :
    ∃ A n c ss, v = .slice A n c ∧ ArgIn W.heap.size W A n ss := by
  obtain ⟨A0, n0, c0, rfl⟩ := okWide_slice Tryd.underlying22 hv
  obtain ⟨fuel, hf⟩ := h
  rcases open_int_rows Tryd.underlying22 Tryd.underlying31 Tryd.underlying36 (by kernel_rfl) (by kernel_rfl) hf with ⟨hcs, _⟩ | ⟨a, len, cap, A, L, C, Z, hcs, _, hl, hm, _, hx⟩
  · simp [Value.cells] at hcs
    obtain ⟨rfl, rfl, rfl⟩ := hcs
    exact ⟨none, 0, 0, [], rfl, hE, ⟨rfl, fun h => absurd h (by omega)⟩, by omega, by simp, Nat.le_refl _⟩
  · simp [Value.cells] at hcs
    obtain ⟨rfl, rfl, rfl⟩ := hcs
    have hmax : maxLen ≤ 9223372036854775807 := by decide
    refine ⟨some a, n0, c0, (List.range n0).map fun r => (Z r).take (L r), rfl, hE, ⟨by simp, fun hn => ?_⟩, by omega, ?_, Nat.le_refl _⟩
    · obtain ⟨b, o, spot⟩ := a
      have hspot : spot = none := by simpa [Addr.add] using World.cell?_spot (hx 0 (by omega)).1
      subst hspot
      have h0 := (hx 0 (by omega)).1
      refine ⟨b, o, rfl, lt_of_cell (by simpa [Addr.add] using h0), fun j hj => ?_⟩
      obtain ⟨hc, hLC, hCm, hZ, hwf, hnone, hrow⟩ := hx j (by omega)
      have hget : ((List.range n0).map fun r => (Z r).take (L r)).getD j [] = (Z j).take (L j) := by
        rw [List.getD_eq_getElem?_getD, List.getElem?_map, List.getElem?_range hj]; rfl
      have hlen : ((Z j).take (L j)).length = L j := by rw [List.length_take]; omega
      rw [hget, hlen]
      rw [add_at] at hc
      refine ⟨A j, C j, hc, hLC, hlen, fun hLpos => ?_⟩
      cases hA : A j with
      | none => have := hnone hA; omega
      | some a' =>
        obtain ⟨_, hcell⟩ := hrow a' hA
        obtain ⟨b', o', spot'⟩ := a'
        have hspot' : spot' = none := by simpa [Addr.add] using World.cell?_spot (hcell 0 (by omega))
        subst hspot'
        refine ⟨b', o', rfl, lt_of_cell (by simpa [Addr.add] using hcell 0 (by omega)), fun i hi => ?_⟩
        rw [getD_take hi]
        have := hcell i (by omega)
        rw [add_at] at this
        exact this
    · intro s hs x hxs
      obtain ⟨j, hj, rfl⟩ := List.mem_map.1 hs
      exact u64_of_wf ((hx j (by have := List.mem_range.1 hj; omega)).2.2.2.2.1 x (List.mem_of_mem_take hxs))
set_option maxRecDepth 100000 in
theorem open_lim {H : Type} {enc : TypeId × Value → H} {W : World} {r : Reach} {b0 : Nat} {v : Value} {d : DataW H} {p : List MemPlace} (hv : Value.okWide Tryd.prog W r b0 24 v) (h : DataW.Trod enc Tryd.prog W 0 (fun _ => true) true 24 v d p) :
    ∃ x y z : Int, v = vLim x y z := by
  obtain ⟨c0, c1, c2, y0, y1, y2, m, rfl, rfl, rfl, hy0, hy1, hy2⟩ := Go.Joins.open_agg3 Tryd.underlying24 (by kernel_rfl) (by kernel_rfl) hv h
  obtain ⟨x, e0, _⟩ := DataW.trod_int Tryd.underlying3 hy0
  obtain ⟨y, e1, _⟩ := DataW.trod_int Tryd.underlying3 hy1
  obtain ⟨z, e2, _⟩ := DataW.trod_int Tryd.underlying3 hy2
  simp at e0 e1 e2
  subst e0 e1 e2
  exact ⟨x, y, z, rfl⟩
theorem u8_of_wf {x : Int} (h : (Lit.int .u8 x).wf = true) : 0 ≤ x ∧ x < 256 := by
  simp only [Lit.wf, Bool.and_eq_true, decide_eq_true_eq] at h
  have h0 : IntKind.u8.min = 0 := rfl
  have h1 : IntKind.u8.max = 255 := rfl
  omega
set_option maxRecDepth 100000 in
theorem open_words {H : Type} {enc : TypeId × Value → H} {W : World} {r : Reach} {b0 : Nat} {v : Value} {d : DataW H} {p : List MemPlace} (hv : Value.okWide Tryd.prog W r b0 31 v) (h : DataW.Trod enc Tryd.prog W 0 (fun _ => true) true 31 v d p) :
    ∃ A n c l, v = .slice A n c ∧ RW .u64 W.heap.size W A n l := by
  obtain ⟨A0, n0, c0, rfl⟩ := okWide_slice Tryd.underlying31 hv
  obtain ⟨fuel, hf⟩ := h
  rcases open_ints Tryd.underlying31 Tryd.underlying36 (by kernel_rfl) hf with ⟨hcs, _⟩ | ⟨a, len, cap, zs, hcs, _, hl, hm, hz, _, hcell, _⟩
  · simp [Value.cells] at hcs
    obtain ⟨rfl, rfl, rfl⟩ := hcs
    exact ⟨none, 0, 0, [], rfl, RW.nil _ _ _ _⟩
  · simp [Value.cells] at hcs
    obtain ⟨rfl, rfl, rfl⟩ := hcs
    simp only [if_true] at hz
    refine ⟨some a, n0, c0, zs.take n0, rfl, by rw [List.length_take]; omega, fun hn => ?_⟩
    obtain ⟨b, o, spot⟩ := a
    have hspot : spot = none := by simpa [Addr.add] using World.cell?_spot (hcell 0 (by omega))
    subst hspot
    refine ⟨b, o, rfl, lt_of_cell (by have := hcell 0 (by omega); rw [add_at] at this; exact this), fun i hi => ?_⟩
    rw [getD_take hi]
    have := hcell i (by omega)
    rw [add_at] at this
    exact this
end Go.Proofs.YtelghkgnkncnoaaDoor
