/- A part of the proof: the texts Rows Base W1 W2 W2b W3 W4 joined. -/
import Derived.Test.YtelghkgnkncnoaaDoorProg
import Derived.Test.YtelghkgnkncnoaaDoorChecked
import Derived.WalkKit
import Derived.WalkLawsBesides
import Derived.WalkSpells
import Derived.Below
import Derived.Laws.CopyRow
import Derived.Test.YtelghkgnkncnoaaDoorPa
import Derived.Lib.Hide
import Derived.Deep.QuietTactic
import Derived.BigQuiet
import Derived.Deep.RegionHeld3
import Derived.Deep.OwnRows
import Derived.Laws.CopyOwn
/- Whole structs that are loaded from and stored into blocks of their own: run equations for the walk. -/
set_option linter.unusedVariables false
namespace Go.Proofs.YtelghkgnkncnoaaDoor
open Go.RowKit
/-- a block of memory, behind a name of its own (so that the walk's simp leaves it alone) -/
def blk (w : World) (g : Nat) : Option Obj := w.heap[g]?
@[go_sem] def isRow (o : Option Obj) : Bool := match o with | some (.cells _ _ _) => true | _ => false
@[go_sem] def rowSize (o : Option Obj) : Nat := match o with | some (.cells c _ _) => c.size | _ => 0
@[go_sem] def isOpen (o : Option Obj) : Bool := match o with | some (.cells _ _ (0, 0)) => true | _ => false
/-- what a load of a whole struct gives -/
@[go_sem] def rowOf (o : Option Obj) : Array Value := match o with | some (.cells c _ _) => c | _ => #[]
@[go_sem] def typeOf (o : Option Obj) : TypeId := match o with | some (.cells _ T _) => T | _ => 0
def structOf (P : Program) (ty : TypeId) (n : Nat) : Bool := (match P.underlying ty with | some (.struct _) => true | _ => false) && ((P.info? ty).map (·.size) == some n)
theorem load_struct {P : Program} {ty : TypeId} {n : Nat} (ht : structOf P ty n = true) (g : Nat) (W : World) (h1 : isRow (blk W g) = true) (h2 : rowSize (blk W g) = n) :
    (Instr.loadAt ty (.pointer (some ⟨g, 0, none⟩))).run P W = .ok (.agg (rowOf (blk W g))) W := by
  unfold blk at *
  cases hw : W.heap[g]? with
  | none => rw [hw] at h1; simp [isRow] at h1
  | some o =>
    rw [hw] at h1 h2
    cases o with
    | cells cs T fr =>
      simp only [rowSize] at h2
      simp only [structOf, Bool.and_eq_true, beq_iff_eq] at ht
      obtain ⟨ht1, ht2⟩ := ht
      cases hu : P.underlying ty with
      | none => rw [hu] at ht1; simp at ht1
      | some d =>
        rw [hu] at ht1
        simp only [Instr.loadAt, Instr.sureAddr, Sem.run_bind, Sem.run_pure, Result.andThen_ok]
        rw [run_loadVar_row W g T ty cs fr d hw hu (by cases d <;> first | rfl | simp at ht1) (by rw [ht2, h2])]
        rfl
    | _ => simp [isRow] at h1
theorem store_struct {P : Program} {ty : TypeId} {n : Nat} (ht : structOf P ty n = true) (g : Nat) (cs : Array Value) (W : World) (h1 : isOpen (blk W g) = true) (h2 : rowSize (blk W g) = n) (hc : cs.size = n) (ho : cs.toList.all (·.oneCell') = true) :
    (Instr.storeAt ty (.pointer (some ⟨g, 0, none⟩)) (.agg cs)).run P W = .ok () (W.setRow g cs) := by
  unfold blk at *
  cases hw : W.heap[g]? with
  | none => rw [hw] at h1; simp [isOpen] at h1
  | some o =>
    rw [hw] at h1 h2
    cases o with
    | cells old T fr =>
      have hfr : fr = (0, 0) := by
        obtain ⟨a, b⟩ := fr
        cases a <;> cases b <;> simp_all [isOpen]
      subst hfr
      simp only [rowSize] at h2
      simp only [structOf, Bool.and_eq_true, beq_iff_eq] at ht
      obtain ⟨ht1, ht2⟩ := ht
      cases hi : P.info? ty with
      | none => rw [hi] at ht2; simp at ht2
      | some i =>
        have hs : i.size = n := by rw [hi] at ht2; simpa using ht2
        simp only [Instr.storeAt, Instr.sureAddr, storeVar, sizeOf, typeInfo, Sem.run_bind, Sem.run_pure, Result.andThen_ok, Value.cells]
        have hst := run_storeCells_at P g 0 T cs.toList 0 old W hw (by simp; omega) (fun v hv => (List.all_eq_true.1 ho) v hv)
        have hd : old.toList.drop cs.size = [] := List.drop_eq_nil_of_le (by simp; omega)
        simp only [Nat.zero_add, List.take_zero, List.nil_append, Array.length_toList, hd, List.append_nil, Array.toArray_toList] at hst
        simp [hi, hs, hc, hst, Sem.run_bind]
    | _ => simp [isOpen] at h1
section
variable (w : World)
theorem row_of {o : Option Obj} (h : isRow o = true) : ∃ cs T fr, o = some (.cells cs T fr) := by
  cases o with
  | none => simp [isRow] at h
  | some o => cases o with
    | cells cs T fr => exact ⟨cs, T, fr, rfl⟩
    | _ => simp [isRow] at h
theorem open_of {o : Option Obj} (h : isOpen o = true) : ∃ cs T, o = some (.cells cs T (0, 0)) := by
  cases o with
  | none => simp [isOpen] at h
  | some o => cases o with
    | cells cs T fr =>
      obtain ⟨a, b⟩ := fr
      cases a <;> cases b <;> simp_all [isOpen]
    | _ => simp [isOpen] at h
@[go_sem] theorem blk_alloc_new (o : Obj) : blk (w.alloc o) w.heap.size = some o := heap_alloc_new w o
@[go_sem] theorem blk_alloc_new1 (o1 o2 : Obj) : blk ((w.alloc o1).alloc o2) (w.heap.size + 1) = some o2 := by have := heap_alloc_new (w.alloc o1) o2; simpa [blk] using this
@[go_sem] theorem blk_alloc_at (o : Obj) (n : Nat) (hn : n = w.heap.size) : blk (w.alloc o) n = some o := by subst hn; exact heap_alloc_new w o
@[go_sem] theorem blk_alloc_past (o : Obj) (n : Nat) (hn : n < w.heap.size) : blk (w.alloc o) n = blk w n := Below.heap_alloc w o n hn
@[go_sem] theorem blk_drew (n : Nat) : blk w.drew n = blk w n := rfl
@[go_sem] theorem blk_drewN (n k : Nat) : blk (w.drewN k) n = blk w n := rfl
@[go_sem] def reRow (cs : Array Value) (o : Option Obj) : Option Obj := match o with | some (.cells _ T fr) => some (.cells cs T fr) | o => o
@[go_sem] def reCell (j : Nat) (v : Value) (o : Option Obj) : Option Obj := match o with | some (.cells c T fr) => some (.cells (c.setIfInBounds j v) T fr) | o => o
@[go_sem] theorem blk_setRow_at (g : Nat) (cs : Array Value) : blk (w.setRow g cs) g = reRow cs (blk w g) := by
  unfold blk World.setRow reRow
  simp only [Array.getElem?_modify, if_true]
  cases w.heap[g]? with
  | none => rfl
  | some o => cases o <;> rfl
@[go_sem] theorem blk_setRow_far (g k : Nat) (cs : Array Value) (h : k ≠ g) : blk (w.setRow g cs) k = blk w k := setRow_other w g k cs h
@[go_sem] theorem blk_setCell_at (g j : Nat) (v : Value) : blk (w.setCell ⟨g, j, none⟩ v) g = reCell j v (blk w g) := by
  unfold blk World.setCell reCell
  simp only [Array.getElem?_modify, if_true]
  cases w.heap[g]? with
  | none => rfl
  | some o => cases o <;> rfl
@[go_sem] theorem blk_setCell_far (g j k : Nat) (v : Value) (h : k ≠ g) : blk (w.setCell ⟨g, j, none⟩ v) k = blk w k := heap_setCell_other w ⟨g, j, none⟩ k v h
@[go_sem] theorem cell_of_blk (g j : Nat) (h : isRow (blk w g) = true) : w.cell? ⟨g, j, none⟩ = (rowOf (blk w g))[j]? := by
  obtain ⟨cs, T, fr, e⟩ := row_of h
  rw [e]
  exact cell_of_row w g j cs T fr e
@[go_sem] theorem frozen_of_blk (g j : Nat) (h : isOpen (blk w g) = true) : w.frozen? ⟨g, j, none⟩ = false := by
  obtain ⟨cs, T, e⟩ := open_of h
  exact frozen_of_row w g j cs T e
@[go_sem] theorem cell_setRow_far (g b j : Nat) (cs : Array Value) (h : b ≠ g) : (w.setRow g cs).cell? ⟨b, j, none⟩ = w.cell? ⟨b, j, none⟩ := cell_setRow_other w g cs ⟨b, j, none⟩ h
@[go_sem] theorem frozen_setRow_far (g b j : Nat) (cs : Array Value) (h : b ≠ g) : (w.setRow g cs).frozen? ⟨b, j, none⟩ = w.frozen? ⟨b, j, none⟩ := by
  simp [World.frozen?, setRow_other w g b cs h]
theorem blk_below {B : Nat} {w w' : World} (h : Below B w w') : ∀ k, k < B → blk w' k = blk w k := h.block
/-- a whole struct read as a result -/
theorem results_blk {P : Program} {fn : Func} {p : Tmp} {ty : TypeId} {n : Nat} (ht : structOf P ty n = true) (h : fn.results = #[.cell p ty]) (tmps : Array Value) (g : Nat) (hp : tmps.getD p undef = .pointer (some ⟨g, 0, none⟩))
    (h1 : isRow (blk w g) = true) (h2 : rowSize (blk w g) = n) : (results fn tmps).run P w = .ok (.agg (rowOf (blk w g))) w := by
  have hl := load_struct ht g w h1 h2
  simp only [Instr.loadAt, Instr.sureAddr, Sem.run_bind, Sem.run_pure, Result.andThen_ok] at hl
  have hp' : tmps[p]?.getD undef = .pointer (some ⟨g, 0, none⟩) := by simpa using hp
  simp [results, h, hp', asAddr, hl]
theorem results_blk2 {P : Program} {fn : Func} {p u : Tmp} {ty : TypeId} {n : Nat} (ht : structOf P ty n = true) (h : fn.results = #[.cell p ty, .tmp u]) (tmps : Array Value) (g : Nat) (hp : tmps.getD p undef = .pointer (some ⟨g, 0, none⟩))
    (h1 : isRow (blk w g) = true) (h2 : rowSize (blk w g) = n) : (results fn tmps).run P w = .ok (.tuple #[.agg (rowOf (blk w g)), tmps.getD u undef]) w := by
  have hl := load_struct ht g w h1 h2
  simp only [Instr.loadAt, Instr.sureAddr, Sem.run_bind, Sem.run_pure, Result.andThen_ok] at hl
  have hp' : tmps[p]?.getD undef = .pointer (some ⟨g, 0, none⟩) := by simpa using hp
  simp [results, h, hp', asAddr, hl]
end
attribute [go_sem] Value.oneCell'
@[go_sem] def storeCond (n : Nat) (x y : Value) (w : World) : Bool := match x, y with
  | .pointer (some ⟨g, 0, none⟩), .agg cs => isOpen (blk w g) && (rowSize (blk w g) == n && (cs.size == n && cs.toList.all (·.oneCell')))
  | _, _ => false
@[go_sem] def storeWorld (x y : Value) (w : World) : World := match x, y with
  | .pointer (some ⟨g, 0, none⟩), .agg cs => w.setRow g cs
  | _, _ => w
@[go_sem] def loadCond (n : Nat) (x : Value) (w : World) : Bool := match x with
  | .pointer (some ⟨g, 0, none⟩) => isRow (blk w g) && rowSize (blk w g) == n
  | _ => false
@[go_sem] def loadValue (x : Value) (w : World) : Value := match x with
  | .pointer (some ⟨g, 0, none⟩) => .agg (rowOf (blk w g))
  | _ => undef
theorem exec_store {P : Program} {ty : TypeId} {n : Nat} (ht : structOf P ty n = true) (a : Act) (dst : Option Tmp) (x y : Operand) (t : TypeId) (pos : String) (after : Array Edge) (gd : Option (Nat × Bool)) (w : World) (h : storeCond n (a.eval x) (a.eval y) w = true) :
    (execOp a.eval ⟨dst, .store ty x y, t, pos, after, gd⟩).run P w = .ok .skip (storeWorld (a.eval x) (a.eval y) w) := by
  simp only [execOp]
  generalize a.eval x = X at *
  generalize a.eval y = Y at *
  unfold storeCond at h
  split at h
  · simp only [Bool.and_eq_true, beq_iff_eq] at h
    obtain ⟨h1, h2, h3, h4⟩ := h
    rw [Sem.run_bind, store_struct ht _ _ w h1 h2 h3 h4]
    rfl
  · cases h
theorem exec_load {P : Program} {ty : TypeId} {n : Nat} (ht : structOf P ty n = true) (a : Act) (dst : Option Tmp) (x : Operand) (t : TypeId) (pos : String) (after : Array Edge) (gd : Option (Nat × Bool)) (w : World) (h : loadCond n (a.eval x) w = true) :
    (execOp a.eval ⟨dst, .load ty x, t, pos, after, gd⟩).run P w = .ok (.value (loadValue (a.eval x) w)) w := by
  simp only [execOp]
  generalize a.eval x = X at *
  unfold loadCond at h
  split at h
  · simp only [Bool.and_eq_true, beq_iff_eq] at h
    obtain ⟨h1, h2⟩ := h
    rw [Sem.run_bind, load_struct ht _ w h1 h2]
    rfl
  · cases h
theorem st_Pointer : structOf Tryd.prog 95 10 = true := by kernel_rfl
theorem st_Object : structOf Tryd.prog 61 8 = true := by kernel_rfl
theorem st_Node : structOf Tryd.prog 42 5 = true := by kernel_rfl
theorem st_Limits : structOf Tryd.prog 24 3 = true := by kernel_rfl
theorem st_Meter : structOf Tryd.prog 81 1 = true := by kernel_rfl
theorem st_place : structOf Tryd.prog 168 3 = true := by kernel_rfl
@[go_sem ↓] theorem xs_Pointer (a : Act) (dst : Option Tmp) (x y : Operand) (t : TypeId) (pos : String) (after : Array Edge) (gd : Option (Nat × Bool)) (w : World) (h : storeCond 10 (a.eval x) (a.eval y) w = true) :
    (execOp a.eval ⟨dst, .store 95 x y, t, pos, after, gd⟩).run Tryd.prog w = .ok .skip (storeWorld (a.eval x) (a.eval y) w) := exec_store st_Pointer a dst x y t pos after gd w h
@[go_sem ↓] theorem xl_Pointer (a : Act) (dst : Option Tmp) (x : Operand) (t : TypeId) (pos : String) (after : Array Edge) (gd : Option (Nat × Bool)) (w : World) (h : loadCond 10 (a.eval x) w = true) :
    (execOp a.eval ⟨dst, .load 95 x, t, pos, after, gd⟩).run Tryd.prog w = .ok (.value (loadValue (a.eval x) w)) w := exec_load st_Pointer a dst x t pos after gd w h
@[go_sem ↓] theorem xs_Object (a : Act) (dst : Option Tmp) (x y : Operand) (t : TypeId) (pos : String) (after : Array Edge) (gd : Option (Nat × Bool)) (w : World) (h : storeCond 8 (a.eval x) (a.eval y) w = true) :
    (execOp a.eval ⟨dst, .store 61 x y, t, pos, after, gd⟩).run Tryd.prog w = .ok .skip (storeWorld (a.eval x) (a.eval y) w) := exec_store st_Object a dst x y t pos after gd w h
@[go_sem ↓] theorem xl_Object (a : Act) (dst : Option Tmp) (x : Operand) (t : TypeId) (pos : String) (after : Array Edge) (gd : Option (Nat × Bool)) (w : World) (h : loadCond 8 (a.eval x) w = true) :
    (execOp a.eval ⟨dst, .load 61 x, t, pos, after, gd⟩).run Tryd.prog w = .ok (.value (loadValue (a.eval x) w)) w := exec_load st_Object a dst x t pos after gd w h
@[go_sem ↓] theorem xs_Node (a : Act) (dst : Option Tmp) (x y : Operand) (t : TypeId) (pos : String) (after : Array Edge) (gd : Option (Nat × Bool)) (w : World) (h : storeCond 5 (a.eval x) (a.eval y) w = true) :
    (execOp a.eval ⟨dst, .store 42 x y, t, pos, after, gd⟩).run Tryd.prog w = .ok .skip (storeWorld (a.eval x) (a.eval y) w) := exec_store st_Node a dst x y t pos after gd w h
@[go_sem ↓] theorem xl_Node (a : Act) (dst : Option Tmp) (x : Operand) (t : TypeId) (pos : String) (after : Array Edge) (gd : Option (Nat × Bool)) (w : World) (h : loadCond 5 (a.eval x) w = true) :
    (execOp a.eval ⟨dst, .load 42 x, t, pos, after, gd⟩).run Tryd.prog w = .ok (.value (loadValue (a.eval x) w)) w := exec_load st_Node a dst x t pos after gd w h
@[go_sem ↓] theorem xs_Limits (a : Act) (dst : Option Tmp) (x y : Operand) (t : TypeId) (pos : String) (after : Array Edge) (gd : Option (Nat × Bool)) (w : World) (h : storeCond 3 (a.eval x) (a.eval y) w = true) :
    (execOp a.eval ⟨dst, .store 24 x y, t, pos, after, gd⟩).run Tryd.prog w = .ok .skip (storeWorld (a.eval x) (a.eval y) w) := exec_store st_Limits a dst x y t pos after gd w h
@[go_sem ↓] theorem xl_Limits (a : Act) (dst : Option Tmp) (x : Operand) (t : TypeId) (pos : String) (after : Array Edge) (gd : Option (Nat × Bool)) (w : World) (h : loadCond 3 (a.eval x) w = true) :
    (execOp a.eval ⟨dst, .load 24 x, t, pos, after, gd⟩).run Tryd.prog w = .ok (.value (loadValue (a.eval x) w)) w := exec_load st_Limits a dst x t pos after gd w h
@[go_sem ↓] theorem xs_place (a : Act) (dst : Option Tmp) (x y : Operand) (t : TypeId) (pos : String) (after : Array Edge) (gd : Option (Nat × Bool)) (w : World) (h : storeCond 3 (a.eval x) (a.eval y) w = true) :
    (execOp a.eval ⟨dst, .store 168 x y, t, pos, after, gd⟩).run Tryd.prog w = .ok .skip (storeWorld (a.eval x) (a.eval y) w) := exec_store st_place a dst x y t pos after gd w h
@[go_sem ↓] theorem xl_place (a : Act) (dst : Option Tmp) (x : Operand) (t : TypeId) (pos : String) (after : Array Edge) (gd : Option (Nat × Bool)) (w : World) (h : loadCond 3 (a.eval x) w = true) :
    (execOp a.eval ⟨dst, .load 168 x, t, pos, after, gd⟩).run Tryd.prog w = .ok (.value (loadValue (a.eval x) w)) w := exec_load st_place a dst x t pos after gd w h
@[go_sem ↓] theorem fd_Pointer0 (c0 c1 c2 c3 c4 c5 c6 c7 c8 c9 : Value) (W : World) : (Instr.field 95 (.agg #[c0, c1, c2, c3, c4, c5, c6, c7, c8, c9]) 0).run Tryd.prog W = .ok c0 W := by kernel_rfl
@[go_sem ↓] theorem fd_Pointer6 (c0 c1 c2 c3 c4 c5 c6 c7 c8 c9 : Value) (W : World) : (Instr.field 95 (.agg #[c0, c1, c2, c3, c4, c5, c6, c7, c8, c9]) 6).run Tryd.prog W = .ok c6 W := by kernel_rfl
@[go_sem ↓] theorem fd_Meter0 (c0 : Value) (W : World) : (Instr.field 81 (.agg #[c0]) 0).run Tryd.prog W = .ok c0 W := by kernel_rfl
end Go.Proofs.YtelghkgnkncnoaaDoor
/- Representation predicates and small lemmas that all walks of this seat use: what a slice of words, a message, a node reads as. -/
set_option linter.unusedVariables false
namespace Go.Proofs.YtelghkgnkncnoaaDoor
open Go.RowKit

theorem mask_eq (n : Int) (h0 : 1 ≤ n) (h1 : n ≤ 64) : (18446744073709551615 : Int) / 2 ^ (64 - n).toNat = 2 ^ n.toNat - 1 := by
  obtain ⟨m, rfl⟩ := Int.eq_ofNat_of_zero_le (show 0 ≤ n by omega)
  have e1 : (64 - (m : Int)).toNat = 64 - m := by omega
  rw [e1, Int.toNat_natCast]
  have hm : m ∈ List.range 65 := List.mem_range.2 (by omega)
  have hm1 : 1 ≤ m := by omega
  clear h0 h1 e1
  revert hm1
  revert m
  decide
theorem and_mask (x n : Int) (hx : U64 x) (h0 : 1 ≤ n) (h1 : n ≤ 64) : bits .and .u64 x (18446744073709551615 / 2 ^ (64 - n).toNat) = x % 2 ^ n.toNat := by
  rw [mask_eq n h0 h1]
  exact bits_mask .u64 64 (by decide) (fun k a b => by rw [IntKind.wrap_u64]; exact Int.emod_eq_of_lt a b) n.toNat (by omega) x hx.1 hx.2
theorem U64.shr {x : Int} (h : U64 x) (a : Nat) : U64 (x / 2 ^ a) := by
  obtain ⟨m, rfl⟩ := Int.eq_ofNat_of_zero_le h.1
  have h2 : m < 18446744073709551616 := by have := h.2; omega
  have e : ((m : Int) / 2 ^ a) = ((m / 2 ^ a : Nat) : Int) := by simp
  rw [e]
  have h3 := Nat.lt_of_le_of_lt (Nat.div_le_self m (2 ^ a)) h2
  generalize m / 2 ^ a = q at h3
  exact ⟨by omega, by omega⟩
theorem signed_eq (x : Int) (hx : U64 x) : wrap64 (IntKind.u64.wrap (x * 2 ^ (32 : Nat))) / 2 ^ (34 : Nat) = signedI x 2 30 := by
  obtain ⟨h0, h1⟩ := hx
  rw [IntKind.wrap_u64]
  unfold signedI fieldI wrap64
  simp only [show (30 : Int).toNat = 30 from rfl, show (2 : Int).toNat = 2 from rfl, Int.reducePow, Nat.reduceSub]
  split <;> omega
/-! ### returned values -/
theorem ret_bool {a b : Bool} (h : a = b) : Ending.returned (.bool a) = .returned (.bool b) := by rw [h]
theorem ret_int {k : IntKind} {a b : Int} (h : a = b) : Ending.returned (.int k a) = .returned (.int k b) := by rw [h]
theorem ret_val {a b : Value} (h : a = b) : Ending.returned a = .returned b := by rw [h]

@[reducible] def vOb (o : Ob) : Value := .agg #[.int .i64 o.kind, .int .i64 o.seg, .int .i64 o.at_, .int .i64 o.data, .int .i64 o.ptrs, .int .i64 o.elem, .int .i64 o.n, .int .i64 o.cost]
@[reducible] def vLim (d n o : Int) : Value := .agg #[.int .i64 d, .int .i64 n, .int .i64 o]
@[reducible] def vPtr (p : Ptr) : Value := .agg #[.int .i64 p.kind, .int .i64 p.offset, .int .i64 p.data, .int .i64 p.ptrs, .int .i64 p.elem, .int .i64 p.count, .bool p.double, .int .i64 p.pad, .int .u32 p.seg, .int .u32 p.low]

/-! ### worlds -/
theorem bcell {W w1 : World} {B : Nat} (hb : Below B W w1) : (∀ b o, b < B → w1.cell? ⟨b, o, none⟩ = W.cell? ⟨b, o, none⟩) ∧ (∀ b o, b < B → w1.frozen? ⟨b, o, none⟩ = W.frozen? ⟨b, o, none⟩) :=
  ⟨fun b o h => hb.cell (p := ⟨b, o, none⟩) h, fun b o h => hb.frozen (p := ⟨b, o, none⟩) h⟩
theorem pw_below_drewN {B : Nat} {w W : World} (h : Below B w W) (n : Nat) : Below B w (W.drewN n) := ⟨h.os, h.tape, h.output, h.size, h.block⟩
theorem below_then {w w1 w2 : World} {B : Nat} (h : Below B w w1) (hB : B ≤ w1.heap.size) (k : Below w1.heap.size w1 w2) : Below B w w2 :=
  h.trans (k.mono hB)

/-! ### slices of numbers -/
def RW (k : IntKind) (B : Nat) (w : World) (A : Option Addr) (n : Nat) (l : List Int) : Prop :=
  l.length = n ∧ (0 < n → ∃ b o, A = some ⟨b, o, none⟩ ∧ b < B ∧ ∀ j, j < n → w.cell? ⟨b, o + j, none⟩ = some (.int k (l.getD j 0)))
theorem RW.mono {k : IntKind} {B B' : Nat} {w w' : World} {A : Option Addr} {n : Nat} {l : List Int} (h : RW k B w A n l) (hb : Below B w w') (hB : B ≤ B') : RW k B' w' A n l :=
  ⟨h.1, fun hn => by
    obtain ⟨b, o, e, ha, hc⟩ := h.2 hn
    exact ⟨b, o, e, by omega, fun j hj => by rw [(bcell hb).1 _ _ ha]; exact hc j hj⟩⟩
theorem RW.nil (k : IntKind) (B : Nat) (w : World) (A : Option Addr) : RW k B w A 0 [] := ⟨rfl, fun h => absurd h (by omega)⟩
theorem RW.at_ {k : IntKind} {B : Nat} {w : World} {A : Option Addr} {n : Nat} {l : List Int} (h : RW k B w A n l) (i : Int) (h0 : 0 ≤ i) (h1 : i < n) :
    ∃ b o, A = some ⟨b, o, none⟩ ∧ b < B ∧ w.cell? ⟨b, o + i.toNat, none⟩ = some (.int k (l.getD i.toNat 0)) := by
  obtain ⟨b, o, e, ha, hc⟩ := h.2 (by omega)
  exact ⟨b, o, e, ha, hc _ (by omega)⟩

/-! ### what the package-level variables hold -/
/-- pointer.decoders and listsize.bits, below block B -/
structure Env (B : Nat) (w : World) : Prop where
  dec : ∃ r, r < B ∧ 0 < B ∧ w.cell? ⟨0, 0, none⟩ = some (.map (some r)) ∧ ∀ w' : World, w'.heap[r]? = w.heap[r]? →
    (Instr.lookup 172 (.map (some r)) (.int .i64 0) false).run Tryd.prog w' = .ok (.func (.func 197) #[] #[]) w' ∧
    (Instr.lookup 172 (.map (some r)) (.int .i64 1) false).run Tryd.prog w' = .ok (.func (.func 199) #[] #[]) w' ∧
    (Instr.lookup 172 (.map (some r)) (.int .i64 2) false).run Tryd.prog w' = .ok (.func (.func 200) #[] #[]) w' ∧
    (Instr.lookup 172 (.map (some r)) (.int .i64 3) false).run Tryd.prog w' = .ok (.func (.func 201) #[] #[]) w'
  bits : 1 < B ∧ ∀ j, j < 8 → w.cell? ⟨1, j, none⟩ = some (.int .i64 (bitsI (j : Int)))
theorem Env.mono {B B' : Nat} {w w' : World} (h : Env B w) (hb : Below B w w') (hB : B ≤ B') : Env B' w' := by
  obtain ⟨⟨r, hr, hg, hc, hl⟩, hg2, hb2⟩ := h
  refine ⟨⟨r, by omega, by omega, by rw [(bcell hb).1 _ _ hg]; exact hc, fun w'' hw => hl w'' ?_⟩, by omega, fun j hj => by rw [(bcell hb).1 _ _ hg2]; exact hb2 j hj⟩
  rw [hw]; exact hb.block r hr

/-! ### messages -/
def RS (B : Nat) (w : World) (A : Option Addr) (n : Nat) (ss : List (List Int)) : Prop :=
  ss.length = n ∧ (0 < n → ∃ b o, A = some ⟨b, o, none⟩ ∧ b < B ∧ ∀ j, j < n → ∃ A' c, w.cell? ⟨b, o + j, none⟩ = some (.slice A' (ss.getD j []).length c) ∧ (ss.getD j []).length ≤ c ∧ RW .u64 B w A' (ss.getD j []).length (ss.getD j []))
theorem RS.mono {B B' : Nat} {w w' : World} {A : Option Addr} {n : Nat} {ss : List (List Int)} (h : RS B w A n ss) (hb : Below B w w') (hB : B ≤ B') : RS B' w' A n ss :=
  ⟨h.1, fun hn => by
    obtain ⟨b, o, e, ha, hc⟩ := h.2 hn
    refine ⟨b, o, e, by omega, fun j hj => ?_⟩
    obtain ⟨A', c, h1, h2, h3⟩ := hc j hj
    exact ⟨A', c, by rw [(bcell hb).1 _ _ ha]; exact h1, h2, h3.mono hb hB⟩⟩
/-- the segment's header, under the bounds -/
theorem RS.seg {B : Nat} {w : World} {A : Option Addr} {n : Nat} {ss : List (List Int)} (h : RS B w A n ss) (i : Int) (h0 : 0 ≤ i) (h1 : i < n) :
    ∃ b o A' c, A = some ⟨b, o, none⟩ ∧ b < B ∧ w.cell? ⟨b, o + i.toNat, none⟩ = some (.slice A' (ss.getD i.toNat []).length c) ∧ (ss.getD i.toNat []).length ≤ c ∧ RW .u64 B w A' (ss.getD i.toNat []).length (ss.getD i.toNat []) := by
  obtain ⟨b, o, e, ha, hc⟩ := h.2 (by omega)
  obtain ⟨A', c, h1, h2, h3⟩ := hc i.toNat (by omega)
  exact ⟨b, o, A', c, e, ha, h1, h2, h3⟩
/-- the cells on the way to a word, under the bounds -/
theorem RS.word {B : Nat} {w : World} {A : Option Addr} {n : Nat} {ss : List (List Int)} (h : RS B w A n ss) {seg at_ k : Int} (hk : 1 ≤ k) (hb : inB ss seg at_ k = true) :
    ∃ b o b' o' c, A = some ⟨b, o, none⟩ ∧ w.cell? ⟨b, o + seg.toNat, none⟩ = some (.slice (some ⟨b', o', none⟩) (ss.getD seg.toNat []).length c) ∧ (ss.getD seg.toNat []).length ≤ c ∧ w.cell? ⟨b', o' + at_.toNat, none⟩ = some (.int .u64 (wordAt ss seg at_)) ∧ b < B ∧ b' < B := by
  obtain ⟨h0, h1, h2, h3, h4, h5⟩ := inB_of hb
  have hl := h.1
  obtain ⟨b, o, A', c, e, ha, hc, hlc, hr⟩ := h.seg seg h0 (by omega)
  have hs : segLen ss seg = ((ss.getD seg.toNat []).length : Int) := rfl
  obtain ⟨b', o', rfl, hbb, hcell⟩ := hr.at_ at_ h2 (by omega)
  exact ⟨b, o, b', o', c, e, hc, hlc, hcell, ha, hbb⟩
def uns (k : IntKind) (l : List Int) : List Value := l.map (Value.int k)
theorem uns_length (k : IntKind) (l : List Int) : (uns k l).length = l.length := by simp [uns]
theorem uns_get (k : IntKind) (l : List Int) (j : Nat) (v : Value) (h : (uns k l)[j]? = some v) : j < l.length ∧ v = .int k (l.getD j 0) := by
  simp only [uns, List.getElem?_map, Option.map_eq_some_iff] at h
  obtain ⟨x, hx, rfl⟩ := h
  have := (List.getElem?_eq_some_iff.1 hx).1
  exact ⟨this, by rw [List.getD_eq_getElem?_getD, hx]; rfl⟩
theorem uns_one (k : IntKind) (l : List Int) : ∀ v ∈ uns k l, v.oneCell' = true := by
  intro v hv
  obtain ⟨x, _, rfl⟩ := List.mem_map.1 hv
  rfl
theorem madeList (k : IntKind) (m : Nat) : (madeCells #[Value.int k 0] m).toList = uns k (List.replicate m 0) := by
  apply List.ext_getElem
  · simp [uns, madeCells]
  · intro i h1 h2
    simp [uns, madeCells, Nat.mod_one]
/-- a row known whole is read -/
theorem RW.of_block {k : IntKind} {w : World} {g : Nat} {T : TypeId} {fr : Nat × Nat} {l : List Int} {B : Nat} (h : w.heap[g]? = some (.cells (uns k l).toArray T fr)) (hB : g < B) (n : Nat) (hn : l.length = n) : RW k B w (some ⟨g, 0, none⟩) n l := by
  refine ⟨hn, fun _ => ⟨g, 0, rfl, hB, fun j hj => ?_⟩⟩
  simp [World.cell?, h, uns, List.getElem?_eq_getElem (show j < l.length by omega)]
/-- copy into a whole row that was just made: the row then holds the cells that were copied -/
theorem copy_made {P : Program} {w : World} (dT sT ty elem : TypeId) (hu : P.underlying dT = some (.slice elem)) (hs : (P.info? elem).map (·.size) = some 1) (k : IntKind) (m : Nat) (a : Addr) (sLen sCap : Nat) (X : List Value)
    (hX : X.length = m) (hm : m ≤ sLen) (hsrc : ∀ j v, X[j]? = some v → (w.alloc (.cells (madeCells #[.int k 0] m) elem)).cell? (a.add j) = some v) (h1 : ∀ v ∈ X, v.oneCell' = true) :
    ∃ w2, (Builtin.copy_ #[dT, sT] ty #[.slice (some ⟨w.heap.size, 0, none⟩) m m, .slice (some a) sLen sCap]).run P (w.alloc (.cells (madeCells #[.int k 0] m) elem)) = .ok (.int .i64 (m : Int)) w2 ∧
      w2.heap[w.heap.size]? = some (.cells X.toArray elem (0, 0)) ∧ Below w.heap.size w w2 ∧ w2.heap.size = w.heap.size + 1 := by
  have hg := heap_alloc_new w (.cells (madeCells #[.int k 0] m) elem)
  have hr := run_copy_row (P := P) (w.alloc (.cells (madeCells #[.int k 0] m) elem)) dT sT ty elem w.heap.size 0 m m a sLen sCap (madeCells #[.int k 0] m) elem X hu hs hg (by rw [hX]; exact (Nat.min_eq_right hm).symm) hsrc (by rw [size_madeCells, hX]; omega) h1
  refine ⟨(w.alloc (.cells (madeCells #[.int k 0] m) elem)).setRow w.heap.size X.toArray, ?_, ?_, ?_, ?_⟩
  rotate_left
  · exact setRow_heap _ _ _ X.toArray _ _ hg
  · exact below_setRow ((Below.refl _ _).alloc (Nat.le_refl _) _) (Nat.le_refl _) _
  · simp [World.setRow]
  · rw [hr]
    have e : (madeCells #[Value.int k 0] m).toList.drop X.length = [] := List.drop_eq_nil_of_le (by rw [madeList, uns_length, List.length_replicate]; omega)
    rw [Nat.zero_add, e, hX]
    simp [goInt]
/-- the call returns a slice of numbers (handed through f), new or old, and turns nothing that was there -/
def SlPost (k : IntKind) (w : World) (l : List Int) (f : Value → Value) (e : Ending) (w' : World) : Prop :=
  ∃ A c, e = .returned (f (.slice A l.length c)) ∧ l.length ≤ c ∧ RW k w'.heap.size w' A l.length l ∧ Below w.heap.size w w'
/-- the call returns a value and turns nothing that was there -/
def VPost (w : World) (v : Value) (e : Ending) (w' : World) : Prop := e = .returned v ∧ Below w.heap.size w w'
/-- a skolem form for the walk: header facts that hold under the bounds -/
theorem RS.sk {B : Nat} {w : World} {A : Option Addr} {n : Nat} {ss : List (List Int)} (h : RS B w A n ss) (i : Int) :
    ∃ b o A' c, (A = some ⟨b, o, none⟩ ∨ n = 0) ∧ (0 ≤ i → i < (n : Int) → w.cell? ⟨b, o + i.toNat, none⟩ = some (.slice A' (ss.getD i.toNat []).length c)) := by
  rcases Nat.eq_zero_or_pos n with h0 | h0
  · exact ⟨0, 0, none, 0, .inr h0, fun _ _ => by omega⟩
  · by_cases hi : 0 ≤ i ∧ i < (n : Int)
    · obtain ⟨b, o, A', c, e, ha, h1, _, h3⟩ := h.seg i hi.1 hi.2
      exact ⟨b, o, A', c, .inl e, fun _ _ => h1⟩
    · obtain ⟨b, o, e, ha, _⟩ := h.2 h0
      exact ⟨b, o, none, 0, .inl e, fun h1 h2 => absurd ⟨h1, h2⟩ hi⟩
end Go.Proofs.YtelghkgnkncnoaaDoor
/- Contracts of packages word, pointer (decode), arena, budget, listsize. -/
set_option linter.unusedVariables false
namespace Go.Proofs.YtelghkgnkncnoaaDoor
open Go.RowKit
theorem InBounds_any {B : Nat} {w : World} {A : Option Addr} {n c : Nat} {ss : List (List Int)} (hS : RS B w A n ss) (hw : WFS ss) (seg at_ k : Int) :
    Calls Tryd.prog 166 #[.slice A n c, .int .i64 seg, .int .i64 at_, .int .i64 k] w fun e w' => e = .returned (.bool (inB ss seg at_ k)) ∧ w' = w := by
  obtain ⟨b, o, A', c', ha, hc1⟩ := hS.sk seg
  have hl : ss.length = n := hS.1
  have hb := segLen_bd hw seg
  have hsl : segLen ss seg = ((ss.getD seg.toNat []).length : Int) := rfl
  have hlen := hw.len
  rcases ha with rfl | h0
  · generalize hL : (ss.getD seg.toNat []).length = L at *
    have HL := Lib.hid hL; clear hL
    have HS := Lib.hid hsl; clear hsl
    have Hl := Lib.hid hl; clear hl
    clear hS hw
    have hb1 : (L : Int) ≤ 1000000 := by rw [← HS.out]; exact hb.2
    clear hb
    go_enter Tryd.func166, Tryd.ntmps166
    go_wp2
    all_goals (go_ret; refine ⟨ret_bool ?_, rfl⟩; unfold inB; rw [HS.out, Hl.out])
    all_goals first | exact (decide_eq_false (by omega)).symm | exact decide_eq_decide.2 (by omega)
  · have h1 : inB ss seg at_ k = false := by unfold inB; rw [hl]; exact decide_eq_false (by omega)
    subst h0
    clear hc1 hS hw hl hsl hb hlen
    have H1 := Lib.hid h1; clear h1
    go_enter Tryd.func166, Tryd.ntmps166
    go_wp2
    all_goals (go_ret; exact ⟨ret_bool H1.out.symm, rfl⟩)
theorem Word_any {B : Nat} {w : World} {A : Option Addr} {n c : Nat} {ss : List (List Int)} (hS : RS B w A n ss) (hw : WFS ss) (seg at_ : Int) :
    Calls Tryd.prog 129 #[.slice A n c, .int .i64 seg, .int .i64 at_] w fun e w' => e = .returned (.tuple #[.int .u64 (if inB ss seg at_ 1 then wordAt ss seg at_ else 0), .bool (inB ss seg at_ 1)]) ∧ w' = w := by
  by_cases hb : inB ss seg at_ 1 = true
  · obtain ⟨b, o, b', o', c', rfl, h1, _, h2, _, _⟩ := hS.word (Int.le_refl 1) hb
    obtain ⟨g0, g1, g2, g3, g4, g5⟩ := inB_of hb
    rw [hS.1] at g1
    have g6 : at_ < ((ss.getD seg.toNat []).length : Int) := by unfold segLen at g5; omega
    clear g3 g4 g5
    have hK := InBounds_any (c := c) hS hw seg at_ 1
    rw [hb] at hK ⊢
    have HK := Lib.hid hK
    clear hS hw hb hK
    go_enter Tryd.func129, Tryd.ntmps129
    go_wp2_with (go_at_call 166; refine HK.out.mono ?_; rintro e w' ⟨rfl, rfl⟩)
    go_ret2
    exact ⟨rfl, rfl⟩
  · have hb' : inB ss seg at_ 1 = false := by simpa using hb
    have hK := InBounds_any (c := c) hS hw seg at_ 1
    rw [hb'] at hK ⊢
    have HK := Lib.hid hK
    clear hS hw hb hb' hK
    go_enter Tryd.func129, Tryd.ntmps129
    go_wp2_with (go_at_call 166; refine HK.out.mono ?_; rintro e w' ⟨rfl, rfl⟩)
    go_ret2
    exact ⟨rfl, rfl⟩
theorem makeU64 (m : Nat) (hm : m ≤ 1000000) : ∀ W : World, (Instr.makeSlice 31 (.int .i64 (m : Int)) (.int .i64 (m : Int))).run Tryd.prog W = .ok (.slice (some ⟨W.heap.size, 0, none⟩) m m) (W.alloc (.cells (madeCells #[.int .u64 0] m) 36)) := by
  intro W
  exact run_make_row' 31 36 (.int .u64 0) 8 Tryd.underlying31 (by kernel_rfl) rfl .i64 .i64 m (by omega) (by omega) W
theorem Slice_no {B : Nat} {w : World} {A : Option Addr} {n c : Nat} {ss : List (List Int)} (hS : RS B w A n ss) (hw : WFS ss) (seg at_ k : Int) (hb : inB ss seg at_ k = false) :
    Calls Tryd.prog 127 #[.slice A n c, .int .i64 seg, .int .i64 at_, .int .i64 k] w fun e w' => e = .returned (.tuple #[.slice none 0 0, .bool false]) ∧ w' = w := by
  have hK := InBounds_any (c := c) hS hw seg at_ k
  rw [hb] at hK
  have HK := Lib.hid hK
  clear hS hw hb hK
  go_enter Tryd.func127, Tryd.ntmps127
  go_wp2_with (go_at_call 166; refine HK.out.mono ?_; rintro e w' ⟨rfl, rfl⟩)
  go_ret2
  exact ⟨rfl, rfl⟩
set_option maxRecDepth 100000 in
theorem Slice_yes {B : Nat} {w : World} {A : Option Addr} {n c : Nat} {ss : List (List Int)} (hS : RS B w A n ss) (hw : WFS ss) (hB : B ≤ w.heap.size) (seg at_ k : Int) (hb : inB ss seg at_ k = true) :
    Calls Tryd.prog 127 #[.slice A n c, .int .i64 seg, .int .i64 at_, .int .i64 k] w (SlPost .u64 w (rangeAt ss seg at_ k) fun v => .tuple #[v, .bool true]) := by
  have hK := InBounds_any (c := c) hS hw seg at_ k
  rw [hb] at hK
  obtain ⟨g0, g1, g2, g3, g4, g5⟩ := inB_of hb
  rw [hS.1] at g1
  obtain ⟨b, o, A', c', rfl, hab, h1, hlc, hR⟩ := hS.seg seg g0 g1
  have hbd := segLen_bd hw seg
  have hsl : segLen ss seg = ((ss.getD seg.toNat []).length : Int) := rfl
  rw [hsl] at g4 g5 hbd
  have hlen := rangeAt_length hb
  generalize hL : (ss.getD seg.toNat []).length = L at *
  obtain ⟨m, rfl⟩ := Int.eq_ofNat_of_zero_le g3
  obtain ⟨p, rfl⟩ := Int.eq_ofNat_of_zero_le g2
  simp only [Int.toNat_natCast] at hlen
  have HK := Lib.hid hK
  have HR := Lib.hid hR
  have HL := Lib.hid hL
  have Hlen := Lib.hid hlen
  have hmk := makeU64 m (by omega)
  have hbw : b < w.heap.size := by omega
  have g6 : p ≤ L := by omega
  have g7 : m ≤ L - p := by omega
  obtain ⟨X, hX⟩ : ∃ X, X = uns .u64 (rangeAt ss seg p m) := ⟨_, rfl⟩
  have hXl : X.length = m := by rw [hX, uns_length, hlen]
  have hsrc : 0 < m → ∃ b2 o2, A' = some ⟨b2, o2, none⟩ ∧ ∀ o (j : Nat) v, X[j]? = some v → (w.alloc o).cell? ⟨b2, o2 + p + j, none⟩ = some v := by
    intro hm
    obtain ⟨b2, o2, e2, hb2, hc2⟩ := hR.2 (by omega)
    refine ⟨b2, o2, e2, fun o j v hv => ?_⟩
    rw [hX] at hv
    obtain ⟨hj, rfl⟩ := uns_get _ _ _ _ hv
    rw [hlen] at hj
    have h2 := hc2 (p + j) (by omega)
    have hal : Below B w (w.alloc o) := (Below.refl _ _).alloc hB o
    rw [(bcell hal).1 _ _ hb2, Nat.add_assoc, h2]
    unfold rangeAt
    simp only [Int.toNat_natCast]
    rw [getD_drop_take _ _ _ _ hj]
  have Hsrc := Lib.hid hsrc
  have HXl := Lib.hid hXl
  have HX := Lib.hid hX
  have h1X : ∀ v ∈ X, v.oneCell' = true := by rw [hX]; exact uns_one _ _
  have H1X := Lib.hid h1X
  clear hS hw hb hK hR hL hlen g3 g2 g4 g5 hsl hX hXl hsrc h1X
  by_cases hm0 : m = 0
  · subst hm0
    have hmk0 : ∀ W : World, (Instr.makeSlice 31 (.int .i64 0) (.int .i64 0)).run Tryd.prog W = .ok (.slice (some ⟨W.heap.size, 0, none⟩) 0 0) (W.alloc (.cells (madeCells #[.int .u64 0] 0) 36)) := makeU64 0 (by omega)
    clear hmk
    have hc0 : ∀ (W : World) (d a : Option Addr) (dCap sLen sCap : Nat), (Builtin.copy_ #[31, 31] 3 #[.slice d 0 dCap, .slice a sLen sCap]).run Tryd.prog W = .ok (goInt 0) W :=
      fun W d a dCap sLen sCap => run_copy_none W _ _ _ 36 _ _ _ _ _ _ Tryd.underlying31 (by kernel_rfl) (Nat.min_zero _)
    go_enter Tryd.func127, Tryd.ntmps127
    go_wp2_with (first | (go_at_call 166; refine HK.out.mono ?_; rintro e w' ⟨rfl, rfl⟩))
    all_goals (go_ret2; rw [show rangeAt ss seg p 0 = [] from List.eq_nil_of_length_eq_zero Hlen.out]; exact ⟨_, _, rfl, Nat.le_refl _, RW.nil _ _ _ _, (Below.refl _ _).alloc (Nat.le_refl _) _⟩)
  · obtain ⟨b2, o2, rfl, hsrc⟩ := Hsrc.out (by omega)
    have hcp : ¬ c' = p := by omega
    obtain ⟨w2, hrun, hblk, hbel, hsz⟩ := copy_made (w := w) 31 31 3 36 Tryd.underlying31 (by kernel_rfl) .u64 m ⟨b2, o2 + p, none⟩ (L - p) (c' - p) X HXl.out g7
      (fun j v hv => by
        have := hsrc (.cells (madeCells #[.int .u64 0] m) 36) j v hv
        have e : (⟨b2, o2 + p, none⟩ : Addr).add j = ⟨b2, o2 + p + j, none⟩ := by unfold Addr.add; split <;> simp_all
        rw [e]; exact this) H1X.out
    have Hb := Lib.hid (And.intro hblk (And.intro hbel hsz))
    clear hsrc hblk hbel hsz
    go_enter Tryd.func127, Tryd.ntmps127
    go_wp2_with (first | (go_at_call 166; refine HK.out.mono ?_; rintro e w' ⟨rfl, rfl⟩))
    go_ret2
    obtain ⟨hblk, hbel, hsz⟩ := Hb.out
    rw [HX.out] at hblk
    refine ⟨_, m, ?_, ?_, RW.of_block hblk (by omega) _ rfl, hbel⟩
    · rw [Hlen.out]; rfl
    · rw [Hlen.out]; exact Nat.le_refl _
end Go.Proofs.YtelghkgnkncnoaaDoor
/- Contracts of packages word and pointer: fields of a word, decoding. -/
set_option linter.unusedVariables false
set_option linter.unusedSimpArgs false
namespace Go.Proofs.YtelghkgnkncnoaaDoor
open Go.RowKit
theorem below_step {w W w1 : World} (h : Below w.heap.size w W) (hb : Below W.heap.size W w1) : Below w.heap.size w w1 := h.trans (hb.mono h.size)
theorem mask_any (n : Int) (w : World) (h0 : 1 ≤ n) (h1 : n ≤ 64) : Calls Tryd.prog 168 #[.int .i64 n] w fun e w' => e = .returned (.int .u64 (18446744073709551615 / 2 ^ (64 - n).toNat)) ∧ w' = w := by
  go_enter Tryd.func168, Tryd.ntmps168
  go_wp2
  go_ret
  exact ⟨rfl, rfl⟩
theorem Field_any (x a n : Int) (w : World) (hx : U64 x) (a0 : 0 ≤ a) (a1 : a ≤ 63) (h0 : 1 ≤ n) (h1 : n ≤ 64) : Calls Tryd.prog 133 #[.int .u64 x, .int .i64 a, .int .i64 n] w fun e w' => e = .returned (.int .u64 (fieldI x a n)) ∧ w' = w := by
  have H := Lib.hid (and_mask (x / 2 ^ a.toNat) n (hx.shr _) h0 h1)
  clear hx
  go_enter Tryd.func133, Tryd.ntmps133
  go_wp2_with (go_at_call 168; refine (mask_any _ _ (by omega) (by omega)).mono ?_; rintro e w' ⟨rfl, rfl⟩)
  go_ret
  exact ⟨ret_int H.out, rfl⟩
theorem IsNull_any (x : Int) (w : World) : Calls Tryd.prog 78 #[.int .u64 x] w fun e w' => e = .returned (.bool (x == 0)) ∧ w' = w := by
  go_enter Tryd.func78, Tryd.ntmps78
  go_wp2
  go_ret
  exact ⟨rfl, rfl⟩
theorem Signed_any (x : Int) (w : World) (hx : U64 x) : Calls Tryd.prog 198 #[.int .u64 x, .int .i64 2, .int .i64 30] w fun e w' => e = .returned (.int .i64 (signedI x 2 30)) ∧ w' = w := by
  have H := Lib.hid (signed_eq x hx)
  clear hx
  go_enter Tryd.func198, Tryd.ntmps198
  go_wp2
  go_ret
  exact ⟨ret_int H.out, rfl⟩
theorem dec1 (x : Int) (w : World) (hx : U64 x) : Calls Tryd.prog 197 #[.int .u64 x] w (VPost w (.agg #[.int .i64 0, .int .i64 (signedI x 2 30), .int .i64 (fieldI x 32 16), .int .i64 (fieldI x 48 16), .int .i64 0, .int .i64 0, .bool false, .int .i64 0, .int .u32 0, .int .u32 0])) := by
  have b0 : 0 ≤ fieldI x 32 16 ∧ fieldI x 32 16 < 65536 := fieldI_bd x 32 16
  have b1 : 0 ≤ fieldI x 48 16 ∧ fieldI x 48 16 < 65536 := fieldI_bd x 48 16
  have HX := Lib.hid hx
  clear hx
  go_enter Tryd.func197, Tryd.ntmps197
  go_wp2_with (first | (go_at_call 133; refine (Field_any _ _ _ _ HX.out (by omega) (by omega) (by omega) (by omega)).mono ?_; rintro e w' ⟨rfl, rfl⟩) | (go_at_call 198; refine (Signed_any _ _ HX.out).mono ?_; rintro e w' ⟨rfl, rfl⟩))
  refine bodyPost_ret (v := .agg #[.int .i64 0, .int .i64 (signedI x 2 30), .int .i64 (fieldI x 32 16), .int .i64 (fieldI x 48 16), .int .i64 0, .int .i64 0, .bool false, .int .i64 0, .int .u32 0, .int .u32 0]) ((results_blk _ st_Pointer rfl _ (w.heap.size ) rfl (by simp [go_sem]) (by simp [go_sem])).trans (by simp [go_sem]; try omega)) rfl ⟨rfl, ?_⟩
  (repeat (first | exact Below.refl _ _ | assumption | refine Below.setCell ?_ (by (try simp); (try omega)) _ | refine Below.alloc ?_ (by (try simp); (try omega)) _ | refine below_setRow ?_ (by (try simp); (try omega)) _ | refine pw_below_drewN ?_ _ | refine Below.drew ?_))
theorem dec2 (x : Int) (w : World) (hx : U64 x) : Calls Tryd.prog 199 #[.int .u64 x] w (VPost w (.agg #[.int .i64 0, .int .i64 (signedI x 2 30), .int .i64 0, .int .i64 0, .int .i64 (fieldI x 32 3), .int .i64 (fieldI x 35 29), .bool false, .int .i64 0, .int .u32 0, .int .u32 0])) := by
  have b0 : 0 ≤ fieldI x 32 3 ∧ fieldI x 32 3 < 8 := fieldI_bd x 32 3
  have b1 : 0 ≤ fieldI x 35 29 ∧ fieldI x 35 29 < 536870912 := fieldI_bd x 35 29
  have HX := Lib.hid hx
  clear hx
  go_enter Tryd.func199, Tryd.ntmps199
  go_wp2_with (first | (go_at_call 133; refine (Field_any _ _ _ _ HX.out (by omega) (by omega) (by omega) (by omega)).mono ?_; rintro e w' ⟨rfl, rfl⟩) | (go_at_call 198; refine (Signed_any _ _ HX.out).mono ?_; rintro e w' ⟨rfl, rfl⟩))
  refine bodyPost_ret (v := .agg #[.int .i64 0, .int .i64 (signedI x 2 30), .int .i64 0, .int .i64 0, .int .i64 (fieldI x 32 3), .int .i64 (fieldI x 35 29), .bool false, .int .i64 0, .int .u32 0, .int .u32 0]) ((results_blk _ st_Pointer rfl _ (w.heap.size ) rfl (by simp [go_sem]) (by simp [go_sem])).trans (by simp [go_sem]; try omega)) rfl ⟨rfl, ?_⟩
  (repeat (first | exact Below.refl _ _ | assumption | refine Below.setCell ?_ (by (try simp); (try omega)) _ | refine Below.alloc ?_ (by (try simp); (try omega)) _ | refine below_setRow ?_ (by (try simp); (try omega)) _ | refine pw_below_drewN ?_ _ | refine Below.drew ?_))
theorem dec3 (x : Int) (w : World) (hx : U64 x) : Calls Tryd.prog 200 #[.int .u64 x] w (VPost w (.agg #[.int .i64 0, .int .i64 0, .int .i64 0, .int .i64 0, .int .i64 0, .int .i64 0, .bool (fieldI x 2 1 == 1), .int .i64 (fieldI x 3 29), .int .u32 (fieldI x 32 32), .int .u32 0])) := by
  have b0 : 0 ≤ fieldI x 2 1 ∧ fieldI x 2 1 < 2 := fieldI_bd x 2 1
  have b1 : 0 ≤ fieldI x 3 29 ∧ fieldI x 3 29 < 536870912 := fieldI_bd x 3 29
  have b2 : 0 ≤ fieldI x 32 32 ∧ fieldI x 32 32 < 4294967296 := fieldI_bd x 32 32
  have HX := Lib.hid hx
  clear hx
  go_enter Tryd.func200, Tryd.ntmps200
  go_wp2_with (first | (go_at_call 133; refine (Field_any _ _ _ _ HX.out (by omega) (by omega) (by omega) (by omega)).mono ?_; rintro e w' ⟨rfl, rfl⟩) | (go_at_call 198; refine (Signed_any _ _ HX.out).mono ?_; rintro e w' ⟨rfl, rfl⟩))
  refine bodyPost_ret (v := .agg #[.int .i64 0, .int .i64 0, .int .i64 0, .int .i64 0, .int .i64 0, .int .i64 0, .bool (fieldI x 2 1 == 1), .int .i64 (fieldI x 3 29), .int .u32 (fieldI x 32 32), .int .u32 0]) ((results_blk _ st_Pointer rfl _ (w.heap.size ) rfl (by simp [go_sem]) (by simp [go_sem])).trans (by simp [go_sem]; try omega)) rfl ⟨rfl, ?_⟩
  (repeat (first | exact Below.refl _ _ | assumption | refine Below.setCell ?_ (by (try simp); (try omega)) _ | refine Below.alloc ?_ (by (try simp); (try omega)) _ | refine below_setRow ?_ (by (try simp); (try omega)) _ | refine pw_below_drewN ?_ _ | refine Below.drew ?_))
theorem dec4 (x : Int) (w : World) (hx : U64 x) : Calls Tryd.prog 201 #[.int .u64 x] w (VPost w (.agg #[.int .i64 0, .int .i64 0, .int .i64 0, .int .i64 0, .int .i64 0, .int .i64 0, .bool false, .int .i64 0, .int .u32 (fieldI x 32 32), .int .u32 (fieldI x 2 30)])) := by
  have b0 : 0 ≤ fieldI x 2 30 ∧ fieldI x 2 30 < 1073741824 := fieldI_bd x 2 30
  have b1 : 0 ≤ fieldI x 32 32 ∧ fieldI x 32 32 < 4294967296 := fieldI_bd x 32 32
  have HX := Lib.hid hx
  clear hx
  go_enter Tryd.func201, Tryd.ntmps201
  go_wp2_with (first | (go_at_call 133; refine (Field_any _ _ _ _ HX.out (by omega) (by omega) (by omega) (by omega)).mono ?_; rintro e w' ⟨rfl, rfl⟩) | (go_at_call 198; refine (Signed_any _ _ HX.out).mono ?_; rintro e w' ⟨rfl, rfl⟩))
  refine bodyPost_ret (v := .agg #[.int .i64 0, .int .i64 0, .int .i64 0, .int .i64 0, .int .i64 0, .int .i64 0, .bool false, .int .i64 0, .int .u32 (fieldI x 32 32), .int .u32 (fieldI x 2 30)]) ((results_blk _ st_Pointer rfl _ (w.heap.size ) rfl (by simp [go_sem]) (by simp [go_sem])).trans (by simp [go_sem]; try omega)) rfl ⟨rfl, ?_⟩
  (repeat (first | exact Below.refl _ _ | assumption | refine Below.setCell ?_ (by (try simp); (try omega)) _ | refine Below.alloc ?_ (by (try simp); (try omega)) _ | refine below_setRow ?_ (by (try simp); (try omega)) _ | refine pw_below_drewN ?_ _ | refine Below.drew ?_))
end Go.Proofs.YtelghkgnkncnoaaDoor
/- Contract of pointer.Decode. -/
set_option linter.unusedVariables false
set_option linter.unusedSimpArgs false
namespace Go.Proofs.YtelghkgnkncnoaaDoor
open Go.RowKit
set_option maxHeartbeats 1000000 in
theorem Decode_any {B : Nat} {w : World} (hE : Env B w) (hB : B ≤ w.heap.size) (x : Int) (hx : U64 x) : Calls Tryd.prog 79 #[.int .u64 x] w (VPost w (vPtr (decodeI x))) := by
  obtain ⟨r, hr, hg, hc, hl⟩ := hE.dec
  have b1 : 0 ≤ fieldI x 0 2 ∧ fieldI x 0 2 < 4 := fieldI_bd x 0 2
  have HX := Lib.hid hx
  clear hx hE
  have hk : fieldI x 0 2 = 0 ∨ fieldI x 0 2 = 1 ∨ fieldI x 0 2 = 2 ∨ fieldI x 0 2 = 3 := by omega
  have hrw : r < w.heap.size := by omega
  have hgw : 0 < w.heap.size := by omega
  have hl0 := fun o => (hl (w.alloc o) (Below.heap_alloc _ _ _ hrw))
  clear hl hB hr hg
  rcases hk with hk | hk | hk | hk
  · have hl1 := fun o => (hl0 o).1
    have hd : decodeI x = ⟨0, signedI x 2 30, fieldI x 32 16, fieldI x 48 16, 0, 0, false, 0, 0, 0⟩ := by unfold decodeI; rw [hk]; rfl
    rw [hd]
    have Hk := Lib.hid hk
    clear hl0 hk hd
    go_enter Tryd.func79, Tryd.ntmps79
    go_wp2_with (first | (go_at_call 133; refine (Field_any _ _ _ _ HX.out (by omega) (by omega) (by omega) (by omega)).mono ?_; rw [Hk.out]; rintro e w' ⟨rfl, rfl⟩) | (go_at_call 197; refine (dec1 _ _ HX.out).mono ?_; rintro e w1 ⟨rfl, hb1⟩; have hB1 := below_step (w := w) (by (repeat (first | exact Below.refl _ _ | assumption | refine Below.setCell ?_ (by (try simp); (try omega)) _ | refine Below.alloc ?_ (by (try simp); (try omega)) _ | refine below_setRow ?_ (by (try simp); (try omega)) _ | refine pw_below_drewN ?_ _ | refine Below.drew ?_))) hb1; obtain ⟨hc1, hf1⟩ := bcell hb1; have hd1 := blk_below hb1; have hs1 := hB1.size; have hz1_0 : w.heap.size < w1.heap.size := (by have hq := hb1.size; (try simp at hq); omega); have hy1_0 : w.heap.size ≠ w1.heap.size := Nat.ne_of_lt hz1_0; have hk1_0 := hd1 (w.heap.size) (by (try simp); (try omega)); (try simp (disch := first | omega | (simp; omega)) only [blk_setRow_far, blk_alloc_past, blk_setCell_far, blk_drewN, blk_drew] at hk1_0)))
    refine bodyPost_ret (v := vPtr ⟨0, signedI x 2 30, fieldI x 32 16, fieldI x 48 16, 0, 0, false, 0, 0, 0⟩) ((results_blk _ st_Pointer rfl _ (w.heap.size ) rfl (by simp [go_sem, hd1, hz1_0, hy1_0]) (by simp [go_sem, hd1, hz1_0, hy1_0])).trans (by simp [go_sem, hd1, hz1_0, hy1_0]; try omega)) rfl ⟨rfl, ?_⟩
    (repeat (first | exact Below.refl _ _ | assumption | refine Below.setCell ?_ (by (try simp); (try omega)) _ | refine Below.alloc ?_ (by (try simp); (try omega)) _ | refine below_setRow ?_ (by (try simp); (try omega)) _ | refine pw_below_drewN ?_ _ | refine Below.drew ?_))
  · have hl1 := fun o => (hl0 o).2.1
    have hd : decodeI x = ⟨1, signedI x 2 30, 0, 0, fieldI x 32 3, fieldI x 35 29, false, 0, 0, 0⟩ := by unfold decodeI; rw [hk]; rfl
    rw [hd]
    have Hk := Lib.hid hk
    clear hl0 hk hd
    go_enter Tryd.func79, Tryd.ntmps79
    go_wp2_with (first | (go_at_call 133; refine (Field_any _ _ _ _ HX.out (by omega) (by omega) (by omega) (by omega)).mono ?_; rw [Hk.out]; rintro e w' ⟨rfl, rfl⟩) | (go_at_call 199; refine (dec2 _ _ HX.out).mono ?_; rintro e w1 ⟨rfl, hb1⟩; have hB1 := below_step (w := w) (by (repeat (first | exact Below.refl _ _ | assumption | refine Below.setCell ?_ (by (try simp); (try omega)) _ | refine Below.alloc ?_ (by (try simp); (try omega)) _ | refine below_setRow ?_ (by (try simp); (try omega)) _ | refine pw_below_drewN ?_ _ | refine Below.drew ?_))) hb1; obtain ⟨hc1, hf1⟩ := bcell hb1; have hd1 := blk_below hb1; have hs1 := hB1.size; have hz1_0 : w.heap.size < w1.heap.size := (by have hq := hb1.size; (try simp at hq); omega); have hy1_0 : w.heap.size ≠ w1.heap.size := Nat.ne_of_lt hz1_0; have hk1_0 := hd1 (w.heap.size) (by (try simp); (try omega)); (try simp (disch := first | omega | (simp; omega)) only [blk_setRow_far, blk_alloc_past, blk_setCell_far, blk_drewN, blk_drew] at hk1_0)))
    refine bodyPost_ret (v := vPtr ⟨1, signedI x 2 30, 0, 0, fieldI x 32 3, fieldI x 35 29, false, 0, 0, 0⟩) ((results_blk _ st_Pointer rfl _ (w.heap.size ) rfl (by simp [go_sem, hd1, hz1_0, hy1_0]) (by simp [go_sem, hd1, hz1_0, hy1_0])).trans (by simp [go_sem, hd1, hz1_0, hy1_0]; try omega)) rfl ⟨rfl, ?_⟩
    (repeat (first | exact Below.refl _ _ | assumption | refine Below.setCell ?_ (by (try simp); (try omega)) _ | refine Below.alloc ?_ (by (try simp); (try omega)) _ | refine below_setRow ?_ (by (try simp); (try omega)) _ | refine pw_below_drewN ?_ _ | refine Below.drew ?_))
  · have hl1 := fun o => (hl0 o).2.2.1
    have hd : decodeI x = ⟨2, 0, 0, 0, 0, 0, fieldI x 2 1 == 1, fieldI x 3 29, fieldI x 32 32, 0⟩ := by unfold decodeI; rw [hk]; rfl
    rw [hd]
    have Hk := Lib.hid hk
    clear hl0 hk hd
    go_enter Tryd.func79, Tryd.ntmps79
    go_wp2_with (first | (go_at_call 133; refine (Field_any _ _ _ _ HX.out (by omega) (by omega) (by omega) (by omega)).mono ?_; rw [Hk.out]; rintro e w' ⟨rfl, rfl⟩) | (go_at_call 200; refine (dec3 _ _ HX.out).mono ?_; rintro e w1 ⟨rfl, hb1⟩; have hB1 := below_step (w := w) (by (repeat (first | exact Below.refl _ _ | assumption | refine Below.setCell ?_ (by (try simp); (try omega)) _ | refine Below.alloc ?_ (by (try simp); (try omega)) _ | refine below_setRow ?_ (by (try simp); (try omega)) _ | refine pw_below_drewN ?_ _ | refine Below.drew ?_))) hb1; obtain ⟨hc1, hf1⟩ := bcell hb1; have hd1 := blk_below hb1; have hs1 := hB1.size; have hz1_0 : w.heap.size < w1.heap.size := (by have hq := hb1.size; (try simp at hq); omega); have hy1_0 : w.heap.size ≠ w1.heap.size := Nat.ne_of_lt hz1_0; have hk1_0 := hd1 (w.heap.size) (by (try simp); (try omega)); (try simp (disch := first | omega | (simp; omega)) only [blk_setRow_far, blk_alloc_past, blk_setCell_far, blk_drewN, blk_drew] at hk1_0)))
    refine bodyPost_ret (v := vPtr ⟨2, 0, 0, 0, 0, 0, fieldI x 2 1 == 1, fieldI x 3 29, fieldI x 32 32, 0⟩) ((results_blk _ st_Pointer rfl _ (w.heap.size ) rfl (by simp [go_sem, hd1, hz1_0, hy1_0]) (by simp [go_sem, hd1, hz1_0, hy1_0])).trans (by simp [go_sem, hd1, hz1_0, hy1_0]; try omega)) rfl ⟨rfl, ?_⟩
    (repeat (first | exact Below.refl _ _ | assumption | refine Below.setCell ?_ (by (try simp); (try omega)) _ | refine Below.alloc ?_ (by (try simp); (try omega)) _ | refine below_setRow ?_ (by (try simp); (try omega)) _ | refine pw_below_drewN ?_ _ | refine Below.drew ?_))
  · have hl1 := fun o => (hl0 o).2.2.2
    have hd : decodeI x = ⟨3, 0, 0, 0, 0, 0, false, 0, fieldI x 32 32, fieldI x 2 30⟩ := by unfold decodeI; rw [hk]; rfl
    rw [hd]
    have Hk := Lib.hid hk
    clear hl0 hk hd
    go_enter Tryd.func79, Tryd.ntmps79
    go_wp2_with (first | (go_at_call 133; refine (Field_any _ _ _ _ HX.out (by omega) (by omega) (by omega) (by omega)).mono ?_; rw [Hk.out]; rintro e w' ⟨rfl, rfl⟩) | (go_at_call 201; refine (dec4 _ _ HX.out).mono ?_; rintro e w1 ⟨rfl, hb1⟩; have hB1 := below_step (w := w) (by (repeat (first | exact Below.refl _ _ | assumption | refine Below.setCell ?_ (by (try simp); (try omega)) _ | refine Below.alloc ?_ (by (try simp); (try omega)) _ | refine below_setRow ?_ (by (try simp); (try omega)) _ | refine pw_below_drewN ?_ _ | refine Below.drew ?_))) hb1; obtain ⟨hc1, hf1⟩ := bcell hb1; have hd1 := blk_below hb1; have hs1 := hB1.size; have hz1_0 : w.heap.size < w1.heap.size := (by have hq := hb1.size; (try simp at hq); omega); have hy1_0 : w.heap.size ≠ w1.heap.size := Nat.ne_of_lt hz1_0; have hk1_0 := hd1 (w.heap.size) (by (try simp); (try omega)); (try simp (disch := first | omega | (simp; omega)) only [blk_setRow_far, blk_alloc_past, blk_setCell_far, blk_drewN, blk_drew] at hk1_0)))
    refine bodyPost_ret (v := vPtr ⟨3, 0, 0, 0, 0, 0, false, 0, fieldI x 32 32, fieldI x 2 30⟩) ((results_blk _ st_Pointer rfl _ (w.heap.size ) rfl (by simp [go_sem, hd1, hz1_0, hy1_0]) (by simp [go_sem, hd1, hz1_0, hy1_0])).trans (by simp [go_sem, hd1, hz1_0, hy1_0]; try omega)) rfl ⟨rfl, ?_⟩
    (repeat (first | exact Below.refl _ _ | assumption | refine Below.setCell ?_ (by (try simp); (try omega)) _ | refine Below.alloc ?_ (by (try simp); (try omega)) _ | refine below_setRow ?_ (by (try simp); (try omega)) _ | refine pw_below_drewN ?_ _ | refine Below.drew ?_))
end Go.Proofs.YtelghkgnkncnoaaDoor
/- Contracts of packages far (IsFar, Landing), pointer (IsCapability), budget, listsize. -/
set_option linter.unusedVariables false
set_option linter.unusedSimpArgs false
namespace Go.Proofs.YtelghkgnkncnoaaDoor
open Go.RowKit
set_option maxRecDepth 100000 in
theorem IsFar_any {B : Nat} {w : World} (hE : Env B w) (hB : B ≤ w.heap.size) (x : Int) (hx : U64 x) : Calls Tryd.prog 130 #[.int .u64 x] w (VPost w (.bool ((decodeI x).kind == 2))) := by
  have H := Lib.hid (Decode_any hE hB x hx)
  clear hE hB hx
  go_enter Tryd.func130, Tryd.ntmps130
  go_wp2_with (go_at_call 79; refine H.out.mono ?_; rintro e w' ⟨rfl, hb⟩)
  go_ret
  exact ⟨rfl, hb⟩
theorem Landing_any {B : Nat} {w : World} (hE : Env B w) (hB : B ≤ w.heap.size) (x : Int) (hx : U64 x) : Calls Tryd.prog 167 #[.int .u64 x] w (VPost w (.tuple #[.int .i64 (decodeI x).seg, .int .i64 (decodeI x).pad])) := by
  have H := Lib.hid (Decode_any hE hB x hx)
  obtain ⟨s0, s1⟩ := (decodeI_in x).seg
  clear hE hB hx
  go_enter Tryd.func167, Tryd.ntmps167
  go_wp2_with (go_at_call 79; refine H.out.mono ?_; rintro e w1 ⟨rfl, hb1⟩; have hB1 := below_step (w := w) (by (repeat (first | exact Below.refl _ _ | assumption | refine Below.setCell ?_ (by (try simp); (try omega)) _ | refine Below.alloc ?_ (by (try simp); (try omega)) _ | refine below_setRow ?_ (by (try simp); (try omega)) _ | refine pw_below_drewN ?_ _ | refine Below.drew ?_))) hb1; obtain ⟨hc1, hf1⟩ := bcell hb1; have hd1 := blk_below hb1; have hs1 := hB1.size)
  go_quiet (fail)
  go_wp2
  go_ret2
  refine ⟨rfl, ?_⟩
  (repeat (first | exact Below.refl _ _ | assumption | refine Below.setCell ?_ (by (try simp); (try omega)) _ | refine Below.alloc ?_ (by (try simp); (try omega)) _ | refine below_setRow ?_ (by (try simp); (try omega)) _ | refine pw_below_drewN ?_ _ | refine Below.drew ?_))
theorem IsCapability_any (p : Ptr) (w : World) : Calls Tryd.prog 136 #[vPtr p] w (VPost w (.bool (decide (p.kind = 3 ∧ p.low = 0)))) := by
  go_enter Tryd.func136, Tryd.ntmps136
  go_wp2
  all_goals (go_ret; refine ⟨ret_bool ?_, ?_⟩; rotate_left; (repeat (first | exact Below.refl _ _ | assumption | refine Below.setCell ?_ (by (try simp); (try omega)) _ | refine Below.alloc ?_ (by (try simp); (try omega)) _ | refine below_setRow ?_ (by (try simp); (try omega)) _ | refine pw_below_drewN ?_ _ | refine Below.drew ?_)))
  all_goals first | (simp_all; done) | (simp_all; rfl)
theorem Start_any (d n o : Int) (w : World) : Calls Tryd.prog 69 #[vLim d n o] w (VPost w (.agg #[.int .i64 (max n 0)])) := by
  go_enter Tryd.func69, Tryd.ntmps69
  go_wp2
  all_goals refine bodyPost_ret (v := .agg #[.int .i64 (max n 0)]) ((results_blk _ st_Meter rfl _ ((w.heap.size + 1) ) rfl (by simp [go_sem]) (by simp [go_sem])).trans (by simp [go_sem]; try omega)) rfl ⟨rfl, ?_⟩
  all_goals (repeat (first | exact Below.refl _ _ | assumption | refine Below.setCell ?_ (by (try simp); (try omega)) _ | refine Below.alloc ?_ (by (try simp); (try omega)) _ | refine below_setRow ?_ (by (try simp); (try omega)) _ | refine pw_below_drewN ?_ _ | refine Below.drew ?_))
theorem Enter_any (d n o depth : Int) (w : World) : Calls Tryd.prog 121 #[vLim d n o, .int .i64 depth] w (VPost w (.int .i64 (if d < depth then 7 else 0))) := by
  go_enter Tryd.func121, Tryd.ntmps121
  go_wp2
  all_goals (go_ret; refine ⟨ret_int ?_, ?_⟩; rotate_left; (repeat (first | exact Below.refl _ _ | assumption | refine Below.setCell ?_ (by (try simp); (try omega)) _ | refine Below.alloc ?_ (by (try simp); (try omega)) _ | refine below_setRow ?_ (by (try simp); (try omega)) _ | refine pw_below_drewN ?_ _ | refine Below.drew ?_)))
  all_goals first | rfl | (split <;> first | rfl | omega)
theorem up_any (n k : Int) (w : World) (h0 : 0 ≤ n) (h1 : n ≤ 4611686018427387904) (k0 : 0 < k) (k1 : k ≤ 64) : Calls Tryd.prog 158 #[.int .i64 n, .int .i64 k] w fun e w' => e = .returned (.int .i64 (up n k)) ∧ w' = w := by
  have : ¬ k = 0 := by omega
  go_enter Tryd.func158, Tryd.ntmps158
  go_wp2
  go_ret
  exact ⟨rfl, rfl⟩
theorem bitsI_bdw (e : Int) : 0 ≤ bitsI e ∧ bitsI e ≤ 64 := by unfold bitsI; (repeat' split) <;> omega
theorem mul_bd {a b A B : Int} (a0 : 0 ≤ a) (a1 : a ≤ A) (b0 : 0 ≤ b) (b1 : b ≤ B) : 0 ≤ a * b ∧ a * b ≤ A * B :=
  ⟨Int.mul_nonneg a0 b0, Int.mul_le_mul a1 b1 b0 (by omega)⟩
theorem Env.bit {B : Nat} {w : World} (hE : Env B w) (elem : Int) (e0 : 0 ≤ elem) (e1 : elem < 8) : w.cell? ⟨1, elem.toNat, none⟩ = some (.int .i64 (bitsI elem)) := by
  have := hE.bits.2 elem.toNat (by omega)
  rwa [Int.toNat_of_nonneg e0] at this
theorem Bytes_any {B : Nat} {w : World} (hE : Env B w) (elem count : Int) (e0 : 0 ≤ elem) (e1 : elem < 8) (c0 : 0 ≤ count) (c1 : count ≤ 1152921504606846976 / 64) : Calls Tryd.prog 126 #[.int .i64 elem, .int .i64 count] w fun e w' => e = .returned (.int .i64 (lbytes elem count)) ∧ w' = w := by
  have hc := hE.bit elem e0 e1
  obtain ⟨b0, b1⟩ := bitsI_bdw elem
  obtain ⟨m0, m1⟩ := mul_bd b0 b1 c0 c1
  clear hE
  go_enter Tryd.func126, Tryd.ntmps126
  go_wp2_with (go_at_call 158; refine (up_any _ _ _ m0 (by omega) (by omega) (by omega)).mono ?_; rintro e w' ⟨rfl, rfl⟩)
  go_ret
  exact ⟨rfl, rfl⟩
theorem Words_any {B : Nat} {w : World} (hE : Env B w) (elem count : Int) (e0 : 0 ≤ elem) (e1 : elem < 8) (c0 : 0 ≤ count) (c1 : count ≤ 1152921504606846976 / 64) : Calls Tryd.prog 115 #[.int .i64 elem, .int .i64 count] w fun e w' => e = .returned (.int .i64 (lwords elem count)) ∧ w' = w := by
  have hc := hE.bit elem e0 e1
  obtain ⟨b0, b1⟩ := bitsI_bdw elem
  obtain ⟨m0, m1⟩ := mul_bd b0 b1 c0 c1
  clear hE
  by_cases h7 : elem = 7
  · subst h7
    go_enter Tryd.func115, Tryd.ntmps115
    go_wp2
    go_ret
    exact ⟨rfl, rfl⟩
  · have H7 : Hid (lwords elem count = up (bitsI elem * count) 64) := by unfold lwords; exact if_neg h7
    go_enter Tryd.func115, Tryd.ntmps115
    go_wp2_with (go_at_call 158; refine (up_any _ _ _ m0 (by omega) (by omega) (by omega)).mono ?_; rintro e w' ⟨rfl, rfl⟩)
    go_ret
    exact ⟨ret_int H7.out.symm, rfl⟩
theorem Charge_any (m cost : Int) (w : World) (m0 : 0 ≤ m) (m1 : m ≤ 4611686018427387904) (c0 : 0 ≤ cost) (c1 : cost ≤ 4611686018427387904) : Calls Tryd.prog 122 #[.agg #[.int .i64 m], .int .i64 cost] w
    (VPost w (if m < cost then .tuple #[.agg #[.int .i64 m], .int .i64 8] else .tuple #[.agg #[.int .i64 (m - cost)], .int .i64 0])) := by
  by_cases h : m < cost
  · rw [if_pos h]
    go_enter Tryd.func122, Tryd.ntmps122
    go_wp2
    refine bodyPost_ret (v := .tuple #[.agg #[.int .i64 m], .int .i64 8]) ((results_blk2 _ st_Meter rfl _ ((w.heap.size + 1) ) rfl (by simp [go_sem]) (by simp [go_sem])).trans (by simp [go_sem]; try omega)) rfl ⟨rfl, ?_⟩
    (repeat (first | exact Below.refl _ _ | assumption | refine Below.setCell ?_ (by (try simp); (try omega)) _ | refine Below.alloc ?_ (by (try simp); (try omega)) _ | refine below_setRow ?_ (by (try simp); (try omega)) _ | refine pw_below_drewN ?_ _ | refine Below.drew ?_))
  · rw [if_neg h]
    go_enter Tryd.func122, Tryd.ntmps122
    go_wp2
    refine bodyPost_ret (v := .tuple #[.agg #[.int .i64 (m - cost)], .int .i64 0]) ((results_blk2 _ st_Meter rfl _ ((w.heap.size + 1) ) rfl (by simp [go_sem]) (by simp [go_sem])).trans (by simp [go_sem]; try omega)) rfl ⟨rfl, ?_⟩
    (repeat (first | exact Below.refl _ _ | assumption | refine Below.setCell ?_ (by (try simp); (try omega)) _ | refine Below.alloc ?_ (by (try simp); (try omega)) _ | refine below_setRow ?_ (by (try simp); (try omega)) _ | refine pw_below_drewN ?_ _ | refine Below.drew ?_))
end Go.Proofs.YtelghkgnkncnoaaDoor
/- Contracts of package far: single, double, Follow. -/
set_option linter.unusedVariables false
set_option linter.unusedSimpArgs false
namespace Go.Proofs.YtelghkgnkncnoaaDoor
open Go.RowKit
set_option maxRecDepth 100000 in
set_option maxHeartbeats 1000000 in
theorem single_any {B : Nat} {w : World} {A : Option Addr} {n c : Nat} {ss : List (List Int)} (hE : Env B w) (hB : B ≤ w.heap.size) (hS : RS B w A n ss) (hw : WFS ss) (x : Int) (hx : U64 x) :
    Calls Tryd.prog 131 #[.slice A n c, .int .u64 x] w (VPost w (.tuple #[.agg #[.int .u64 (single ss x).w, .int .i64 (single ss x).seg, .int .i64 (single ss x).base], .int .i64 (single ss x).err])) := by
  have HL := Lib.hid (fun o => Landing_any (w := w.alloc o) (hE.mono ((Below.refl _ _).alloc hB o) (Nat.le_refl _)) (by simp; omega) x hx)
  obtain ⟨s0, s1⟩ := (decodeI_in x).seg
  obtain ⟨p0, p1⟩ := (decodeI_in x).pad
  have HE := Lib.hid hE
  have HS := Lib.hid hS
  have Hw := Lib.hid hw
  have Hx := Lib.hid hx
  clear hE hS hx hw
  by_cases hb : inB ss (decodeI x).seg (decodeI x).pad 1 = true
  · have HU := Lib.hid (wordAt_U64 Hw.out (decodeI x).seg (decodeI x).pad)
    by_cases hk : ((decodeI (wordAt ss (decodeI x).seg (decodeI x).pad)).kind == 2) = true
    · have hs : single ss x = ⟨0, 0, 0, 3⟩ := by unfold single; simp only [hb, hk, if_true, Bool.true_eq_false, if_false]
      rw [hs]
      have Hb := Lib.hid hb
      clear hb hs
      go_enter Tryd.func131, Tryd.ntmps131
      go_wp2_with (first | (go_at_call 167; refine (HL.out _).mono ?_; rintro e w1 ⟨rfl, hb1⟩; have hB1 := below_step (w := w) (by (repeat (first | exact Below.refl _ _ | assumption | refine Below.setCell ?_ (by (try simp); (try omega)) _ | refine Below.alloc ?_ (by (try simp); (try omega)) _ | refine below_setRow ?_ (by (try simp); (try omega)) _ | refine pw_below_drewN ?_ _ | refine Below.drew ?_))) hb1; obtain ⟨hc1, hf1⟩ := bcell hb1; have hd1 := blk_below hb1; have hs1 := hB1.size; have hz1_0 : w.heap.size < w1.heap.size := (by have hq := hb1.size; (try simp at hq); omega); have hy1_0 : w.heap.size ≠ w1.heap.size := Nat.ne_of_lt hz1_0; have hk1_0 := hd1 (w.heap.size) (by (try simp); (try omega)); (try simp (disch := first | omega | (simp; omega)) only [blk_setRow_far, blk_alloc_past, blk_setCell_far, blk_drewN, blk_drew] at hk1_0)) |
        (go_at_call 129; refine (Word_any (HS.out.mono (hB1.mono hB) (Nat.le_refl _)) Hw.out _ _).mono ?_; rw [Hb.out]; rintro e w2 ⟨rfl, rfl⟩) |
        (go_at_call 130; refine (IsFar_any (HE.out.mono (hB1.mono hB) (Nat.le_refl _)) (Nat.le_trans hB hB1.size) _ HU.out).mono ?_; rintro e w3 ⟨rfl, hb3⟩; have hB3 := below_step (w := w) (by (repeat (first | exact Below.refl _ _ | assumption | refine Below.setCell ?_ (by (try simp); (try omega)) _ | refine Below.alloc ?_ (by (try simp); (try omega)) _ | refine below_setRow ?_ (by (try simp); (try omega)) _ | refine pw_below_drewN ?_ _ | refine Below.drew ?_))) hb3; obtain ⟨hc3, hf3⟩ := bcell hb3; have hd3 := blk_below hb3; have hs3 := hB3.size; have hz3_0 : w.heap.size < w3.heap.size := (by have hq := hb3.size; (try simp at hq); omega); have hy3_0 : w.heap.size ≠ w3.heap.size := Nat.ne_of_lt hz3_0; have hk3_0 := hd3 (w.heap.size) (by (try simp); (try omega)); (try simp (disch := first | omega | (simp; omega)) only [blk_setRow_far, blk_alloc_past, blk_setCell_far, blk_drewN, blk_drew] at hk3_0)))
      refine bodyPost_ret (v := .tuple #[.agg #[.int .u64 0, .int .i64 0, .int .i64 0], .int .i64 3]) ((results_blk2 _ st_place rfl _ (w.heap.size ) rfl (by simp [go_sem, hc1, hd1, hf1, hz1_0, hc3, hd3, hf3, hz3_0]) (by simp [go_sem, hc1, hd1, hf1, hz1_0, hc3, hd3, hf3, hz3_0])).trans (by simp [go_sem, hc1, hd1, hf1, hz1_0, hc3, hd3, hf3, hz3_0]; try omega)) rfl ⟨rfl, ?_⟩
      (repeat (first | exact Below.refl _ _ | assumption | refine Below.setCell ?_ (by (try simp); (try omega)) _ | refine Below.alloc ?_ (by (try simp); (try omega)) _ | refine below_setRow ?_ (by (try simp); (try omega)) _ | refine pw_below_drewN ?_ _ | refine Below.drew ?_))
    · have hk' : ((decodeI (wordAt ss (decodeI x).seg (decodeI x).pad)).kind == 2) = false := by simpa using hk
      have hs : single ss x = ⟨wordAt ss (decodeI x).seg (decodeI x).pad, (decodeI x).seg, (decodeI x).pad + 1, 0⟩ := by unfold single; simp only [hb, hk', Bool.true_eq_false, if_false, Bool.false_eq_true]
      rw [hs]
      have Hb := Lib.hid hb
      clear hb hs hk
      go_enter Tryd.func131, Tryd.ntmps131
      go_wp2_with (first | (go_at_call 167; refine (HL.out _).mono ?_; rintro e w1 ⟨rfl, hb1⟩; have hB1 := below_step (w := w) (by (repeat (first | exact Below.refl _ _ | assumption | refine Below.setCell ?_ (by (try simp); (try omega)) _ | refine Below.alloc ?_ (by (try simp); (try omega)) _ | refine below_setRow ?_ (by (try simp); (try omega)) _ | refine pw_below_drewN ?_ _ | refine Below.drew ?_))) hb1; obtain ⟨hc1, hf1⟩ := bcell hb1; have hd1 := blk_below hb1; have hs1 := hB1.size; have hz1_0 : w.heap.size < w1.heap.size := (by have hq := hb1.size; (try simp at hq); omega); have hy1_0 : w.heap.size ≠ w1.heap.size := Nat.ne_of_lt hz1_0; have hk1_0 := hd1 (w.heap.size) (by (try simp); (try omega)); (try simp (disch := first | omega | (simp; omega)) only [blk_setRow_far, blk_alloc_past, blk_setCell_far, blk_drewN, blk_drew] at hk1_0)) |
        (go_at_call 129; refine (Word_any (HS.out.mono (hB1.mono hB) (Nat.le_refl _)) Hw.out _ _).mono ?_; rw [Hb.out]; rintro e w2 ⟨rfl, rfl⟩) |
        (go_at_call 130; refine (IsFar_any (HE.out.mono (hB1.mono hB) (Nat.le_refl _)) (Nat.le_trans hB hB1.size) _ HU.out).mono ?_; rintro e w3 ⟨rfl, hb3⟩; have hB3 := below_step (w := w) (by (repeat (first | exact Below.refl _ _ | assumption | refine Below.setCell ?_ (by (try simp); (try omega)) _ | refine Below.alloc ?_ (by (try simp); (try omega)) _ | refine below_setRow ?_ (by (try simp); (try omega)) _ | refine pw_below_drewN ?_ _ | refine Below.drew ?_))) hb3; obtain ⟨hc3, hf3⟩ := bcell hb3; have hd3 := blk_below hb3; have hs3 := hB3.size; have hz3_0 : w.heap.size < w3.heap.size := (by have hq := hb3.size; (try simp at hq); omega); have hy3_0 : w.heap.size ≠ w3.heap.size := Nat.ne_of_lt hz3_0; have hk3_0 := hd3 (w.heap.size) (by (try simp); (try omega)); (try simp (disch := first | omega | (simp; omega)) only [blk_setRow_far, blk_alloc_past, blk_setCell_far, blk_drewN, blk_drew] at hk3_0)))
      refine bodyPost_ret (v := .tuple #[.agg #[.int .u64 (wordAt ss (decodeI x).seg (decodeI x).pad), .int .i64 (decodeI x).seg, .int .i64 ((decodeI x).pad + 1)], .int .i64 0]) ((results_blk2 _ st_place rfl _ (w.heap.size ) rfl (by simp [go_sem, hc1, hd1, hf1, hz1_0, hc3, hd3, hf3, hz3_0]) (by simp [go_sem, hc1, hd1, hf1, hz1_0, hc3, hd3, hf3, hz3_0])).trans (by simp [go_sem, hc1, hd1, hf1, hz1_0, hc3, hd3, hf3, hz3_0]; try omega)) rfl ⟨rfl, ?_⟩
      (repeat (first | exact Below.refl _ _ | assumption | refine Below.setCell ?_ (by (try simp); (try omega)) _ | refine Below.alloc ?_ (by (try simp); (try omega)) _ | refine below_setRow ?_ (by (try simp); (try omega)) _ | refine pw_below_drewN ?_ _ | refine Below.drew ?_))
  · have hb' : inB ss (decodeI x).seg (decodeI x).pad 1 = false := by simpa using hb
    have hs : single ss x = ⟨0, 0, 0, 2⟩ := by unfold single; simp only [hb', if_true]
    rw [hs]
    have Hb := Lib.hid hb'
    clear hb hb' hs
    go_enter Tryd.func131, Tryd.ntmps131
    go_wp2_with (first | (go_at_call 167; refine (HL.out _).mono ?_; rintro e w1 ⟨rfl, hb1⟩; have hB1 := below_step (w := w) (by (repeat (first | exact Below.refl _ _ | assumption | refine Below.setCell ?_ (by (try simp); (try omega)) _ | refine Below.alloc ?_ (by (try simp); (try omega)) _ | refine below_setRow ?_ (by (try simp); (try omega)) _ | refine pw_below_drewN ?_ _ | refine Below.drew ?_))) hb1; obtain ⟨hc1, hf1⟩ := bcell hb1; have hd1 := blk_below hb1; have hs1 := hB1.size; have hz1_0 : w.heap.size < w1.heap.size := (by have hq := hb1.size; (try simp at hq); omega); have hy1_0 : w.heap.size ≠ w1.heap.size := Nat.ne_of_lt hz1_0; have hk1_0 := hd1 (w.heap.size) (by (try simp); (try omega)); (try simp (disch := first | omega | (simp; omega)) only [blk_setRow_far, blk_alloc_past, blk_setCell_far, blk_drewN, blk_drew] at hk1_0)) |
      (go_at_call 129; refine (Word_any (HS.out.mono (hB1.mono hB) (Nat.le_refl _)) Hw.out _ _).mono ?_; rw [Hb.out]; rintro e w2 ⟨rfl, rfl⟩))
    refine bodyPost_ret (v := .tuple #[.agg #[.int .u64 0, .int .i64 0, .int .i64 0], .int .i64 2]) ((results_blk2 _ st_place rfl _ (w.heap.size ) rfl (by simp [go_sem, hc1, hd1, hf1, hz1_0]) (by simp [go_sem, hc1, hd1, hf1, hz1_0])).trans (by simp [go_sem, hc1, hd1, hf1, hz1_0]; try omega)) rfl ⟨rfl, ?_⟩
    (repeat (first | exact Below.refl _ _ | assumption | refine Below.setCell ?_ (by (try simp); (try omega)) _ | refine Below.alloc ?_ (by (try simp); (try omega)) _ | refine below_setRow ?_ (by (try simp); (try omega)) _ | refine pw_below_drewN ?_ _ | refine Below.drew ?_))
end Go.Proofs.YtelghkgnkncnoaaDoor
