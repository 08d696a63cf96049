/- A part of the proof: the texts Pure0 Pure1 Pure2 joined. -/
/- The program's functions as plain functions on numbers and lists: words, pointers, bounds, the following of pointers. No program in sight. -/
set_option linter.unusedVariables false
namespace Go.Proofs.YtelghkgnkncnoaaDoor
/-! ### numbers -/
def U64 (x : Int) : Prop := 0 ≤ x ∧ x < 18446744073709551616
theorem U64.nonneg {x : Int} (h : U64 x) : 0 ≤ x := h.1
def fieldI (x a n : Int) : Int := x / 2 ^ a.toNat % 2 ^ n.toNat
def signedI (x a n : Int) : Int := if fieldI x a n < 2 ^ (n.toNat - 1) then fieldI x a n else fieldI x a n - 2 ^ n.toNat

theorem fieldI_bd (x a : Int) (n : Nat) : 0 ≤ fieldI x a n ∧ fieldI x a n < 2 ^ n := by
  unfold fieldI
  rw [Int.toNat_natCast]
  have : (0 : Int) < 2 ^ n := Int.pow_pos (by decide)
  exact ⟨Int.emod_nonneg _ (by omega), Int.emod_lt_of_pos _ this⟩

/-! ### pointers -/
structure Ptr where
  kind : Int
  offset : Int
  data : Int
  ptrs : Int
  elem : Int
  count : Int
  double : Bool
  pad : Int
  seg : Int
  low : Int
def decodeI (x : Int) : Ptr :=
  if fieldI x 0 2 = 0 then ⟨0, signedI x 2 30, fieldI x 32 16, fieldI x 48 16, 0, 0, false, 0, 0, 0⟩
  else if fieldI x 0 2 = 1 then ⟨1, signedI x 2 30, 0, 0, fieldI x 32 3, fieldI x 35 29, false, 0, 0, 0⟩
  else if fieldI x 0 2 = 2 then ⟨2, 0, 0, 0, 0, 0, fieldI x 2 1 == 1, fieldI x 3 29, fieldI x 32 32, 0⟩
  else ⟨3, 0, 0, 0, 0, 0, false, 0, fieldI x 32 32, fieldI x 2 30⟩

structure PtrIn (p : Ptr) : Prop where
  kind : 0 ≤ p.kind ∧ p.kind < 4
  offset : -536870912 ≤ p.offset ∧ p.offset < 536870912
  data : 0 ≤ p.data ∧ p.data < 65536
  ptrs : 0 ≤ p.ptrs ∧ p.ptrs < 65536
  elem : 0 ≤ p.elem ∧ p.elem < 8
  count : 0 ≤ p.count ∧ p.count < 536870912
  pad : 0 ≤ p.pad ∧ p.pad < 536870912
  seg : 0 ≤ p.seg ∧ p.seg < 4294967296
  low : 0 ≤ p.low ∧ p.low < 1073741824
theorem signedI_bd (x : Int) : -536870912 ≤ signedI x 2 30 ∧ signedI x 2 30 < 536870912 := by
  have h : 0 ≤ fieldI x 2 30 ∧ fieldI x 2 30 < 1073741824 := fieldI_bd x 2 30
  unfold signedI
  simp only [show (30 : Int).toNat = 30 from rfl, Int.reducePow, Nat.reduceSub]
  split <;> omega
theorem decodeI_in (x : Int) : PtrIn (decodeI x) := by
  have h1 := signedI_bd x
  have h2 : 0 ≤ fieldI x 32 16 ∧ fieldI x 32 16 < 65536 := fieldI_bd x 32 16
  have h3 : 0 ≤ fieldI x 48 16 ∧ fieldI x 48 16 < 65536 := fieldI_bd x 48 16
  have h4 : 0 ≤ fieldI x 32 3 ∧ fieldI x 32 3 < 8 := fieldI_bd x 32 3
  have h5 : 0 ≤ fieldI x 35 29 ∧ fieldI x 35 29 < 536870912 := fieldI_bd x 35 29
  have h6 : 0 ≤ fieldI x 3 29 ∧ fieldI x 3 29 < 536870912 := fieldI_bd x 3 29
  have h7 : 0 ≤ fieldI x 32 32 ∧ fieldI x 32 32 < 4294967296 := fieldI_bd x 32 32
  have h8 : 0 ≤ fieldI x 2 30 ∧ fieldI x 2 30 < 1073741824 := fieldI_bd x 2 30
  unfold decodeI
  split
  · constructor <;> simp only <;> omega
  · split
    · constructor <;> simp only <;> omega
    · split <;> (constructor <;> simp only <;> omega)

/-! ### lists -/
def bitsI (e : Int) : Int := if e = 1 then 1 else if e = 2 then 8 else if e = 3 then 16 else if e = 4 then 32 else if e = 5 ∨ e = 6 then 64 else 0

/-! ### messages -/
/-- sizes and words in range -/
structure WFS (ss : List (List Int)) : Prop where
  len : ss.length ≤ 1000000
  seg : ∀ s ∈ ss, s.length ≤ 1000000
  word : ∀ s ∈ ss, ∀ x ∈ s, U64 x
def segLen (ss : List (List Int)) (i : Int) : Int := ((ss.getD i.toNat []).length : Int)
theorem segLen_bd {ss : List (List Int)} (h : WFS ss) (i : Int) : 0 ≤ segLen ss i ∧ segLen ss i ≤ 1000000 := by
  unfold segLen
  refine ⟨by omega, ?_⟩
  rcases Nat.lt_or_ge i.toNat ss.length with hi | hi
  · have := h.seg (ss.getD i.toNat []) (by rw [List.getD_eq_getElem?_getD, List.getElem?_eq_getElem hi]; exact List.getElem_mem hi)
    omega
  · rw [List.getD_eq_getElem?_getD, List.getElem?_eq_none hi]; simp
def inB (ss : List (List Int)) (seg at_ n : Int) : Bool :=
  decide (0 ≤ seg ∧ seg < (ss.length : Int) ∧ 0 ≤ at_ ∧ 0 ≤ n ∧ at_ ≤ segLen ss seg ∧ n ≤ segLen ss seg - at_)
theorem inB_of {ss : List (List Int)} {seg at_ n : Int} (h : inB ss seg at_ n = true) : 0 ≤ seg ∧ seg < (ss.length : Int) ∧ 0 ≤ at_ ∧ 0 ≤ n ∧ at_ ≤ segLen ss seg ∧ n ≤ segLen ss seg - at_ := of_decide_eq_true h
def wordAt (ss : List (List Int)) (seg at_ : Int) : Int := (ss.getD seg.toNat []).getD at_.toNat 0
/-- the words of a range -/
def rangeAt (ss : List (List Int)) (seg at_ n : Int) : List Int := ((ss.getD seg.toNat []).drop at_.toNat).take n.toNat
theorem rangeAt_length {ss : List (List Int)} {seg at_ n : Int} (h : inB ss seg at_ n = true) : (rangeAt ss seg at_ n).length = n.toNat := by
  obtain ⟨h0, h1, h2, h3, h4, h5⟩ := inB_of h
  unfold segLen at *
  simp only [rangeAt, List.length_take, List.length_drop]
  omega
theorem getD_drop_take (l : List Int) (a n j : Nat) (h : j < n) : ((l.drop a).take n).getD j 0 = l.getD (a + j) 0 := by
  simp [List.getD_eq_getElem?_getD, h]
/-! ### following pointers -/
/-- the word at a place of a message, 0 outside -/
def word0 (ss : List (List Int)) (seg at_ : Int) : Int := if inB ss seg at_ 1 then wordAt ss seg at_ else 0
structure Fol where
  w : Int
  seg : Int
  base : Int
  err : Int
def single (ss : List (List Int)) (w : Int) : Fol :=
  let s := (decodeI w).seg
  let p := (decodeI w).pad
  if inB ss s p 1 = false then ⟨0, 0, 0, 2⟩
  else if (decodeI (wordAt ss s p)).kind == 2 then ⟨0, 0, 0, 3⟩
  else ⟨wordAt ss s p, s, p + 1, 0⟩
def double (ss : List (List Int)) (w : Int) : Fol :=
  let s := (decodeI w).seg
  let p := (decodeI w).pad
  if inB ss s p 2 = false then ⟨0, 0, 0, 2⟩
  else
    let a := decodeI (wordAt ss s p)
    let d := decodeI (wordAt ss s (p + 1))
    if (a.kind != 2) || a.double || decide (1 < d.kind) || (d.offset != 0) then ⟨0, 0, 0, 3⟩
    else ⟨wordAt ss s (p + 1), a.seg, a.pad, 0⟩
def follow (ss : List (List Int)) (seg at_ : Int) : Fol :=
  if inB ss seg at_ 1 = false then ⟨0, 0, 0, 2⟩
  else
    let w := wordAt ss seg at_
    if (decodeI w).kind == 2 then (if (decodeI w).double then double ss w else single ss w) else ⟨w, seg, at_ + 1, 0⟩
structure Ob where
  kind : Int
  seg : Int
  at_ : Int
  data : Int
  ptrs : Int
  elem : Int
  n : Int
  cost : Int
def Ob.zero : Ob := ⟨0, 0, 0, 0, 0, 0, 0, 0⟩
def up (n k : Int) : Int := (n + k - 1) / k
def lwords (elem count : Int) : Int := if elem = 7 then count + 1 else up (bitsI elem * count) 64
def lbytes (elem count : Int) : Int := up (bitsI elem * count) 8
def within (ss : List (List Int)) (o : Ob) (start n : Int) : Ob × Int := if inB ss o.seg start n then (o, 0) else (Ob.zero, 2)
def composite (ss : List (List Int)) (p : Ptr) (seg start : Int) : Ob × Int :=
  if inB ss seg start (p.count + 1) = false then (Ob.zero, 2)
  else
    let t := decodeI (wordAt ss seg start)
    let size := t.data + t.ptrs
    if (t.kind != 0) || decide (t.offset < 0) || decide (p.count < t.offset * size) then (Ob.zero, 5)
    else (⟨2, seg, start + 1, t.data, t.ptrs, 7, t.offset, p.count + 1 + (if size = 0 then t.offset else 0)⟩, 0)
def place_ (ss : List (List Int)) (p : Ptr) (seg start : Int) : Ob × Int :=
  if p.kind = 0 then within ss ⟨1, seg, start, p.data, p.ptrs, 0, 0, p.data + p.ptrs⟩ start (p.data + p.ptrs)
  else if p.kind = 1 then (if p.elem = 7 then composite ss p seg start else within ss ⟨2, seg, start, 0, 0, p.elem, p.count, lwords p.elem p.count⟩ start (lwords p.elem p.count))
  else if p.kind = 3 ∧ p.low = 0 then (Ob.zero, 6) else (Ob.zero, 4)
def object (ss : List (List Int)) (seg at_ : Int) : Ob × Int :=
  let f := follow ss seg at_
  if f.err ≠ 0 ∨ f.w = 0 then (Ob.zero, f.err)
  else place_ ss (decodeI f.w) f.seg (f.base + (decodeI f.w).offset)
def element (o : Ob) (i : Int) : Ob := ⟨1, o.seg, o.at_ + i * (o.data + o.ptrs), o.data, o.ptrs, 0, 0, 0⟩
def pointersOf (o : Ob) : Int × Int :=
  if o.kind = 1 ∧ 0 < o.ptrs then (o.at_ + o.data, o.ptrs) else if o.kind = 2 ∧ o.elem = 6 ∧ 0 < o.n then (o.at_, o.n) else (0, 0)
theorem wordAt_U64 {ss : List (List Int)} (h : WFS ss) (seg at_ : Int) : U64 (wordAt ss seg at_) := by
  unfold wordAt
  have hz : U64 0 := ⟨by omega, by omega⟩
  rcases Nat.lt_or_ge seg.toNat ss.length with h1 | h1
  · rw [List.getD_eq_getElem?_getD (l := ss), List.getElem?_eq_getElem h1, Option.getD_some]
    rcases Nat.lt_or_ge at_.toNat ss[seg.toNat].length with h2 | h2
    · rw [List.getD_eq_getElem?_getD, List.getElem?_eq_getElem h2, Option.getD_some]
      exact h.word _ (List.getElem_mem h1) _ (List.getElem_mem h2)
    · rw [List.getD_eq_getElem?_getD, List.getElem?_eq_none h2]; exact hz
  · rw [List.getD_eq_getElem?_getD (l := ss), List.getElem?_eq_none h1]; exact hz
end Go.Proofs.YtelghkgnkncnoaaDoor
/- Denotations as plain functions: nodes, traversals with a meter, comparison in place. No program in sight. -/
set_option linter.unusedVariables false
namespace Go.Proofs.YtelghkgnkncnoaaDoor
/-! ### nodes -/
inductive Nd where
  | mk (kind elem n : Int) (data : List Int) (kids : List Nd)
namespace Nd
def kind : Nd → Int | .mk k _ _ _ _ => k
def elem : Nd → Int | .mk _ e _ _ _ => e
def n : Nd → Int | .mk _ _ n _ _ => n
def data : Nd → List Int | .mk _ _ _ d _ => d
def kids : Nd → List Nd | .mk _ _ _ _ l => l
def null : Nd := .mk 0 0 0 [] []
end Nd
/-! ### bytes -/
def wbytes1 (w : Int) : List Int := [w % 256, w / 256 % 256, w / 65536 % 256, w / 16777216 % 256, w / 4294967296 % 256, w / 1099511627776 % 256, w / 281474976710656 % 256, w / 72057594037927936 % 256]
def wbytes (l : List Int) : List Int := l.flatMap wbytes1
theorem wbytes_length (l : List Int) : (wbytes l).length = 8 * l.length := by
  induction l with
  | nil => rfl
  | cons a l ih =>
    simp only [wbytes, List.flatMap_cons, List.length_append, List.length_cons] at *
    rw [ih]; simp [wbytes1]; omega
def U8 (x : Int) : Prop := 0 ≤ x ∧ x < 256
theorem wbytes_u8 (l : List Int) : ∀ x ∈ wbytes l, U8 x := by
  intro x hx
  obtain ⟨w, _, h⟩ := List.mem_flatMap.1 hx
  simp only [wbytes1, List.mem_cons, List.not_mem_nil, or_false] at h
  unfold U8
  rcases h with rfl | rfl | rfl | rfl | rfl | rfl | rfl | rfl <;> omega
def bytesN (elem n : Int) (l : List Int) : List Int := l.take (lbytes elem n).toNat
/-- the bytes of the elements -/
def trimB (elem n : Int) (l : List Int) : List Int :=
  let out := bytesN elem n l
  if elem = 1 ∧ 0 < n % 8 then out.set (out.length - 1) (out.getD (out.length - 1) 0 % 2 ^ (n % 8).toNat) else out
/-! ### traversals -/
def sliceAt (ss : List (List Int)) (seg at_ n : Int) : List Int := if inB ss seg at_ n then rangeAt ss seg at_ n else []
abbrev Tv := Except Int (Nd × Int)
abbrev Tvs := Except Int (List Nd × Int)
/-- the first i results of a threaded traversal -/
def upto (f : Int → Nat → Tv) (m : Int) : Nat → Tvs
  | 0 => .ok ([], m)
  | i + 1 => match upto f m i with
    | .error e => .error e
    | .ok (l, m1) => match f m1 i with
      | .error e => .error e
      | .ok (x, m2) => .ok (l ++ [x], m2)
theorem upto_error {f : Int → Nat → Tv} {m e : Int} {i : Nat} (h : upto f m i = .error e) : ∀ j, i ≤ j → upto f m j = .error e := by
  intro j hj
  induction j with
  | zero => obtain rfl : i = 0 := by omega
            exact h
  | succ j ih =>
    rcases Nat.lt_or_ge j i with h1 | h1
    · obtain rfl : i = j + 1 := by omega
      exact h
    · simp only [upto, ih h1]
theorem upto_length {f : Int → Nat → Tv} {m : Int} : ∀ {i : Nat} {l : List Nd} {m' : Int}, upto f m i = .ok (l, m') → l.length = i := by
  intro i
  induction i with
  | zero => intro l m' h; simp only [upto, Except.ok.injEq, Prod.mk.injEq] at h; rw [← h.1]; rfl
  | succ i ih =>
    intro l m' h
    simp only [upto] at h
    split at h
    · cases h
    · rename_i l1 m1 h1
      split at h
      · cases h
      · rename_i x m2 h2
        simp only [Except.ok.injEq, Prod.mk.injEq] at h
        rw [← h.1]; simp [ih h1]
def mapNd (f : List Nd → Nd) : Tvs → Tv
  | .error e => .error e
  | .ok (l, m) => .ok (f l, m)
section
variable (ss : List (List Int)) (rec : Int → Int → Int → Tv)
def ptrsV (o : Ob) (m : Int) : Tvs := upto (fun m i => rec m o.seg ((pointersOf o).1 + (i : Int))) m (pointersOf o).2.toNat
def structV (o : Ob) (m : Int) : Tv := mapNd (fun l => .mk 1 0 0 (wbytes (sliceAt ss o.seg o.at_ o.data)) l) (ptrsV rec o m)
def compV (o : Ob) (m : Int) : Tvs := upto (fun m i => structV ss rec (element o (i : Int)) m) m o.n.toNat
def listV (o : Ob) (m : Int) : Tv :=
  if o.elem = 6 then mapNd (fun l => .mk 2 o.elem o.n [] l) (ptrsV rec o m)
  else if o.elem = 7 then mapNd (fun l => .mk 2 o.elem o.n [] l) (compV ss rec o m)
  else .ok (.mk 2 o.elem o.n (trimB o.elem o.n (wbytes (sliceAt ss o.seg o.at_ o.cost))) [], m)
def objV (o : Ob) (m : Int) : Tv := if o.kind = 1 then structV ss rec o m else listV ss rec o m
end
/-- the value of a pointer; k: how many levels of objects may follow -/
def valueV (ss : List (List Int)) : Nat → Int → Int → Int → Tv
  | k, m, seg, at_ =>
    if (follow ss seg at_).err ≠ 0 then .error (follow ss seg at_).err
    else if (follow ss seg at_).w = 0 then .ok (.null, m)
    else match k with
      | 0 => .error 7
      | k + 1 =>
        if (object ss seg at_).2 ≠ 0 then .error (object ss seg at_).2
        else if m < (object ss seg at_).1.cost then .error 8
        else objV ss (valueV ss k) (object ss seg at_).1 (m - (object ss seg at_).1.cost)
def startM (w : Int) : Int := if w < 0 then 0 else w
def runV (ss : List (List Int)) (depth words : Int) : Tv :=
  if 0 < ss.length ∧ (ss.getD 0 []).length = 0 then .ok (.null, startM words) else valueV ss depth.toNat (startM words) 0 0
/-- the cost of a traversal, and the error -/
def measureV (ss : List (List Int)) (depth words : Int) : Int × Int :=
  match runV ss depth words with
  | .error e => (0, e)
  | .ok (_, m) => (startM words - m, 0)
/-! ### located objects are in bounds -/
/-- words of an object's contents -/
def spanOf (o : Ob) : Int := if o.kind = 1 then o.data + o.ptrs else if o.elem = 7 then o.n * (o.data + o.ptrs) else lwords o.elem o.n
structure ObIn (ss : List (List Int)) (o : Ob) : Prop where
  kind : o.kind = 1 ∨ o.kind = 2
  data : 0 ≤ o.data ∧ o.data < 65536
  ptrs : 0 ≤ o.ptrs ∧ o.ptrs < 65536
  elem : 0 ≤ o.elem ∧ o.elem < 8
  n : 0 ≤ o.n ∧ o.n < 536870912
  inb : inB ss o.seg o.at_ (spanOf o) = true
structure ObCost (o : Ob) : Prop where
  span : spanOf o ≤ o.cost
  count : o.kind = 2 → o.elem = 7 → o.n ≤ o.cost
  words : o.kind = 2 → o.elem ≠ 7 → o.cost = lwords o.elem o.n
  low : 0 ≤ o.cost
  high : o.cost ≤ 1073741824
theorem bitsI_bd (e : Int) : 0 ≤ bitsI e ∧ bitsI e ≤ 64 := by unfold bitsI; split <;> (try split) <;> (try split) <;> (try split) <;> (try split) <;> omega
theorem lwords_bd {e n : Int} (h0 : 0 ≤ n) (h1 : n < 536870912) : 0 ≤ lwords e n ∧ lwords e n ≤ 536870912 := by
  obtain ⟨b0, b1⟩ := bitsI_bd e
  unfold lwords up
  split
  · omega
  · have h2 : 0 ≤ bitsI e * n := Int.mul_nonneg b0 h0
    have h3 : bitsI e * n ≤ 64 * n := Int.mul_le_mul_of_nonneg_right b1 h0
    omega
theorem lbytes_le {e n : Int} (h0 : 0 ≤ n) (h7 : e ≠ 7) : 0 ≤ lbytes e n ∧ lbytes e n ≤ 8 * lwords e n := by
  obtain ⟨b0, b1⟩ := bitsI_bd e
  have h2 : 0 ≤ bitsI e * n := Int.mul_nonneg b0 h0
  unfold lbytes lwords up
  rw [if_neg h7]
  omega
theorem place_in {ss : List (List Int)} (hw : WFS ss) {p : Ptr} (hp : PtrIn p) {seg start : Int} (he : (place_ ss p seg start).2 = 0) : ObIn ss (place_ ss p seg start).1 ∧ ObCost (place_ ss p seg start).1 := by
  have hd := hp.data; have hq := hp.ptrs; have hel := hp.elem; have hc := hp.count
  unfold place_ at *
  split at he
  · rename_i hk
    rw [if_pos hk]
    unfold within at *
    simp only at *
    split at he
    · rename_i hb
      rw [if_pos hb]
      exact ⟨⟨.inl rfl, hd, hq, ⟨by simp, by simp⟩, ⟨by simp, by simp⟩, hb⟩, by simp [spanOf], by simp, by simp, by simp only; omega, by simp only; omega⟩
    · simp at he
  · rename_i hk
    rw [if_neg hk]
    split at he
    · rename_i hk1
      rw [if_pos hk1]
      split at he
      · rename_i h7
        rw [if_pos h7]
        unfold composite at *
        split at he
        · simp at he
        · rename_i hb
          rw [if_neg hb]
          simp only at *
          split at he
          · simp at he
          · rename_i ht
            rw [if_neg ht]
            have hb' : inB ss seg start (p.count + 1) = true := by simpa using hb
            obtain ⟨b0, b1, b2, b3, b4, b5⟩ := inB_of hb'
            have hti := decodeI_in (wordAt ss seg start)
            generalize decodeI (wordAt ss seg start) = T at *
            have htd := hti.data; have htp := hti.ptrs; have hto := hti.offset
            simp only at *
            simp only [Bool.or_eq_true, decide_eq_true_eq, bne_iff_ne, ne_eq, not_or, Decidable.not_not, Int.not_lt] at ht
            obtain ⟨⟨ht1, ht2⟩, ht3⟩ := ht
            have hs : segLen ss seg ≤ 1000000 := (segLen_bd hw seg).2
            refine ⟨⟨.inr rfl, htd, htp, ⟨by simp, by simp⟩, ⟨ht2, hto.2⟩, ?_⟩, ?_, ?_, ?_, ?_, ?_⟩
            · simp only [spanOf]
              have hm := Int.mul_nonneg ht2 (show 0 ≤ T.data + T.ptrs by omega)
              unfold inB
              simp
              omega
            · simp only [spanOf]
              split <;> (try simp) <;> omega
            · intro _ _
              simp only
              split
              · omega
              · rename_i hz
                have : 1 ≤ T.data + T.ptrs := by omega
                have := Int.mul_le_mul_of_nonneg_left this ht2
                omega
            · intro _ h; exact absurd rfl h
            · simp only; split <;> omega
            · simp only; split <;> omega
      · rename_i h7
        rw [if_neg h7]
        unfold within at *
        simp only at *
        split at he
        · rename_i hb
          rw [if_pos hb]
          have hl := lwords_bd (e := p.elem) hc.1 hc.2
          exact ⟨⟨.inr rfl, ⟨by simp, by simp⟩, ⟨by simp, by simp⟩, hel, hc, by simpa [spanOf, h7] using hb⟩, by simp [spanOf, h7], by simp [h7], by simp, by simp only; omega, by simp only; omega⟩
        · simp at he
    · split at he <;> simp at he
theorem object_in {ss : List (List Int)} (hw : WFS ss) {seg at_ : Int} (he : (object ss seg at_).2 = 0) (h0 : (follow ss seg at_).w ≠ 0) : ObIn ss (object ss seg at_).1 ∧ ObCost (object ss seg at_).1 := by
  unfold object at *
  dsimp only at *
  split at he
  · rename_i h
    rcases h with h | h
    · exact absurd he h
    · exact absurd h h0
  · rename_i h
    rw [if_neg h]
    exact place_in hw (decodeI_in _) he
theorem inB_sub {ss : List (List Int)} {seg a n a' n' : Int} (h : inB ss seg a n = true) (h1 : a ≤ a') (h2 : a' + n' ≤ a + n) (h3 : 0 ≤ n') : inB ss seg a' n' = true := by
  obtain ⟨b0, b1, b2, b3, b4, b5⟩ := inB_of h
  unfold inB
  simp
  omega
theorem element_in {ss : List (List Int)} {o : Ob} (h : ObIn ss o) (hk : o.kind = 2) (h7 : o.elem = 7) {i : Int} (i0 : 0 ≤ i) (i1 : i < o.n) : ObIn ss (element o i) := by
  refine ⟨.inl rfl, h.data, h.ptrs, ⟨by simp [element], by simp [element]⟩, ⟨by simp [element], by simp [element]⟩, ?_⟩
  have hb := h.inb
  have hd := h.data.1
  have hp := h.ptrs.1
  simp only [spanOf, hk, h7, element] at *
  simp only [if_true, show ¬ (2 : Int) = 1 from by omega, if_false] at hb
  have e1 : i * (o.data + o.ptrs) + (o.data + o.ptrs) ≤ o.n * (o.data + o.ptrs) := by
    have := Int.mul_le_mul_of_nonneg_right (show i + 1 ≤ o.n by omega) (show 0 ≤ o.data + o.ptrs by omega)
    rw [Int.add_mul, Int.one_mul] at this
    exact this
  have e2 := Int.mul_nonneg i0 (show 0 ≤ o.data + o.ptrs by omega)
  exact inB_sub hb (by omega) (by simp only [if_true]; omega) (by simp only [if_true]; omega)
theorem pointers_in {ss : List (List Int)} (hw : WFS ss) {o : Ob} (h : ObIn ss o) : 0 ≤ (pointersOf o).1 ∧ 0 ≤ (pointersOf o).2 ∧ (pointersOf o).1 + (pointersOf o).2 ≤ 1000000 := by
  have hb := h.inb
  have hd := h.data
  have hp := h.ptrs
  obtain ⟨b0, b1, b2, b3, b4, b5⟩ := inB_of hb
  have hs := (segLen_bd hw o.seg).2
  unfold pointersOf
  split
  · rename_i hk
    simp only [spanOf, hk.1, if_true] at *
    omega
  · split
    · rename_i hk
      simp only [spanOf, hk.1, hk.2.1] at *
      have hn := h.n
      simp only [show ¬ (2 : Int) = 1 from by omega, show ¬ (6 : Int) = 7 from by omega, if_false, lwords, up, bitsI] at *
      simp at *
      omega
    · simp
end Go.Proofs.YtelghkgnkncnoaaDoor
/- Facts on traversals: the meter. No program in sight. -/
set_option linter.unusedVariables false
namespace Go.Proofs.YtelghkgnkncnoaaDoor
/-- a step that lowers the meter, if it succeeds -/
def Low (f : Int → Tv) : Prop := ∀ m x m', 0 ≤ m → f m = .ok (x, m') → 0 ≤ m' ∧ m' ≤ m
theorem upto_low {f : Int → Nat → Tv} (hf : ∀ i, Low fun m => f m i) {m : Int} (h0 : 0 ≤ m) : ∀ {n : Nat} {l : List Nd} {m' : Int}, upto f m n = .ok (l, m') → 0 ≤ m' ∧ m' ≤ m := by
  intro n
  induction n with
  | zero => intro l m' h; simp only [upto, Except.ok.injEq, Prod.mk.injEq] at h; omega
  | succ n ih =>
    intro l m' h
    simp only [upto] at h
    split at h
    · cases h
    · rename_i l1 m1 h1
      have h2 := ih h1
      split at h
      · cases h
      · rename_i x m2 h3
        have h4 := hf n m1 x m2 h2.1 h3
        simp only [Except.ok.injEq, Prod.mk.injEq] at h
        omega
theorem mapNd_ok {f : List Nd → Nd} {r : Tvs} {x : Nd} {m' : Int} (h : mapNd f r = .ok (x, m')) : ∃ l, r = .ok (l, m') ∧ x = f l := by
  unfold mapNd at h
  split at h
  · cases h
  · simp only [Except.ok.injEq, Prod.mk.injEq] at h
    obtain ⟨rfl, rfl⟩ := h
    exact ⟨_, rfl, rfl⟩
theorem mapNd_error {f : List Nd → Nd} {r : Tvs} {e : Int} (h : mapNd f r = .error e) : r = .error e := by
  unfold mapNd at h
  split at h
  · simpa using h
  · cases h
section
variable {ss : List (List Int)} {rec : Int → Int → Int → Tv}
theorem ptrsV_low (hr : ∀ seg at_, Low fun m => rec m seg at_) {o : Ob} {m : Int} (h0 : 0 ≤ m) {l : List Nd} {m' : Int} (h : ptrsV rec o m = .ok (l, m')) : 0 ≤ m' ∧ m' ≤ m :=
  upto_low (fun i => hr _ _) h0 h
theorem structV_low (hr : ∀ seg at_, Low fun m => rec m seg at_) (o : Ob) : Low (structV ss rec o) := by
  intro m x m' h0 h
  obtain ⟨l, h1, rfl⟩ := mapNd_ok h
  exact ptrsV_low hr h0 h1
theorem listV_low (hr : ∀ seg at_, Low fun m => rec m seg at_) (o : Ob) : Low (listV ss rec o) := by
  intro m x m' h0 h
  unfold listV at h
  split at h
  · obtain ⟨l, h1, rfl⟩ := mapNd_ok h
    exact ptrsV_low hr h0 h1
  · split at h
    · obtain ⟨l, h1, rfl⟩ := mapNd_ok h
      exact upto_low (fun i => structV_low hr _) h0 h1
    · simp only [Except.ok.injEq, Prod.mk.injEq] at h
      omega
theorem objV_low (hr : ∀ seg at_, Low fun m => rec m seg at_) (o : Ob) : Low (objV ss rec o) := by
  intro m x m' h0 h
  unfold objV at h
  split at h
  · exact structV_low hr o m x m' h0 h
  · exact listV_low hr o m x m' h0 h
end
theorem valueV_low {ss : List (List Int)} (hw : WFS ss) : ∀ k seg at_, Low fun m => valueV ss k m seg at_ := by
  intro k
  induction k with
  | zero =>
    intro seg at_ m x m' h0 h
    unfold valueV at h
    dsimp only at h
    split at h
    · cases h
    · split at h
      · simp only [Except.ok.injEq, Prod.mk.injEq] at h; omega
      · cases h
  | succ k ih =>
    intro seg at_ m x m' h0 h
    unfold valueV at h
    dsimp only at h
    split at h
    · cases h
    · split at h
      · simp only [Except.ok.injEq, Prod.mk.injEq] at h; omega
      · rename_i hz
        split at h
        · cases h
        · rename_i he
          split at h
          · cases h
          · rename_i hc
            have ho := (object_in hw (by simpa using he) hz).2
            have h1 := objV_low ih _ _ x m' (by omega) h
            have := ho.low
            omega
theorem runV_ok {ss : List (List Int)} (hw : WFS ss) {d wl : Int} {x : Nd} {m' : Int} (h : runV ss d wl = .ok (x, m')) : 0 ≤ m' ∧ m' ≤ startM wl := by
  have h0 : 0 ≤ startM wl := by unfold startM; split <;> omega
  unfold runV at h
  split at h
  · simp only [Except.ok.injEq, Prod.mk.injEq] at h; omega
  · exact valueV_low hw _ _ _ _ _ _ h0 h
/-- errors are not 0 -/
def Sound (f : Int → Tv) : Prop := ∀ m e, f m = .error e → e ≠ 0
theorem upto_sound {f : Int → Nat → Tv} (hf : ∀ i, Sound fun m => f m i) {m : Int} : ∀ {n : Nat} {e : Int}, upto f m n = .error e → e ≠ 0 := by
  intro n
  induction n with
  | zero => intro e h; simp [upto] at h
  | succ n ih =>
    intro e h
    simp only [upto] at h
    split at h
    · rename_i e' h1
      simp only [Except.error.injEq] at h
      subst h; exact ih h1
    · rename_i l m1 h1
      split at h
      · rename_i e' h2
        simp only [Except.error.injEq] at h
        subst h; exact hf n m1 e' h2
      · cases h
section
variable {ss : List (List Int)} {rec : Int → Int → Int → Tv}
theorem structV_sound (hr : ∀ seg at_, Sound fun m => rec m seg at_) (o : Ob) : Sound (structV ss rec o) := fun m e h => upto_sound (fun i => hr _ _) (mapNd_error h)
theorem listV_sound (hr : ∀ seg at_, Sound fun m => rec m seg at_) (o : Ob) : Sound (listV ss rec o) := by
  intro m e h
  unfold listV at h
  split at h
  · exact upto_sound (fun i => hr _ _) (mapNd_error h)
  · split at h
    · exact upto_sound (fun i => structV_sound hr _) (mapNd_error h)
    · cases h
theorem objV_sound (hr : ∀ seg at_, Sound fun m => rec m seg at_) (o : Ob) : Sound (objV ss rec o) := by
  intro m e h
  unfold objV at h
  split at h
  · exact structV_sound hr o m e h
  · exact listV_sound hr o m e h
end
theorem valueV_sound {ss : List (List Int)} : ∀ k seg at_, Sound fun m => valueV ss k m seg at_ := by
  intro k
  induction k with
  | zero =>
    intro seg at_ m e h
    unfold valueV at h
    dsimp only at h
    split at h
    · rename_i h1; simp only [Except.error.injEq] at h; subst h; exact h1
    · split at h
      · cases h
      · simp only [Except.error.injEq] at h; omega
  | succ k ih =>
    intro seg at_ m e h
    unfold valueV at h
    dsimp only at h
    split at h
    · rename_i h1; simp only [Except.error.injEq] at h; subst h; exact h1
    · split at h
      · cases h
      · split at h
        · rename_i h1; simp only [Except.error.injEq] at h; subst h; exact h1
        · split at h
          · simp only [Except.error.injEq] at h; omega
          · exact objV_sound ih _ _ e h
theorem runV_err {ss : List (List Int)} (hw : WFS ss) {d wl e : Int} (h : runV ss d wl = .error e) : e ≠ 0 := by
  unfold runV at h
  split at h
  · cases h
  · exact valueV_sound _ _ _ _ e h
end Go.Proofs.YtelghkgnkncnoaaDoor
