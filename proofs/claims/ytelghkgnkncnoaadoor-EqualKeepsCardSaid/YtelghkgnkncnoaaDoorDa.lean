/- A part of the proof: the texts Draw Draw2 Split joined. -/
import Derived.Orders
import Derived.Tactics
import Derived.Deep.QuietTactic
import Derived.Below
/- A region that draws its order, walked once an operation: each operation's value has a property that every later world keeps. -/
set_option linter.unusedVariables false
namespace Go.Proofs.YtelghkgnkncnoaaDoor
section
variable {P : Program} {ops : Array Oper} {Q : Exit → Act → World → Prop}

def needB (ops : Array Oper) (i j : Nat) : Bool := match ops[i]? with
  | some o => o.after.toList.any fun e => Region.binds .any e && e.on == j
  | none => false
/-- what stands from place m on waits for all that stands before it -/
def reachB (ops : Array Oper) : Nat → Nat → Nat → Bool
  | 0, _, _ => false
  | f + 1, i, j => needB ops i j || (List.range i).any fun k => needB ops i k && reachB ops f k j
def tailB (ops : Array Oper) (m : Nat) : Bool := (List.range ops.size).all fun i => decide (i < m) || (List.range i).all fun j => reachB ops ops.size i j
theorem reach_in {L : Nat → Prop} (hcl : ∀ k, L k → ∀ j, needB ops k j = true → L j) : ∀ (f i j : Nat), (∀ j, needB ops i j = true → L j) → reachB ops f i j = true → L j := by
  intro f
  induction f with
  | zero => intro i j _ h; simp [reachB] at h
  | succ f ih =>
    intro i j hn h
    simp only [reachB, Bool.or_eq_true, List.any_eq_true, Bool.and_eq_true] at h
    rcases h with h | ⟨k, _, hk, hr⟩
    · exact hn j h
    · exact ih k j (hcl k (hn k hk)) hr
/-- nothing waits for what stands behind it -/
def backB (ops : Array Oper) : Bool := (List.range ops.size).all fun i => match ops[i]? with
  | some o => o.after.toList.all fun e => !Region.binds .any e || decide (e.on < i)
  | none => true
def slotOf (ops : Array Oper) (j : Nat) : Option Tmp := (ops[j]?).bind (·.dst)
def val (ops : Array Oper) (a : Act) (j : Nat) : Value := match slotOf ops j with
  | some t => a.tmps.getD t undef
  | none => undef
/-- no slot is written twice -/
def onceB (ops : Array Oper) : Bool := (List.range ops.size).all fun i => (List.range i).all fun j => (slotOf ops j).isNone || slotOf ops i != slotOf ops j

theorem mem_ready {listed : Array Bool} {i : Nat} : i ∈ Region.ready .any ops listed ↔ ∃ o, ops[i]? = some o ∧ listed.getD i true = false ∧ ∀ e ∈ o.after.toList, Region.binds .any e = true → listed.getD e.on false = true := by
  unfold Region.ready
  rw [List.mem_filter, List.mem_range, Bool.and_eq_true]
  constructor
  · rintro ⟨hi, h1, h2⟩
    have ho : ops[i]? = some ops[i] := Array.getElem?_eq_getElem hi
    rw [ho, Option.map_some, Option.getD_some, ← Array.all_toList, List.all_eq_true] at h2
    refine ⟨ops[i], ho, by simpa using h1, fun e he hb => ?_⟩
    have := h2 e he
    rw [hb] at this
    simpa using this
  · rintro ⟨o, ho, h1, h2⟩
    have hi := (Array.getElem?_eq_some_iff.1 ho).1
    refine ⟨hi, by simp [h1], ?_⟩
    rw [ho, Option.map_some, Option.getD_some, ← Array.all_toList, List.all_eq_true]
    intro e he
    cases hb : Region.binds .any e with
    | false => rfl
    | true => simp [h2 e he hb]
theorem wpList_cons_op (k : Nat) (hk : k < ops.size) (a : Act) (w : World) (h : wpList P ops Q (ops.toList.drop k) a w) : wpOp P ops Q k (wpList P ops Q (ops.toList.drop (k + 1))) a w := by
  have e : ops.toList.drop k = ops[k] :: ops.toList.drop (k + 1) := by
    rw [List.drop_eq_getElem_cons (by simpa using hk)]; simp
  rw [e] at h
  unfold wpOp
  rw [Array.getElem?_eq_getElem hk]
  exact h
theorem needB_spec {i j : Nat} (h : needB ops i j = true) : ∃ o, ops[i]? = some o ∧ ∃ e ∈ o.after.toList, Region.binds .any e = true ∧ e.on = j := by
  unfold needB at h
  cases ho : ops[i]? with
  | none => rw [ho] at h; simp at h
  | some o =>
    rw [ho] at h
    simp only [List.any_eq_true, Bool.and_eq_true, beq_iff_eq] at h
    obtain ⟨e, he, hb, hj⟩ := h
    exact ⟨o, rfl, e, he, hb, hj⟩
/-- the tail, in its one order -/
theorem tail_any {m : Nat} (ht : tailB ops m = true) (hb : backB ops = true) : ∀ (d k : Nat) (listed : Array Bool) (a : Act) (w : World), ops.size - k = d → m ≤ k → k ≤ ops.size → listed.size = ops.size →
    (∀ i, i < ops.size → listed.getD i true = decide (i < k)) → wpList P ops Q (ops.toList.drop k) a w → wpAny P .any ops Q d listed a w := by
  intro d
  induction d with
  | zero =>
    intro k listed a w hd hm hk hs hl h
    have hkk : k = ops.size := by omega
    subst hkk
    have hnil : ops.toList.drop ops.size = [] := List.drop_eq_nil_of_le (by simp)
    rw [hnil] at h
    refine ⟨?_, h⟩
    rw [List.eq_nil_iff_forall_not_mem]
    intro i hi
    obtain ⟨o, ho, h1, _⟩ := mem_ready.1 hi
    have hi' := (Array.getElem?_eq_some_iff.1 ho).1
    rw [hl i hi'] at h1
    simp at h1; omega
  | succ d ih =>
    intro k listed a w hd hm hk hs hl h
    have hkn : k < ops.size := by omega
    have hready : ∀ i ∈ Region.ready .any ops listed, i = k := by
      intro i hi
      obtain ⟨o, ho, h1, h2⟩ := mem_ready.1 hi
      have hi' := (Array.getElem?_eq_some_iff.1 ho).1
      rw [hl i hi'] at h1
      have hki : k ≤ i := by simpa using h1
      rcases Nat.lt_or_ge k i with hlt | hge
      · have h3 := List.all_eq_true.1 ht i (List.mem_range.2 hi')
        have him : ¬ i < m := by omega
        simp only [him, decide_false, Bool.false_or] at h3
        have h4 := List.all_eq_true.1 h3 k (List.mem_range.2 hlt)
        have h5 : listed.getD k true = true := by
          refine reach_in (ops := ops) (L := fun j => listed.getD j true = true) ?_ ops.size i k ?_ h4
          · intro k' hk' j hj
            obtain ⟨o', ho', e, he, hbd, hej⟩ := needB_spec hj
            have hk1 := (Array.getElem?_eq_some_iff.1 ho').1
            rw [hl k' hk1] at hk'
            have hk2 : k' < k := by simpa using hk'
            have h6 := List.all_eq_true.1 hb k' (List.mem_range.2 hk1)
            rw [ho'] at h6
            have h7 := List.all_eq_true.1 h6 e he
            rw [hbd] at h7
            have h8 : e.on < k' := by simpa using h7
            have h9 := hl j (by omega)
            show listed.getD j true = true
            rw [h9]; simp; omega
          · intro j hj
            obtain ⟨o', ho', e, he, hbd, hej⟩ := needB_spec hj
            rw [ho] at ho'
            obtain rfl := Option.some.inj ho'
            have h6 := h2 e he hbd
            rw [hej] at h6
            show listed.getD j true = true
            rcases Nat.lt_or_ge j listed.size with hjl | hjl
            · simp only [Array.getD_eq_getD_getElem?, Array.getElem?_eq_getElem hjl, Option.getD_some] at h6 ⊢
              exact h6
            · simp only [Array.getD_eq_getD_getElem?, Array.getElem?_eq_none hjl, Option.getD_none]
        rw [hl k hkn] at h5
        simp at h5
      · omega
    have hkready : k ∈ Region.ready .any ops listed := by
      refine mem_ready.2 ⟨ops[k], Array.getElem?_eq_getElem hkn, by rw [hl k hkn]; simp, fun e he hbd => ?_⟩
      have h3 := List.all_eq_true.1 hb k (List.mem_range.2 hkn)
      rw [Array.getElem?_eq_getElem hkn] at h3
      have h4 := List.all_eq_true.1 h3 e he
      rw [hbd] at h4
      have h5 : e.on < k := by simpa using h4
      have h6 := hl e.on (by omega)
      simp only [Array.getD_eq_getD_getElem?, Array.getElem?_eq_getElem (show e.on < listed.size by omega), Option.getD_some] at h6 ⊢
      rw [h6]; simpa using h5
    refine ⟨fun hn => (by rw [hn] at hkready; simp at hkready), fun i hi => ?_⟩
    obtain rfl := hready i hi
    refine wpOp_mono (fun a' w' h' => ih (i + 1) _ a' w' (by omega) (by omega) (by omega) (by simp [hs]) ?_ h') (wpList_cons_op i hkn a w h)
    intro j hj
    have hjl : j < (listed.setIfInBounds i true).size := by simp [hs, hj]
    simp only [Array.getD_eq_getD_getElem?]
    by_cases hji : i = j
    · subst hji
      rw [Array.getElem?_setIfInBounds_self_of_lt (by omega)]
      simp
    · rw [Array.getElem?_setIfInBounds_ne hji]
      have := hl j hj
      simp only [Array.getD_eq_getD_getElem?] at this
      rw [this]
      simp; omega
structure Sofar (ops : Array Oper) (m : Nat) (le : World → World → Prop) (R : Nat → Value → World → Prop) (D : Nat → Nat → Value → Value → Prop) (a0 : Act) (w0 : World) (listed : Array Bool) (a : Act) (w : World) : Prop where
  le : le w0 w
  size : listed.size = ops.size
  tmps : a.tmps.size = a0.tmps.size
  defers : a.defers = a0.defers
  same : ∀ t, (∀ j, j < m → slotOf ops j ≠ some t) → a.tmps.getD t undef = a0.tmps.getD t undef
  done : ∀ j, j < m → listed.getD j true = true → R j (val ops a j) w
  tail : ∀ j, m ≤ j → j < ops.size → listed.getD j true = false
  closed : ∀ k, listed.getD k true = true → k < ops.size → ∀ j, needB ops k j = true → listed.getD j true = true
  pair : ∀ j k, j < m → k < m → j ≠ k → listed.getD j true = true → listed.getD k true = true → D j k (val ops a j) (val ops a k)
theorem count_set (listed : Array Bool) (n i : Nat) (hs : listed.size = n) (hi : i < n) (h : listed.getD i true = false) :
    (List.range n).countP (fun j => !listed.getD j true) = (List.range n).countP (fun j => !(listed.setIfInBounds i true).getD j true) + 1 := by
  have key : ∀ l : List Nat, l.Nodup → i ∈ l → (∀ j ∈ l, j < n) → l.countP (fun j => !listed.getD j true) = l.countP (fun j => !(listed.setIfInBounds i true).getD j true) + 1 := by
    intro l
    induction l with
    | nil => intro _ hm; simp at hm
    | cons x r ih =>
      intro hnd hm hb
      have hset : ∀ j, j ≠ i → (listed.setIfInBounds i true).getD j true = listed.getD j true := by
        intro j hj
        simp only [Array.getD_eq_getD_getElem?]
        rw [Array.getElem?_setIfInBounds_ne (Ne.symm hj)]
      have hself : (listed.setIfInBounds i true).getD i true = true := by
        simp only [Array.getD_eq_getD_getElem?]
        rw [Array.getElem?_setIfInBounds_self_of_lt (by omega)]
        rfl
      rw [List.countP_cons, List.countP_cons]
      by_cases hx : x = i
      · subst hx
        have hr : r.countP (fun j => !listed.getD j true) = r.countP (fun j => !(listed.setIfInBounds x true).getD j true) := by
          apply List.countP_congr
          intro j hj
          have hne : j ≠ x := fun e => (List.nodup_cons.1 hnd).1 (e ▸ hj)
          rw [hset j hne]
        rw [hr, h, hself]
        simp
      · have hm' : i ∈ r := by
          rcases List.mem_cons.1 hm with e | e
          · exact absurd e.symm hx
          · exact e
        rw [ih (List.nodup_cons.1 hnd).2 hm' (fun j hj => hb j (List.mem_cons_of_mem _ hj)), hset x hx]
        omega
  exact key _ List.nodup_range (List.mem_range.2 hi) (fun j hj => List.mem_range.1 hj)
theorem val_put (hon : onceB ops = true) (a : Act) (i j : Nat) (v : Value) (hi : i < ops.size) (hj : j < ops.size) (hij : i ≠ j) : val ops (a.put (slotOf ops i) v) j = val ops a j := by
  unfold val
  cases hsj : slotOf ops j with
  | none => rfl
  | some t =>
    have hne : slotOf ops i ≠ some t := by
      rcases Nat.lt_or_ge i j with h | h
      · have h1 := List.all_eq_true.1 hon j (List.mem_range.2 hj)
        have h2 := List.all_eq_true.1 h1 i (List.mem_range.2 h)
        rw [hsj] at h2
        intro e
        rw [e] at h2
        simp at h2
      · have h1 := List.all_eq_true.1 hon i (List.mem_range.2 hi)
        have h2 := List.all_eq_true.1 h1 j (List.mem_range.2 (by omega))
        rw [hsj] at h2
        intro e
        rw [e] at h2
        simp at h2
    cases hsi : slotOf ops i with
    | none => rfl
    | some u =>
      have hut : u ≠ t := fun e => hne (by rw [hsi, e])
      simp [Act.put, Array.getD_eq_getD_getElem?, Array.getElem?_setIfInBounds_ne hut]
/-- THE RULE. m: how many operations stand free; R i: what the i-th one's value is; le: how worlds go on. -/
theorem wp_region_free {id : Nat} {a0 : Act} {w0 : World} (m : Nat) (hmn : m ≤ ops.size) (hd : P.follows .mixedOrders = true) (ht : tailB ops m = true) (hb : backB ops = true) (hon : onceB ops = true)
    (hsz : ∀ j, j < m → ∀ t, slotOf ops j = some t → t < a0.tmps.size)
    (le : World → World → Prop) (hrefl : le w0 w0.drew) (htrans : ∀ a b c, le a b → le b c → le a c) (R : Nat → Value → World → Prop) (D : Nat → Nat → Value → Value → Prop)
    (hst : ∀ i, i < m → ∀ v w w', R i v w → le w w' → R i v w')
    (hstep : ∀ i, i < m → ∀ (a : Act) (w : World), le w0 w → a.tmps.size = a0.tmps.size → a.defers = a0.defers → (∀ t, (∀ j, j < m → slotOf ops j ≠ some t) → a.tmps.getD t undef = a0.tmps.getD t undef) →
      ∀ L : Nat → Bool, (∀ j, needB ops i j = true → L j = true) → (∀ j, j < m → L j = true → R j (val ops a j) w) → wpOp P ops Q i (fun a' w' => ∃ v, a' = a.put (slotOf ops i) v ∧ R i (match slotOf ops i with | some _ => v | none => undef) w' ∧ le w w' ∧
        ∀ j, j < m → L j = true → j ≠ i → D j i (val ops a j) (match slotOf ops i with | some _ => v | none => undef) ∧ D i j (match slotOf ops i with | some _ => v | none => undef) (val ops a j)) a w)
    (htail : ∀ (a : Act) (w : World), le w0 w → a.tmps.size = a0.tmps.size → a.defers = a0.defers → (∀ t, (∀ j, j < m → slotOf ops j ≠ some t) → a.tmps.getD t undef = a0.tmps.getD t undef) → (∀ j, j < m → R j (val ops a j) w) → (∀ j k, j < m → k < m → j ≠ k → D j k (val ops a j) (val ops a k)) →
      wpList P ops Q (ops.toList.drop m) a w) :
    (Code.region id ops true).wp P Q a0 w0 := by
  refine wp_region_draw fun t => ?_
  have hsch : Region.schedule (P.follows .mixedOrders) ops t = Region.linearise .any ops t := by unfold Region.schedule; simp [hd]
  rw [hsch]
  refine wpAny_sound ops.size t _ a0 _ ?_
  have main : ∀ (fuel : Nat) (listed : Array Bool) (a : Act) (w : World), (List.range ops.size).countP (fun j => !listed.getD j true) = fuel → Sofar ops m le R D a0 w0 listed a w → wpAny P .any ops Q fuel listed a w := by
    intro fuel
    induction fuel with
    | zero =>
      intro listed a w hc hs
      have hall : ∀ j, j < ops.size → listed.getD j true = true := by
        intro j hj
        have := List.countP_eq_zero.1 hc j (List.mem_range.2 hj)
        simpa using this
      have hm : m = ops.size := by
        rcases Nat.lt_or_ge m ops.size with h | h
        · have h1 := hs.tail m (Nat.le_refl _) h
          rw [hall m h] at h1
          cases h1
        · omega
      have htl := htail a w hs.le hs.tmps hs.defers hs.same (fun j hj => hs.done j hj (hall j (by omega))) (fun j k hj hk hjk => hs.pair j k hj hk hjk (hall j (by omega)) (hall k (by omega)))
      exact tail_any ht hb 0 ops.size listed a w (by omega) (by omega) (Nat.le_refl _) hs.size (fun i hi => by rw [hall i hi]; simp [hi]) (by rw [hm] at htl; exact htl)
    | succ fuel ih =>
      intro listed a w hc hs
      have hex : ∃ i ∈ List.range ops.size, (!listed.getD i true) = true := List.countP_pos_iff.1 (by omega)
      refine ⟨fun hn => ?_, fun i hi => ?_⟩
      · -- the first that is not listed is ready
        exfalso
        obtain ⟨i, hi, hli⟩ := hex
        have hfirst : ∃ k, k < ops.size ∧ listed.getD k true = false ∧ ∀ j, j < k → listed.getD j true = true := by
          have hwf : ∀ q, (∃ k, k ≤ q ∧ k < ops.size ∧ listed.getD k true = false) → ∃ k, k < ops.size ∧ listed.getD k true = false ∧ ∀ j, j < k → listed.getD j true = true := by
            intro q
            induction q with
            | zero =>
              rintro ⟨k, hk, hk2, hk3⟩
              exact ⟨k, hk2, hk3, fun j hj => by omega⟩
            | succ q ihq =>
              rintro ⟨k, hk, hk2, hk3⟩
              by_cases hsm : ∃ j, j < k ∧ listed.getD j true = false
              · obtain ⟨j, hj, hj2⟩ := hsm
                exact ihq ⟨j, by omega, by omega, hj2⟩
              · refine ⟨k, hk2, hk3, fun j hj => ?_⟩
                cases hq : listed.getD j true with
                | true => rfl
                | false => exact absurd ⟨j, hj, hq⟩ hsm
          exact hwf i ⟨i, Nat.le_refl _, List.mem_range.1 hi, by simpa using hli⟩
        obtain ⟨k, hk, hk2, hk3⟩ := hfirst
        have hkready : k ∈ Region.ready .any ops listed := by
          refine mem_ready.2 ⟨ops[k], Array.getElem?_eq_getElem hk, hk2, fun e he hbd => ?_⟩
          have h3 := List.all_eq_true.1 hb k (List.mem_range.2 hk)
          rw [Array.getElem?_eq_getElem hk] at h3
          have h4 := List.all_eq_true.1 h3 e he
          rw [hbd] at h4
          have h5 : e.on < k := by simpa using h4
          have h6 := hk3 e.on h5
          have hsz' := hs.size
          simp only [Array.getD_eq_getD_getElem?, Array.getElem?_eq_getElem (show e.on < listed.size by omega), Option.getD_some] at h6 ⊢
          exact h6
        rw [hn] at hkready
        simp at hkready
      · obtain ⟨o, ho, h1, h2⟩ := mem_ready.1 hi
        have hi' := (Array.getElem?_eq_some_iff.1 ho).1
        have hszl := hs.size
        have hneed : ∀ j, needB ops i j = true → listed.getD j true = true := by
          intro j hj
          obtain ⟨o', ho', e, he, hbd, hej⟩ := needB_spec hj
          rw [ho] at ho'
          obtain rfl := Option.some.inj ho'
          have h4 := h2 e he hbd
          rw [hej] at h4
          rcases Nat.lt_or_ge j listed.size with hl | hl
          · simp only [Array.getD_eq_getD_getElem?, Array.getElem?_eq_getElem hl, Option.getD_some] at h4 ⊢
            exact h4
          · simp only [Array.getD_eq_getD_getElem?, Array.getElem?_eq_none hl, Option.getD_none]
        rcases Nat.lt_or_ge i m with him | him
        · refine wpOp_mono (fun a' w' h' => ?_) (hstep i him a w hs.le hs.tmps hs.defers hs.same (fun j => listed.getD j true) hneed hs.done)
          obtain ⟨v, rfl, hR, hle, hD⟩ := h'
          refine ih _ _ _ (by have := count_set listed ops.size i hs.size hi' h1; omega) ?_
          have hvi : val ops (a.put (slotOf ops i) v) i = (match slotOf ops i with | some _ => v | none => undef) := by
            unfold val
            cases hsl : slotOf ops i with
            | none => rfl
            | some u =>
              have hu := hsz i him u hsl
              simp [Act.put, Array.getD_eq_getD_getElem?, Array.getElem?_setIfInBounds_self_of_lt (show u < a.tmps.size by rw [hs.tmps]; exact hu)]
          have hback : ∀ j, i ≠ j → (listed.setIfInBounds i true).getD j true = true → listed.getD j true = true := by
            intro j hji hlj
            simp only [Array.getD_eq_getD_getElem?] at hlj ⊢
            rwa [Array.getElem?_setIfInBounds_ne hji] at hlj
          refine ⟨htrans _ _ _ hs.le hle, by simp [hs.size], ?_, ?_, ?_, ?_, ?_, ?_, ?_⟩
          · cases hsl : slotOf ops i <;> simp [Act.put, hs.tmps]
          · cases hsl : slotOf ops i <;> simp [Act.put, hs.defers]
          · intro t ht'
            rw [← hs.same t ht']
            cases hsl : slotOf ops i with
            | none => rfl
            | some u =>
              have hut : u ≠ t := fun e => ht' i him (by rw [hsl, e])
              simp [Act.put, Array.getD_eq_getD_getElem?, Array.getElem?_setIfInBounds_ne hut]
          · intro j hj hlj
            by_cases hji : i = j
            · subst hji
              rw [hvi]; exact hR
            · rw [val_put hon a i j v hi' (by omega) hji]
              exact hst j hj _ _ _ (hs.done j hj (hback j hji hlj)) hle
          · intro j hj hj2
            have hji : i ≠ j := by omega
            simp only [Array.getD_eq_getD_getElem?]
            rw [Array.getElem?_setIfInBounds_ne hji]
            have := hs.tail j hj hj2
            simpa only [Array.getD_eq_getD_getElem?] using this
          · intro k hlk hk j hj
            have hon2 : listed.getD j true = true := by
              by_cases hik : i = k
              · subst hik; exact hneed j hj
              · exact hs.closed k (hback k hik hlk) hk j hj
            by_cases hij : i = j
            · subst hij; rw [h1] at hon2; cases hon2
            · simp only [Array.getD_eq_getD_getElem?] at hon2 ⊢
              rwa [Array.getElem?_setIfInBounds_ne hij]
          · intro j k hj hk hjk hlj hlk
            by_cases hij : i = j
            · subst hij
              rw [hvi, val_put hon a i k v hi' (by omega) hjk]
              exact (hD k hk (hback k hjk hlk) (Ne.symm hjk)).2
            · by_cases hik : i = k
              · subst hik
                rw [hvi, val_put hon a i j v hi' (by omega) hij]
                exact (hD j hj (hback j hij hlj) hjk).1
              · rw [val_put hon a i j v hi' (by omega) hij, val_put hon a i k v hi' (by omega) hik]
                exact hs.pair j k hj hk hjk (hback j hij hlj) (hback k hik hlk)
        · -- the tail begins
          have hall : ∀ j, j < i → listed.getD j true = true := by
            intro j hj
            have h3 := List.all_eq_true.1 ht i (List.mem_range.2 hi')
            have him' : ¬ i < m := by omega
            simp only [him', decide_false, Bool.false_or] at h3
            exact reach_in (ops := ops) (L := fun j => listed.getD j true = true) (fun k hk j hj => by
              rcases Nat.lt_or_ge k ops.size with hkk | hkk
              · exact hs.closed k hk hkk j hj
              · obtain ⟨o', ho', _⟩ := needB_spec hj
                have := (Array.getElem?_eq_some_iff.1 ho').1
                omega) ops.size i j hneed (List.all_eq_true.1 h3 j (List.mem_range.2 hj))
          have him2 : i = m := by
            rcases Nat.lt_or_ge m i with h | h
            · have h3 := hs.tail m (Nat.le_refl _) (by omega)
              rw [hall m h] at h3
              cases h3
            · omega
          subst him2
          have htl := htail a w hs.le hs.tmps hs.defers hs.same (fun j hj => hs.done j hj (hall j hj)) (fun j k hj hk hjk => hs.pair j k hj hk hjk (hall j hj) (hall k hk))
          have hcnt : ops.size - i = fuel + 1 := by
            rw [← hc]
            have hlen : (List.range ops.size).countP (fun j => !listed.getD j true) = (List.range ops.size).countP (fun j => decide (i ≤ j)) := by
              apply List.countP_congr
              intro j hj
              have hj' := List.mem_range.1 hj
              rcases Nat.lt_or_ge j i with h | h
              · rw [hall j h]; simp; omega
              · rw [hs.tail j h hj']; simp; omega
            rw [hlen]
            have hr : ∀ n, i ≤ n → (List.range n).countP (fun j => decide (i ≤ j)) = n - i := by
              intro n
              induction n with
              | zero => intro _; simp
              | succ n ihn =>
                intro hin
                rw [List.range_succ, List.countP_append]
                rcases Nat.lt_or_ge n i with h | h
                · have hz : (List.range n).countP (fun j => decide (i ≤ j)) = 0 := List.countP_eq_zero.2 (fun j hj => by have := List.mem_range.1 hj; simp; omega)
                  have hh : ¬ i ≤ n := by omega
                  rw [hz]; simp [hh]; omega
                · have h1 : ([n] : List Nat).countP (fun j => decide (i ≤ j)) = 1 := by
                    have hh : i ≤ n := h
                    simp [hh]
                  rw [ihn h, h1]; omega
            rw [hr ops.size (by omega)]
          have hta := tail_any (P := P) (Q := Q) ht hb (fuel + 1) i listed a w (by omega) (Nat.le_refl _) (by omega) hs.size (fun j hj => by
            rcases Nat.lt_or_ge j i with h | h
            · rw [hall j h]; simp [h]
            · rw [hs.tail j h hj]; simp; omega) htl
          exact hta.2 i hi
  refine main _ _ a0 _ ?_ ⟨?_, by simp, rfl, rfl, fun _ _ => rfl, ?_, ?_, ?_, ?_⟩
  · rw [List.countP_eq_length.2]
    · simp
    · intro j hj
      have := List.mem_range.1 hj
      simp [this]
  · exact hrefl
  · intro j hj h
    simp [Array.getD_eq_getD_getElem?, show j < ops.size by omega] at h
  · intro j _ hj
    simp [Array.getD_eq_getD_getElem?, hj]
  · intro k h hk
    simp [Array.getD_eq_getD_getElem?, hk] at h
  · intro j k hj _ _ h _
    simp [Array.getD_eq_getD_getElem?, show j < ops.size by omega] at h
def freeB (ops : Array Oper) (m t : Nat) : Bool := (List.range m).all fun j => slotOf ops j != some t
theorem freeB_spec {m t : Nat} (h : freeB ops m t = true) : ∀ j, j < m → slotOf ops j ≠ some t := by
  intro j hj e
  have := List.all_eq_true.1 h j (List.mem_range.2 hj)
  rw [e] at this
  simp at this
def sizeB (ops : Array Oper) (m n : Nat) : Bool := (List.range m).all fun j => match slotOf ops j with | some t => decide (t < n) | none => true
theorem sizeB_spec {m n : Nat} (h : sizeB ops m n = true) : ∀ j, j < m → ∀ t, slotOf ops j = some t → t < n := by
  intro j hj t e
  have := List.all_eq_true.1 h j (List.mem_range.2 hj)
  rw [e] at this
  simpa using this
/-- all closed facts of a region in one -/
def regionB (ops : Array Oper) (m n : Nat) : Bool := decide (m ≤ ops.size) && tailB ops m && backB ops && onceB ops && sizeB ops m n
/-- one operation that stands free -/
def FreeOp (P : Program) (ops : Array Oper) (Q : Exit → Act → World → Prop) (le : World → World → Prop) (R : Nat → Value → World → Prop) (D : Nat → Nat → Value → Value → Prop) (m : Nat) (L : Nat → Bool) (i : Nat) (a : Act) (w : World) : Prop :=
  wpOp P ops Q i (fun a' w' => ∃ v, a' = a.put (slotOf ops i) v ∧ R i (match slotOf ops i with | some _ => v | none => undef) w' ∧ le w w' ∧
        ∀ j, j < m → L j = true → j ≠ i → D j i (val ops a j) (match slotOf ops i with | some _ => v | none => undef) ∧ D i j (match slotOf ops i with | some _ => v | none => undef) (val ops a j)) a w
theorem FreeOp.of {le : World → World → Prop} {R : Nat → Value → World → Prop} {D : Nat → Nat → Value → Value → Prop} {m : Nat} {L : Nat → Bool} {i : Nat} {a : Act} {w : World} (o : Oper) (ho : ops[i]? = some o) (hg : o.guard = none) (t : Tmp) (hdst : o.dst = some t)
    (h : ∀ K : Act → World → Prop, (∀ v w', R i v w' → le w w' → (∀ j, j < m → L j = true → j ≠ i → D j i (val ops a j) v ∧ D i j v (val ops a j)) → K (a.put (some t) v) w') → o.wp P a w K Q) : FreeOp P ops Q le R D m L i a w := by
  have hs : slotOf ops i = some t := by unfold slotOf; rw [ho]; exact hdst
  unfold FreeOp wpOp
  rw [ho, hs]
  simp only [Region.wanted, hg, if_true]
  exact .inl (h _ fun v w' h1 h2 h3 => ⟨v, rfl, h1, h2, h3⟩)
theorem yielded_of {tmps : Array Value} {j : Nat} {tj : Tmp} {b : Bool} (hj : slotOf ops j = some tj) (hv : tmps.getD tj undef = .bool b) : yielded ops tmps j = some b := by
  unfold slotOf at hj
  have e : tmps[tj]? = some (.bool b) := by
    rw [Array.getD_eq_getD_getElem?] at hv
    cases h : tmps[tj]? with
    | none => rw [h] at hv; simp [undef] at hv
    | some v => rw [h] at hv; simp only [Option.getD_some] at hv; rw [hv]
  simp only [yielded, hj, Option.bind_some, e]
/-- a guarded operation that runs -/
theorem FreeOp.ofG {le : World → World → Prop} {R : Nat → Value → World → Prop} {D : Nat → Nat → Value → Value → Prop} {m : Nat} {L : Nat → Bool} {i : Nat} {a : Act} {w : World} (o : Oper) (ho : ops[i]? = some o) (j : Nat) (b : Bool) (hg : o.guard = some (j, b)) (tj : Tmp) (hj : slotOf ops j = some tj) (hv : a.tmps.getD tj undef = .bool b) (t : Tmp) (hdst : o.dst = some t)
    (h : ∀ K : Act → World → Prop, (∀ v w', R i v w' → le w w' → (∀ j, j < m → L j = true → j ≠ i → D j i (val ops a j) v ∧ D i j v (val ops a j)) → K (a.put (some t) v) w') → o.wp P a w K Q) : FreeOp P ops Q le R D m L i a w := by
  have hs : slotOf ops i = some t := by unfold slotOf; rw [ho]; exact hdst
  have hy : yielded ops a.tmps j = some b := yielded_of hj hv
  unfold FreeOp wpOp
  rw [ho, hs]
  simp only [Region.wanted, hg, hy, beq_self_eq_true, if_true]
  exact .inl (h _ fun v w' h1 h2 h3 => ⟨v, rfl, h1, h2, h3⟩)
/-- a guarded operation that does not run -/
theorem FreeOp.skip {le : World → World → Prop} {R : Nat → Value → World → Prop} {D : Nat → Nat → Value → Value → Prop} {m : Nat} {L : Nat → Bool} {i : Nat} {a : Act} {w : World} (o : Oper) (ho : ops[i]? = some o) (j : Nat) (b b' : Bool) (hg : o.guard = some (j, b)) (hb : b' ≠ b) (tj : Tmp) (hj : slotOf ops j = some tj) (hv : a.tmps.getD tj undef = .bool b') (t : Tmp) (hdst : o.dst = some t)
    (h1 : R i undef w) (h2 : le w w) (h3 : ∀ j, j < m → L j = true → j ≠ i → D j i (val ops a j) undef ∧ D i j undef (val ops a j)) : FreeOp P ops Q le R D m L i a w := by
  have hs : slotOf ops i = some t := by unfold slotOf; rw [ho]; exact hdst
  have hy : yielded ops a.tmps j = some b' := yielded_of hj hv
  unfold FreeOp wpOp
  rw [ho, hs]
  have hne : (some b' == some b) = false := by cases b <;> cases b' <;> simp_all
  simp only [Region.wanted, hg, hy, hne, if_false, Bool.false_eq_true]
  exact ⟨undef, by rw [hdst], h1, h2, h3⟩
def putAll (ops : Array Oper) (vs : Nat → Value) : Nat → Act → Act
  | 0, a => a
  | k + 1, a => (putAll ops vs k a).put (slotOf ops k) (vs k)
theorem putAll_size (vs : Nat → Value) (k : Nat) (a : Act) : (putAll ops vs k a).tmps.size = a.tmps.size ∧ (putAll ops vs k a).defers = a.defers := by
  induction k with
  | zero => exact ⟨rfl, rfl⟩
  | succ k ih => unfold putAll; cases slotOf ops k <;> simp [Act.put, ih]
theorem putAll_far (vs : Nat → Value) (t : Tmp) (a : Act) : ∀ k, (∀ j, j < k → slotOf ops j ≠ some t) → (putAll ops vs k a).tmps.getD t undef = a.tmps.getD t undef := by
  intro k
  induction k with
  | zero => intro _; rfl
  | succ k ih =>
    intro h
    unfold putAll
    rw [← ih (fun j hj => h j (by omega))]
    have hk := h k (by omega)
    cases hs : slotOf ops k with
    | none => rfl
    | some u =>
      have hut : u ≠ t := fun e => hk (by rw [hs, e])
      simp [Act.put, Array.getD_eq_getD_getElem?, Array.getElem?_setIfInBounds_ne hut]
theorem putAll_near (hon : onceB ops = true) (vs : Nat → Value) (t : Tmp) (a : Act) (ht : t < a.tmps.size) (j : Nat) (hs : slotOf ops j = some t) : ∀ k, j < k → k ≤ ops.size → (putAll ops vs k a).tmps.getD t undef = vs j := by
  intro k
  induction k with
  | zero => intro h; omega
  | succ k ih =>
    intro h hk
    unfold putAll
    by_cases hjk : j = k
    · subst hjk
      rw [hs]
      simp [Act.put, Array.getD_eq_getD_getElem?, Array.getElem?_setIfInBounds_self_of_lt (show t < (putAll ops vs j a).tmps.size by rw [(putAll_size vs j a).1]; exact ht)]
    · rw [← ih (by omega) (by omega)]
      have hne : slotOf ops k ≠ some t := by
        intro e
        have h1 := List.all_eq_true.1 hon k (List.mem_range.2 (by omega))
        have h2 := List.all_eq_true.1 h1 j (List.mem_range.2 (by omega))
        rw [e, hs] at h2
        simp at h2
      cases hs2 : slotOf ops k with
      | none => rfl
      | some u =>
        have hut : u ≠ t := fun e => hne (by rw [hs2, e])
        simp [Act.put, Array.getD_eq_getD_getElem?, Array.getElem?_setIfInBounds_ne hut]
theorem putAll_eq {m : Nat} (hm : m ≤ ops.size) (hon : onceB ops = true) {a a0 : Act} (hsz : a.tmps.size = a0.tmps.size) (hdf : a.defers = a0.defers)
    (hss : ∀ j, j < m → ∀ t, slotOf ops j = some t → t < a0.tmps.size) (hag : ∀ t, (∀ j, j < m → slotOf ops j ≠ some t) → a.tmps.getD t undef = a0.tmps.getD t undef) : a = putAll ops (val ops a) m a0 := by
  have h1 := putAll_size (ops := ops) (val ops a) m a0
  have ht : a.tmps = (putAll ops (val ops a) m a0).tmps := by
    apply Array.ext
    · rw [h1.1, hsz]
    · intro t h2 h3
      have e1 : a.tmps[t] = a.tmps.getD t undef := by simp [Array.getD_eq_getD_getElem?, h2]
      have e2 : (putAll ops (val ops a) m a0).tmps[t] = (putAll ops (val ops a) m a0).tmps.getD t undef := by simp [Array.getD_eq_getD_getElem?, h3]
      rw [e1, e2]
      by_cases hex : ∃ j, j < m ∧ slotOf ops j = some t
      · obtain ⟨j, hj, hs⟩ := hex
        rw [putAll_near hon _ t a0 (hss j hj t hs) j hs m hj hm]
        simp [val, hs]
      · rw [putAll_far _ t a0 m (fun j hj e => hex ⟨j, hj, e⟩)]
        exact hag t (fun j hj e => hex ⟨j, hj, e⟩)
  cases a with
  | mk tm df =>
    simp only at ht hdf
    have h2 := h1.2
    cases hq : putAll ops (val ops ⟨tm, df⟩) m a0 with
    | mk tm' df' =>
      rw [hq] at ht h2
      simp only at ht h2
      rw [ht, hdf, h2]
theorem wp_region_free' {id : Nat} {a0 : Act} {w0 : World} (m : Nat) (hmx : P.follows .mixedOrders = true) (hc : regionB ops m a0.tmps.size = true)
    (le : World → World → Prop) (hrefl : le w0 w0.drew) (htrans : ∀ a b c, le a b → le b c → le a c) (R : Nat → Value → World → Prop) (D : Nat → Nat → Value → Value → Prop)
    (hst : ∀ i, i < m → ∀ v w w', R i v w → le w w' → R i v w')
    (hstep : ∀ i, i < m → ∀ (a : Act) (w : World), le w0 w → a.defers = a0.defers → (∀ t, freeB ops m t = true → a.tmps.getD t undef = a0.tmps.getD t undef) →
      ∀ L : Nat → Bool, (∀ j, j < m → L j = true → R j (val ops a j) w) → (∀ j, needB ops i j = true → L j = true) → FreeOp P ops Q le R D m L i a w)
    (htail : ∀ (vs : Nat → Value) (w : World), le w0 w → (∀ j, j < m → R j (vs j) w) → (∀ j k, j < m → k < m → j ≠ k → D j k (vs j) (vs k)) → wpList P ops Q (ops.toList.drop m) (putAll ops vs m a0) w) :
    (Code.region id ops true).wp P Q a0 w0 := by
  simp only [regionB, Bool.and_eq_true, decide_eq_true_eq] at hc
  obtain ⟨⟨⟨⟨h1, h3⟩, h4⟩, h5⟩, h6⟩ := hc
  exact wp_region_free m h1 hmx h3 h4 h5 (sizeB_spec h6) le hrefl htrans R D hst
    (fun i hi a w hle hs hdf hag L hL hn => hstep i hi a w hle hdf (fun t ht => hag t (freeB_spec ht)) L hn hL)
    (fun a w hle hs hdf hag hr hd => by
      have h := htail (val ops a) w hle hr hd
      rwa [← putAll_eq h1 h5 hs hdf (sizeB_spec h6) hag] at h)
end
end Go.Proofs.YtelghkgnkncnoaaDoor
/- A region that draws its order: operations free in any order, under an invariant that knows which are done; then a tail in its one order. No program in it. -/
set_option linter.unusedVariables false
namespace Go.Proofs.YtelghkgnkncnoaaDoor
section
variable {P : Program} {ops : Array Oper} {Q : Exit → Act → World → Prop}
theorem not_yet {L : Nat → Bool} {s i : Nat} (hc : ∀ k j, k < ops.size → L k = true → needB ops k j = true → L j = true) (hl : L i = false) (hs : s < ops.size) (hn : needB ops s i = true) : L s = false := by
  cases h : L s with
  | false => rfl
  | true => have := hc s i hs h hn; rw [hl] at this; cases this
structure Sofar2 (ops : Array Oper) (m : Nat) (Inv : (Nat → Bool) → (Nat → Value) → World → Prop) (a0 : Act) (listed : Array Bool) (a : Act) (w : World) : Prop where
  inv : Inv (fun j => listed.getD j true) (val ops a) w
  size : listed.size = ops.size
  tmps : a.tmps.size = a0.tmps.size
  defers : a.defers = a0.defers
  same : ∀ t, (∀ j, j < m → slotOf ops j ≠ some t) → a.tmps.getD t undef = a0.tmps.getD t undef
  tail : ∀ j, m ≤ j → j < ops.size → listed.getD j true = false
  closed : ∀ k, listed.getD k true = true → k < ops.size → ∀ j, needB ops k j = true → listed.getD j true = true
def slotVal (ops : Array Oper) (i : Nat) (v : Value) : Value := match slotOf ops i with | some _ => v | none => undef
/-- behind operation i -/
def After (m i : Nat) (x : Value) (Inv : (Nat → Bool) → (Nat → Value) → World → Prop) (L : Nat → Bool) (vs : Nat → Value) (w : World) : Prop :=
  ∀ L' vs', L' i = true → (∀ j, j ≠ i → L' j = L j) → vs' i = x → (∀ j, j < m → j ≠ i → vs' j = vs j) → Inv L' vs' w
theorem wp_region_inv {id : Nat} {a0 : Act} {w0 : World} (m : Nat) (hmn : m ≤ ops.size) (hd : P.follows .mixedOrders = true) (ht : tailB ops m = true) (hb : backB ops = true) (hon : onceB ops = true)
    (hsz : ∀ j, j < m → ∀ t, slotOf ops j = some t → t < a0.tmps.size)
    (Inv : (Nat → Bool) → (Nat → Value) → World → Prop) (hstart : ∀ L vs, (∀ j, j < m → L j = false) → Inv L vs w0.drew)
    (hstep : ∀ i, i < m → ∀ (a : Act) (w : World), a.tmps.size = a0.tmps.size → a.defers = a0.defers → (∀ t, (∀ j, j < m → slotOf ops j ≠ some t) → a.tmps.getD t undef = a0.tmps.getD t undef) →
      ∀ L : Nat → Bool, (∀ k j, k < ops.size → L k = true → needB ops k j = true → L j = true) → L i = false → (∀ j, needB ops i j = true → L j = true) → Inv L (val ops a) w → wpOp P ops Q i (fun a' w' => ∃ v, a' = a.put (slotOf ops i) v ∧ After m i (slotVal ops i v) Inv L (val ops a) w') a w)
    (htail : ∀ (a : Act) (w : World) (L : Nat → Bool), a.tmps.size = a0.tmps.size → a.defers = a0.defers → (∀ t, (∀ j, j < m → slotOf ops j ≠ some t) → a.tmps.getD t undef = a0.tmps.getD t undef) → (∀ j, j < m → L j = true) → Inv L (val ops a) w →
      wpList P ops Q (ops.toList.drop m) a w) :
    (Code.region id ops true).wp P Q a0 w0 := by
  refine wp_region_draw fun t => ?_
  have hsch : Region.schedule (P.follows .mixedOrders) ops t = Region.linearise .any ops t := by unfold Region.schedule; simp [hd]
  rw [hsch]
  refine wpAny_sound ops.size t _ a0 _ ?_
  have main : ∀ (fuel : Nat) (listed : Array Bool) (a : Act) (w : World), (List.range ops.size).countP (fun j => !listed.getD j true) = fuel → Sofar2 ops m Inv a0 listed a w → wpAny P .any ops Q fuel listed a w := by
    intro fuel
    induction fuel with
    | zero =>
      intro listed a w hc hs
      have hall : ∀ j, j < ops.size → listed.getD j true = true := by
        intro j hj
        have := List.countP_eq_zero.1 hc j (List.mem_range.2 hj)
        simpa using this
      have hm : m = ops.size := by
        rcases Nat.lt_or_ge m ops.size with h | h
        · have h1 := hs.tail m (Nat.le_refl _) h
          rw [hall m h] at h1
          cases h1
        · omega
      have htl := htail a w _ hs.tmps hs.defers hs.same (fun j hj => hall j (by omega)) hs.inv
      exact tail_any ht hb 0 ops.size listed a w (by omega) (by omega) (Nat.le_refl _) hs.size (fun i hi => by rw [hall i hi]; simp [hi]) (by rw [hm] at htl; exact htl)
    | succ fuel ih =>
      intro listed a w hc hs
      have hex : ∃ i ∈ List.range ops.size, (!listed.getD i true) = true := List.countP_pos_iff.1 (by omega)
      refine ⟨fun hn => ?_, fun i hi => ?_⟩
      · -- the first that is not listed is ready
        exfalso
        obtain ⟨i, hi, hli⟩ := hex
        have hfirst : ∃ k, k < ops.size ∧ listed.getD k true = false ∧ ∀ j, j < k → listed.getD j true = true := by
          have hwf : ∀ q, (∃ k, k ≤ q ∧ k < ops.size ∧ listed.getD k true = false) → ∃ k, k < ops.size ∧ listed.getD k true = false ∧ ∀ j, j < k → listed.getD j true = true := by
            intro q
            induction q with
            | zero =>
              rintro ⟨k, hk, hk2, hk3⟩
              exact ⟨k, hk2, hk3, fun j hj => by omega⟩
            | succ q ihq =>
              rintro ⟨k, hk, hk2, hk3⟩
              by_cases hsm : ∃ j, j < k ∧ listed.getD j true = false
              · obtain ⟨j, hj, hj2⟩ := hsm
                exact ihq ⟨j, by omega, by omega, hj2⟩
              · refine ⟨k, hk2, hk3, fun j hj => ?_⟩
                cases hq : listed.getD j true with
                | true => rfl
                | false => exact absurd ⟨j, hj, hq⟩ hsm
          exact hwf i ⟨i, Nat.le_refl _, List.mem_range.1 hi, by simpa using hli⟩
        obtain ⟨k, hk, hk2, hk3⟩ := hfirst
        have hkready : k ∈ Region.ready .any ops listed := by
          refine mem_ready.2 ⟨ops[k], Array.getElem?_eq_getElem hk, hk2, fun e he hbd => ?_⟩
          have h3 := List.all_eq_true.1 hb k (List.mem_range.2 hk)
          rw [Array.getElem?_eq_getElem hk] at h3
          have h4 := List.all_eq_true.1 h3 e he
          rw [hbd] at h4
          have h5 : e.on < k := by simpa using h4
          have h6 := hk3 e.on h5
          have hsz' := hs.size
          simp only [Array.getD_eq_getD_getElem?, Array.getElem?_eq_getElem (show e.on < listed.size by omega), Option.getD_some] at h6 ⊢
          exact h6
        rw [hn] at hkready
        simp at hkready
      · obtain ⟨o, ho, h1, h2⟩ := mem_ready.1 hi
        have hi' := (Array.getElem?_eq_some_iff.1 ho).1
        have hszl := hs.size
        have hneed : ∀ j, needB ops i j = true → listed.getD j true = true := by
          intro j hj
          obtain ⟨o', ho', e, he, hbd, hej⟩ := needB_spec hj
          rw [ho] at ho'
          obtain rfl := Option.some.inj ho'
          have h4 := h2 e he hbd
          rw [hej] at h4
          rcases Nat.lt_or_ge j listed.size with hl | hl
          · simp only [Array.getD_eq_getD_getElem?, Array.getElem?_eq_getElem hl, Option.getD_some] at h4 ⊢
            exact h4
          · simp only [Array.getD_eq_getD_getElem?, Array.getElem?_eq_none hl, Option.getD_none]
        rcases Nat.lt_or_ge i m with him | him
        · refine wpOp_mono (fun a' w' h' => ?_) (hstep i him a w hs.tmps hs.defers hs.same (fun j => listed.getD j true) (fun k j hk hlk hn => hs.closed k hlk hk j hn) h1 hneed hs.inv)
          obtain ⟨v, rfl, hA⟩ := h'
          refine ih _ _ _ (by have := count_set listed ops.size i hs.size hi' h1; omega) ?_
          have hvi : val ops (a.put (slotOf ops i) v) i = (match slotOf ops i with | some _ => v | none => undef) := by
            unfold val
            cases hsl : slotOf ops i with
            | none => rfl
            | some u =>
              have hu := hsz i him u hsl
              simp [Act.put, Array.getD_eq_getD_getElem?, Array.getElem?_setIfInBounds_self_of_lt (show u < a.tmps.size by rw [hs.tmps]; exact hu)]
          have hback : ∀ j, i ≠ j → (listed.setIfInBounds i true).getD j true = true → listed.getD j true = true := by
            intro j hji hlj
            simp only [Array.getD_eq_getD_getElem?] at hlj ⊢
            rwa [Array.getElem?_setIfInBounds_ne hji] at hlj
          refine ⟨hA _ _ ?_ ?_ ?_ ?_, by simp [hs.size], ?_, ?_, ?_, ?_, ?_⟩
          · have hsz' := hs.size
            simp only [Array.getD_eq_getD_getElem?]
            rw [Array.getElem?_setIfInBounds_self_of_lt (by omega)]; rfl
          · intro j hj
            simp only [Array.getD_eq_getD_getElem?]
            rw [Array.getElem?_setIfInBounds_ne (Ne.symm hj)]
          · exact hvi
          · intro j hj hji
            exact val_put hon a i j v hi' (by omega) (Ne.symm hji)
          · cases hsl : slotOf ops i <;> simp [Act.put, hs.tmps]
          · cases hsl : slotOf ops i <;> simp [Act.put, hs.defers]
          · intro t ht'
            rw [← hs.same t ht']
            cases hsl : slotOf ops i with
            | none => rfl
            | some u =>
              have hut : u ≠ t := fun e => ht' i him (by rw [hsl, e])
              simp [Act.put, Array.getD_eq_getD_getElem?, Array.getElem?_setIfInBounds_ne hut]
          · intro j hj hj2
            have hji : i ≠ j := by omega
            simp only [Array.getD_eq_getD_getElem?]
            rw [Array.getElem?_setIfInBounds_ne hji]
            have := hs.tail j hj hj2
            simpa only [Array.getD_eq_getD_getElem?] using this
          · intro k hlk hk j hj
            have hon2 : listed.getD j true = true := by
              by_cases hik : i = k
              · subst hik; exact hneed j hj
              · exact hs.closed k (hback k hik hlk) hk j hj
            by_cases hij : i = j
            · subst hij; rw [h1] at hon2; cases hon2
            · simp only [Array.getD_eq_getD_getElem?] at hon2 ⊢
              rwa [Array.getElem?_setIfInBounds_ne hij]
        · -- the tail begins
          have hall : ∀ j, j < i → listed.getD j true = true := by
            intro j hj
            have h3 := List.all_eq_true.1 ht i (List.mem_range.2 hi')
            have him' : ¬ i < m := by omega
            simp only [him', decide_false, Bool.false_or] at h3
            exact reach_in (ops := ops) (L := fun j => listed.getD j true = true) (fun k hk j hj => by
              rcases Nat.lt_or_ge k ops.size with hkk | hkk
              · exact hs.closed k hk hkk j hj
              · obtain ⟨o', ho', _⟩ := needB_spec hj
                have := (Array.getElem?_eq_some_iff.1 ho').1
                omega) ops.size i j hneed (List.all_eq_true.1 h3 j (List.mem_range.2 hj))
          have him2 : i = m := by
            rcases Nat.lt_or_ge m i with h | h
            · have h3 := hs.tail m (Nat.le_refl _) (by omega)
              rw [hall m h] at h3
              cases h3
            · omega
          subst him2
          have htl := htail a w _ hs.tmps hs.defers hs.same (fun j hj => hall j hj) hs.inv
          have hcnt : ops.size - i = fuel + 1 := by
            rw [← hc]
            have hlen : (List.range ops.size).countP (fun j => !listed.getD j true) = (List.range ops.size).countP (fun j => decide (i ≤ j)) := by
              apply List.countP_congr
              intro j hj
              have hj' := List.mem_range.1 hj
              rcases Nat.lt_or_ge j i with h | h
              · rw [hall j h]; simp; omega
              · rw [hs.tail j h hj']; simp; omega
            rw [hlen]
            have hr : ∀ n, i ≤ n → (List.range n).countP (fun j => decide (i ≤ j)) = n - i := by
              intro n
              induction n with
              | zero => intro _; simp
              | succ n ihn =>
                intro hin
                rw [List.range_succ, List.countP_append]
                rcases Nat.lt_or_ge n i with h | h
                · have hz : (List.range n).countP (fun j => decide (i ≤ j)) = 0 := List.countP_eq_zero.2 (fun j hj => by have := List.mem_range.1 hj; simp; omega)
                  have hh : ¬ i ≤ n := by omega
                  rw [hz]; simp [hh]; omega
                · have h1 : ([n] : List Nat).countP (fun j => decide (i ≤ j)) = 1 := by
                    have hh : i ≤ n := h
                    simp [hh]
                  rw [ihn h, h1]; omega
            rw [hr ops.size (by omega)]
          have hta := tail_any (P := P) (Q := Q) ht hb (fuel + 1) i listed a w (by omega) (Nat.le_refl _) (by omega) hs.size (fun j hj => by
            rcases Nat.lt_or_ge j i with h | h
            · rw [hall j h]; simp [h]
            · rw [hs.tail j h hj]; simp; omega) htl
          exact hta.2 i hi
  refine main _ _ a0 _ ?_ ⟨?_, by simp, rfl, rfl, fun _ _ => rfl, ?_, ?_⟩
  · rw [List.countP_eq_length.2]
    · simp
    · intro j hj
      have := List.mem_range.1 hj
      simp [this]
  · refine hstart _ _ fun j hj => ?_
    simp [Array.getD_eq_getD_getElem?, show j < ops.size by omega]
  · intro j _ hj
    simp [Array.getD_eq_getD_getElem?, hj]
  · intro k h hk
    simp [Array.getD_eq_getD_getElem?, hk] at h
/-- one operation under the invariant -/
def InvOp (P : Program) (ops : Array Oper) (Q : Exit → Act → World → Prop) (Inv : (Nat → Bool) → (Nat → Value) → World → Prop) (m : Nat) (L : Nat → Bool) (i : Nat) (a : Act) (w : World) : Prop :=
  wpOp P ops Q i (fun a' w' => ∃ v, a' = a.put (slotOf ops i) v ∧ After m i (slotVal ops i v) Inv L (val ops a) w') a w
theorem InvOp.of {Inv : (Nat → Bool) → (Nat → Value) → World → Prop} {m : Nat} {L : Nat → Bool} {i : Nat} {a : Act} {w : World} (o : Oper) (ho : ops[i]? = some o) (hg : o.guard = none) (t : Tmp) (hdst : o.dst = some t)
    (h : ∀ K : Act → World → Prop, (∀ v w', After m i v Inv L (val ops a) w' → K (a.put (some t) v) w') → o.wp P a w K Q) : InvOp P ops Q Inv m L i a w := by
  have hs : slotOf ops i = some t := by unfold slotOf; rw [ho]; exact hdst
  unfold InvOp wpOp
  rw [ho, hs]
  simp only [Region.wanted, hg, if_true]
  exact .inl (h _ fun v w' h1 => ⟨v, rfl, by unfold slotVal; rw [hs]; exact h1⟩)
theorem InvOp.ofNone {Inv : (Nat → Bool) → (Nat → Value) → World → Prop} {m : Nat} {L : Nat → Bool} {i : Nat} {a : Act} {w : World} (o : Oper) (ho : ops[i]? = some o) (hg : o.guard = none) (hdst : o.dst = none)
    (h : ∀ K : Act → World → Prop, (∀ w', After m i undef Inv L (val ops a) w' → K a w') → o.wp P a w K Q) : InvOp P ops Q Inv m L i a w := by
  have hs : slotOf ops i = none := by unfold slotOf; rw [ho]; exact hdst
  unfold InvOp wpOp
  rw [ho, hs]
  simp only [Region.wanted, hg, if_true]
  exact .inl (h _ fun w' h1 => ⟨undef, rfl, by unfold slotVal; rw [hs]; exact h1⟩)
theorem wp_region_inv' {id : Nat} {a0 : Act} {w0 : World} (m : Nat) (hmx : P.follows .mixedOrders = true) (hc : regionB ops m a0.tmps.size = true)
    (Inv : (Nat → Bool) → (Nat → Value) → World → Prop) (hstart : ∀ L vs, (∀ j, j < m → L j = false) → Inv L vs w0.drew)
    (hstep : ∀ i, i < m → ∀ (a : Act) (w : World), a.defers = a0.defers → (∀ t, freeB ops m t = true → a.tmps.getD t undef = a0.tmps.getD t undef) →
      ∀ L : Nat → Bool, (∀ k j, k < ops.size → L k = true → needB ops k j = true → L j = true) → L i = false → (∀ j, needB ops i j = true → L j = true) → Inv L (val ops a) w → InvOp P ops Q Inv m L i a w)
    (htail : ∀ (vs : Nat → Value) (w : World) (L : Nat → Bool), (∀ j, j < m → L j = true) → Inv L vs w → wpList P ops Q (ops.toList.drop m) (putAll ops vs m a0) w) :
    (Code.region id ops true).wp P Q a0 w0 := by
  simp only [regionB, Bool.and_eq_true, decide_eq_true_eq] at hc
  obtain ⟨⟨⟨⟨h1, h3⟩, h4⟩, h5⟩, h6⟩ := hc
  exact wp_region_inv m h1 hmx h3 h4 h5 (sizeB_spec h6) Inv hstart
    (fun i hi a w hs hdf hag L hcl hl hn hI => hstep i hi a w hdf (fun t ht => hag t (freeB_spec ht)) L hcl hl hn hI)
    (fun a w L hs hdf hag hl hI => by
      have h := htail (val ops a) w L hl hI
      rwa [← putAll_eq h1 h5 hs hdf (sizeB_spec h6) hag] at h)
end
end Go.Proofs.YtelghkgnkncnoaaDoor
/- A region that draws its order: a first part whose operations are quiet in a class of worlds, walked once; then a tail in its one order. -/
set_option linter.unusedVariables false
namespace Go.Proofs.YtelghkgnkncnoaaDoor
open Go.RowKit
section
variable {P : Program} {ops ops' : Array Oper} {Q : Exit → Act → World → Prop} {C : World → Prop}
def guardB (ops : Array Oper) (m : Nat) : Bool := (List.range m).all fun i => match ops[i]? with
  | some o => match o.guard with
    | some (k, _) => decide (k < m)
    | none => true
  | none => true
theorem getD_tf {l : Array Bool} {j : Nat} (h : j < l.size) (b c : Bool) : l.getD j b = l.getD j c := by
  simp [Array.getD_eq_getD_getElem?, Array.getElem?_eq_getElem h]
theorem getD_set_self {l : Array Bool} {j : Nat} (h : j < l.size) (b : Bool) : (l.setIfInBounds j true).getD j b = true := by
  simp [Array.getD_eq_getD_getElem?, Array.getElem?_setIfInBounds_self_of_lt h]
theorem getD_set_far {l : Array Bool} {i j : Nat} (h : i ≠ j) (b : Bool) : (l.setIfInBounds i true).getD j b = l.getD j b := by
  simp [Array.getD_eq_getD_getElem?, Array.getElem?_setIfInBounds_ne h]
theorem qOp_whole {m i : Nat} (hops : ∀ j, j < m → ops'[j]? = ops[j]?) (hg : guardB ops m = true) (hi : i < m) {K : Act → Prop} {a : Act} (h : qOp P ops' C i K a) : qOp P ops C i K a := by
  unfold qOp at *
  rw [hops i hi] at h
  cases ho : ops[i]? with
  | none => rw [ho] at h; exact h
  | some o =>
    rw [ho] at h
    have hgi := List.all_eq_true.1 hg i (List.mem_range.2 hi)
    rw [ho] at hgi
    have e : Region.wanted o (yielded ops a.tmps) = Region.wanted o (yielded ops' a.tmps) := by
      unfold Region.wanted
      cases hgo : o.guard with
      | none => rfl
      | some p =>
        obtain ⟨k, b⟩ := p
        simp only [hgo] at hgi
        have hk : k < m := by simpa using hgi
        simp only [yielded, hops k hk]
    simp only [e]
    exact h
theorem split_any {m : Nat} (hmn : m ≤ ops.size) (ht : tailB ops m = true) (hb : backB ops = true) (hg : guardB ops m = true) (hsz : ops'.size = m) (hops : ∀ j, j < m → ops'[j]? = ops[j]?) {Qp : Act → Prop}
    (hQ : ∀ a w, C w → Qp a → wpList P ops Q (ops.toList.drop m) a w) : ∀ (f : Nat) (listed listed' : Array Bool) (a : Act), listed.size = ops.size → listed'.size = m → (∀ j, j < m → listed'.getD j true = listed.getD j true) →
    (∀ j, m ≤ j → j < ops.size → listed.getD j true = false) → (∀ k, k < ops.size → listed.getD k true = true → ∀ j, needB ops k j = true → listed.getD j true = true) →
    (List.range m).countP (fun j => !listed.getD j true) = f → wpAnyQ P .any ops' C Qp f listed' a → ∀ w, C w → wpAny P .any ops Q (f + (ops.size - m)) listed a w := by
  intro f
  induction f with
  | zero =>
    intro listed listed' a hs hs' hll htl hcl hc h w hw
    have hall : ∀ j, j < m → listed.getD j true = true := fun j hj => by
      have := List.countP_eq_zero.1 hc j (List.mem_range.2 hj)
      simpa using this
    rw [Nat.zero_add]
    refine tail_any ht hb _ m listed a w rfl (Nat.le_refl _) hmn hs (fun i hi => ?_) (hQ a w hw h.2)
    rcases Nat.lt_or_ge i m with h1 | h1
    · rw [hall i h1]; simp [h1]
    · rw [htl i h1 hi]; simp; omega
  | succ f ih =>
    intro listed listed' a hs hs' hll htl hcl hc h w hw
    have hsome : ∃ j, j < m ∧ listed.getD j true = false := by
      rcases Classical.em (∃ j, j < m ∧ listed.getD j true = false) with h1 | h1
      · exact h1
      · have : (List.range m).countP (fun j => !listed.getD j true) = 0 := List.countP_eq_zero.2 fun j hj => by
          have hj' := List.mem_range.1 hj
          cases hh : listed.getD j true with
          | true => simp
          | false => exact absurd ⟨j, hj', hh⟩ h1
        omega
    have hready : ∃ j, j ∈ Region.ready .any ops listed := by
      obtain ⟨j, hj, hl⟩ := hsome
      have : ∀ n j, j < n → j < m → listed.getD j true = false → ∃ j, j ∈ Region.ready .any ops listed := by
        intro n
        induction n with
        | zero => intro j h; omega
        | succ n ihn =>
          intro j hjn hj hl
          rcases Classical.em (∃ k, k < j ∧ listed.getD k true = false) with ⟨k, hk, hkl⟩ | hno
          · exact ihn k (by omega) (by omega) hkl
          · have hjo : j < ops.size := by omega
            refine ⟨j, mem_ready.2 ⟨ops[j], Array.getElem?_eq_getElem hjo, hl, fun e he hbd => ?_⟩⟩
            have h3 := List.all_eq_true.1 hb j (List.mem_range.2 hjo)
            rw [Array.getElem?_eq_getElem hjo] at h3
            have h4 := List.all_eq_true.1 h3 e he
            rw [hbd] at h4
            have h5 : e.on < j := by simpa using h4
            rw [getD_tf (by omega) false true]
            cases hh : listed.getD e.on true with
            | true => rfl
            | false => exact absurd ⟨e.on, h5, hh⟩ hno
      exact this (j + 1) j (by omega) hj hl
    have hfuel : f + 1 + (ops.size - m) = f + (ops.size - m) + 1 := by omega
    rw [hfuel]
    refine ⟨fun hn => ?_, fun i hi => ?_⟩
    · obtain ⟨j, hj⟩ := hready
      rw [hn] at hj; simp at hj
    · obtain ⟨o, ho, h1, h2⟩ := mem_ready.1 hi
      have hi' := (Array.getElem?_eq_some_iff.1 ho).1
      have hnd : ∀ j, needB ops i j = true → listed.getD j true = true := by
        intro j hj
        obtain ⟨o', ho', e, he, hbd, hej⟩ := needB_spec hj
        rw [ho] at ho'
        obtain rfl := Option.some.inj ho'
        have h6 := h2 e he hbd
        have h3 := List.all_eq_true.1 hb i (List.mem_range.2 hi')
        rw [ho] at h3
        have h4 := List.all_eq_true.1 h3 e he
        rw [hbd] at h4
        have h5 : e.on < i := by simpa using h4
        rw [hej] at h6 h5
        rw [getD_tf (by omega) true false]; exact h6
      have him : i < m := by
        rcases Nat.lt_or_ge i m with h3 | h3
        · exact h3
        · obtain ⟨j, hj, hl⟩ := hsome
          have h4 := List.all_eq_true.1 ht i (List.mem_range.2 hi')
          have hnm : ¬ i < m := by omega
          simp only [hnm, decide_false, Bool.false_or] at h4
          have h5 := List.all_eq_true.1 h4 j (List.mem_range.2 (by omega))
          have h6 : listed.getD j true = true := reach_in (ops := ops) (L := fun j => listed.getD j true = true) (fun k hk j hj => by
            rcases Nat.lt_or_ge k ops.size with hkk | hkk
            · exact hcl k hkk hk j hj
            · obtain ⟨o', ho', _⟩ := needB_spec hj
              have := (Array.getElem?_eq_some_iff.1 ho').1
              omega) ops.size i j hnd h5
          rw [hl] at h6; cases h6
      have hi2 : i ∈ Region.ready .any ops' listed' := by
        refine mem_ready.2 ⟨o, by rw [hops i him]; exact ho, by rw [hll i him]; exact h1, fun e he hbd => ?_⟩
        have h3 := List.all_eq_true.1 hb i (List.mem_range.2 hi')
        rw [ho] at h3
        have h4 := List.all_eq_true.1 h3 e he
        rw [hbd] at h4
        have h5 : e.on < i := by simpa using h4
        have h6 := h2 e he hbd
        rw [getD_tf (by omega) false true] at h6 ⊢
        rw [hll _ (by omega)]; exact h6
      refine wpOp_of_qOp hw (fun a' w' hw' hq => ?_) (qOp_whole hops hg him (h.2 i hi2))
      refine ih (listed.setIfInBounds i true) (listed'.setIfInBounds i true) a' (by simpa using hs) (by simpa using hs') (fun j hj => ?_) (fun j hj hjn => ?_) (fun k hk hlk j hj => ?_) ?_ hq w' hw'
      · by_cases hij : i = j
        · subst hij; rw [getD_set_self (by omega), getD_set_self (by omega)]
        · rw [getD_set_far hij, getD_set_far hij]; exact hll j hj
      · rw [getD_set_far (by omega)]; exact htl j hj hjn
      · by_cases hij : i = j
        · subst hij; rw [getD_set_self (by omega)]
        · rw [getD_set_far hij]
          by_cases hik : i = k
          · subst hik; exact hnd j hj
          · rw [getD_set_far hik] at hlk; exact hcl k hk hlk j hj
      · have hnd2 : ∀ n, n ≤ m → (List.range n).countP (fun j => !listed.getD j true) = (List.range n).countP (fun j => !(listed.setIfInBounds i true).getD j true) + (if i < n then 1 else 0) := by
          intro n
          induction n with
          | zero => intro _; simp
          | succ n ihn =>
            intro hn
            rw [List.range_succ, List.countP_append, List.countP_append, ihn (by omega)]
            by_cases hin : i = n
            · subst hin
              have e1 : ([i] : List Nat).countP (fun j => !listed.getD j true) = 1 := by
                rw [List.countP_singleton, h1]; rfl
              have e2 : ([i] : List Nat).countP (fun j => !(listed.setIfInBounds i true).getD j true) = 0 := by
                rw [List.countP_singleton, getD_set_self (by omega)]; rfl
              rw [e1, e2]; simp
            · have e3 : ([n] : List Nat).countP (fun j => !(listed.setIfInBounds i true).getD j true) = ([n] : List Nat).countP (fun j => !listed.getD j true) := by
                rw [List.countP_singleton, List.countP_singleton, getD_set_far hin]
              rw [e3]
              by_cases h7 : i < n
              · simp only [h7, if_true, show i < n + 1 from by omega]; omega
              · simp only [h7, if_false, show ¬ i < n + 1 from by omega]; omega
        have h8 := hnd2 m (Nat.le_refl _)
        simp only [him, if_true] at h8
        omega
def splitB (l : List Oper) (m : Nat) : Bool := decide (m ≤ l.length) && tailB l.toArray m && backB l.toArray && guardB l.toArray m && Region.lexB .any (l.take m).toArray
/-- the first m operations are quiet in the class, the others stand in their order -/
theorem wp_region_split {id : Nat} {l : List Oper} {a : Act} {w : World} (m : Nat) (hmx : P.follows .mixedOrders = true) (hB : splitB l m = true) (hC : C w.drew)
    (h : wpQuiet P (l.take m).toArray C (fun a' => ∀ w', C w' → wpList P l.toArray Q (l.drop m) a' w') (l.take m) a) : (Code.region id l.toArray true).wp P Q a w := by
  simp only [splitB, Bool.and_eq_true, decide_eq_true_eq] at hB
  obtain ⟨⟨⟨⟨h1, h2⟩, h3⟩, h4⟩, h5⟩ := hB
  have hlen : (l.take m).length = m := by simp; omega
  refine wp_region_any hmx ?_
  simp only [Region.lexB, Bool.and_eq_true] at h5
  have hq := wpAnyQ_lex (P := P) (C := C) (md := .any) h5.1 (l.take m) 0 (Array.replicate m false) a (by simp) (by simpa [hlen] using h5.2) h
  rw [hlen] at hq
  have hcount : (List.range m).countP (fun j => !(Array.replicate l.toArray.size false).getD j true) = m := by
    rw [List.countP_eq_length.2]
    · simp
    · intro j hj
      have := List.mem_range.1 hj
      simp [Array.getD_eq_getD_getElem?, show j < l.length by omega]
  have hall := split_any (P := P) (ops := l.toArray) (ops' := (l.take m).toArray) (Q := Q) (C := C) (m := m) (by simpa using h1) h2 h3 h4 (by simpa using hlen) (fun j hj => by simp [hj]) (Qp := fun a' => ∀ w', C w' → wpList P l.toArray Q (l.drop m) a' w') (fun a' w' hw' hq => hq w' hw') m
    (Array.replicate l.toArray.size false) (Array.replicate m false) a (by simp) (by simp) (fun j hj => by simp [Array.getD_eq_getD_getElem?, hj, show j < l.length by omega]) (fun j hj hjn => by simp [Array.getD_eq_getD_getElem?, show j < l.length by simpa using hjn])
    (fun k hk hlk => by simp [Array.getD_eq_getD_getElem?, show k < l.length by simpa using hk] at hlk) hcount hq _ hC
  have e : m + (l.toArray.size - m) = l.toArray.size := by simp; omega
  rwa [e] at hall
/-- the class: the world after some draws -/
theorem wp_region_splitN {id : Nat} {l : List Oper} {a : Act} {w : World} (m : Nat) (hmx : P.follows .mixedOrders = true) (hB : splitB l m = true)
    (h : wpQuiet P (l.take m).toArray (fun w' => ∃ n, w' = w.drewN n) (fun a' => ∀ w', (∃ n, w' = w.drewN n) → wpList P l.toArray Q (l.drop m) a' w') (l.take m) a) : (Code.region id l.toArray true).wp P Q a w :=
  wp_region_split (C := fun w' => ∃ n, w' = w.drewN n) m hmx hB ⟨1, rfl⟩ h
/-- the class: what is old stays as it is -/
def Cls (w w' : World) : Prop := Below w.heap.size w w'

theorem wp_region_splitB {id : Nat} {l : List Oper} {a : Act} {w : World} (m : Nat) (hmx : P.follows .mixedOrders = true) (hB : splitB l m = true)
    (h : wpQuiet P (l.take m).toArray (Cls w) (fun a' => ∀ w', Cls w w' → wpList P l.toArray Q (l.drop m) a' w') (l.take m) a) : (Code.region id l.toArray true).wp P Q a w :=
  wp_region_split (C := Cls w) m hmx hB ((Below.refl _ _).drew) h
/-- an operation in such a class -/
theorem quiet_intro {o : Oper} {a : Act} {K : Act → Prop} (v : Value) (h : ∀ w, C w → Oper.quietUpon P C w v ((execOp a.eval o).run P w)) (hn : K (a.put o.dst v)) : o.quiet P a C K := ⟨v, h, hn⟩
theorem quiet_take {o : Oper} {a : Act} {K : Act → Prop} (hw : Region.wanted o (yielded ops a.tmps) = true) (u : Value) (h : ∀ W, C W → (execOp a.eval o).run P W = .ok (.value u) W) (hn : K (a.put o.dst u)) :
    if Region.wanted o (yielded ops a.tmps) then o.quiet P a C K else K (a.put o.dst undef) := by
  rw [if_pos hw]
  refine ⟨u, fun W hW => ?_, hn⟩
  unfold Oper.quietAt
  rw [h W hW]
  exact ⟨rfl, rfl⟩
theorem quiet_call {o : Oper} {a : Act} {K : Act → Prop} (hw : Region.wanted o (yielded ops a.tmps) = true) (f : FuncId) (args : Array Value) (u : Value) (h : ∀ W, C W → (execOp a.eval o).run P W = .ok (.enter f args) W)
    (hc : ∀ W, C W → Calls P f args W fun e w'' => e = .returned u ∧ C w'') (hn : K (a.put o.dst u)) :
    if Region.wanted o (yielded ops a.tmps) then o.quiet P a C K else K (a.put o.dst undef) := by
  rw [if_pos hw]
  refine ⟨u, fun W hW => ?_, hn⟩
  unfold Oper.quietAt
  rw [h W hW]
  exact ⟨rfl, hc W hW⟩
theorem quiet_skip {o : Oper} {a : Act} {K : Act → Prop} (hw : Region.wanted o (yielded ops a.tmps) = false) (hn : K (a.put o.dst undef)) :
    if Region.wanted o (yielded ops a.tmps) then o.quiet P a C K else K (a.put o.dst undef) := by
  rw [hw]; exact hn
end
end Go.Proofs.YtelghkgnkncnoaaDoor
