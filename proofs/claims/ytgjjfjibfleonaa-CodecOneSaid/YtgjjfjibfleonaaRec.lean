/-
  Rows of records: each element fills k cells.
-/
import Derived.Test.YtgjjfjibfleonaaOwn
import Derived.Laws.MakeOwn
namespace Go.Proofs.Ytgjjfjibfleonaa
open Go.RowKit
set_option linter.unusedVariables false

/-- the cells of one element among the cells of all -/
theorem flat_at {α : Type} {enc : α → List Value} {k : Nat} (hk : ∀ x, (enc x).length = k) : ∀ (l : List α) (j i : Nat) (x : α), l[j]? = some x → i < k → (l.flatMap enc)[j * k + i]? = (enc x)[i]?
  | [], j, i, x, h, _ => by simp at h
  | y :: l, 0, i, x, h, hi => by
    simp at h
    subst h
    rw [List.flatMap_cons, Nat.zero_mul, Nat.zero_add, List.getElem?_append_left (by rw [hk]; exact hi)]
  | y :: l, j + 1, i, x, h, hi => by
    rw [List.flatMap_cons, List.getElem?_append_right (by rw [hk, Nat.add_mul]; omega), hk, show (j + 1) * k + i - k = j * k + i by rw [Nat.add_mul]; omega]
    exact flat_at hk l j i x (by simpa using h) hi
theorem flat_length {α : Type} {enc : α → List Value} {k : Nat} (hk : ∀ x, (enc x).length = k) (l : List α) : (l.flatMap enc).length = l.length * k := by
  induction l with
  | nil => simp
  | cons x l ih => rw [List.flatMap_cons, List.length_append, hk, ih, List.length_cons, Nat.add_mul]; omega
theorem flat_take {α : Type} {enc : α → List Value} {k : Nat} (hk : ∀ x, (enc x).length = k) : ∀ (l : List α) (j : Nat), (l.flatMap enc).take (j * k) = (l.take j).flatMap enc
  | [], j => by simp
  | x :: l, 0 => by simp
  | x :: l, j + 1 => by
    rw [List.flatMap_cons, List.take_succ_cons, List.flatMap_cons, List.take_append, hk, List.take_of_length_le (by rw [hk, Nat.add_mul]; omega), show (j + 1) * k - k = j * k by rw [Nat.add_mul]; omega, flat_take hk l j]
theorem flat_drop {α : Type} {enc : α → List Value} {k : Nat} (hk : ∀ x, (enc x).length = k) : ∀ (l : List α) (j : Nat), (l.flatMap enc).drop (j * k) = (l.drop j).flatMap enc
  | [], j => by simp
  | x :: l, 0 => by simp
  | x :: l, j + 1 => by
    rw [List.flatMap_cons, List.drop_succ_cons, List.drop_append, hk, List.drop_of_length_le (by rw [hk, Nat.add_mul]; omega), show (j + 1) * k - k = j * k by rw [Nat.add_mul]; omega, flat_drop hk l j, List.nil_append]

/-- a slice of records that reads as a list -/
def Recs {α : Type} (enc : α → List Value) (S : Nat → Prop) (w : World) (v : Value) (l : List α) : Prop := ∃ A c, v = .slice A l.length c ∧ l.length ≤ c ∧ c ≤ maxLen ∧ Cs S w A (l.flatMap enc)
section
variable {α : Type} {enc : α → List Value} {k : Nat} {S S' : Nat → Prop} {w w' : World} {v : Value} {l : List α}
theorem Recs.keep (h : Recs enc S w v l) (hk : Keep S w w') : Recs enc S w' v l := by
  obtain ⟨A, c, rfl, h1, h2, h3⟩ := h
  exact ⟨A, c, rfl, h1, h2, h3.keep hk⟩
theorem Recs.ext (h : Recs enc S w v l) (hb : Below w.heap.size w w') : Recs enc S w' v l := h.keep (Keep.of_below hb)
theorem Recs.mono (h : Recs enc S w v l) (hs : ∀ b, b < w.heap.size → S b → S' b) : Recs enc S' w v l := by
  obtain ⟨A, c, rfl, h1, h2, h3⟩ := h
  exact ⟨A, c, rfl, h1, h2, h3.mono hs⟩
theorem Recs.drew (h : Recs enc S w v l) : Recs enc S w.drew v l := h
theorem Recs.nil_ (S : Nat → Prop) (w : World) : Recs enc S w (.slice none 0 0) [] := ⟨none, 0, rfl, by simp, by simp [maxLen], Cs.nil_ _ _ _⟩
theorem Recs.len {A : Option Addr} {n c : Nat} (h : Recs enc S w (.slice A n c) l) : l.length = n ∧ n ≤ c ∧ c ≤ 9223372036854775807 := by
  obtain ⟨A', c', e, h1, h2, _⟩ := h
  cases e
  unfold maxLen at h2
  exact ⟨rfl, h1, h2⟩
/-- one element's cells -/
theorem Recs.at_ (hk : ∀ x, (enc x).length = k) {A : Option Addr} {n c j : Nat} (h : Recs enc S w (.slice A n c) l) (hj : j < l.length) (hk0 : 0 < k) :
    ∃ b off x, A = some ⟨b, off, none⟩ ∧ S b ∧ b < w.heap.size ∧ l[j]? = some x ∧ ∀ i u, (enc x)[i]? = some u → w.cell? ⟨b, off + j * k + i, none⟩ = some u := by
  obtain ⟨A', c', e, h1, h2, h3⟩ := h
  cases e
  have hx : l[j]? = some l[j] := List.getElem?_eq_getElem hj
  have hpos : 0 < (l.flatMap enc).length := by rw [flat_length hk]; exact Nat.mul_pos (by omega) hk0
  obtain ⟨b, off, rfl, hs, hc⟩ := h3 hpos
  refine ⟨b, off, l[j], rfl, hs, ?_, hx, fun i u hu => ?_⟩
  · exact block_lt_of_cell (hc 0 _ (List.getElem?_eq_getElem hpos))
  · have hi : i < k := by have := (List.getElem?_eq_some_iff.1 hu).1; rw [hk] at this; exact this
    have := hc (j * k + i) u (by rw [flat_at hk l j i _ hx hi]; exact hu)
    rw [← Nat.add_assoc] at this
    exact this
theorem Recs.take_ (hk : ∀ x, (enc x).length = k) {A : Option Addr} {n c j : Nat} (h : Recs enc S w (.slice A n c) l) (hj : j ≤ n) : Recs enc S w (.slice A j c) (l.take j) := by
  obtain ⟨A', c', e, h1, h2, h3⟩ := h
  cases e
  have e : (l.take j).length = j := by rw [List.length_take]; omega
  refine ⟨A, c, by rw [e], by omega, h2, ?_⟩
  rw [← flat_take hk]
  exact Cs.take_ h3 (j * k)
theorem Recs.drop_ (hk : ∀ x, (enc x).length = k) {A : Option Addr} {n c j : Nat} (h : Recs enc S w (.slice A n c) l) (hj : j ≤ n) {q : Prop} [Decidable q] (hq : q → n ≤ j) : Recs enc S w (.slice (if q then A else A.map (·.add (j * k))) (n - j) (c - j)) (l.drop j) := by
  obtain ⟨A', c', e, h1, h2, h3⟩ := h
  cases e
  refine ⟨_, c - j, by rw [List.length_drop], by rw [List.length_drop]; omega, by omega, ?_⟩
  rw [← flat_drop hk]
  refine Cs.drop_ h3 (j * k) (fun hq' => ?_)
  rw [flat_length hk]
  exact Nat.mul_le_mul_right _ (hq hq')
end

/-- a row of records that the call itself made -/
def OwnR {α : Type} (enc : α → List Value) (k : Nat) (w : World) (base : Nat) (e : TypeId) (v : Value) (l : List α) : Prop := w.ownsRow base e k v l.length (l.flatMap enc)
section
variable {α : Type} {enc : α → List Value} {k : Nat} {w w' : World} {base : Nat} {e : TypeId} {v : Value} {l : List α}
theorem OwnR.nil_ (w : World) (base : Nat) (e : TypeId) : OwnR enc k w base e (.slice none 0 0) [] := World.ownsRow_nil _ _ _ _
theorem OwnR.recs (h : OwnR enc k w base e v l) : Recs enc (fun b => base ≤ b ∧ v.ownBlock = some b) w v l := by
  rcases h.2 with ⟨rfl, hn⟩ | ⟨g, cap, cur, rfl, hb, hh, h1, h2, h3, h4⟩
  · rw [List.eq_nil_of_length_eq_zero hn]
    exact Recs.nil_ _ _
  · refine ⟨_, cap, rfl, h1, h2, fun _ => ⟨g, 0, rfl, ⟨hb, rfl⟩, fun j u hu => ?_⟩⟩
    rw [cell_of_row _ _ _ _ _ _ hh]
    rw [← h4, List.getElem?_take] at hu
    split at hu
    · simpa using hu
    · cases hu
theorem OwnR.kept {row : Option Nat} (h : OwnR enc k w base e v l) (hg : w.grownBy w' row) (hne : v.ownBlock = none ∨ v.ownBlock ≠ row) : OwnR enc k w' base e v l := World.ownsRow.kept h hg hne
theorem OwnR.ext (h : OwnR enc k w base e v l) (hb : Below w.heap.size w w') : OwnR enc k w' base e v l :=
  World.ownsRow.kept h (row := none) ⟨hb.os, hb.tape, hb.output, hb.size, fun k hk _ => hb.block k hk⟩ (by cases v.ownBlock <;> simp)
theorem OwnR.drew (h : OwnR enc k w base e v l) : OwnR enc k w.drew base e v l := h
theorem OwnR.len {A : Option Addr} {n c : Nat} (h : OwnR enc k w base e (.slice A n c) l) : l.length = n ∧ n ≤ c ∧ c ≤ 9223372036854775807 := h.recs.len
theorem OwnR.grow {a w2 : World} {B : Nat} (h : OwnR enc k w base e v l) (hg : w.grownBy w2 v.ownBlock) (hb : Below B a w) (hB : B ≤ base) (hw : base ≤ w.heap.size) : Below B a w2 :=
  hb.grown hg (Nat.le_trans hB hw) (fun k hk => Nat.le_trans hB (World.ownsRow.lt h k hk).1)
end

/-- append of records -/
theorem wpList_appR {α : Type} {enc : α → List Value} {k : Nat} {P : Program} {w : World} {D : Nat → Prop} {ops : Array Oper} {rest : List Oper} {o : Oper} {a : Act} {Q : Exit → Act → World → Prop} (hk : ∀ x, (enc x).length = k) (h1 : ∀ x, ∀ u ∈ enc x, u.oneCell' = true) (z : Value) (bytes : Nat) (s x : Operand) (t e : TypeId) (base : Nat) (l r : List α) (A : Option Addr) (m c : Nat) (v : Value) (N : Nat)
    (hgd : o.guard = none) (ho : o.op = .call { callee := .builtin .append, args := #[s, x], argTypes := #[t, t] }) (ht : P.underlying t = some (.slice e)) (hinfo : (P.info? e).map (fun i => (i.zero, i.size, i.bytes)) = some (some z, k, bytes)) (hzs : z.cells.size = k) (hk0 : 0 < k)
    (hs : a.eval s = v) (hx : a.eval x = .slice A m c) (hown : OwnR enc k w base e v l) (hr : Recs enc D w (.slice A m c) r) (hN : N = l.length + m) (hbytes : (l.length + m) * bytes ≤ 140737488355328) (h63 : l.length + m ≤ 9223372036854775807) (hbase : base ≤ w.heap.size)
    (K : ∀ A' c' w', OwnR enc k w' base e (.slice A' N c') (l ++ r) → w.grownBy w' v.ownBlock → ((Value.slice A' N c').ownBlock = v.ownBlock ∨ (Value.slice A' N c').ownBlock = some w.heap.size) → N ≤ c' → c' ≤ 9223372036854775807 → wpList P ops Q rest (a.put o.dst (.slice A' N c')) w') :
    wpList P ops Q (o :: rest) a w := by
  obtain ⟨A2, c2, e2, g1, g2, g3⟩ := hr
  cases e2
  refine wpList_app hgd s x t ho base e z k bytes ht hinfo hzs hk0 v l.length (l.flatMap enc) hs hown A r.length c (r.flatMap enc) hx (flat_length hk r) g3 (fun u hu => ?_) hbytes (by unfold maxLen; exact h63) hbase N hN ?_
  · obtain ⟨y, _, hy⟩ := List.mem_flatMap.1 hu
    exact h1 y u hy
  · intro A' c' w' g1 g2 g3 g4 g5
    refine K A' c' w' ?_ g2 g3 g4 g5
    unfold OwnR
    rw [List.length_append, List.flatMap_append, ← hN]
    exact g1

/-- a beginning of an owned row -/
theorem OwnR.cut {α : Type} {enc : α → List Value} {k : Nat} (hk : ∀ x, (enc x).length = k) {w : World} {base : Nat} {e : TypeId} {A : Option Addr} {n c : Nat} {l : List α} (h : OwnR enc k w base e (.slice A n c) l) {j : Nat} (hj : j ≤ n) : OwnR enc k w base e (.slice A j c) (l.take j) := by
  have hl := h.len
  have e1 : (l.take j).length = j := by rw [List.length_take]; omega
  unfold OwnR at *
  rw [e1]
  refine ⟨by rw [flat_length hk, e1], ?_⟩
  rcases h.2 with ⟨e0, hn⟩ | ⟨g, cap, cur, e0, hb, hh, h1, h2, h3, h4⟩
  · cases e0
    obtain rfl : j = 0 := by omega
    exact .inl ⟨rfl, rfl⟩
  · cases e0
    refine .inr ⟨g, c, cur, rfl, hb, hh, by omega, h2, h3, ?_⟩
    rw [← flat_take hk, ← h4, List.take_take]
    congr 1
    exact (Nat.min_eq_left (Nat.mul_le_mul_right _ (by omega))).symm
theorem OwnR.some_ {α : Type} {enc : α → List Value} {k : Nat} {w : World} {base : Nat} {e : TypeId} {A : Option Addr} {n c : Nat} {l : List α} (h : OwnR enc k w base e (.slice A n c) l) (hl : 0 < l.length) : ∃ g, A = some ⟨g, 0, none⟩ ∧ base ≤ g ∧ g < w.heap.size := by
  rcases h.2 with ⟨e, hn⟩ | ⟨g, cap, cur, e, hb, hh, _⟩
  · omega
  · cases e
    exact ⟨g, rfl, hb, (Array.getElem?_eq_some_iff.1 hh).1⟩
theorem OwnR.weak {α : Type} {enc : α → List Value} {k : Nat} {w : World} {base base' : Nat} {e : TypeId} {v : Value} {l : List α} (h : OwnR enc k w base e v l) (hb : base' ≤ base) : OwnR enc k w base' e v l := by
  refine ⟨h.1, ?_⟩
  rcases h.2 with hn | ⟨g, cap, cur, hv, hbg, rest⟩
  · exact .inl hn
  · exact .inr ⟨g, cap, cur, hv, Nat.le_trans hb hbg, rest⟩
/-- a made row of zeros -/
theorem flat_made {α : Type} {enc : α → List Value} {k : Nat} (hk : ∀ x, (enc x).length = k) (x : α) (hk0 : 0 < k) (m : Nat) : (madeCells (enc x).toArray (m * k)).toList = (List.replicate m x).flatMap enc := by
  apply List.ext_getElem?
  intro i
  by_cases hi : i < m * k
  · have hr : i % k < k := Nat.mod_lt _ hk0
    have hj : i / k < m := Nat.div_lt_of_lt_mul (by rw [Nat.mul_comm]; exact hi)
    have e := flat_at hk (List.replicate m x) (i / k) (i % k) x (by simp [hj]) hr
    rw [Nat.div_add_mod' i k] at e
    rw [e]
    simp [madeCells, hi, hk]
    rw [List.getElem?_eq_getElem (by rw [hk]; exact hr)]
    simp
  · rw [List.getElem?_eq_none (by simp [madeCells]; omega), List.getElem?_eq_none (by rw [flat_length hk]; simp; omega)]
end Go.Proofs.Ytgjjfjibfleonaa
