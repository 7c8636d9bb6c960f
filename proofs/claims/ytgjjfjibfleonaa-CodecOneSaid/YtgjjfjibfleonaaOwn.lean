/-
  Rows that a call makes and appends to: the kit's 'ownsRow', with sources that are any readable slice; rows of bytes.
-/
import Derived.Test.YtgjjfjibfleonaaBase
import Derived.Maps.AppendAt
import Derived.OwnWalk
namespace Go.Proofs.Ytgjjfjibfleonaa
open Go.RowKit
set_option linter.unusedVariables false

section
variable {P : Program} {w : World}
theorem run_append_nil_src (base : Nat) (t ty e : TypeId) (i : TypeInfo) (size : Nat) (ht : P.underlying t = some (.slice e)) (hi : P.info? e = some i)
    (v : Value) (n : Nat) (xs : List Value) (hown : w.ownsRow base e size v n xs) (c : Nat) : (Builtin.append_ #[t, t] ty #[v, .slice none 0 c]).run P w = .ok v w := by
  rcases hown.2 with ⟨rfl, rfl⟩ | ⟨g, cap, cur, rfl, _, _, hnc, _⟩
  · simp [Builtin.append_, run_underlying ht, sizeOf, typeInfo, hi, Builtin.lenOf, Builtin.firstCells]
  · simp [Builtin.append_, run_underlying ht, sizeOf, typeInfo, hi, Builtin.lenOf, Builtin.firstCells, hnc, storeCells]

theorem ownsRow_slice {base : Nat} {e : TypeId} {size n : Nat} {v : Value} {xs : List Value} (h : w.ownsRow base e size v n xs) : ∃ A c, v = .slice A n c ∧ n ≤ c ∧ c ≤ maxLen := by
  rcases h.2 with ⟨rfl, rfl⟩ | ⟨g, cap, cur, rfl, _, _, h1, h2, _⟩
  · exact ⟨none, 0, rfl, by omega, by simp [maxLen]⟩
  · exact ⟨_, cap, rfl, h1, h2⟩

/-- append onto an owned row, the source any readable slice -/
theorem run_app {D : Nat → Prop} (base : Nat) (t ty e : TypeId) (z : Value) (size bytes : Nat) (ht : P.underlying t = some (.slice e)) (hinfo : (P.info? e).map (fun i => (i.zero, i.size, i.bytes)) = some (some z, size, bytes)) (hzs : z.cells.size = size) (hsz : 0 < size)
    (v : Value) (n : Nat) (xs : List Value) (hown : w.ownsRow base e size v n xs) (A : Option Addr) (m c : Nat) (news : List Value) (hl : news.length = m * size) (hr : Cs D w A news) (h1 : ∀ u ∈ news, u.oneCell' = true)
    (hbytes : (n + m) * bytes ≤ 140737488355328) (h63 : n + m ≤ maxLen) (hbase : base ≤ w.heap.size) :
    ∃ A' c' w', (Builtin.append_ #[t, t] ty #[v, .slice A m c]).run P w = .ok (.slice A' (n + m) c') w' ∧ w'.ownsRow base e size (.slice A' (n + m) c') (n + m) (xs ++ news) ∧ w.grownBy w' v.ownBlock ∧
      ((Value.slice A' (n + m) c').ownBlock = v.ownBlock ∨ (Value.slice A' (n + m) c').ownBlock = some w.heap.size) ∧ n + m ≤ c' ∧ c' ≤ maxLen := by
  obtain ⟨i, hi, hz, hs, hby⟩ := info_parts hinfo
  have key : ∃ v' w', (Builtin.append_ #[t, t] ty #[v, .slice A m c]).run P w = .ok v' w' ∧ w'.ownsRow base e size v' (n + m) (xs ++ news) ∧ w.grownBy w' v.ownBlock ∧ (v'.ownBlock = v.ownBlock ∨ v'.ownBlock = some w.heap.size) := by
    rcases A with _ | ad
    · have hm : news = [] := by
        cases news with
        | nil => rfl
        | cons x xs => obtain ⟨_, _, h, _⟩ := hr (by simp); cases h
      subst hm
      have hm0 : m = 0 := by
        rcases Nat.eq_zero_or_pos m with h | h
        · exact h
        · have := Nat.mul_pos h hsz; simp at hl; omega
      subst hm0
      exact ⟨v, w, run_append_nil_src base t ty e i size ht hi v n xs hown c, by simpa using hown, ⟨rfl, rfl, rfl, Nat.le_refl _, fun _ _ _ => rfl⟩, .inl rfl⟩
    · have hcells : ∀ j u, news[j]? = some u → w.cell? (ad.add j) = some u := by
        intro j u hu
        have hn : 0 < news.length := by have := (List.getElem?_eq_some_iff.1 hu).1; omega
        obtain ⟨b, off, h, _, hc⟩ := hr hn
        cases h
        rw [Addr.add_mid]
        exact hc j u hu
      obtain ⟨v', w', a1, a2, a3, _, a5⟩ := run_append_own_at (P := P) w base t ty e i z size bytes ht hi hz hs hby hzs hsz v n xs hown ad m c news hl hcells h1 h63 hbytes hbase
      exact ⟨v', w', a1, a2, a3, a5⟩
  obtain ⟨v', w', a1, a2, a3, a4⟩ := key
  obtain ⟨A', c', rfl, b1, b2⟩ := ownsRow_slice a2
  exact ⟨A', c', w', a1, a2, a3, a4, b1, b2⟩

theorem wpList_app {D : Nat → Prop} {ops : Array Oper} {rest : List Oper} {o : Oper} {a : Act} {Q : Exit → Act → World → Prop} (hgd : o.guard = none) (s x : Operand) (t : TypeId)
    (ho : o.op = .call { callee := .builtin .append, args := #[s, x], argTypes := #[t, t] })
    (base : Nat) (e : TypeId) (z : Value) (size bytes : Nat) (ht : P.underlying t = some (.slice e)) (hinfo : (P.info? e).map (fun i => (i.zero, i.size, i.bytes)) = some (some z, size, bytes)) (hzs : z.cells.size = size) (hsz : 0 < size)
    (v : Value) (n : Nat) (xs : List Value) (hs : a.eval s = v) (hown : w.ownsRow base e size v n xs) (A : Option Addr) (m c : Nat) (news : List Value) (hx : a.eval x = .slice A m c) (hl : news.length = m * size) (hr : Cs D w A news) (h1 : ∀ u ∈ news, u.oneCell' = true)
    (hbytes : (n + m) * bytes ≤ 140737488355328) (h63 : n + m ≤ maxLen) (hbase : base ≤ w.heap.size) (N : Nat) (hN : N = n + m)
    (K : ∀ A' c' w', w'.ownsRow base e size (.slice A' N c') N (xs ++ news) → w.grownBy w' v.ownBlock → ((Value.slice A' N c').ownBlock = v.ownBlock ∨ (Value.slice A' N c').ownBlock = some w.heap.size) → N ≤ c' → c' ≤ 9223372036854775807 → wpList P ops Q rest (a.put o.dst (.slice A' N c')) w') :
    wpList P ops Q (o :: rest) a w := by
  subst hN
  obtain ⟨A', c', w', a1, a2, a3, a4, a5, a6⟩ := run_app (P := P) base t o.type e z size bytes ht hinfo hzs hsz v n xs hown A m c news hl hr h1 hbytes h63 hbase
  refine wpList_plain hgd fun _ hK => ?_
  unfold Oper.wp execOp
  simp only [ho, resolve, invoke, builtin, Sem.run_bind, Sem.run_pure, Result.andThen_ok, List.map_toArray, List.map_cons, List.map_nil, hs, hx, a1]
  exact hK _ _ (K A' c' w' a2 a3 a4 a5 (by unfold maxLen at a6; exact a6))
end

/-! ### rows of bytes -/
def OwnB (w : World) (base : Nat) (e : TypeId) (v : Value) (l : List UInt8) : Prop := w.ownsRow base e 1 v l.length (l.map bv)
section
variable {w w' : World} {base : Nat} {e : TypeId} {v : Value} {l : List UInt8}
theorem OwnB.nil_ (w : World) (base : Nat) (e : TypeId) : OwnB w base e (.slice none 0 0) [] := World.ownsRow_nil _ _ _ _
theorem OwnB.bytes (h : OwnB w base e v l) : Bytes (fun b => base ≤ b ∧ v.ownBlock = some b) w v l := by
  rcases h.2 with ⟨rfl, hn⟩ | ⟨g, cap, cur, rfl, hb, hh, h1, h2, h3, h4⟩
  · rw [List.eq_nil_of_length_eq_zero hn]
    exact Bytes.nil_ _ _
  · refine ⟨_, cap, rfl, h1, h2, fun _ => ⟨g, 0, rfl, ⟨hb, rfl⟩, fun j u hu => ?_⟩⟩
    rw [cell_of_row _ _ _ _ _ _ hh]
    rw [← h4, List.getElem?_take] at hu
    split at hu
    · simpa using hu
    · cases hu
theorem OwnB.kept {row : Option Nat} (h : OwnB w base e v l) (hg : w.grownBy w' row) (hne : v.ownBlock = none ∨ v.ownBlock ≠ row) : OwnB w' base e v l := World.ownsRow.kept h hg hne
theorem OwnB.ext (h : OwnB w base e v l) (hb : Below w.heap.size w w') : OwnB w' base e v l :=
  World.ownsRow.kept h (row := none) ⟨hb.os, hb.tape, hb.output, hb.size, fun k hk _ => hb.block k hk⟩ (by cases v.ownBlock <;> simp)
theorem OwnB.drew (h : OwnB w base e v l) : OwnB w.drew base e v l := h
theorem OwnB.at_ {g n c j : Nat} (h : OwnB w base e (.slice (some ⟨g, 0, none⟩) n c) l) (hj : j < l.length) : ∃ x, l[j]? = some x ∧ w.cell? ⟨g, j, none⟩ = some (.int .u8 (x.toNat : Int)) := by
  obtain ⟨A, c', e, h1, h2, h3⟩ := h.bytes
  cases e
  obtain ⟨b, off, x, e, _, _, hx, hc⟩ := h3.byte hj
  cases e
  exact ⟨x, hx, by simpa using hc⟩
theorem OwnB.frozen {g n c : Nat} (h : OwnB w base e (.slice (some ⟨g, 0, none⟩) n c) l) (j : Nat) : w.frozen? ⟨g, j, none⟩ = false := by
  obtain ⟨A, c', e, _⟩ := h.bytes
  cases e
  exact World.ownsRow.frozenAt h j
theorem OwnB.set_ {g n c : Nat} (h : OwnB w base e (.slice (some ⟨g, 0, none⟩) n c) l) (j : Nat) (x : UInt8) : OwnB (w.setCell ⟨g, j, none⟩ (.int .u8 (x.toNat : Int))) base e (.slice (some ⟨g, 0, none⟩) n c) (l.set j x) := by
  obtain ⟨A, c', e, _⟩ := h.bytes
  cases e
  have := (World.ownsRow.stored h j (bv x)).1
  unfold OwnB
  rw [List.length_set, List.map_set]
  exact this
theorem OwnB.lit (w : World) (t : TypeId) (l : List UInt8) (n : Nat) (hl : n = l.length) (hn : n ≤ 9223372036854775807) (base : Nat) (hb : base ≤ w.heap.size) : OwnB (w.alloc (.cells (brow l) t)) base t (.slice (some ⟨w.heap.size, 0, none⟩) n n) l := by
  subst hl
  refine ⟨by simp, .inr ⟨w.heap.size, l.length, brow l, rfl, hb, heap_alloc_new w _, by simp, by unfold maxLen; exact hn, by rw [brow_size, Nat.mul_one], by simp only [brow, Nat.mul_one]; exact List.take_of_length_le (by simp)⟩⟩
/-- what an append leaves of elder memory -/
theorem OwnB.grow {a w2 : World} {B : Nat} (h : OwnB w base e v l) (hg : w.grownBy w2 v.ownBlock) (hb : Below B a w) (hB : B ≤ base) (hw : base ≤ w.heap.size) : Below B a w2 :=
  hb.grown hg (Nat.le_trans hB hw) (fun k hk => Nat.le_trans hB (World.ownsRow.lt h k hk).1)
/-- an owned row that is not empty has an address -/
theorem OwnB.some_ {A : Option Addr} {n c : Nat} (h : OwnB w base e (.slice A n c) l) (hl : 0 < l.length) : ∃ g, A = some ⟨g, 0, none⟩ ∧ base ≤ g ∧ g < w.heap.size := by
  rcases h.2 with ⟨e, hn⟩ | ⟨g, cap, cur, e, hb, hh, _⟩
  · omega
  · cases e
    exact ⟨g, rfl, hb, (Array.getElem?_eq_some_iff.1 hh).1⟩
theorem OwnB.len {A : Option Addr} {n c : Nat} (h : OwnB w base e (.slice A n c) l) : l.length = n ∧ n ≤ c ∧ c ≤ 9223372036854775807 := h.bytes.len
end

/-- append of bytes -/
theorem wpList_appB {P : Program} {w : World} {D : Nat → Prop} {ops : Array Oper} {rest : List Oper} {o : Oper} {a : Act} {Q : Exit → Act → World → Prop} (s x : Operand) (t e : TypeId) (base : Nat) (l r : List UInt8) (A : Option Addr) (m c : Nat) (v : Value) (N : Nat)
    (hgd : o.guard = none) (ho : o.op = .call { callee := .builtin .append, args := #[s, x], argTypes := #[t, t] }) (ht : P.underlying t = some (.slice e)) (hinfo : (P.info? e).map (fun i => (i.zero, i.size, i.bytes)) = some (some (.int .u8 0), 1, 1))
    (hs : a.eval s = v) (hx : a.eval x = .slice A m c) (hown : OwnB w base e v l) (hr : Bytes D w (.slice A m c) r) (hN : N = l.length + m) (hbytes : l.length + m ≤ 140737488355328) (hbase : base ≤ w.heap.size)
    (K : ∀ A' c' w', OwnB w' base e (.slice A' N c') (l ++ r) → w.grownBy w' v.ownBlock → ((Value.slice A' N c').ownBlock = v.ownBlock ∨ (Value.slice A' N c').ownBlock = some w.heap.size) → N ≤ c' → c' ≤ 9223372036854775807 → wpList P ops Q rest (a.put o.dst (.slice A' N c')) w') :
    wpList P ops Q (o :: rest) a w := by
  obtain ⟨A2, c2, e2, g1, g2, g3⟩ := hr
  cases e2
  refine wpList_app hgd s x t ho base e (.int .u8 0) 1 1 ht hinfo rfl (by omega) v l.length (l.map bv) hs hown A r.length c (r.map bv) hx (by simp) g3 (fun u hu => ?_) (by omega) (by unfold maxLen; omega) hbase N hN ?_
  · obtain ⟨y, _, rfl⟩ := List.mem_map.1 hu
    rfl
  · intro A' c' w' h1 h2 h3 h4 h5
    refine K A' c' w' ?_ h2 h3 h4 h5
    unfold OwnB
    rw [List.length_append, List.map_append, ← hN]
    exact h1
end Go.Proofs.Ytgjjfjibfleonaa
