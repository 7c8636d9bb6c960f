/-
  WalTorn, plain: what is found behind a crash that loses sectors; a slice expression under a guard that holds.
-/
import Derived.Test.YtjcfnpmgklliiaaWalI
import Derived.Test.YtjcfnpmgklliiaaDiskC
namespace Go.Proofs.Ytjcfnpmgklliiaa
open Go.RowKit
set_option linter.unusedVariables false
set_option linter.unusedSimpArgs false

theorem nextL_shift (A B : List UInt8) (k : Nat) (h : (nextL B k).2.2 ≠ 0) : (nextL (A ++ B) ((A.length + k : Nat) : Int)).2.2 ≠ 0 := by
  have d0 : ∀ j, (A ++ B).drop (A.length + j) = B.drop j := fun j => by rw [List.drop_append]; simp
  have d4 : (A ++ B).drop (A.length + k + 4) = B.drop (k + 4) := by rw [Nat.add_assoc]; exact d0 _
  have d8 : (A ++ B).drop (A.length + k + 8) = B.drop (k + 8) := by rw [Nat.add_assoc]; exact d0 _
  have l0 : (A ++ B).length = A.length + B.length := List.length_append
  by_cases h1 : (B.length : Int) < (k : Int)
  · rw [nextL_range (.inr (by rw [l0]; omega))]
    simp
  by_cases h2 : k = B.length
  · rw [nextL_end (by rw [l0]; omega)]
    simp
  by_cases h3 : B.length - k < 8
  · rw [nextL_short1 (by rw [l0]; omega) (by rw [l0]; omega)]
    simp
  by_cases h4 : 4096 < num ((B.drop k).take 4)
  · rw [nextL_long (by rw [l0]; omega) (by rw [d0]; exact h4)]
    simp
  by_cases h5 : B.length - k - 8 < num ((B.drop k).take 4)
  · rw [nextL_short2 (by rw [l0]; omega) (by rw [d0]; omega) (by rw [d0, l0]; omega)]
    simp
  by_cases h6 : num ((B.drop (k + 4)).take 4) = sumL ((B.drop (k + 8)).take (num ((B.drop k).take 4)))
  · rw [nextL_ok (by omega) (by omega) (by omega) h6] at h
    exact absurd rfl h
  · rw [nextL_sum (by rw [l0]; omega) (by rw [d0]; omega) (by rw [d0, l0]; omega) (by rw [d4, d8, d0]; exact h6)]
    simp
theorem torn_stop (safe more : List Dt) (T : List UInt8) (i : Nat) (h1 : ∀ d ∈ safe, DtIn d) (h2 : ∀ d ∈ more, DtIn d) (hat : T.take (frL (more.take i)).length = frL (more.take i)) (hne : (nextL T (frL (more.take i)).length).2.2 ≠ 0) :
    WholeR (frL safe ++ T) (safe ++ more.take i) := by
  have e : frL safe ++ T = frL (safe ++ more.take i) ++ T.drop (frL (more.take i)).length := by
    rw [frL_append, List.append_assoc]
    congr 1
    have := List.take_append_drop (frL (more.take i)).length T
    rw [hat] at this
    exact this.symm
  have hs := nextL_shift (frL safe) T (frL (more.take i)).length hne
  rw [e, show (frL safe).length + (frL (more.take i)).length = (frL (safe ++ more.take i)).length by rw [frL_append, List.length_append]] at hs
  rw [e]
  exact whole_stop _ _ (fun d hd => by
    rcases List.mem_append.1 hd with h | h
    · exact h1 d h
    · exact h2 d (List.mem_of_mem_take h)) hs
theorem torn_full (safe more : List Dt) (T : List UInt8) (h1 : ∀ d ∈ safe, DtIn d) (h2 : ∀ d ∈ more, DtIn d) (hat : T.take (frL more).length = frL more) (hl : T.length ≤ (frL more).length) : WholeR (frL safe ++ T) (safe ++ more) := by
  rw [List.take_of_length_le hl] at hat
  subst hat
  rw [← frL_append]
  exact whole_frL _ (fun d hd => by
    rcases List.mem_append.1 hd with h | h
    · exact h1 d h
    · exact h2 d h)
/-- one frame more -/
theorem torn_step (more : List Dt) (T : List UInt8) (i : Nat) (d : Dt) (hd : more[i]? = some d) (na no : Nat) (hna : (frL (more.take i)).length = na) (hno : (frL [d]).length = no) (hat : T.take na = frL (more.take i)) (heq : (T.drop na).take no = frL [d]) :
    frL (more.take (i + 1)) = frL (more.take i) ++ frL [d] ∧ T.take (na + no) = frL (more.take (i + 1)) := by
  have e : frL (more.take (i + 1)) = frL (more.take i) ++ frL [d] := by rw [List.take_add_one, hd, frL_append]; rfl
  refine ⟨e, ?_⟩
  rw [List.take_add, hat, heq, e]
theorem frL_one_pos (d : Dt) : 17 ≤ (frL [d]).length := by have := frL_ge [d]; simpa using this
section
variable {P : Program} {ops : Array Oper}
theorem wpList_slBw {Q : Exit → Act → World → Prop} {o : Oper} {a : Act} {w : World} {rest : List Oper} {T E : TypeId} {x : Operand} {lo hi mx : Option Operand} {A : Option Addr} {n c : Nat} {D : Nat → Prop} {L : List UInt8} (l h m n' c' : Nat) (L' : List UInt8)
    (hgd : Region.wanted o (yielded ops a.tmps) = true) (ho : o.op = .slice T x lo hi mx) (hx : a.eval x = .slice A n c) (ht : P.underlying T = some (.slice E)) (hi' : (P.info? E).map (·.size) = some 1)
    (hlo : (lo = none ∧ l = 0) ∨ ∃ y k e, lo = some y ∧ a.eval y = .int k e ∧ e = (l : Int)) (hhi : (hi = none ∧ mx = none ∧ h = n) ∨ ∃ y k e, hi = some y ∧ a.eval y = .int k e ∧ e = (h : Int))
    (hmx : (mx = none ∧ m = c) ∨ ∃ y k e, mx = some y ∧ a.eval y = .int k e ∧ e = (m : Int)) (hb : Bytes D w (.slice A n c) L) (h1 : l ≤ h) (h2 : h ≤ m) (h3 : h ≤ n) (h4 : m ≤ c) (hn' : n' = h - l) (hc' : c' = m - l) (hL' : L' = (L.drop l).take (h - l))
    (K : ∀ A', Bytes D w (.slice A' n' c') L' → n' ≤ c' → wpList P ops Q rest (a.put o.dst (.slice A' n' c')) w) : wpList P ops Q (o :: rest) a w := by
  subst hn' hc' hL'
  simp only [wpList, hgd, if_true]
  refine .inl ?_
  unfold Oper.wp
  rw [run_sl l h m ho hx ht hi' hlo hhi hmx h1 h2 h4 w]
  exact K _ (hb.part h1 h2 h3 h4) (by omega)
theorem wpList_slRw {α : Type} {enc : α → List Value} {k : Nat} (hk : ∀ x, (enc x).length = k) {Q : Exit → Act → World → Prop} {o : Oper} {a : Act} {w : World} {rest : List Oper} {T E : TypeId} {x : Operand} {lo hi mx : Option Operand} {A : Option Addr} {n c : Nat} {D : Nat → Prop} {w0 : World} {L : List α} (l h m n' c' : Nat) (L' : List α)
    (hgd : Region.wanted o (yielded ops a.tmps) = true) (ho : o.op = .slice T x lo hi mx) (hx : a.eval x = .slice A n c) (ht : P.underlying T = some (.slice E)) (hi' : (P.info? E).map (·.size) = some k)
    (hlo : (lo = none ∧ l = 0) ∨ ∃ y kd e, lo = some y ∧ a.eval y = .int kd e ∧ e = (l : Int)) (hhi : (hi = none ∧ mx = none ∧ h = n) ∨ ∃ y kd e, hi = some y ∧ a.eval y = .int kd e ∧ e = (h : Int))
    (hmx : (mx = none ∧ m = c) ∨ ∃ y kd e, mx = some y ∧ a.eval y = .int kd e ∧ e = (m : Int)) (hb : Recs enc D w0 (.slice A n c) L) (h1 : l ≤ h) (h2 : h ≤ m) (h3 : h ≤ n) (h4 : m ≤ c) (hn' : n' = h - l) (hc' : c' = m - l) (hL' : L' = (L.drop l).take (h - l))
    (K : ∀ A', Recs enc D w0 (.slice A' n' c') L' → n' ≤ c' → wpList P ops Q rest (a.put o.dst (.slice A' n' c')) w) : wpList P ops Q (o :: rest) a w := by
  subst hn' hc' hL'
  simp only [wpList, hgd, if_true]
  refine .inl ?_
  unfold Oper.wp
  rw [run_sl l h m ho hx ht hi' hlo hhi hmx h1 h2 h4 w]
  exact K _ (hb.part hk h1 h2 h3 h4) (by omega)
end
theorem IsRow.zin_ {w : World} {a : Option Addr} {len cap : Nat} {zs : List Int} (h : IsRow .i64 w a len cap zs) :
    ∃ l : List Int, l.length = len ∧ len ≤ cap ∧ cap ≤ 9223372036854775807 ∧ Recs encZ (· < w.heap.size) w (.slice a len cap) l ∧ ∀ z ∈ l, InR z := by
  have h0 := h
  rcases h with ⟨rfl, rfl, rfl, rfl⟩ | ⟨x, rfl, hl, hm, hz, hc, hw⟩
  · exact ⟨[], rfl, by omega, by omega, Recs.nil_ _ _, by simp⟩
  · refine ⟨zs.take len, by simp; omega, hl, by unfold maxLen at hm; omega, ⟨some x, cap, by simp; omega, by simp; omega, hm, ?_⟩, fun z hz' => wf_i64 (hw z (List.mem_of_mem_take hz'))⟩
    rw [flatZ']
    intro hn
    have hn' : 0 < zs.length := by simp at hn; omega
    obtain ⟨b, off, rfl⟩ := plain_of_cell (hc 0 hn')
    refine ⟨b, off, rfl, block_lt_of_cell (hc 0 hn') , fun j u hu => ?_⟩
    have hj : j < zs.length ∧ j < len := by
      have := (List.getElem?_eq_some_iff.1 hu).1
      simp at this; omega
    have := hc j hj.1
    rw [Addr.add_mid] at this
    rw [this]
    simp [hj.1, hj.2] at hu
    rw [← hu]
    simp [hj.1]
theorem Bytes.mid {D : Nat → Prop} {w : World} {A : Option Addr} {n c l k : Nat} {L : List UInt8} (hb : Bytes D w (.slice A n c) L) (h : l + k ≤ n) (hk : 0 < k) : Bytes D w (.slice (Option.map (fun x => x.add l) A) k (c - l)) ((L.drop l).take k) := by
  have hc := hb.len.2.1
  have hp := hb.part (l := l) (h := l + k) (m := c) (by omega) (by omega) (by omega) (Nat.le_refl _)
  rw [if_neg (by omega), Nat.mul_one, Nat.add_sub_cancel_left] at hp
  exact hp
theorem grown_nil {w w' : World} (hg : w.grownBy w' (Value.slice none 0 0).ownBlock) : Below w.heap.size w w' := (Below.refl _ w).grown hg (Nat.le_refl _) (fun k e => by cases e)
theorem torn_take (safe more : List Dt) (i ns : Nat) (h : safe.length = ns) : safe ++ more.take i = ((safe ++ more).drop 0).take (ns + i - 0) := by
  subst h
  rw [List.drop_zero, Nat.sub_zero, List.take_length_add_append]
end Go.Proofs.Ytjcfnpmgklliiaa
