/-
  Slices of rows of records inside a region that draws its order: the part under a name.
-/
import Derived.Test.YtfnafdncbbjolaaLexL
import Derived.Test.YtfnafdncbbjolaaRec
namespace Go.Proofs.Ytfnafdncbbjolaa
set_option linter.unusedVariables false
section
variable {P : Program} {ops : Array Oper} {K0 : Act → World → Prop} {S : World → Prop}
/-- pure, and no slice expression -/
def plainOp (o : Oper) : Bool :=
  match o.op with
  | .slice .. => false
  | _ => kindOf o == 0
theorem lexL_q1 {o : Oper} {a : Act} {w : World} {rest : List Oper} (hk : plainOp o = true) (h : wpQuiet P ops (fun _ => True) (fun a' => wpLex P ops S kindL K0 rest a' w) [o] a) : wpLex P ops S kindL K0 (o :: rest) a w :=
  lexL_q0 (by
    unfold plainOp at hk
    split at hk
    · cases hk
    · simpa using hk) h
theorem Recs.part {α : Type} {enc : α → List Value} {k : Nat} (hk : ∀ x, (enc x).length = k) {D : Nat → Prop} {w : World} {A : Option Addr} {n c l h m : Nat} {L : List α} (hb : Recs enc D w (.slice A n c) L) (h1 : l ≤ h) (h2 : h ≤ m) (h3 : h ≤ n) (h4 : m ≤ c) :
    Recs enc D w (.slice (if m = l then A else A.map (·.add (l * k))) (h - l) (m - l)) ((L.drop l).take (h - l)) := by
  obtain ⟨A', c', e, g1, g2, g3⟩ := hb
  cases e
  have hl : ((L.drop l).take (h - l)).length = h - l := by rw [List.length_take, List.length_drop]; omega
  refine ⟨_, m - l, by rw [hl], by rw [hl]; omega, by omega, ?_⟩
  have := Cs.part (sz := k) (n := L.length) (l := l) (h := h) (m := m) g3 (flat_length hk L) h1 h2 h3
  rw [flat_drop hk, flat_take hk] at this
  exact this
/-- a slice expression on a row of records -/
theorem lexL_slR {α : Type} {enc : α → List Value} {k : Nat} (hk : ∀ x, (enc x).length = k) {o : Oper} {a : Act} {w : World} {rest : List Oper} {T E : TypeId} {x : Operand} {lo hi mx : Option Operand} {A : Option Addr} {n c : Nat} {D : Nat → Prop} {w0 : World} {L : List α} (l h m n' c' : Nat) (L' : List α)
    (hgd : Region.wanted o (yielded ops a.tmps) = true) (ho : o.op = .slice T x lo hi mx) (hx : a.eval x = .slice A n c) (ht : P.underlying T = some (.slice E)) (hi' : (P.info? E).map (·.size) = some k)
    (hlo : (lo = none ∧ l = 0) ∨ ∃ y kd e, lo = some y ∧ a.eval y = .int kd e ∧ e = (l : Int)) (hhi : (hi = none ∧ mx = none ∧ h = n) ∨ ∃ y kd e, hi = some y ∧ a.eval y = .int kd e ∧ e = (h : Int))
    (hmx : (mx = none ∧ m = c) ∨ ∃ y kd e, mx = some y ∧ a.eval y = .int kd e ∧ e = (m : Int)) (hb : Recs enc D w0 (.slice A n c) L) (h1 : l ≤ h) (h2 : h ≤ m) (h3 : h ≤ n) (h4 : m ≤ c) (hn' : n' = h - l) (hc' : c' = m - l) (hL' : L' = (L.drop l).take (h - l))
    (K : ∀ A', Recs enc D w0 (.slice A' n' c') L' → n' ≤ c' → wpLex P ops S kindL K0 rest (a.put o.dst (.slice A' n' c')) w) : wpLex P ops S kindL K0 (o :: rest) a w := by
  subst hn' hc' hL'
  refine yif_cons (by unfold kindL kindOf; simp [ho]) (.inl ⟨hgd, fun w' _ => ?_⟩) (K _ (hb.part hk h1 h2 h3 h4) (by omega))
  exact run_sl l h m ho hx ht hi' hlo hhi hmx h1 h2 h4 w'
/-- the same in a plain region -/
theorem wpList_slR {α : Type} {enc : α → List Value} {k : Nat} (hk : ∀ x, (enc x).length = k) {Q : Exit → Act → World → Prop} {o : Oper} {a : Act} {w : World} {rest : List Oper} {T E : TypeId} {x : Operand} {lo hi mx : Option Operand} {A : Option Addr} {n c : Nat} {D : Nat → Prop} {w0 : World} {L : List α} (l h m n' c' : Nat) (L' : List α)
    (hgd : o.guard = none) (ho : o.op = .slice T x lo hi mx) (hx : a.eval x = .slice A n c) (ht : P.underlying T = some (.slice E)) (hi' : (P.info? E).map (·.size) = some k)
    (hlo : (lo = none ∧ l = 0) ∨ ∃ y kd e, lo = some y ∧ a.eval y = .int kd e ∧ e = (l : Int)) (hhi : (hi = none ∧ mx = none ∧ h = n) ∨ ∃ y kd e, hi = some y ∧ a.eval y = .int kd e ∧ e = (h : Int))
    (hmx : (mx = none ∧ m = c) ∨ ∃ y kd e, mx = some y ∧ a.eval y = .int kd e ∧ e = (m : Int)) (hb : Recs enc D w0 (.slice A n c) L) (h1 : l ≤ h) (h2 : h ≤ m) (h3 : h ≤ n) (h4 : m ≤ c) (hn' : n' = h - l) (hc' : c' = m - l) (hL' : L' = (L.drop l).take (h - l))
    (K : ∀ A', Recs enc D w0 (.slice A' n' c') L' → n' ≤ c' → wpList P ops Q rest (a.put o.dst (.slice A' n' c')) w) : wpList P ops Q (o :: rest) a w := by
  subst hn' hc' hL'
  refine wpList_plain hgd fun _ hK => ?_
  unfold Oper.wp
  rw [run_sl l h m ho hx ht hi' hlo hhi hmx h1 h2 h4 w]
  exact hK _ _ (K _ (hb.part hk h1 h2 h3 h4) (by omega))
end
end Go.Proofs.Ytfnafdncbbjolaa
