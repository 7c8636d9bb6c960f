/-
  The law of XLex, where loads count as pure: the class of worlds keeps what they read.
-/
import Derived.Test.YtgjjfjibfleonaaLex
namespace Go.Proofs.Ytgjjfjibfleonaa
set_option linter.unusedVariables false

/-- as kindOf; a load is of kind 0 -/
def kindL (o : Oper) : Nat :=
  match o.op with
  | .load .. => 0
  | _ => kindOf o
section
variable {P : Program} {ops : Array Oper} {K0 : Act → World → Prop} {S : World → Prop}
theorem valL {o : Oper} (h : kindL o = 0) (ρ : Operand → Value) : IsV P (execOp ρ o) := by
  unfold kindL at h
  split at h
  · rename_i hop
    unfold execOp
    simp only [hop]
    exact IsV.v _
  · exact val0 h ρ
theorem kindL_one {o : Oper} (h : kindL o = 1) : Qu P o := by
  unfold kindL at h
  split at h
  · cases h
  · exact qu_load h
theorem lexL_q {o : Oper} {a : Act} {w : World} {rest : List Oper} (hk : kindL o = 0) (hS : ∃ w, S w) (h : wpQuiet P ops S (fun a' => wpLex P ops S kindL K0 rest a' w) [o] a) : wpLex P ops S kindL K0 (o :: rest) a w := by
  simp only [wpQuiet] at h
  by_cases hw : Region.wanted o (yielded ops a.tmps) = true
  · simp only [hw, if_true] at h
    obtain ⟨v, hv, h⟩ := h
    refine yif_cons hk (v := v) (.inl ⟨hw, fun w' hw' => ?_⟩) h
    have := hv w' hw'
    unfold Oper.quietAt at this
    cases hr : (execOp a.eval o).run P w' with
    | halt x w1 => rw [hr] at this; exact this.elim
    | ok n w1 =>
      obtain ⟨u, rfl⟩ := valL hk a.eval w' n w1 hr
      rw [hr] at this
      obtain ⟨e1, e2⟩ := this
      rw [e1, e2]
  · simp only [hw] at h
    exact yif_cons hk (.inr ⟨by simpa using hw, rfl⟩) h
theorem lexL_q0 {o : Oper} {a : Act} {w : World} {rest : List Oper} (hk : kindOf o = 0) (h : wpQuiet P ops (fun _ => True) (fun a' => wpLex P ops S kindL K0 rest a' w) [o] a) : wpLex P ops S kindL K0 (o :: rest) a w := by
  have hk' : kindL o = 0 := by
    unfold kindL
    split
    · rfl
    · exact hk
  simp only [wpQuiet] at h
  by_cases hw : Region.wanted o (yielded ops a.tmps) = true
  · simp only [hw, if_true] at h
    obtain ⟨v, hv, h⟩ := h
    refine yif_cons hk' (v := v) (.inl ⟨hw, fun w' hw' => ?_⟩) h
    have := hv w' trivial
    unfold Oper.quietAt at this
    cases hr : (execOp a.eval o).run P w' with
    | halt x w1 => rw [hr] at this; exact this.elim
    | ok n w1 =>
      obtain ⟨u, rfl⟩ := val0 hk a.eval w' n w1 hr
      rw [hr] at this
      obtain ⟨e1, e2⟩ := this
      rw [e1, e2]
  · simp only [hw] at h
    exact yif_cons hk' (.inr ⟨by simpa using hw, rfl⟩) h
/-- a load of one cell that the class keeps -/
theorem lexL_ld {o : Oper} {a : Act} {w : World} {rest : List Oper} {t : TypeId} {x : Operand} (A : Addr) (v : Value) (ho : o.op = .load t x) (hw : Region.wanted o (yielded ops a.tmps) = true) (hx : a.eval x = .pointer (some A))
    (hv : ∀ w', S w' → (loadVar t A).run P w' = .ok v w') (h : wpLex P ops S kindL K0 rest (a.put o.dst v) w) : wpLex P ops S kindL K0 (o :: rest) a w := by
  refine yif_cons (by unfold kindL; rw [ho]) (v := v) (.inl ⟨hw, fun w' hw' => ?_⟩) h
  unfold execOp
  simp only [ho, hx, Instr.loadAt, Instr.sureAddr, Sem.run_bind, Sem.run_pure, Result.andThen_ok, hv w' hw']
theorem lexL_skip0 {o : Oper} {a : Act} {w : World} {rest : List Oper} (hk : kindL o = 0) (hw : Region.wanted o (yielded ops a.tmps) = false) (h : wpLex P ops S kindL K0 rest (a.put o.dst undef) w) : wpLex P ops S kindL K0 (o :: rest) a w :=
  yif_cons hk (.inr ⟨hw, rfl⟩) h
theorem lexL_skip {o : Oper} {a : Act} {w : World} {rest : List Oper} (hk : (kindL o == 0) = false) (hw : Region.wanted o (yielded ops a.tmps) = false) (hS : S w) (h : wpLex P ops S kindL K0 rest (a.put o.dst undef) w) : wpLex P ops S kindL K0 (o :: rest) a w := by
  rw [lexStep (by simpa using hk)]
  simp only [hw, Bool.false_eq_true, if_false]
  exact ⟨hS, h⟩
theorem lexL_e {o : Oper} {a : Act} {w : World} {rest : List Oper} (hk : (kindL o == 0) = false) (h : wpList P ops (Only (fun a' w' => S w' ∧ wpLex P ops S kindL K0 rest a' w')) [o] a w) : wpLex P ops S kindL K0 (o :: rest) a w := by
  show (if kindL o = 0 then _ else _)
  rw [if_neg (by simpa using hk)]
  exact h
theorem lexL_go {a : Act} {w : World} {rest : List Oper} (hS : S w) (h : wpLex P ops S kindL K0 rest a w) : Only (fun a' w' => S w' ∧ wpLex P ops S kindL K0 rest a' w') .normal a w := ⟨hS, h⟩
theorem lexL_nil {a : Act} {w : World} (h : K0 a w) : wpLex P ops S kindL K0 [] a w := h
/-- THE LAW -/
theorem wp_region_lexL (S : World → Prop) {id : Nat} {l : List Oper} {Q : Exit → Act → World → Prop} {a : Act} {w : World}
    (hm : P.follows .mixedOrders = true) (hB : lexB kindL l = true) (hS : S w.drew) (h : wpLex P l.toArray S kindL (Q .normal) l a w.drew) : (Code.region id l.toArray true).wp P Q a w := by
  refine Code.wp_mono Only.to (wp_region_any hm ?_)
  have := lex_main (K0 := Q .normal) kindL S (fun o => kindL_one) l hB l.length (List.range l.length) (Array.replicate l.length false) a w.drew hS (by simp) (fun j => by
    by_cases hj : j < l.length
    · simp [hj]
    · simp [hj]) List.pairwise_lt_range (by simp) (fun k o hk hL => by
    have hlt := (List.getElem?_eq_some_iff.1 hk).1
    simp [hlt] at hL) (by rw [opsOf_range]; exact h)
  simpa using this
/-- the run of a load of one cell -/
theorem run_ld1 {w : World} {t : TypeId} {A : Addr} {v : Value} (ht : (isAgg t).run P w = .ok false w) (hc : w.cell? A = some v) : (loadVar t A).run P w = .ok v w := by
  unfold loadVar
  rw [Sem.run_bind, ht]
  simp [load, Sem.run, hc]
end
end Go.Proofs.Ytgjjfjibfleonaa
