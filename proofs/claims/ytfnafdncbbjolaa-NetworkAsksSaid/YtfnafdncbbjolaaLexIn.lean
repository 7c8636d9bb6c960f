/-
  The law of XLex inside a fence: a region that draws its order, with calls of yield, is walked in the order of its text.
-/
import Derived.Test.YtfnafdncbbjolaaLex
import Derived.OrdersIn
import Derived.TacticsIn
namespace Go.Proofs.Ytfnafdncbbjolaa.LexIn
open Go.Proofs.Ytfnafdncbbjolaa
set_option linter.unusedVariables false

section
variable {d : Nat} {P : Program} {ops : Array Oper} {K0 : Act → World → Prop} {S : World → Prop} {kd : Oper → Nat}

theorem wpIn_w {o : Oper} {a : Act} {w : World} {K : Act → World → Prop} {Q : Exit → Act → World → Prop} : o.wpIn Fence.wide d P a w K Q ↔ o.uponIn Fence.wide d P a K Q ((execOp a.eval o).run P w) := by
  unfold Oper.wpIn
  rw [show Fence.wide.round = none from rfl, Oper.semAt_none]
  exact ⟨fun h => h.2, fun h => ⟨fun _ _ => trivial, h⟩⟩

theorem wpOpIn_putIf {j : Nat} {oi oj : Oper} {v : Value} {Q : Exit → Act → World → Prop} (hj : ops[j]? = some oj) (hap : oi.apart ops oj = true)
    (hsi : ∀ cs b, oi.op ≠ .select cs b) (hsj : ∀ cs b, oj.op ≠ .select cs b)
    (hQ : ∀ c a w, Q (.panic c) (a.put oi.dst v) w → Q (.panic c) a w) {K : Act → World → Prop} {a : Act} {w : World}
    (hy : YieldsIf P ops S oi v a) (h : wpOpIn Fence.wide d P ops Q j K (a.put oi.dst v) w) :
    wpOpIn Fence.wide d P ops Q j (fun a' w' => YieldsIf P ops S oi v a' ∧ K (a'.put oi.dst v) w') a w := by
  obtain ⟨h1, h2, h3⟩ := Oper.apart_spec hap
  have keep : ∀ (a : Act), YieldsIf P ops S oi v a → ∀ u, YieldsIf P ops S oi v (a.put oj.dst u) := fun a hy u =>
    hy.of_same (execOp_put oi hsi a oj.dst u h3) (wanted_put oi a oj.dst u h3)
  have keepD : ∀ d, YieldsIf P ops S oi v { a with defers := d :: a.defers } := fun d => hy.of_same rfl rfl
  unfold wpOpIn at *
  simp only [hj] at *
  rw [wanted_put oj a oi.dst v h1] at h
  split
  · rename_i hw
    simp only [hw, if_true] at h
    rw [wpIn_w] at *
    rw [execOp_put oj hsj a oi.dst v h1] at h
    generalize (execOp a.eval oj).run P w = r at *
    cases r with
    | ok n w' =>
      cases n <;> simp only [Oper.uponIn] at h ⊢
      case value u => exact ⟨keep a hy u, by rw [← Act.put_comm a v u h2]; exact h⟩
      case skip => exact ⟨keep a hy _, by rw [← Act.put_comm a v undef h2]; exact h⟩
      case defer d =>
        refine ⟨keep _ (keepD d) _, ?_⟩
        rw [← Act.put_comm _ v undef h2, ← Act.put_defers]
        exact h
      case enter f args =>
        refine ⟨h.1, CallsIn.mono h.2 fun e w'' he => ?_⟩
        cases e with
        | returned u => exact ⟨keep a hy u, by rw [← Act.put_comm a v u h2]; exact he⟩
        | panicked c => exact hQ _ _ _ he
        | outgrown => exact he
      case round l f tmps assign body =>
        refine ⟨h.1, RoundIn.mono h.2 fun e w'' he => ?_⟩
        cases e with
        | returned u => exact ⟨keep a hy u, by rw [← Act.put_comm a v u h2]; exact he⟩
        | panicked c => exact hQ _ _ _ he
        | outgrown => exact he
      case row row args => exact ⟨h.1, RowsIn.mono h.2 fun u w'' he => ⟨keep a hy u, by rw [← Act.put_comm a v u h2]; exact he⟩⟩
    | halt x w' =>
      cases x <;> simp only [Oper.uponIn] at h ⊢
      case panic u => exact hQ _ _ _ h
  · rename_i hw
    simp only [hw] at h
    exact ⟨fun _ _ => trivial, keep a hy _, by rw [← Act.put_comm a v undef h2]; exact h.2⟩

theorem upon_halt {o : Oper} {a : Act} {K : Act → World → Prop} {h : Halt} {w : World} : ¬ o.uponIn Fence.wide d P a K (Only K0) (.halt h w) := by
  cases h <;> simp [Oper.uponIn, Only]

/-- THE WALK IN THE ORDER OF THE TEXT. Kind 0: one value in every world of the class S. Kind 1: the world is left alone. Kind 2: whatever leaves a world of the class. -/
def wpLex (d : Nat) (P : Program) (ops : Array Oper) (S : World → Prop) (kd : Oper → Nat) (K0 : Act → World → Prop) : List Oper → Act → World → Prop
  | [], a, w => K0 a w
  | o :: rest, a, w =>
    if kd o = 0 then ∃ v, YieldsIf P ops S o v a ∧ wpLex d P ops S kd K0 rest (a.put o.dst v) w
    else wpListIn Fence.wide d P ops (Only (fun a' w' => S w' ∧ wpLex d P ops S kd K0 rest a' w')) [o] a w

theorem wpList_one {o : Oper} {a : Act} {w : World} {K : Act → World → Prop} :
    wpListIn Fence.wide d P ops (Only K) [o] a w ↔ (if Region.wanted o (yielded ops a.tmps) = true then o.wpIn Fence.wide d P a w K (Only K) else K (a.put o.dst undef) w) := by
  simp only [wpListIn]
  split
  · exact ⟨fun h => Oper.wpIn_mono (fun _ _ h => h) h, fun h => Oper.wpIn_mono (fun _ _ h => h) h⟩
  · exact ⟨fun h => h.2, fun h => ⟨fun _ _ => trivial, h⟩⟩
/-- the post of a panic is False, whatever is asked of the normal end -/
theorem wp_only {o : Oper} {a : Act} {w : World} {K K1 K2 : Act → World → Prop} (h : o.wpIn Fence.wide d P a w K (Only K1)) : o.wpIn Fence.wide d P a w K (Only K2) := by
  rw [wpIn_w] at *
  generalize (execOp a.eval o).run P w = r at *
  cases r with
  | ok n w' =>
    cases n <;> simp only [Oper.uponIn] at h ⊢
    case value u => exact h
    case skip => exact h
    case defer d => exact h
    case enter f args =>
      refine ⟨h.1, CallsIn.mono h.2 fun e w'' he => ?_⟩
      cases e with
      | returned u => exact he
      | panicked c => exact he
      | outgrown => exact (Only_out he).elim
    case round l f tmps assign body =>
      refine ⟨h.1, RoundIn.mono h.2 fun e w'' he => ?_⟩
      cases e with
      | returned u => exact he
      | panicked c => exact he
      | outgrown => exact (Only_out he).elim
    case row row args => exact h
  | halt x w' => exact (upon_halt h).elim
theorem lexStep {o : Oper} {a : Act} {w : World} {rest : List Oper} (hk : kd o ≠ 0) :
    wpLex d P ops S kd K0 (o :: rest) a w ↔ (if Region.wanted o (yielded ops a.tmps) = true then o.wpIn Fence.wide d P a w (fun a' w' => S w' ∧ wpLex d P ops S kd K0 rest a' w') (Only K0) else (S w ∧ wpLex d P ops S kd K0 rest (a.put o.dst undef) w)) := by
  show (if kd o = 0 then _ else _) ↔ _
  rw [if_neg hk, wpList_one]
  split
  · exact ⟨wp_only, wp_only⟩
  · exact Iff.rfl

/-- what it leaves, in this world -/
def YW (P : Program) (ops : Array Oper) (w : World) (o : Oper) (v : Value) (a : Act) : Prop :=
  (Region.wanted o (yielded ops a.tmps) = true ∧ (execOp a.eval o).run P w = .ok (.value v) w) ∨ (Region.wanted o (yielded ops a.tmps) = false ∧ v = undef)
theorem YW.wpOp {i : Nat} {o : Oper} {v : Value} {a : Act} {w : World} {Q : Exit → Act → World → Prop} (hi : ops[i]? = some o) (hy : YW P ops w o v a) {K : Act → World → Prop} (h : K (a.put o.dst v) w) : wpOpIn Fence.wide d P ops Q i K a w := by
  unfold Go.wpOpIn
  simp only [hi]
  rcases hy with ⟨hw, hv⟩ | ⟨hw, rfl⟩
  · simp only [hw, if_true, wpIn_w, hv, Oper.uponIn]; exact h
  · simp only [hw, Bool.false_eq_true, if_false]; exact ⟨fun _ _ => trivial, h⟩
theorem yif_yw {o : Oper} {v : Value} {a : Act} {w : World} (hy : YieldsIf P ops S o v a) (hS : S w) : YW P ops w o v a := by
  rcases hy with ⟨x, y⟩ | z
  · exact .inl ⟨x, y w hS⟩
  · exact .inr z
theorem YW.cons {o : Oper} {v : Value} {a : Act} {w : World} {rest : List Oper} (hk : kd o ≠ 0) (hS : S w) (hy : YW P ops w o v a) (h : wpLex d P ops S kd K0 rest (a.put o.dst v) w) : wpLex d P ops S kd K0 (o :: rest) a w := by
  rw [lexStep hk]
  rcases hy with ⟨hw, hv⟩ | ⟨hw, rfl⟩
  · simp only [hw, if_true, wpIn_w, hv, Oper.uponIn]; exact ⟨hS, h⟩
  · simp only [hw, Bool.false_eq_true, if_false]; exact ⟨hS, h⟩
theorem YW.same {o : Oper} {v : Value} {a a' : Act} {w : World} (hy : YW P ops w o v a) (he : execOp a'.eval o = execOp a.eval o)
    (hw : Region.wanted o (yielded ops a'.tmps) = Region.wanted o (yielded ops a.tmps)) : YW P ops w o v a' := by
  unfold YW at *
  rw [he, hw]
  exact hy
theorem yif_cons {o : Oper} {v : Value} {a : Act} {w : World} {rest : List Oper} (hk : kd o = 0) (hy : YieldsIf P ops S o v a) (h : wpLex d P ops S kd K0 rest (a.put o.dst v) w) : wpLex d P ops S kd K0 (o :: rest) a w := by
  show (if kd o = 0 then _ else _)
  rw [if_pos hk]
  exact ⟨v, hy, h⟩
/-- an operation of kind 0 or 1 at the head of a walk -/
theorem head_qu {o : Oper} {a : Act} {w : World} {rest : List Oper} (hS : S w) (hq : kd o = 0 ∨ (kd o = 1 ∧ Qu P o)) (h : wpLex d P ops S kd K0 (o :: rest) a w) :
    ∃ v, YW P ops w o v a ∧ (kd o = 0 → YieldsIf P ops S o v a) ∧ wpLex d P ops S kd K0 rest (a.put o.dst v) w := by
  rcases hq with h0 | ⟨h1, hq⟩
  · replace h : (if kd o = 0 then _ else _) := h
    rw [if_pos h0] at h
    obtain ⟨v, hv, h⟩ := h
    exact ⟨v, yif_yw hv hS, fun _ => hv, h⟩
  · rw [lexStep (by omega)] at h
    by_cases hw : Region.wanted o (yielded ops a.tmps) = true
    · simp only [hw, if_true] at h
      rw [wpIn_w] at h
      rcases hq a.eval w with ⟨v, hv⟩ | ⟨x, w', hx⟩
      · rw [hv] at h
        exact ⟨v, .inl ⟨hw, hv⟩, fun h0 => by omega, h.2⟩
      · rw [hx] at h
        exact (upon_halt h).elim
    · simp only [hw] at h
      exact ⟨undef, .inr ⟨by simpa using hw, rfl⟩, fun h0 => by omega, h.2⟩
theorem cons_qu {o : Oper} {v : Value} {a : Act} {w : World} {rest : List Oper} (hS : S w) (hy : YW P ops w o v a) (h0 : kd o = 0 → YieldsIf P ops S o v a) (h : wpLex d P ops S kd K0 rest (a.put o.dst v) w) : wpLex d P ops S kd K0 (o :: rest) a w := by
  by_cases hk : kd o = 0
  · exact yif_cons hk (h0 hk) h
  · exact hy.cons hk hS h

theorem same_of_apart {x y : Oper} (hs : ∀ cs b, y.op ≠ .select cs b) (hap : x.apart ops y = true) (a : Act) (v : Value) :
    execOp (a.put x.dst v).eval y = execOp a.eval y ∧ Region.wanted y (yielded ops (a.put x.dst v).tmps) = Region.wanted y (yielded ops a.tmps) :=
  ⟨execOp_put y hs a x.dst v (Oper.apart_spec hap).1, wanted_put y a x.dst v (Oper.apart_spec hap).1⟩
theorem same_of_apart' {x y : Oper} (hs : ∀ cs b, x.op ≠ .select cs b) (hap : x.apart ops y = true) (a : Act) (v : Value) :
    execOp (a.put y.dst v).eval x = execOp a.eval x ∧ Region.wanted x (yielded ops (a.put y.dst v).tmps) = Region.wanted x (yielded ops a.tmps) :=
  ⟨execOp_put x hs a y.dst v (Oper.apart_spec hap).2.2, wanted_put x a y.dst v (Oper.apart_spec hap).2.2⟩

/-- an operation of kind 1 comes to the front of those of kind 0 and 1 -/
theorem front_qu {oj : Oper} (hj : kd oj = 1 ∧ Qu P oj) (hsj : ∀ cs b, oj.op ≠ .select cs b) {post : List Oper} :
    ∀ (pre : List Oper) (a : Act) (w : World), S w → (∀ k ∈ pre, (kd k = 0 ∨ (kd k = 1 ∧ Qu P k)) ∧ oj.apart ops k = true ∧ ∀ cs b, k.op ≠ .select cs b) → wpLex d P ops S kd K0 (pre ++ oj :: post) a w →
      ∃ v, YW P ops w oj v a ∧ wpLex d P ops S kd K0 (pre ++ post) (a.put oj.dst v) w
  | [], a, w, hS, _, h => by
    obtain ⟨v, h1, _, h2⟩ := head_qu hS (.inr hj) h
    exact ⟨v, h1, h2⟩
  | k :: pre, a, w, hS, hp, h => by
    obtain ⟨hk, hap, hsk⟩ := hp k (by simp)
    obtain ⟨u, hu, hu0, h1⟩ := head_qu hS hk h
    obtain ⟨v, hv, h2⟩ := front_qu hj hsj pre _ w hS (fun x hx => hp x (by simp [hx])) h1
    obtain ⟨e1, e2⟩ := same_of_apart' hsj hap a u
    obtain ⟨e3, e4⟩ := same_of_apart hsk hap a v
    refine ⟨v, hv.same e1.symm e2.symm, cons_qu hS (hu.same e3 e4) (fun h0 => (hu0 h0).of_same e3 e4) ?_⟩
    rw [Act.put_comm a v u (Oper.apart_spec hap).2.1]
    exact h2

/-- of an operation that is carried out there is an outcome -/
theorem outcome {o : Oper} {a : Act} {w : World} {K : Act → World → Prop} (h : o.wpIn Fence.wide d P a w K (Only K0)) :
    ∃ u w', (K (a.put o.dst u) w' ∨ ∃ d, K ({ a with defers := d :: a.defers }.put o.dst u) w') := by
  rw [wpIn_w] at h
  generalize (execOp a.eval o).run P w = r at *
  cases r with
  | ok n w' =>
    cases n <;> simp only [Oper.uponIn] at h
    case value u => exact ⟨u, w', .inl h⟩
    case skip => exact ⟨undef, w', .inl h⟩
    case defer d => exact ⟨undef, w', .inr ⟨d, h⟩⟩
    case enter f args =>
      obtain ⟨e, w2, fr, hR, _⟩ := h.2.2 [] (room_wide _)
      cases e with
      | returned u => exact ⟨u, w2, .inl hR⟩
      | panicked c => exact hR.elim
      | outgrown => exact (Only_out hR).elim
    case round l f tmps assign body =>
      obtain ⟨e, w2, hR, _⟩ := h.2.2 default [] (room_wide _)
      cases e with
      | returned u => exact ⟨u, w2, .inl hR⟩
      | panicked c => exact hR.elim
      | outgrown => exact (Only_out hR).elim
    case row row args =>
      obtain ⟨u, w2, hR, _⟩ := h.2 default [] (room_wide _)
      exact ⟨u, w2, .inl hR⟩
  | halt x w' => exact (upon_halt h).elim

/-- a change of a temporary that an operation does not look at -/
theorem wp_put_rev {oj k : Oper} {v : Value} (hap : oj.apart ops k = true) (hsk : ∀ cs b, k.op ≠ .select cs b) {K : Act → World → Prop} {a : Act} {w : World}
    (h : k.wpIn Fence.wide d P a w (fun a' w' => K (a'.put oj.dst v) w') (Only K0)) : k.wpIn Fence.wide d P (a.put oj.dst v) w K (Only K0) := by
  have h2 := (Oper.apart_spec hap).2.1
  rw [wpIn_w] at *
  rw [(same_of_apart hsk hap a v).1]
  generalize (execOp a.eval k).run P w = r at *
  cases r with
  | ok n w' =>
    cases n <;> simp only [Oper.uponIn] at h ⊢
    case value u => rw [Act.put_comm a v u h2]; exact h
    case skip => rw [Act.put_comm a v undef h2]; exact h
    case defer d => rw [Act.put_defers, Act.put_comm _ v undef h2]; exact h
    case enter f args =>
      refine ⟨h.1, CallsIn.mono h.2 fun e w'' he => ?_⟩
      cases e with
      | returned u =>
        show K ((a.put oj.dst v).put k.dst u) w''
        rw [Act.put_comm a v u h2]; exact he
      | panicked c => exact he
      | outgrown => exact he
    case round l f tmps assign body =>
      refine ⟨h.1, RoundIn.mono h.2 fun e w'' he => ?_⟩
      cases e with
      | returned u =>
        show K ((a.put oj.dst v).put k.dst u) w''
        rw [Act.put_comm a v u h2]; exact he
      | panicked c => exact he
      | outgrown => exact he
    case row row args => exact ⟨h.1, RowsIn.mono h.2 fun u w'' he => by rw [Act.put_comm a v u h2]; exact he⟩
  | halt x w' => exact (upon_halt h).elim
/-- the frames of the outcomes -/
theorem wp_frames {k : Oper} {K : Act → World → Prop} {a : Act} {w : World} (h : k.wpIn Fence.wide d P a w K (Only K0)) :
    k.wpIn Fence.wide d P a w (fun a' w' => K a' w' ∧ ((∃ u, a' = a.put k.dst u) ∨ ∃ d u, a' = { a with defers := d :: a.defers }.put k.dst u)) (Only K0) := by
  rw [wpIn_w] at *
  generalize (execOp a.eval k).run P w = r at *
  cases r with
  | ok n w' =>
    cases n <;> simp only [Oper.uponIn] at h ⊢
    case value u => exact ⟨h, .inl ⟨u, rfl⟩⟩
    case skip => exact ⟨h, .inl ⟨undef, rfl⟩⟩
    case defer d => exact ⟨h, .inr ⟨d, undef, rfl⟩⟩
    case enter f args =>
      refine ⟨h.1, CallsIn.mono h.2 fun e w'' he => ?_⟩
      cases e with
      | returned u => exact ⟨he, .inl ⟨u, rfl⟩⟩
      | panicked c => exact he
      | outgrown => exact he
    case round l f tmps assign body =>
      refine ⟨h.1, RoundIn.mono h.2 fun e w'' he => ?_⟩
      cases e with
      | returned u => exact ⟨he, .inl ⟨u, rfl⟩⟩
      | panicked c => exact he
      | outgrown => exact he
    case row row args => exact ⟨h.1, RowsIn.mono h.2 fun u w'' he => ⟨he, .inl ⟨u, rfl⟩⟩⟩
  | halt x w' => exact (upon_halt h).elim

theorem yields_one {oj : Oper} {a : Act} {w : World} (hS : S w) {v v' : Value} (hy : YieldsIf P ops S oj v a) (hy' : YieldsIf P ops S oj v' a) : v = v' := by
  rcases hy with ⟨hw, hr⟩ | ⟨hw, rfl⟩ <;> rcases hy' with ⟨hw', hr'⟩ | ⟨hw', rfl⟩
  · have := (hr w hS).symm.trans (hr' w hS); simpa using this
  · rw [hw] at hw'; cases hw'
  · rw [hw] at hw'; cases hw'
  · rfl

/-- an operation of kind 0 comes to the front of whatever stands before it -/
theorem front_pu {oj : Oper} (hj : kd oj = 0) (hsj : ∀ cs b, oj.op ≠ .select cs b) {post : List Oper} :
    ∀ (pre : List Oper) (a : Act) (w : World), S w → (∀ k ∈ pre, oj.apart ops k = true ∧ ∀ cs b, k.op ≠ .select cs b) → wpLex d P ops S kd K0 (pre ++ oj :: post) a w →
      ∃ v, YieldsIf P ops S oj v a ∧ wpLex d P ops S kd K0 (pre ++ post) (a.put oj.dst v) w
  | [], a, w, hS, _, h => by
    obtain ⟨v, hv, h0, h1⟩ := head_qu hS (.inl hj) h
    exact ⟨v, h0 hj, h1⟩
  | k :: pre, a, w, hS, hp, h => by
    obtain ⟨hap, hsk⟩ := hp k (by simp)
    have ih := fun a w hS => front_pu hj hsj (post := post) pre a w hS (fun x hx => hp x (by simp [hx]))
    have back : ∀ u v, YieldsIf P ops S oj v (a.put k.dst u) → YieldsIf P ops S oj v a := fun u v hy =>
      hy.of_same (same_of_apart' hsj hap a u).1.symm (same_of_apart' hsj hap a u).2.symm
    have backD : ∀ d u v, YieldsIf P ops S oj v ({ a with defers := d :: a.defers }.put k.dst u) → YieldsIf P ops S oj v a := fun d u v hy => by
      have := hy.of_same (same_of_apart' hsj hap { a with defers := d :: a.defers } u).1.symm (same_of_apart' hsj hap { a with defers := d :: a.defers } u).2.symm
      exact this
    replace h : wpLex d P ops S kd K0 (k :: (pre ++ oj :: post)) a w := h
    by_cases hk : kd k = 0
    · obtain ⟨u, hu, hu0, h1⟩ := head_qu hS (.inl hk) h
      obtain ⟨v, hv, h2⟩ := ih _ w hS h1
      obtain ⟨e3, e4⟩ := same_of_apart hsk hap a v
      refine ⟨v, back u v hv, yif_cons hk ((hu0 hk).of_same e3 e4) ?_⟩
      rw [Act.put_comm a v u (Oper.apart_spec hap).2.1]
      exact h2
    · rw [lexStep hk] at h
      by_cases hw : Region.wanted k (yielded ops a.tmps) = true
      · simp only [hw, if_true] at h
        obtain ⟨v, hv⟩ : ∃ v, YieldsIf P ops S oj v a := by
          obtain ⟨u, w', h1 | ⟨d, h1⟩⟩ := outcome h
          · obtain ⟨v, hv, _⟩ := ih _ _ h1.1 h1.2
            exact ⟨v, back u v hv⟩
          · obtain ⟨v, hv, _⟩ := ih _ _ h1.1 h1.2
            exact ⟨v, backD d u v hv⟩
        refine ⟨v, hv, ?_⟩
        show wpLex d P ops S kd K0 (k :: (pre ++ post)) (a.put oj.dst v) w
        rw [lexStep hk, (same_of_apart hsk hap a v).2]
        simp only [hw, if_true]
        refine wp_put_rev hap hsk ?_
        refine Oper.wpIn_mono (fun a' w' h1 => ?_) (wp_frames h)
        obtain ⟨⟨hS', h1⟩, hsh⟩ := h1
        obtain ⟨v', hv', h2⟩ := ih _ _ hS' h1
        have : v = v' := by
          rcases hsh with ⟨u, rfl⟩ | ⟨d, u, rfl⟩
          · exact yields_one hS hv (back u v' hv')
          · exact yields_one hS hv (backD d u v' hv')
        subst this
        exact ⟨hS', h2⟩
      · simp only [hw] at h
        obtain ⟨v, hv, h2⟩ := ih _ _ h.1 h.2
        refine ⟨v, back _ v hv, ?_⟩
        show wpLex d P ops S kd K0 (k :: (pre ++ post)) (a.put oj.dst v) w
        rw [lexStep hk, (same_of_apart hsk hap a v).2]
        simp only [hw]
        rw [Act.put_comm a v undef (Oper.apart_spec hap).2.1]
        exact ⟨h.1, h2⟩

/-- whatever operation comes to the front of those of kind 0 -/
theorem front_any {j : Nat} {oj : Oper} (hj : ops[j]? = some oj) (hkj : kd oj ≠ 0) (hsj : ∀ cs b, oj.op ≠ .select cs b) {post : List Oper} :
    ∀ (pre : List Oper) (a : Act) (w : World), S w → (∀ k ∈ pre, kd k = 0 ∧ k.apart ops oj = true ∧ ∀ cs b, k.op ≠ .select cs b) → wpLex d P ops S kd K0 (pre ++ oj :: post) a w →
      wpOpIn Fence.wide d P ops (Only K0) j (fun a' w' => S w' ∧ wpLex d P ops S kd K0 (pre ++ post) a' w') a w
  | [], a, w, hS, _, h => by
    replace h : wpLex d P ops S kd K0 (oj :: post) a w := h
    rw [lexStep hkj] at h
    unfold wpOpIn
    simp only [hj]
    split
    · rename_i hw
      simp only [hw, if_true] at h
      exact h
    · rename_i hw
      simp only [hw] at h
      exact ⟨fun _ _ => trivial, h⟩
  | k :: pre, a, w, hS, hp, h => by
    obtain ⟨hk, hap, hsk⟩ := hp k (by simp)
    obtain ⟨u, _, hu, h1⟩ := head_qu hS (.inl hk) h
    have h2 := front_any hj hkj hsj (post := post) pre (a.put k.dst u) w hS (fun x hx => hp x (by simp [hx])) h1
    have h3 := wpOpIn_putIf hj hap hsk hsj (fun c a w h => h) (hu hk) h2
    refine wpOpIn_mono (fun a' w' h4 => ?_) h3
    obtain ⟨hy, hS', h5⟩ := h4
    exact ⟨hS', yif_cons hk hy h5⟩

theorem lex_main (kd : Oper → Nat) (S : World → Prop) (hk1 : ∀ o, kd o = 1 → Qu P o) (l : List Oper) (hB : lexB kd l = true) :
    ∀ (n : Nat) (rem : List Nat) (listed : Array Bool) (a : Act) (w : World), S w → rem.length = n → (∀ j, j ∈ rem ↔ listed.getD j true = false) → rem.Pairwise (· < ·) → listed.size = l.length →
      (∀ k o, l[k]? = some o → listed.getD k false = true → ∀ e ∈ o.after, Region.binds .any e = true → listed.getD e.on false = true) →
      wpLex d P l.toArray S kd K0 (opsOf l rem) a w → wpAnyIn Fence.wide d P .any l.toArray (Only K0) n listed a w := by
  have hns : Region.noSelect l.toArray = true := by simp [lexB] at hB; exact hB.1
  have hsel : ∀ (j : Nat) (o : Oper), l[j]? = some o → ∀ cs b, o.op ≠ .select cs b := fun j o ho cs b => Region.noSelect_spec hns j o cs b (by simpa using ho)
  have hat : ∀ j o, l[j]? = some o → (∀ e ∈ o.after, Region.binds .any e = true → e.on < j) ∧ ∀ i x, i < j → l[i]? = some x → ((bef l).getD j 0).testBit i = true ∨ pairB kd l.toArray x o = true := by
    intro j o ho
    have hlt := (List.getElem?_eq_some_iff.1 ho).1
    have h : lexAt kd l.toArray l (bef l) j = true := by
      simp only [lexB, Bool.and_eq_true, List.all_eq_true, List.mem_range] at hB
      exact hB.2 j hlt
    simp only [lexAt, ho, Bool.and_eq_true, Array.all_eq_true_iff_forall_mem, List.all_eq_true, List.mem_range] at h
    refine ⟨fun e he hb => ?_, fun i x hi hx => ?_⟩
    · have := h.1 e he
      simpa [hb] using this
    · have := h.2 i hi
      simpa [hx] using this
  intro n
  induction n with
  | zero =>
    intro rem listed a w _ hn hmem _ _ _ h
    have : rem = [] := List.eq_nil_of_length_eq_zero hn
    subst this
    refine ⟨?_, h⟩
    rw [List.eq_nil_iff_forall_not_mem]
    intro j hj
    have := (hmem j).2 (mem_ready.1 hj).1
    simp at this
  | succ n ih =>
    intro rem listed a w hS hn hmem hpw hsz hcl h
    have inr : ∀ j, j ∈ rem → j < l.length := fun j hj => by
      have := (hmem j).1 hj
      rcases Nat.lt_or_ge j listed.size with h' | h'
      · omega
      · simp [Array.getElem?_eq_none h'] at this
    have unl : ∀ j, j < l.length → j ∉ rem → listed.getD j false = true := fun j hj hm => by
      have : ¬ listed.getD j true = false := fun e => hm ((hmem j).2 e)
      have hlt : j < listed.size := by omega
      simp [hlt] at this ⊢
      exact this
    refine ⟨fun h0 => ?_, fun j hj => ?_⟩
    · exfalso
      match rem, hn with
      | m :: rem', _ =>
        have hm : m ∈ m :: rem' := by simp
        have hml := inr m hm
        have ho : l[m]? = some l[m] := List.getElem?_eq_getElem hml
        have : m ∈ Region.ready .any l.toArray listed := mem_ready.2 ⟨(hmem m).1 hm, l[m], by simp, fun e he hb => by
          have hlt := (hat m _ ho).1 e he hb
          refine unl e.on (by omega) (fun hin => ?_)
          rcases List.mem_cons.1 hin with rfl | hin
          · omega
          · have := (List.pairwise_cons.1 hpw).1 _ hin
            omega⟩
        rw [h0] at this
        cases this
    · obtain ⟨hun, o, ho, hpre⟩ := mem_ready.1 hj
      have ho' : l[j]? = some o := by simpa using ho
      have hin : j ∈ rem := (hmem j).2 hun
      obtain ⟨pre, post, rfl⟩ := List.append_of_mem hin
      rw [List.pairwise_append] at hpw
      obtain ⟨hp1, hp2, hp3⟩ := hpw
      have hjl := inr j hin
      -- none of those before it is waited for
      have hpair : ∀ i x, i ∈ pre → l[i]? = some x → pairB kd l.toArray x o = true := fun i x hi hx => by
        have hij : i < j := hp3 i hi j (by simp)
        rcases (hat j o ho').2 i x hij hx with hb | hb
        · exfalso
          have := bef_spec (fun k => listed.getD k false = true) l (fun k o hk hL => hcl k o hk hL) j o ho' (fun e he hb => hpre e he hb) i hb
          have h2 := (hmem i).1 (by simp [hi])
          have hlt : i < listed.size := by omega
          simp [hlt] at this h2
          rw [this] at h2
          cases h2
        · exact hb
      have hnj : j ∉ pre ++ post := by
        intro hm
        rcases List.mem_append.1 hm with hm | hm
        · have := hp3 j hm j (by simp); omega
        · have := (List.pairwise_cons.1 hp2).1 j hm; omega
      have hK : ∀ a' w', S w' → wpLex d P l.toArray S kd K0 (opsOf l (pre ++ post)) a' w' → wpAnyIn Fence.wide d P .any l.toArray (Only K0) n (listed.setIfInBounds j true) a' w' := by
        intro a' w' hS' h'
        refine ih (pre ++ post) _ a' w' hS' (by simp at hn ⊢; omega) (fun i => ?_) ?_ (by simpa using hsz) ?_ h'
        · by_cases hij : j = i
          · subst hij
            have hlt : j < listed.size := by omega
            constructor
            · intro hm; exact absurd hm hnj
            · intro hm; simp [hlt] at hm
          · rw [getD_set_ne true hij, ← hmem i]
            simp [Ne.symm hij]
        · rw [List.pairwise_append]
          exact ⟨hp1, (List.pairwise_cons.1 hp2).2, fun x hx y hy => hp3 x hx y (by simp [hy])⟩
        · intro k o' hk hL e he hb
          refine getD_set_true ?_
          by_cases hjk : j = k
          · subst hjk
            rw [ho'] at hk
            cases hk
            exact hpre e he hb
          · rw [getD_set_ne false hjk] at hL
            exact hcl k o' hk hL e he hb
      rw [opsOf_append, opsOf_cons ho'] at h
      have hpx : ∀ x ∈ opsOf l pre, pairB kd l.toArray x o = true ∧ ∀ cs b, x.op ≠ .select cs b := fun x hx => by
        obtain ⟨i, hi, hx'⟩ := mem_opsOf hx
        exact ⟨hpair i x hi hx', hsel i x hx'⟩
      rw [opsOf_append] at hK
      by_cases k0 : kd o = 0
      · obtain ⟨v, hv, h1⟩ := front_pu k0 (hsel j o ho') (opsOf l pre) a w hS (fun x hx => by
          obtain ⟨hb, hs⟩ := hpx x hx
          simp only [pairB, Bool.and_eq_true] at hb
          exact ⟨hb.1.2, hs⟩) h
        exact (yif_yw hv hS).wpOp ho (hK _ _ hS h1)
      · by_cases k1 : kd o = 1
        · obtain ⟨v, hv, h1⟩ := front_qu ⟨k1, hk1 o k1⟩ (hsel j o ho') (opsOf l pre) a w hS (fun x hx => by
            obtain ⟨hb, hs⟩ := hpx x hx
            simp only [pairB, Bool.and_eq_true, Bool.or_eq_true, beq_iff_eq] at hb
            refine ⟨?_, hb.1.2, hs⟩
            rcases hb.2 with (hx0 | hx0) | hx0
            · exact .inl hx0
            · exact absurd hx0 k0
            · exact .inr ⟨hx0.1, hk1 x hx0.1⟩) h
          exact hv.wpOp ho (hK _ _ hS h1)
        · have h1 := front_any ho k0 (hsel j o ho') (opsOf l pre) a w hS (fun x hx => by
            obtain ⟨hb, hs⟩ := hpx x hx
            simp only [pairB, Bool.and_eq_true, Bool.or_eq_true, beq_iff_eq] at hb
            refine ⟨?_, hb.1.1, hs⟩
            rcases hb.2 with (hx0 | hx0) | hx0
            · exact hx0
            · exact absurd hx0 k0
            · exact absurd hx0.2 k1) h
          exact wpOpIn_mono (fun a' w' h2 => hK a' w' h2.1 h2.2) h1

/-- a step of kind 0, by the kit's quiet walk -/
theorem lex_q {o : Oper} {a : Act} {w : World} {rest : List Oper} (hk : kindOf o = 0) (hS : ∃ w, S w) (h : wpQuiet P ops S (fun a' => wpLex d P ops S kindOf K0 rest a' w) [o] a) : wpLex d P ops S kindOf K0 (o :: rest) a w := by
  simp only [wpQuiet] at h
  by_cases hw : Region.wanted o (yielded ops a.tmps) = true
  · simp only [hw, if_true] at h
    obtain ⟨v, hv, h⟩ := h
    refine yif_cons hk (v := v) (.inl ⟨hw, fun w' hw' => ?_⟩) h
    have := hv w' hw'
    unfold Oper.quietAt at this
    cases hr : (execOp a.eval o).run P w' with
    | halt x w1 => rw [hr] at this; exact this.elim
    | ok n w1 =>
      obtain ⟨u, rfl⟩ := val0 hk a.eval w' n w1 hr
      rw [hr] at this
      obtain ⟨e1, e2⟩ := this
      rw [e1, e2]
  · simp only [hw] at h
    exact yif_cons hk (.inr ⟨by simpa using hw, rfl⟩) h
/-- a step that is not wanted -/
theorem lex_skip {o : Oper} {a : Act} {w : World} {rest : List Oper} (hk : (kindOf o == 0) = false) (hw : Region.wanted o (yielded ops a.tmps) = false) (hS : S w) (h : wpLex d P ops S kindOf K0 rest (a.put o.dst undef) w) : wpLex d P ops S kindOf K0 (o :: rest) a w := by
  rw [lexStep (by simpa using hk)]
  simp only [hw, Bool.false_eq_true, if_false]
  exact ⟨hS, h⟩
/-- a step of another kind -/
theorem lex_e {o : Oper} {a : Act} {w : World} {rest : List Oper} (hk : (kindOf o == 0) = false) (h : wpListIn Fence.wide d P ops (Only (fun a' w' => S w' ∧ wpLex d P ops S kindOf K0 rest a' w')) [o] a w) : wpLex d P ops S kindOf K0 (o :: rest) a w := by
  show (if kindOf o = 0 then _ else _)
  rw [if_neg (by simpa using hk)]
  exact h
theorem lex_go {a : Act} {w : World} {rest : List Oper} (hS : S w) (h : wpLex d P ops S kindOf K0 rest a w) : Only (fun a' w' => S w' ∧ wpLex d P ops S kindOf K0 rest a' w') .normal a w := ⟨hS, h⟩
theorem lex_nil {a : Act} {w : World} (h : K0 a w) : wpLex d P ops S kindOf K0 [] a w := h
/-- THE LAW -/
theorem wpIn_region_lex (S : World → Prop) {id : Nat} {l : List Oper} {Q : Exit → Act → World → Prop} {a : Act} {w : World}
    (hm : P.follows .mixedOrders = true) (hB : lexB kindOf l = true) (hS : S w.drew) (h : wpLex d P l.toArray S kindOf (Q .normal) l a w.drew) : (Code.region id l.toArray true).wpIn Fence.wide d P Q a w := by
  refine Code.wpIn_mono Only.to (wpIn_region_any hm ?_)
  have := lex_main (K0 := Q .normal) kindOf S (fun o => qu_load) l hB l.length (List.range l.length) (Array.replicate l.length false) a w.drew hS (by simp) (fun j => by
    by_cases hj : j < l.length
    · simp [hj]
    · simp [hj]) List.pairwise_lt_range (by simp) (fun k o hk hL => by
    have hlt := (List.getElem?_eq_some_iff.1 hk).1
    simp [hlt] at hL) (by rw [opsOf_range]; exact h)
  simpa using this
end
end Go.Proofs.Ytfnafdncbbjolaa.LexIn
