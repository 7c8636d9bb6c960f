/-
  A region that draws its order may be walked in the order of its text, where of every two operations that Go leaves unordered one is pure (it looks at no memory), or both leave memory alone. The condition is one Bool that the kernel computes.
-/
import Derived.Test.YtgjjfjibfleonaaBase
import Derived.OrdersHeld
import Derived.Deep.QuietTactic
import Derived.BigQuiet
namespace Go.Proofs.Ytgjjfjibfleonaa
set_option linter.unusedVariables false

/-- the region must end normally -/
def Only (K : Act → World → Prop) : Exit → Act → World → Prop
  | .normal, a, w => K a w
  | _, _, _ => False
theorem Only_normal (K : Act → World → Prop) (a : Act) (w : World) : Only K .normal a w = K a w := rfl
theorem Only_out {K : Act → World → Prop} : ¬ LetsOut (Only K) := fun ⟨_, _, h⟩ => h
theorem Only.to {Q : Exit → Act → World → Prop} : ∀ (e : Exit) (a : Act) (w : World), Only (Q .normal) e a w → Q e a w := fun e a w h => by
  cases e <;> first | exact h | exact (h : False).elim

section
variable {P : Program} {ops : Array Oper} {K0 : Act → World → Prop} {S : World → Prop} {kd : Oper → Nat}

/-- a value, the world left alone; or a halt -/
def Qu (P : Program) (o : Oper) : Prop := ∀ ρ w, (∃ v, (execOp ρ o).run P w = .ok (.value v) w) ∨ (∃ h w', (execOp ρ o).run P w = .halt h w')
theorem upon_halt {o : Oper} {a : Act} {K : Act → World → Prop} {h : Halt} {w : World} : ¬ o.upon P a K (Only K0) (.halt h w) := by
  cases h <;> simp [Oper.upon, Only]

/-- THE WALK IN THE ORDER OF THE TEXT. Kind 0: one value in every world of the class S. Kind 1: the world is left alone. Kind 2: whatever leaves a world of the class. -/
def wpLex (P : Program) (ops : Array Oper) (S : World → Prop) (kd : Oper → Nat) (K0 : Act → World → Prop) : List Oper → Act → World → Prop
  | [], a, w => K0 a w
  | o :: rest, a, w =>
    if kd o = 0 then ∃ v, YieldsIf P ops S o v a ∧ wpLex P ops S kd K0 rest (a.put o.dst v) w
    else wpList P ops (Only (fun a' w' => S w' ∧ wpLex P ops S kd K0 rest a' w')) [o] a w

theorem wpList_one {o : Oper} {a : Act} {w : World} {K : Act → World → Prop} :
    wpList P ops (Only K) [o] a w ↔ (if Region.wanted o (yielded ops a.tmps) = true then o.wp P a w K (Only K) else K (a.put o.dst undef) w) := by
  simp only [wpList]
  split
  · constructor
    · rintro (h | ⟨_, h⟩)
      · exact Oper.wp_mono (fun _ _ h => h) h
      · exact (Only_out h).elim
    · intro h
      exact .inl (Oper.wp_mono (fun _ _ h => h) h)
  · exact Iff.rfl
/-- the post of a panic is False, whatever is asked of the normal end -/
theorem wp_only {o : Oper} {a : Act} {w : World} {K K1 K2 : Act → World → Prop} (h : o.wp P a w K (Only K1)) : o.wp P a w K (Only K2) := by
  unfold Oper.wp at *
  generalize (execOp a.eval o).run P w = r at *
  cases r with
  | ok n w' =>
    cases n <;> simp only [Oper.upon] at h ⊢
    case value u => exact h
    case skip => exact h
    case defer d => exact h
    case enter f args =>
      refine Calls.mono h fun e w'' he => ?_
      cases e with
      | returned u => exact he
      | panicked c => exact he
      | outgrown => exact (Only_out he).elim
    case row row args => exact h
  | halt x w' => exact (upon_halt h).elim
theorem lexStep {o : Oper} {a : Act} {w : World} {rest : List Oper} (hk : kd o ≠ 0) :
    wpLex P ops S kd K0 (o :: rest) a w ↔ (if Region.wanted o (yielded ops a.tmps) = true then o.wp P a w (fun a' w' => S w' ∧ wpLex P ops S kd K0 rest a' w') (Only K0) else (S w ∧ wpLex P ops S kd K0 rest (a.put o.dst undef) w)) := by
  show (if kd o = 0 then _ else _) ↔ _
  rw [if_neg hk, wpList_one]
  split
  · exact ⟨wp_only, wp_only⟩
  · exact Iff.rfl

/-- what it leaves, in this world -/
def YW (P : Program) (ops : Array Oper) (w : World) (o : Oper) (v : Value) (a : Act) : Prop :=
  (Region.wanted o (yielded ops a.tmps) = true ∧ (execOp a.eval o).run P w = .ok (.value v) w) ∨ (Region.wanted o (yielded ops a.tmps) = false ∧ v = undef)
theorem YW.wpOp {i : Nat} {o : Oper} {v : Value} {a : Act} {w : World} {Q : Exit → Act → World → Prop} (hi : ops[i]? = some o) (hy : YW P ops w o v a) {K : Act → World → Prop} (h : K (a.put o.dst v) w) : wpOp P ops Q i K a w := by
  unfold Go.wpOp
  simp only [hi]
  rcases hy with ⟨hw, hv⟩ | ⟨hw, rfl⟩
  · simp only [hw, if_true, Oper.wp, hv, Oper.upon]; exact .inl h
  · simp only [hw, Bool.false_eq_true, if_false]; exact h
theorem yif_yw {o : Oper} {v : Value} {a : Act} {w : World} (hy : YieldsIf P ops S o v a) (hS : S w) : YW P ops w o v a := by
  rcases hy with ⟨x, y⟩ | z
  · exact .inl ⟨x, y w hS⟩
  · exact .inr z
theorem YW.cons {o : Oper} {v : Value} {a : Act} {w : World} {rest : List Oper} (hk : kd o ≠ 0) (hS : S w) (hy : YW P ops w o v a) (h : wpLex P ops S kd K0 rest (a.put o.dst v) w) : wpLex P ops S kd K0 (o :: rest) a w := by
  rw [lexStep hk]
  rcases hy with ⟨hw, hv⟩ | ⟨hw, rfl⟩
  · simp only [hw, if_true, Oper.wp, hv, Oper.upon]; exact ⟨hS, h⟩
  · simp only [hw, Bool.false_eq_true, if_false]; exact ⟨hS, h⟩
theorem YW.same {o : Oper} {v : Value} {a a' : Act} {w : World} (hy : YW P ops w o v a) (he : execOp a'.eval o = execOp a.eval o)
    (hw : Region.wanted o (yielded ops a'.tmps) = Region.wanted o (yielded ops a.tmps)) : YW P ops w o v a' := by
  unfold YW at *
  rw [he, hw]
  exact hy
theorem yif_cons {o : Oper} {v : Value} {a : Act} {w : World} {rest : List Oper} (hk : kd o = 0) (hy : YieldsIf P ops S o v a) (h : wpLex P ops S kd K0 rest (a.put o.dst v) w) : wpLex P ops S kd K0 (o :: rest) a w := by
  show (if kd o = 0 then _ else _)
  rw [if_pos hk]
  exact ⟨v, hy, h⟩
/-- an operation of kind 0 or 1 at the head of a walk -/
theorem head_qu {o : Oper} {a : Act} {w : World} {rest : List Oper} (hS : S w) (hq : kd o = 0 ∨ (kd o = 1 ∧ Qu P o)) (h : wpLex P ops S kd K0 (o :: rest) a w) :
    ∃ v, YW P ops w o v a ∧ (kd o = 0 → YieldsIf P ops S o v a) ∧ wpLex P ops S kd K0 rest (a.put o.dst v) w := by
  rcases hq with h0 | ⟨h1, hq⟩
  · replace h : (if kd o = 0 then _ else _) := h
    rw [if_pos h0] at h
    obtain ⟨v, hv, h⟩ := h
    exact ⟨v, yif_yw hv hS, fun _ => hv, h⟩
  · rw [lexStep (by omega)] at h
    by_cases hw : Region.wanted o (yielded ops a.tmps) = true
    · simp only [hw, if_true] at h
      unfold Oper.wp at h
      rcases hq a.eval w with ⟨v, hv⟩ | ⟨x, w', hx⟩
      · rw [hv] at h
        exact ⟨v, .inl ⟨hw, hv⟩, fun h0 => by omega, h.2⟩
      · rw [hx] at h
        exact (upon_halt h).elim
    · simp only [hw] at h
      exact ⟨undef, .inr ⟨by simpa using hw, rfl⟩, fun h0 => by omega, h.2⟩
theorem cons_qu {o : Oper} {v : Value} {a : Act} {w : World} {rest : List Oper} (hS : S w) (hy : YW P ops w o v a) (h0 : kd o = 0 → YieldsIf P ops S o v a) (h : wpLex P ops S kd K0 rest (a.put o.dst v) w) : wpLex P ops S kd K0 (o :: rest) a w := by
  by_cases hk : kd o = 0
  · exact yif_cons hk (h0 hk) h
  · exact hy.cons hk hS h

theorem same_of_apart {x y : Oper} (hs : ∀ cs b, y.op ≠ .select cs b) (hap : x.apart ops y = true) (a : Act) (v : Value) :
    execOp (a.put x.dst v).eval y = execOp a.eval y ∧ Region.wanted y (yielded ops (a.put x.dst v).tmps) = Region.wanted y (yielded ops a.tmps) :=
  ⟨execOp_put y hs a x.dst v (Oper.apart_spec hap).1, wanted_put y a x.dst v (Oper.apart_spec hap).1⟩
theorem same_of_apart' {x y : Oper} (hs : ∀ cs b, x.op ≠ .select cs b) (hap : x.apart ops y = true) (a : Act) (v : Value) :
    execOp (a.put y.dst v).eval x = execOp a.eval x ∧ Region.wanted x (yielded ops (a.put y.dst v).tmps) = Region.wanted x (yielded ops a.tmps) :=
  ⟨execOp_put x hs a y.dst v (Oper.apart_spec hap).2.2, wanted_put x a y.dst v (Oper.apart_spec hap).2.2⟩

/-- an operation of kind 1 comes to the front of those of kind 0 and 1 -/
theorem front_qu {oj : Oper} (hj : kd oj = 1 ∧ Qu P oj) (hsj : ∀ cs b, oj.op ≠ .select cs b) {post : List Oper} :
    ∀ (pre : List Oper) (a : Act) (w : World), S w → (∀ k ∈ pre, (kd k = 0 ∨ (kd k = 1 ∧ Qu P k)) ∧ oj.apart ops k = true ∧ ∀ cs b, k.op ≠ .select cs b) → wpLex P ops S kd K0 (pre ++ oj :: post) a w →
      ∃ v, YW P ops w oj v a ∧ wpLex P ops S kd K0 (pre ++ post) (a.put oj.dst v) w
  | [], a, w, hS, _, h => by
    obtain ⟨v, h1, _, h2⟩ := head_qu hS (.inr hj) h
    exact ⟨v, h1, h2⟩
  | k :: pre, a, w, hS, hp, h => by
    obtain ⟨hk, hap, hsk⟩ := hp k (by simp)
    obtain ⟨u, hu, hu0, h1⟩ := head_qu hS hk h
    obtain ⟨v, hv, h2⟩ := front_qu hj hsj pre _ w hS (fun x hx => hp x (by simp [hx])) h1
    obtain ⟨e1, e2⟩ := same_of_apart' hsj hap a u
    obtain ⟨e3, e4⟩ := same_of_apart hsk hap a v
    refine ⟨v, hv.same e1.symm e2.symm, cons_qu hS (hu.same e3 e4) (fun h0 => (hu0 h0).of_same e3 e4) ?_⟩
    rw [Act.put_comm a v u (Oper.apart_spec hap).2.1]
    exact h2

/-- of an operation that is carried out there is an outcome -/
theorem outcome {o : Oper} {a : Act} {w : World} {K : Act → World → Prop} (h : o.wp P a w K (Only K0)) :
    ∃ u w', (K (a.put o.dst u) w' ∨ ∃ d, K ({ a with defers := d :: a.defers }.put o.dst u) w') := by
  unfold Oper.wp at h
  generalize (execOp a.eval o).run P w = r at *
  cases r with
  | ok n w' =>
    cases n <;> simp only [Oper.upon] at h
    case value u => exact ⟨u, w', .inl h⟩
    case skip => exact ⟨undef, w', .inl h⟩
    case defer d => exact ⟨undef, w', .inr ⟨d, h⟩⟩
    case enter f args =>
      obtain ⟨e, w2, fr, hR, _⟩ := h []
      cases e with
      | returned u => exact ⟨u, w2, .inl hR⟩
      | panicked c => exact hR.elim
      | outgrown => exact (Only_out hR).elim
    case row row args =>
      obtain ⟨u, w2, hR, _⟩ := h default []
      exact ⟨u, w2, .inl hR⟩
  | halt x w' => exact (upon_halt h).elim

/-- a change of a temporary that an operation does not look at -/
theorem wp_put_rev {oj k : Oper} {v : Value} (hap : oj.apart ops k = true) (hsk : ∀ cs b, k.op ≠ .select cs b) {K : Act → World → Prop} {a : Act} {w : World}
    (h : k.wp P a w (fun a' w' => K (a'.put oj.dst v) w') (Only K0)) : k.wp P (a.put oj.dst v) w K (Only K0) := by
  have h2 := (Oper.apart_spec hap).2.1
  unfold Oper.wp at *
  rw [(same_of_apart hsk hap a v).1]
  generalize (execOp a.eval k).run P w = r at *
  cases r with
  | ok n w' =>
    cases n <;> simp only [Oper.upon] at h ⊢
    case value u => rw [Act.put_comm a v u h2]; exact h
    case skip => rw [Act.put_comm a v undef h2]; exact h
    case defer d => rw [Act.put_defers, Act.put_comm _ v undef h2]; exact h
    case enter f args =>
      refine Calls.mono h fun e w'' he => ?_
      cases e with
      | returned u =>
        show K ((a.put oj.dst v).put k.dst u) w''
        rw [Act.put_comm a v u h2]; exact he
      | panicked c => exact he
      | outgrown => exact he
    case row row args => exact Rows.mono h fun u w'' he => by rw [Act.put_comm a v u h2]; exact he
  | halt x w' => exact (upon_halt h).elim
/-- the frames of the outcomes -/
theorem wp_frames {k : Oper} {K : Act → World → Prop} {a : Act} {w : World} (h : k.wp P a w K (Only K0)) :
    k.wp P a w (fun a' w' => K a' w' ∧ ((∃ u, a' = a.put k.dst u) ∨ ∃ d u, a' = { a with defers := d :: a.defers }.put k.dst u)) (Only K0) := by
  unfold Oper.wp at *
  generalize (execOp a.eval k).run P w = r at *
  cases r with
  | ok n w' =>
    cases n <;> simp only [Oper.upon] at h ⊢
    case value u => exact ⟨h, .inl ⟨u, rfl⟩⟩
    case skip => exact ⟨h, .inl ⟨undef, rfl⟩⟩
    case defer d => exact ⟨h, .inr ⟨d, undef, rfl⟩⟩
    case enter f args =>
      refine Calls.mono h fun e w'' he => ?_
      cases e with
      | returned u => exact ⟨he, .inl ⟨u, rfl⟩⟩
      | panicked c => exact he
      | outgrown => exact he
    case row row args => exact Rows.mono h fun u w'' he => ⟨he, .inl ⟨u, rfl⟩⟩
  | halt x w' => exact (upon_halt h).elim

theorem yields_one {oj : Oper} {a : Act} {w : World} (hS : S w) {v v' : Value} (hy : YieldsIf P ops S oj v a) (hy' : YieldsIf P ops S oj v' a) : v = v' := by
  rcases hy with ⟨hw, hr⟩ | ⟨hw, rfl⟩ <;> rcases hy' with ⟨hw', hr'⟩ | ⟨hw', rfl⟩
  · have := (hr w hS).symm.trans (hr' w hS); simpa using this
  · rw [hw] at hw'; cases hw'
  · rw [hw] at hw'; cases hw'
  · rfl

/-- an operation of kind 0 comes to the front of whatever stands before it -/
theorem front_pu {oj : Oper} (hj : kd oj = 0) (hsj : ∀ cs b, oj.op ≠ .select cs b) {post : List Oper} :
    ∀ (pre : List Oper) (a : Act) (w : World), S w → (∀ k ∈ pre, oj.apart ops k = true ∧ ∀ cs b, k.op ≠ .select cs b) → wpLex P ops S kd K0 (pre ++ oj :: post) a w →
      ∃ v, YieldsIf P ops S oj v a ∧ wpLex P ops S kd K0 (pre ++ post) (a.put oj.dst v) w
  | [], a, w, hS, _, h => by
    obtain ⟨v, hv, h0, h1⟩ := head_qu hS (.inl hj) h
    exact ⟨v, h0 hj, h1⟩
  | k :: pre, a, w, hS, hp, h => by
    obtain ⟨hap, hsk⟩ := hp k (by simp)
    have ih := fun a w hS => front_pu hj hsj (post := post) pre a w hS (fun x hx => hp x (by simp [hx]))
    have back : ∀ u v, YieldsIf P ops S oj v (a.put k.dst u) → YieldsIf P ops S oj v a := fun u v hy =>
      hy.of_same (same_of_apart' hsj hap a u).1.symm (same_of_apart' hsj hap a u).2.symm
    have backD : ∀ d u v, YieldsIf P ops S oj v ({ a with defers := d :: a.defers }.put k.dst u) → YieldsIf P ops S oj v a := fun d u v hy => by
      have := hy.of_same (same_of_apart' hsj hap { a with defers := d :: a.defers } u).1.symm (same_of_apart' hsj hap { a with defers := d :: a.defers } u).2.symm
      exact this
    replace h : wpLex P ops S kd K0 (k :: (pre ++ oj :: post)) a w := h
    by_cases hk : kd k = 0
    · obtain ⟨u, hu, hu0, h1⟩ := head_qu hS (.inl hk) h
      obtain ⟨v, hv, h2⟩ := ih _ w hS h1
      obtain ⟨e3, e4⟩ := same_of_apart hsk hap a v
      refine ⟨v, back u v hv, yif_cons hk ((hu0 hk).of_same e3 e4) ?_⟩
      rw [Act.put_comm a v u (Oper.apart_spec hap).2.1]
      exact h2
    · rw [lexStep hk] at h
      by_cases hw : Region.wanted k (yielded ops a.tmps) = true
      · simp only [hw, if_true] at h
        obtain ⟨v, hv⟩ : ∃ v, YieldsIf P ops S oj v a := by
          obtain ⟨u, w', h1 | ⟨d, h1⟩⟩ := outcome h
          · obtain ⟨v, hv, _⟩ := ih _ _ h1.1 h1.2
            exact ⟨v, back u v hv⟩
          · obtain ⟨v, hv, _⟩ := ih _ _ h1.1 h1.2
            exact ⟨v, backD d u v hv⟩
        refine ⟨v, hv, ?_⟩
        show wpLex P ops S kd K0 (k :: (pre ++ post)) (a.put oj.dst v) w
        rw [lexStep hk, (same_of_apart hsk hap a v).2]
        simp only [hw, if_true]
        refine wp_put_rev hap hsk ?_
        refine Oper.wp_mono (fun a' w' h1 => ?_) (wp_frames h)
        obtain ⟨⟨hS', h1⟩, hsh⟩ := h1
        obtain ⟨v', hv', h2⟩ := ih _ _ hS' h1
        have : v = v' := by
          rcases hsh with ⟨u, rfl⟩ | ⟨d, u, rfl⟩
          · exact yields_one hS hv (back u v' hv')
          · exact yields_one hS hv (backD d u v' hv')
        subst this
        exact ⟨hS', h2⟩
      · simp only [hw] at h
        obtain ⟨v, hv, h2⟩ := ih _ _ h.1 h.2
        refine ⟨v, back _ v hv, ?_⟩
        show wpLex P ops S kd K0 (k :: (pre ++ post)) (a.put oj.dst v) w
        rw [lexStep hk, (same_of_apart hsk hap a v).2]
        simp only [hw]
        rw [Act.put_comm a v undef (Oper.apart_spec hap).2.1]
        exact ⟨h.1, h2⟩

/-- whatever operation comes to the front of those of kind 0 -/
theorem front_any {j : Nat} {oj : Oper} (hj : ops[j]? = some oj) (hkj : kd oj ≠ 0) (hsj : ∀ cs b, oj.op ≠ .select cs b) {post : List Oper} :
    ∀ (pre : List Oper) (a : Act) (w : World), S w → (∀ k ∈ pre, kd k = 0 ∧ k.apart ops oj = true ∧ ∀ cs b, k.op ≠ .select cs b) → wpLex P ops S kd K0 (pre ++ oj :: post) a w →
      wpOp P ops (Only K0) j (fun a' w' => S w' ∧ wpLex P ops S kd K0 (pre ++ post) a' w') a w
  | [], a, w, hS, _, h => by
    replace h : wpLex P ops S kd K0 (oj :: post) a w := h
    rw [lexStep hkj] at h
    unfold wpOp
    simp only [hj]
    split
    · rename_i hw
      simp only [hw, if_true] at h
      exact .inl h
    · rename_i hw
      simp only [hw] at h
      exact h
  | k :: pre, a, w, hS, hp, h => by
    obtain ⟨hk, hap, hsk⟩ := hp k (by simp)
    obtain ⟨u, _, hu, h1⟩ := head_qu hS (.inl hk) h
    have h2 := front_any hj hkj hsj (post := post) pre (a.put k.dst u) w hS (fun x hx => hp x (by simp [hx])) h1
    have h3 := wpOp_putIf hj hap hsk hsj (fun c a w h => h) (hu hk) h2
    refine wpOp_mono (fun a' w' h4 => ?_) h3
    obtain ⟨hy, hS', h5⟩ := h4
    exact ⟨hS', yif_cons hk hy h5⟩

/-! ### what waits for what -/
def befStep (acc : Array Nat) (o : Oper) : Nat := o.after.toList.foldl (fun s e => if Region.binds .any e then s ||| 2 ^ e.on ||| acc.getD e.on 0 else s) 0
def bef (l : List Oper) : Array Nat := l.foldl (fun acc o => acc.push (befStep acc o)) #[]
theorem foldl_bit (acc : Array Nat) (i : Nat) : ∀ (es : List Edge) (s : Nat), (es.foldl (fun s e => if Region.binds .any e then s ||| 2 ^ e.on ||| acc.getD e.on 0 else s) s).testBit i = true →
    s.testBit i = true ∨ ∃ e ∈ es, Region.binds .any e = true ∧ (e.on = i ∨ (acc.getD e.on 0).testBit i = true)
  | [], s, h => .inl h
  | e :: es, s, h => by
    rw [List.foldl_cons] at h
    rcases foldl_bit acc i es _ h with h1 | ⟨x, hx, hb, hi⟩
    · split at h1
      · rename_i hb
        rw [Nat.testBit_or, Nat.testBit_or, Nat.testBit_two_pow] at h1
        simp only [Bool.or_eq_true, decide_eq_true_eq] at h1
        rcases h1 with (h1 | h1) | h1
        · exact .inl h1
        · exact .inr ⟨e, by simp, hb, .inl h1⟩
        · exact .inr ⟨e, by simp, hb, .inr h1⟩
      · exact .inl h1
    · exact .inr ⟨x, by simp [hx], hb, hi⟩
theorem bef_snoc (l : List Oper) (o : Oper) : bef (l ++ [o]) = (bef l).push (befStep (bef l) o) := by simp [bef, List.foldl_append]
theorem bef_size (l : List Oper) : (bef l).size = l.length := by
  have : ∀ (l : List Oper) (acc : Array Nat), (l.foldl (fun acc o => acc.push (befStep acc o)) acc).size = acc.size + l.length := by
    intro l
    induction l with
    | nil => intro acc; rfl
    | cons o l ih => intro acc; rw [List.foldl_cons, ih]; simp; omega
  simpa [bef] using this l #[]
theorem bef_spec (L : Nat → Prop) (l : List Oper) : (∀ k o, l[k]? = some o → L k → ∀ e ∈ o.after, Region.binds .any e = true → L e.on) →
    ∀ j o, l[j]? = some o → (∀ e ∈ o.after, Region.binds .any e = true → L e.on) → ∀ i, ((bef l).getD j 0).testBit i = true → L i := by
  suffices H : ∀ n, ∀ l : List Oper, l.length = n → (∀ k o, l[k]? = some o → L k → ∀ e ∈ o.after, Region.binds .any e = true → L e.on) →
      ∀ j o, l[j]? = some o → (∀ e ∈ o.after, Region.binds .any e = true → L e.on) → ∀ i, ((bef l).getD j 0).testBit i = true → L i from H l.length l rfl
  intro n
  induction n with
  | zero =>
    intro l hl _ j o hj
    rw [List.eq_nil_of_length_eq_zero hl] at hj
    simp at hj
  | succ n ih =>
    intro l hl hcl j o hj hpre i hbit
    obtain ⟨l0, x, rfl⟩ : ∃ l0 x, l = l0 ++ [x] := ⟨l.dropLast, l.getLast (by intro h; simp [h] at hl), (List.dropLast_concat_getLast _).symm⟩
    have hl0 : l0.length = n := by simp at hl; omega
    have hcl0 : ∀ k o, l0[k]? = some o → L k → ∀ e ∈ o.after, Region.binds .any e = true → L e.on := fun k o hk => hcl k o (by
      rw [List.getElem?_append_left (List.getElem?_eq_some_iff.1 hk).1]; exact hk)
    have ih' := ih l0 hl0 hcl0
    rw [bef_snoc] at hbit
    by_cases hjn : j < n
    · rw [List.getElem?_append_left (by omega)] at hj
      refine ih' j o hj hpre i ?_
      rw [Array.getD_eq_getD_getElem?, Array.getElem?_push_lt (by rw [bef_size]; omega)] at hbit
      rw [Array.getD_eq_getD_getElem?, Array.getElem?_eq_getElem (by rw [bef_size]; omega)]
      exact hbit
    · have hjl : j < (l0 ++ [x]).length := (List.getElem?_eq_some_iff.1 hj).1
      have hjn' : j = n := by simp at hjl; omega
      subst hjn'
      rw [List.getElem?_append_right (by omega)] at hj
      simp [hl0] at hj
      subst hj
      rw [Array.getD_eq_getD_getElem?, show j = (bef l0).size by rw [bef_size]; omega, Array.getElem?_push_size] at hbit
      rcases foldl_bit _ i _ _ hbit with h0 | ⟨e, he, hb, h1 | h1⟩
      · simp at h0
      · rw [← h1]; exact hpre e (by simpa using he) hb
      · have hLe := hpre e (by simpa using he) hb
        have hlt : e.on < l0.length := by
          rcases Nat.lt_or_ge e.on l0.length with h | h
          · exact h
          · rw [Array.getD_eq_getD_getElem?, Array.getElem?_eq_none (by rw [bef_size]; omega)] at h1
            simp at h1
        exact ih' e.on l0[e.on] (List.getElem?_eq_getElem hlt) (hcl0 e.on _ (List.getElem?_eq_getElem hlt) hLe) i h1

/-- 0: pure · 1: quiet · 2: any other -/
def pairB (kd : Oper → Nat) (ops : Array Oper) (x y : Oper) : Bool :=
  x.apart ops y && y.apart ops x && (kd x == 0 || kd y == 0 || (kd x == 1 && kd y == 1))
def lexAt (kd : Oper → Nat) (ops : Array Oper) (l : List Oper) (b : Array Nat) (j : Nat) : Bool :=
  match l[j]? with
  | none => true
  | some y => (y.after.all fun e => !Region.binds .any e || decide (e.on < j)) &&
    (List.range j).all fun i => match l[i]? with
      | none => true
      | some x => (b.getD j 0).testBit i || pairB kd ops x y
def lexB (kd : Oper → Nat) (l : List Oper) : Bool := Region.noSelect l.toArray && (List.range l.length).all (lexAt kd l.toArray l (bef l))

section
variable {P : Program} {K0 : Act → World → Prop}
def opsOf (l : List Oper) (rem : List Nat) : List Oper := rem.filterMap (fun i => l[i]?)
theorem opsOf_append (l : List Oper) (r s : List Nat) : opsOf l (r ++ s) = opsOf l r ++ opsOf l s := by simp [opsOf]
theorem opsOf_cons {l : List Oper} {j : Nat} {o : Oper} (h : l[j]? = some o) (s : List Nat) : opsOf l (j :: s) = o :: opsOf l s := by simp [opsOf, h]
theorem mem_opsOf {l : List Oper} {r : List Nat} {o : Oper} (h : o ∈ opsOf l r) : ∃ i ∈ r, l[i]? = some o := by simpa [opsOf] using h

theorem lex_main (kd : Oper → Nat) (S : World → Prop) (hk1 : ∀ o, kd o = 1 → Qu P o) (l : List Oper) (hB : lexB kd l = true) :
    ∀ (n : Nat) (rem : List Nat) (listed : Array Bool) (a : Act) (w : World), S w → rem.length = n → (∀ j, j ∈ rem ↔ listed.getD j true = false) → rem.Pairwise (· < ·) → listed.size = l.length →
      (∀ k o, l[k]? = some o → listed.getD k false = true → ∀ e ∈ o.after, Region.binds .any e = true → listed.getD e.on false = true) →
      wpLex P l.toArray S kd K0 (opsOf l rem) a w → wpAny P .any l.toArray (Only K0) n listed a w := by
  have hns : Region.noSelect l.toArray = true := by simp [lexB] at hB; exact hB.1
  have hsel : ∀ (j : Nat) (o : Oper), l[j]? = some o → ∀ cs b, o.op ≠ .select cs b := fun j o ho cs b => Region.noSelect_spec hns j o cs b (by simpa using ho)
  have hat : ∀ j o, l[j]? = some o → (∀ e ∈ o.after, Region.binds .any e = true → e.on < j) ∧ ∀ i x, i < j → l[i]? = some x → ((bef l).getD j 0).testBit i = true ∨ pairB kd l.toArray x o = true := by
    intro j o ho
    have hlt := (List.getElem?_eq_some_iff.1 ho).1
    have h : lexAt kd l.toArray l (bef l) j = true := by
      simp only [lexB, Bool.and_eq_true, List.all_eq_true, List.mem_range] at hB
      exact hB.2 j hlt
    simp only [lexAt, ho, Bool.and_eq_true, Array.all_eq_true_iff_forall_mem, List.all_eq_true, List.mem_range] at h
    refine ⟨fun e he hb => ?_, fun i x hi hx => ?_⟩
    · have := h.1 e he
      simpa [hb] using this
    · have := h.2 i hi
      simpa [hx] using this
  intro n
  induction n with
  | zero =>
    intro rem listed a w _ hn hmem _ _ _ h
    have : rem = [] := List.eq_nil_of_length_eq_zero hn
    subst this
    refine ⟨?_, h⟩
    rw [List.eq_nil_iff_forall_not_mem]
    intro j hj
    have := (hmem j).2 (mem_ready.1 hj).1
    simp at this
  | succ n ih =>
    intro rem listed a w hS hn hmem hpw hsz hcl h
    have inr : ∀ j, j ∈ rem → j < l.length := fun j hj => by
      have := (hmem j).1 hj
      rcases Nat.lt_or_ge j listed.size with h' | h'
      · omega
      · simp [Array.getElem?_eq_none h'] at this
    have unl : ∀ j, j < l.length → j ∉ rem → listed.getD j false = true := fun j hj hm => by
      have : ¬ listed.getD j true = false := fun e => hm ((hmem j).2 e)
      have hlt : j < listed.size := by omega
      simp [hlt] at this ⊢
      exact this
    refine ⟨fun h0 => ?_, fun j hj => ?_⟩
    · exfalso
      match rem, hn with
      | m :: rem', _ =>
        have hm : m ∈ m :: rem' := by simp
        have hml := inr m hm
        have ho : l[m]? = some l[m] := List.getElem?_eq_getElem hml
        have : m ∈ Region.ready .any l.toArray listed := mem_ready.2 ⟨(hmem m).1 hm, l[m], by simp, fun e he hb => by
          have hlt := (hat m _ ho).1 e he hb
          refine unl e.on (by omega) (fun hin => ?_)
          rcases List.mem_cons.1 hin with rfl | hin
          · omega
          · have := (List.pairwise_cons.1 hpw).1 _ hin
            omega⟩
        rw [h0] at this
        cases this
    · obtain ⟨hun, o, ho, hpre⟩ := mem_ready.1 hj
      have ho' : l[j]? = some o := by simpa using ho
      have hin : j ∈ rem := (hmem j).2 hun
      obtain ⟨pre, post, rfl⟩ := List.append_of_mem hin
      rw [List.pairwise_append] at hpw
      obtain ⟨hp1, hp2, hp3⟩ := hpw
      have hjl := inr j hin
      -- none of those before it is waited for
      have hpair : ∀ i x, i ∈ pre → l[i]? = some x → pairB kd l.toArray x o = true := fun i x hi hx => by
        have hij : i < j := hp3 i hi j (by simp)
        rcases (hat j o ho').2 i x hij hx with hb | hb
        · exfalso
          have := bef_spec (fun k => listed.getD k false = true) l (fun k o hk hL => hcl k o hk hL) j o ho' (fun e he hb => hpre e he hb) i hb
          have h2 := (hmem i).1 (by simp [hi])
          have hlt : i < listed.size := by omega
          simp [hlt] at this h2
          rw [this] at h2
          cases h2
        · exact hb
      have hnj : j ∉ pre ++ post := by
        intro hm
        rcases List.mem_append.1 hm with hm | hm
        · have := hp3 j hm j (by simp); omega
        · have := (List.pairwise_cons.1 hp2).1 j hm; omega
      have hK : ∀ a' w', S w' → wpLex P l.toArray S kd K0 (opsOf l (pre ++ post)) a' w' → wpAny P .any l.toArray (Only K0) n (listed.setIfInBounds j true) a' w' := by
        intro a' w' hS' h'
        refine ih (pre ++ post) _ a' w' hS' (by simp at hn ⊢; omega) (fun i => ?_) ?_ (by simpa using hsz) ?_ h'
        · by_cases hij : j = i
          · subst hij
            have hlt : j < listed.size := by omega
            constructor
            · intro hm; exact absurd hm hnj
            · intro hm; simp [hlt] at hm
          · rw [getD_set_ne true hij, ← hmem i]
            simp [Ne.symm hij]
        · rw [List.pairwise_append]
          exact ⟨hp1, (List.pairwise_cons.1 hp2).2, fun x hx y hy => hp3 x hx y (by simp [hy])⟩
        · intro k o' hk hL e he hb
          refine getD_set_true ?_
          by_cases hjk : j = k
          · subst hjk
            rw [ho'] at hk
            cases hk
            exact hpre e he hb
          · rw [getD_set_ne false hjk] at hL
            exact hcl k o' hk hL e he hb
      rw [opsOf_append, opsOf_cons ho'] at h
      have hpx : ∀ x ∈ opsOf l pre, pairB kd l.toArray x o = true ∧ ∀ cs b, x.op ≠ .select cs b := fun x hx => by
        obtain ⟨i, hi, hx'⟩ := mem_opsOf hx
        exact ⟨hpair i x hi hx', hsel i x hx'⟩
      rw [opsOf_append] at hK
      by_cases k0 : kd o = 0
      · obtain ⟨v, hv, h1⟩ := front_pu k0 (hsel j o ho') (opsOf l pre) a w hS (fun x hx => by
          obtain ⟨hb, hs⟩ := hpx x hx
          simp only [pairB, Bool.and_eq_true] at hb
          exact ⟨hb.1.2, hs⟩) h
        exact (yif_yw hv hS).wpOp ho (hK _ _ hS h1)
      · by_cases k1 : kd o = 1
        · obtain ⟨v, hv, h1⟩ := front_qu ⟨k1, hk1 o k1⟩ (hsel j o ho') (opsOf l pre) a w hS (fun x hx => by
            obtain ⟨hb, hs⟩ := hpx x hx
            simp only [pairB, Bool.and_eq_true, Bool.or_eq_true, beq_iff_eq] at hb
            refine ⟨?_, hb.1.2, hs⟩
            rcases hb.2 with (hx0 | hx0) | hx0
            · exact .inl hx0
            · exact absurd hx0 k0
            · exact .inr ⟨hx0.1, hk1 x hx0.1⟩) h
          exact hv.wpOp ho (hK _ _ hS h1)
        · have h1 := front_any ho k0 (hsel j o ho') (opsOf l pre) a w hS (fun x hx => by
            obtain ⟨hb, hs⟩ := hpx x hx
            simp only [pairB, Bool.and_eq_true, Bool.or_eq_true, beq_iff_eq] at hb
            refine ⟨?_, hb.1.1, hs⟩
            rcases hb.2 with (hx0 | hx0) | hx0
            · exact hx0
            · exact absurd hx0 k0
            · exact absurd hx0.2 k1) h
          exact wpOp_mono (fun a' w' h2 => hK a' w' h2.1 h2.2) h1

theorem opsOf_range (l : List Oper) : opsOf l (List.range l.length) = l := by
  unfold opsOf
  apply List.ext_getElem?
  intro i
  have : ∀ (m : Nat) (hm : m ≤ l.length), (List.range m).filterMap (fun i => l[i]?) = l.take m := by
    intro m
    induction m with
    | zero => simp
    | succ m ih =>
      intro hm
      rw [List.range_succ, List.filterMap_append, ih (by omega)]
      rw [List.take_succ_eq_append_getElem (show m < l.length by omega)]
      congr 1
      rw [List.filterMap_cons, List.getElem?_eq_getElem (show m < l.length by omega)]
      rfl
  rw [this _ (Nat.le_refl _), List.take_length]

/-- what an operation is by its form -/
def kindOf (o : Oper) : Nat :=
  match o.op with
  | .move _ | .assign _ | .pick .. | .binOp .. | .unOp .. | .convert .. | .nilCheck _ | .slice .. | .fieldAddr .. | .field .. | .indexAddr .. | .index .. | .extract .. => 0
  | .call { callee := .builtin .len, .. } | .call { callee := .builtin .cap, .. } | .call { callee := .builtin .min, .. } | .call { callee := .builtin .max, .. } => 0
  | .load .. => 1
  | _ => 2
/-- it ends in this world, or halts -/
def C1 {α : Type} (P : Program) (w : World) (s : Sem α) : Prop := (∃ v, s.run P w = .ok v w) ∨ (∃ h w', s.run P w = .halt h w')
theorem C1.bind {α β : Type} {w : World} {s : Sem α} {f : α → Sem β} (h : C1 P w s) (hf : ∀ v, C1 P w (f v)) : C1 P w (s >>= f) := by
  rcases h with ⟨v, hv⟩ | ⟨x, w', hx⟩
  · rcases hf v with ⟨u, hu⟩ | ⟨x, w', hx⟩
    · exact .inl ⟨u, by rw [Sem.run_bind, hv]; exact hu⟩
    · exact .inr ⟨x, w', by rw [Sem.run_bind, hv]; exact hx⟩
  · exact .inr ⟨x, w', by rw [Sem.run_bind, hx]; rfl⟩
theorem C1.pure {α : Type} {w : World} (v : α) : C1 P w (pure v : Sem α) := .inl ⟨v, rfl⟩
theorem C1.halt {α : Type} {w : World} (h : Halt) : C1 P w (.halt h : Sem α) := .inr ⟨h, w, rfl⟩
theorem C1.program {w : World} : C1 P w program := .inl ⟨P, rfl⟩
theorem C1.load {w : World} (a : Addr) (m : Mode) : C1 P w (load a m) := by
  unfold Go.load
  cases h : w.cell? a with
  | some v => exact .inl ⟨v, by simp [Sem.run, h]⟩
  | none =>
    cases h2 : w.farLoad P a (m == .atomic) with
    | ok r => exact .inl ⟨r.1, by simp [Sem.run, h, h2]⟩
    | error x => exact .inr ⟨x, w, by simp [Sem.run, h, h2]⟩
theorem C1.typeInfo {w : World} (t : TypeId) : C1 P w (typeInfo t) := by
  unfold Go.typeInfo
  refine C1.program.bind fun p => ?_
  split
  · exact C1.pure _
  · exact C1.halt _
theorem C1.underlying {w : World} (t : TypeId) : C1 P w (underlying t) := by
  unfold Go.underlying
  refine C1.program.bind fun p => ?_
  split
  · exact C1.pure _
  · exact C1.halt _
theorem C1.isAgg {w : World} (t : TypeId) : C1 P w (isAgg t) := by
  unfold Go.isAgg
  refine (C1.underlying t).bind fun d => ?_
  split <;> exact C1.pure _
theorem C1.loadCellsFrom {w : World} (a : Addr) : ∀ (n i : Nat) (acc : Array Value), C1 P w (loadCellsFrom a i n acc)
  | 0, _, acc => C1.pure acc
  | n + 1, i, acc => (C1.load _ _).bind fun v => C1.loadCellsFrom a n (i + 1) _
theorem C1.loadVar {w : World} (t : TypeId) (a : Addr) : C1 P w (loadVar t a) := by
  unfold Go.loadVar
  refine (C1.isAgg t).bind fun b => ?_
  cases b
  · exact C1.load _ _
  · refine C1.bind ?_ fun n => ?_
    · exact (C1.typeInfo t).bind fun i => C1.pure _
    · exact (C1.loadCellsFrom a _ _ _).bind fun _ => C1.pure _
theorem C1.loadAt {w : World} (t : TypeId) (v : Value) : C1 P w (Instr.loadAt t v) := by
  unfold Instr.loadAt
  refine C1.bind ?_ fun a => C1.loadVar t a
  unfold Instr.sureAddr
  split
  · exact C1.pure _
  · exact C1.halt _
theorem qu_load {o : Oper} (h : kindOf o = 1) : Qu P o := by
  intro ρ w
  obtain ⟨t, x, ho⟩ : ∃ t x, o.op = .load t x := by
    unfold kindOf at h
    split at h <;> first | exact ⟨_, _, by assumption⟩ | cases h
  have hc : C1 P w (Instr.loadAt t (ρ x)) := C1.loadAt t (ρ x)
  have e : execOp ρ o = (do pure (.value (← Instr.loadAt t (ρ x)))) := by
    unfold execOp
    simp only [ho]
  rw [e]
  rcases hc with ⟨v, hv⟩ | ⟨x, w', hx⟩
  · exact .inl ⟨v, by rw [Sem.run_bind, hv]; rfl⟩
  · exact .inr ⟨x, w', by rw [Sem.run_bind, hx]; rfl⟩

/-- if it ends, it ends in a value -/
def IsV (P : Program) (s : Sem Next) : Prop := ∀ w n w', s.run P w = .ok n w' → ∃ v, n = .value v
theorem IsV.v (s : Sem Value) : IsV P (do pure (.value (← s))) := fun w n w' h => by
  rw [Sem.run_bind] at h
  cases hs : s.run P w with
  | ok v w1 => rw [hs] at h; cases h; exact ⟨v, rfl⟩
  | halt x w1 => rw [hs] at h; cases h
theorem IsV.bind {α : Type} (s : Sem α) (f : α → Sem Next) (hf : ∀ v, IsV P (f v)) : IsV P (s >>= f) := fun w n w' h => by
  rw [Sem.run_bind] at h
  cases hs : s.run P w with
  | ok v w1 => rw [hs] at h; exact hf v _ _ _ h
  | halt x w1 => rw [hs] at h; cases h
theorem IsV.pure (v : Value) : IsV P (pure (.value v)) := fun w n w' h => by cases h; exact ⟨v, rfl⟩
theorem IsV.halt (x : Halt) : IsV P (.halt x) := fun w n w' h => by cases h
theorem IsV.nilPanic : IsV P (runtimePanic .nilDeref) := by
  unfold runtimePanic
  refine IsV.bind _ _ fun p => ?_
  exact IsV.halt _
theorem val0 {o : Oper} (h : kindOf o = 0) (ρ : Operand → Value) : IsV P (execOp ρ o) := by
  unfold kindOf at h
  unfold execOp
  split at h <;> first | (cases h; done) | skip
  all_goals (rename_i hop; simp only [hop])
  all_goals first
    | exact IsV.pure _
    | exact IsV.v _
    | exact IsV.bind _ _ fun _ => IsV.pure _
    | skip
  · split
    · exact IsV.nilPanic
    · exact IsV.nilPanic
    · exact IsV.nilPanic
    · split
      · exact IsV.nilPanic
      · refine IsV.bind _ _ fun p => IsV.bind _ _ fun b => ?_
        split
        · exact IsV.bind _ _ fun _ => IsV.pure _
        · exact IsV.pure _
      · exact IsV.pure _
    · exact IsV.pure _

/-- a step of kind 0, by the kit's quiet walk -/
theorem lex_q {o : Oper} {a : Act} {w : World} {rest : List Oper} (hk : kindOf o = 0) (hS : ∃ w, S w) (h : wpQuiet P ops S (fun a' => wpLex P ops S kindOf K0 rest a' w) [o] a) : wpLex P ops S kindOf K0 (o :: rest) a w := by
  simp only [wpQuiet] at h
  by_cases hw : Region.wanted o (yielded ops a.tmps) = true
  · simp only [hw, if_true] at h
    obtain ⟨v, hv, h⟩ := h
    refine yif_cons hk (v := v) (.inl ⟨hw, fun w' hw' => ?_⟩) h
    have := hv w' hw'
    unfold Oper.quietAt at this
    cases hr : (execOp a.eval o).run P w' with
    | halt x w1 => rw [hr] at this; exact this.elim
    | ok n w1 =>
      obtain ⟨u, rfl⟩ := val0 hk a.eval w' n w1 hr
      rw [hr] at this
      obtain ⟨e1, e2⟩ := this
      rw [e1, e2]
  · simp only [hw] at h
    exact yif_cons hk (.inr ⟨by simpa using hw, rfl⟩) h
/-- a step that is not wanted -/
theorem lex_skip {o : Oper} {a : Act} {w : World} {rest : List Oper} (hk : (kindOf o == 0) = false) (hw : Region.wanted o (yielded ops a.tmps) = false) (hS : S w) (h : wpLex P ops S kindOf K0 rest (a.put o.dst undef) w) : wpLex P ops S kindOf K0 (o :: rest) a w := by
  rw [lexStep (by simpa using hk)]
  simp only [hw, Bool.false_eq_true, if_false]
  exact ⟨hS, h⟩
/-- a step of another kind -/
theorem lex_e {o : Oper} {a : Act} {w : World} {rest : List Oper} (hk : (kindOf o == 0) = false) (h : wpList P ops (Only (fun a' w' => S w' ∧ wpLex P ops S kindOf K0 rest a' w')) [o] a w) : wpLex P ops S kindOf K0 (o :: rest) a w := by
  show (if kindOf o = 0 then _ else _)
  rw [if_neg (by simpa using hk)]
  exact h
theorem lex_go {a : Act} {w : World} {rest : List Oper} (hS : S w) (h : wpLex P ops S kindOf K0 rest a w) : Only (fun a' w' => S w' ∧ wpLex P ops S kindOf K0 rest a' w') .normal a w := ⟨hS, h⟩
theorem lex_nil {a : Act} {w : World} (h : K0 a w) : wpLex P ops S kindOf K0 [] a w := h
/-- what a slice expression on a slice comes to; low, high and max as numbers -/
theorem run_sl {o : Oper} {ρ : Operand → Value} {T E : TypeId} {x : Operand} {lo hi mx : Option Operand} {A : Option Addr} {n c sz : Nat} (l h m : Nat)
    (ho : o.op = .slice T x lo hi mx) (hx : ρ x = .slice A n c) (ht : P.underlying T = some (.slice E)) (hi' : (P.info? E).map (·.size) = some sz)
    (hlo : (lo = none ∧ l = 0) ∨ ∃ y k e, lo = some y ∧ ρ y = .int k e ∧ e = (l : Int)) (hhi : (hi = none ∧ mx = none ∧ h = n) ∨ ∃ y k e, hi = some y ∧ ρ y = .int k e ∧ e = (h : Int))
    (hmx : (mx = none ∧ m = c) ∨ ∃ y k e, mx = some y ∧ ρ y = .int k e ∧ e = (m : Int)) (h1 : l ≤ h) (h2 : h ≤ m) (h3 : m ≤ c) (w : World) :
    (execOp ρ o).run P w = .ok (.value (.slice (if m = l then A else A.map (·.add (l * sz))) (h - l) (m - l))) w := by
  obtain ⟨i, hi1, hi2⟩ : ∃ i, P.info? E = some i ∧ i.size = sz := by
    cases hq : P.info? E with
    | none => rw [hq] at hi'; cases hi'
    | some i => rw [hq] at hi'; exact ⟨i, rfl, by simpa using hi'⟩
  have hb : ∀ (k : IntKind) (z y : Nat) (code : BoundsCode), z ≤ y → (Instr.sliceBound (.int k (z : Int)) y code).run P w = .ok z w := fun k z y code hz => by
    have hz' : (0 : Int) ≤ (z : Int) ∧ (z : Int) ≤ (y : Int) := ⟨by omega, by omega⟩
    simp [Instr.sliceBound, asIntOf, hz']
  have hsz : (sizeOf E).run P w = .ok sz w := by simp [sizeOf, typeInfo, hi1, hi2]
  have e : execOp ρ o = (do pure (.value (← Instr.sliceAt T (ρ x) (lo.map ρ) (hi.map ρ) (mx.map ρ)))) := by
    unfold execOp
    simp only [ho]
  rw [e, hx]
  have key : (Instr.sliceAt T (.slice A n c) (lo.map ρ) (hi.map ρ) (mx.map ρ)).run P w = .ok (.slice (if m = l then A else A.map (·.add (l * sz))) (h - l) (m - l)) w := by
    have hbs : (Instr.sliceBounds true n c (lo.map ρ) (hi.map ρ) (mx.map ρ)).run P w = .ok (l, h, m) w := by
      unfold Instr.sliceBounds
      rcases hmx with ⟨rfl, rfl⟩ | ⟨ym, km, em, rfl, hm1, rfl⟩ <;> rcases hhi with ⟨rfl, hmn, rfl⟩ | ⟨yh, kh, eh, rfl, hh1, rfl⟩ <;> rcases hlo with ⟨rfl, rfl⟩ | ⟨yl, kl, el, rfl, hl1, rfl⟩ <;>
        first | (cases hmn; done) | simp [*]
    simp only [Instr.sliceAt, Sem.run_bind, run_underlying ht, Result.andThen_ok, Instr.slice, hbs, hsz, Sem.run_pure]
  rw [Sem.run_bind, key]
  rfl

/-- a part of cells -/
theorem Cs.part {D : Nat → Prop} {w : World} {A : Option Addr} {xs : List Value} {n sz l h m : Nat} (hc : Cs D w A xs) (hn : xs.length = n * sz) (h1 : l ≤ h) (h2 : h ≤ m) (h3 : h ≤ n) :
    Cs D w (if m = l then A else A.map (·.add (l * sz))) ((xs.drop (l * sz)).take ((h - l) * sz)) := by
  by_cases e : m = l
  · have : h - l = 0 := by omega
    rw [this]
    simp only [Nat.zero_mul, List.take_zero]
    exact Cs.nil_ _ _ _
  · rw [if_neg e]
    have := (hc.drop_ (l * sz) (c := False) (fun x => x.elim))
    rw [if_neg (fun x => x)] at this
    exact this.take_ _
theorem Bytes.part {D : Nat → Prop} {w : World} {A : Option Addr} {n c l h m : Nat} {L : List UInt8} (hb : Bytes D w (.slice A n c) L) (h1 : l ≤ h) (h2 : h ≤ m) (h3 : h ≤ n) (h4 : m ≤ c) :
    Bytes D w (.slice (if m = l then A else A.map (·.add (l * 1))) (h - l) (m - l)) ((L.drop l).take (h - l)) := by
  obtain ⟨A', c', e, g1, g2, g3⟩ := hb
  cases e
  have hl : ((L.drop l).take (h - l)).length = h - l := by rw [List.length_take, List.length_drop]; omega
  refine ⟨_, m - l, by rw [hl], by rw [hl]; omega, by omega, ?_⟩
  have := Cs.part (sz := 1) (n := L.length) (l := l) (h := h) (m := m) g3 (by simp) h1 h2 h3
  simpa [List.map_take, List.map_drop] using this

/-- a slice expression on a slice of bytes, in a plain region: the result under a name -/
theorem wpList_slB {Q : Exit → Act → World → Prop} {o : Oper} {a : Act} {w : World} {rest : List Oper} {T E : TypeId} {x : Operand} {lo hi mx : Option Operand} {A : Option Addr} {n c : Nat} {D : Nat → Prop} {L : List UInt8} (l h m n' c' : Nat) (L' : List UInt8)
    (hgd : o.guard = none) (ho : o.op = .slice T x lo hi mx) (hx : a.eval x = .slice A n c) (ht : P.underlying T = some (.slice E)) (hi' : (P.info? E).map (·.size) = some 1)
    (hlo : (lo = none ∧ l = 0) ∨ ∃ y k e, lo = some y ∧ a.eval y = .int k e ∧ e = (l : Int)) (hhi : (hi = none ∧ mx = none ∧ h = n) ∨ ∃ y k e, hi = some y ∧ a.eval y = .int k e ∧ e = (h : Int))
    (hmx : (mx = none ∧ m = c) ∨ ∃ y k e, mx = some y ∧ a.eval y = .int k e ∧ e = (m : Int)) (hb : Bytes D w (.slice A n c) L) (h1 : l ≤ h) (h2 : h ≤ m) (h3 : h ≤ n) (h4 : m ≤ c) (hn' : n' = h - l) (hc' : c' = m - l) (hL' : L' = (L.drop l).take (h - l))
    (K : ∀ A', Bytes D w (.slice A' n' c') L' → n' ≤ c' → wpList P ops Q rest (a.put o.dst (.slice A' n' c')) w) : wpList P ops Q (o :: rest) a w := by
  subst hn' hc' hL'
  refine wpList_plain hgd fun _ hK => ?_
  unfold Oper.wp
  rw [run_sl l h m ho hx ht hi' hlo hhi hmx h1 h2 h4 w]
  exact hK _ _ (K _ (hb.part h1 h2 h3 h4) (by omega))
/-- the same in a region that draws its order -/
theorem lex_slB {o : Oper} {a : Act} {w : World} {rest : List Oper} {T E : TypeId} {x : Operand} {lo hi mx : Option Operand} {A : Option Addr} {n c : Nat} {D : Nat → Prop} {L : List UInt8} (l h m n' c' : Nat) (L' : List UInt8)
    (hgd : Region.wanted o (yielded ops a.tmps) = true) (ho : o.op = .slice T x lo hi mx) (hx : a.eval x = .slice A n c) (ht : P.underlying T = some (.slice E)) (hi' : (P.info? E).map (·.size) = some 1)
    (hlo : (lo = none ∧ l = 0) ∨ ∃ y k e, lo = some y ∧ a.eval y = .int k e ∧ e = (l : Int)) (hhi : (hi = none ∧ mx = none ∧ h = n) ∨ ∃ y k e, hi = some y ∧ a.eval y = .int k e ∧ e = (h : Int))
    (hmx : (mx = none ∧ m = c) ∨ ∃ y k e, mx = some y ∧ a.eval y = .int k e ∧ e = (m : Int)) (hb : Bytes D w (.slice A n c) L) (h1 : l ≤ h) (h2 : h ≤ m) (h3 : h ≤ n) (h4 : m ≤ c) (hn' : n' = h - l) (hc' : c' = m - l) (hL' : L' = (L.drop l).take (h - l))
    (K : ∀ A', Bytes D w (.slice A' n' c') L' → n' ≤ c' → wpLex P ops S kindOf K0 rest (a.put o.dst (.slice A' n' c')) w) : wpLex P ops S kindOf K0 (o :: rest) a w := by
  subst hn' hc' hL'
  refine yif_cons (by unfold kindOf; rw [ho]) (.inl ⟨hgd, fun w' _ => ?_⟩) (K _ (hb.part h1 h2 h3 h4) (by omega))
  exact run_sl l h m ho hx ht hi' hlo hhi hmx h1 h2 h4 w'

/-- THE LAW -/
theorem wp_region_lex (S : World → Prop) {id : Nat} {l : List Oper} {Q : Exit → Act → World → Prop} {a : Act} {w : World}
    (hm : P.follows .mixedOrders = true) (hB : lexB kindOf l = true) (hS : S w.drew) (h : wpLex P l.toArray S kindOf (Q .normal) l a w.drew) : (Code.region id l.toArray true).wp P Q a w := by
  refine Code.wp_mono Only.to (wp_region_any hm ?_)
  have := lex_main (K0 := Q .normal) kindOf S (fun o => qu_load) l hB l.length (List.range l.length) (Array.replicate l.length false) a w.drew hS (by simp) (fun j => by
    by_cases hj : j < l.length
    · simp [hj]
    · simp [hj]) List.pairwise_lt_range (by simp) (fun k o hk hL => by
    have hlt := (List.getElem?_eq_some_iff.1 hk).1
    simp [hlt] at hL) (by rw [opsOf_range]; exact h)
  simpa using this
end
end
end Go.Proofs.Ytgjjfjibfleonaa
