import Derived.Test.YtiblijmngokcgaaDoorKitS
import Derived.Test.YtiblijmngokcgaaDoorDiskAS
namespace Go.Proofs.YtiblijmngokcgaaDoor
set_option linter.unusedVariables false
section
variable {P : Program} {K0 : Act → World → Prop}
theorem lexE_main (kd : Oper → Nat) (S : World → Prop) (hk1 : ∀ o, kd o = 1 → Qu P o) (l : List Oper) (hns : Region.noSelect l.toArray = true) (rk : Nat → Nat) (ex : Nat → Nat → Prop)
    (hat : ∀ j o, l[j]? = some o → (∀ e ∈ o.after, Region.binds .any e = true → e.on < l.length ∧ rk e.on < rk j) ∧ ∀ i u, rk i < rk j → l[i]? = some u → ((bef l).getD j 0).testBit i = true ∨ pairB kd l.toArray u o = true ∨ ex i j) :
    ∀ (n : Nat) (rem : List Nat) (listed : Array Bool) (a : Act) (w : World), S w → rem.length = n → (∀ j, j ∈ rem ↔ listed.getD j true = false) → rem.Pairwise (fun i j => rk i < rk j) → (∀ i ∈ rem, ∀ j ∈ rem, ¬ ex i j) → listed.size = l.length →
      (∀ k o, l[k]? = some o → listed.getD k false = true → ∀ e ∈ o.after, Region.binds .any e = true → listed.getD e.on false = true) →
      wpLex P l.toArray S kd K0 (opsOf l rem) a w → wpAny P .any l.toArray (Only K0) n listed a w := by
  have hsel : ∀ (j : Nat) (o : Oper), l[j]? = some o → ∀ cs b, o.op ≠ .select cs b := fun j o ho cs b => Region.noSelect_spec hns j o cs b (by simpa using ho)
  intro n
  induction n with
  | zero =>
    intro rem listed a w _ hn hmem _ _ _ _ h
    have : rem = [] := List.eq_nil_of_length_eq_zero hn
    subst this
    refine ⟨?_, h⟩
    rw [List.eq_nil_iff_forall_not_mem]
    intro j hj
    have := (hmem j).2 (mem_ready.1 hj).1
    simp at this
  | succ n ih =>
    intro rem listed a w hS hn hmem hpw hxy hsz hcl h
    have inr : ∀ j, j ∈ rem → j < l.length := fun j hj => by
      have := (hmem j).1 hj
      rcases Nat.lt_or_ge j listed.size with h' | h'
      · omega
      · simp [Array.getElem?_eq_none h'] at this
    have unl : ∀ j, j < l.length → j ∉ rem → listed.getD j false = true := fun j hj hm => by
      have : ¬ listed.getD j true = false := fun e => hm ((hmem j).2 e)
      have hlt : j < listed.size := by omega
      simp [hlt] at this ⊢
      exact this
    refine ⟨fun h0 => ?_, fun j hj => ?_⟩
    · exfalso
      match rem, hn with
      | m :: rem', _ =>
        have hm : m ∈ m :: rem' := by simp
        have hml := inr m hm
        have ho : l[m]? = some l[m] := List.getElem?_eq_getElem hml
        have : m ∈ Region.ready .any l.toArray listed := mem_ready.2 ⟨(hmem m).1 hm, l[m], by simp, fun e he hb => by
          obtain ⟨hlt0, hlt⟩ := (hat m _ ho).1 e he hb
          refine unl e.on hlt0 (fun hin => ?_)
          rcases List.mem_cons.1 hin with hin | hin
          · rw [hin] at hlt
            omega
          · have := (List.pairwise_cons.1 hpw).1 _ hin
            omega⟩
        rw [h0] at this
        cases this
    · obtain ⟨hun, o, ho, hpre⟩ := mem_ready.1 hj
      have ho' : l[j]? = some o := by simpa using ho
      have hin : j ∈ rem := (hmem j).2 hun
      obtain ⟨pre, post, rfl⟩ := List.append_of_mem hin
      rw [List.pairwise_append] at hpw
      obtain ⟨hp1, hp2, hp3⟩ := hpw
      have hjl := inr j hin
      -- none of those before it is waited for
      have hpair : ∀ i u, i ∈ pre → l[i]? = some u → pairB kd l.toArray u o = true := fun i u hi hx => by
        have hij : rk i < rk j := hp3 i hi j (by simp)
        rcases (hat j o ho').2 i u hij hx with hb | hb | hb
        · exfalso
          have := bef_spec (fun k => listed.getD k false = true) l (fun k o hk hL => hcl k o hk hL) j o ho' (fun e he hb => hpre e he hb) i hb
          have h2 := (hmem i).1 (by simp [hi])
          have hlt : i < listed.size := by have := inr i (by simp [hi]); omega
          simp [hlt] at this h2
          rw [this] at h2
          cases h2
        · exact hb
        · exfalso
          exact hxy i (by simp [hi]) j (by simp) hb
      have hnj : j ∉ pre ++ post := by
        intro hm
        rcases List.mem_append.1 hm with hm | hm
        · have := hp3 j hm j (by simp); omega
        · have := (List.pairwise_cons.1 hp2).1 j hm; omega
      have hK : ∀ a' w', S w' → wpLex P l.toArray S kd K0 (opsOf l (pre ++ post)) a' w' → wpAny P .any l.toArray (Only K0) n (listed.setIfInBounds j true) a' w' := by
        intro a' w' hS' h'
        refine ih (pre ++ post) _ a' w' hS' (by simp at hn ⊢; omega) (fun i => ?_) ?_ (fun i hi j' hj' => hxy i (by simp at hi ⊢; rcases hi with hi | hi <;> simp [hi]) j' (by simp at hj' ⊢; rcases hj' with hj' | hj' <;> simp [hj'])) (by simpa using hsz) ?_ h'
        · by_cases hij : j = i
          · subst hij
            have hlt : j < listed.size := by omega
            constructor
            · intro hm; exact absurd hm hnj
            · intro hm; simp [hlt] at hm
          · rw [getD_set_ne true hij, ← hmem i]
            simp [Ne.symm hij]
        · rw [List.pairwise_append]
          exact ⟨hp1, (List.pairwise_cons.1 hp2).2, fun x hx y hy => hp3 x hx y (by simp [hy])⟩
        · intro k o' hk hL e he hb
          refine getD_set_true ?_
          by_cases hjk : j = k
          · subst hjk
            rw [ho'] at hk
            cases hk
            exact hpre e he hb
          · rw [getD_set_ne false hjk] at hL
            exact hcl k o' hk hL e he hb
      rw [opsOf_append, opsOf_cons ho'] at h
      have hpx : ∀ x ∈ opsOf l pre, pairB kd l.toArray x o = true ∧ ∀ cs b, x.op ≠ .select cs b := fun x hx => by
        obtain ⟨i, hi, hx'⟩ := mem_opsOf hx
        exact ⟨hpair i x hi hx', hsel i x hx'⟩
      rw [opsOf_append] at hK
      by_cases k0 : kd o = 0
      · obtain ⟨v, hv, h1⟩ := front_pu k0 (hsel j o ho') (opsOf l pre) a w hS (fun x hx => by
          obtain ⟨hb, hs⟩ := hpx x hx
          simp only [pairB, Bool.and_eq_true] at hb
          exact ⟨hb.1.2, hs⟩) h
        exact (yif_yw hv hS).wpOp ho (hK _ _ hS h1)
      · by_cases k1 : kd o = 1
        · obtain ⟨v, hv, h1⟩ := front_qu ⟨k1, hk1 o k1⟩ (hsel j o ho') (opsOf l pre) a w hS (fun x hx => by
            obtain ⟨hb, hs⟩ := hpx x hx
            simp only [pairB, Bool.and_eq_true, Bool.or_eq_true, beq_iff_eq] at hb
            refine ⟨?_, hb.1.2, hs⟩
            rcases hb.2 with (hx0 | hx0) | hx0
            · exact .inl hx0
            · exact absurd hx0 k0
            · exact .inr ⟨hx0.1, hk1 x hx0.1⟩) h
          exact hv.wpOp ho (hK _ _ hS h1)
        · have h1 := front_any ho k0 (hsel j o ho') (opsOf l pre) a w hS (fun x hx => by
            obtain ⟨hb, hs⟩ := hpx x hx
            simp only [pairB, Bool.and_eq_true, Bool.or_eq_true, beq_iff_eq] at hb
            refine ⟨?_, hb.1.1, hs⟩
            rcases hb.2 with (hx0 | hx0) | hx0
            · exact hx0
            · exact absurd hx0 k0
            · exact absurd hx0.2 k1) h
          exact wpOp_mono (fun a' w' h2 => hK a' w' h2.1 h2.2) h1
end
end Go.Proofs.YtiblijmngokcgaaDoor
namespace Go.Proofs.YtiblijmngokcgaaDoor
open Go.RowKit
set_option linter.unusedVariables false
def FExt (Z : Obj) (m : Option Nat) (w : World) (m1 : Option Nat) (w1 : World) : Prop := (m1 = m ∧ w1 = w) ∨ (m = none ∧ m1 = some w.heap.size ∧ w1 = w.alloc Z)
section
variable {P : Program} {ops : Array Oper} {K0 : Act → World → Prop} {S : World → Prop} {kd : Oper → Nat} {fx : Oper → Bool} {Z : Obj}
def wpMg (P : Program) (ops : Array Oper) (S : World → Prop) (kd : Oper → Nat) (fx : Oper → Bool) (Z : Obj) (K0 : Act → World → Prop) : List Oper → Option Nat → Act → World → Prop
  | [], _, a, w => K0 a w
  | o :: rest, m, a, w =>
    if fx o = true then ∀ X w1, FExt Z m w (some X) w1 → wpMg P ops S kd fx Z K0 rest (some X) (a.put o.dst (.pointer (some ⟨X, 0, none⟩))) w1
    else if kd o = 0 then ∃ v, YieldsIf P ops S o v a ∧ wpMg P ops S kd fx Z K0 rest m (a.put o.dst v) w
    else ∀ m1 w1, FExt Z m w m1 w1 → wpList P ops (Only (fun a' w' => S w' ∧ wpMg P ops S kd fx Z K0 rest m1 a' w')) [o] a w1
theorem mgX {o : Oper} {rest : List Oper} {m : Option Nat} {a : Act} {w : World} (hx : fx o = true) : wpMg P ops S kd fx Z K0 (o :: rest) m a w ↔ ∀ X w1, FExt Z m w (some X) w1 → wpMg P ops S kd fx Z K0 rest (some X) (a.put o.dst (.pointer (some ⟨X, 0, none⟩))) w1 := by
  show (if fx o = true then _ else _) ↔ _
  rw [if_pos hx]
theorem mg0 {o : Oper} {rest : List Oper} {m : Option Nat} {a : Act} {w : World} (hx : fx o = false) (hk : kd o = 0) : wpMg P ops S kd fx Z K0 (o :: rest) m a w ↔ ∃ v, YieldsIf P ops S o v a ∧ wpMg P ops S kd fx Z K0 rest m (a.put o.dst v) w := by
  show (if fx o = true then _ else _) ↔ _
  rw [if_neg (by simp [hx]), if_pos hk]
theorem mgE {o : Oper} {rest : List Oper} {m : Option Nat} {a : Act} {w : World} (hx : fx o = false) (hk : kd o ≠ 0) : wpMg P ops S kd fx Z K0 (o :: rest) m a w ↔ ∀ m1 w1, FExt Z m w m1 w1 → (if Region.wanted o (yielded ops a.tmps) = true then o.wp P a w1 (fun a' w' => S w' ∧ wpMg P ops S kd fx Z K0 rest m1 a' w') (Only K0) else (S w1 ∧ wpMg P ops S kd fx Z K0 rest m1 (a.put o.dst undef) w1)) := by
  show (if fx o = true then _ else if kd o = 0 then _ else _) ↔ _
  rw [if_neg (by simp [hx]), if_neg hk]
  refine forall_congr' fun m1 => forall_congr' fun w1 => imp_congr Iff.rfl ?_
  rw [wpList_one]
  split
  · exact ⟨wp_only, wp_only⟩
  · exact Iff.rfl
theorem mg_lex : ∀ (l : List Oper) (X : Nat) (a : Act) (w : World), (∀ o ∈ l, fx o = false) → wpMg P ops S kd fx Z K0 l (some X) a w → wpLex P ops S kd K0 l a w
  | [], _, _, _, _, h => h
  | o :: rest, X, a, w, hf, h => by
    have hx := hf o (by simp)
    have ih := fun a w => mg_lex rest X a w (fun o ho => hf o (by simp [ho]))
    by_cases hk : kd o = 0
    · obtain ⟨v, hv, h1⟩ := (mg0 hx hk).1 h
      exact yif_cons hk hv (ih _ _ h1)
    · have h1 := (mgE hx hk).1 h (some X) w (.inl ⟨rfl, rfl⟩)
      rw [lexStep hk]
      by_cases hw : Region.wanted o (yielded ops a.tmps) = true
      · simp only [hw, if_true] at h1 ⊢
        exact Oper.wp_mono (fun a' w' h2 => ⟨h2.1, ih _ _ h2.2⟩) h1
      · simp only [hw] at h1 ⊢
        exact ⟨h1.1, ih _ _ h1.2⟩
theorem mg_front {x : Oper} (hx : fx x = true) {post : List Oper} (hpost : ∀ o ∈ post, fx o = false) (X : Nat) :
    ∀ (pre : List Oper) (a : Act) (w : World), (∀ k ∈ pre, fx k = false ∧ x.apart ops k = true ∧ ∀ cs b, k.op ≠ .select cs b) → wpMg P ops S kd fx Z K0 (pre ++ x :: post) (some X) a w → wpLex P ops S kd K0 (pre ++ post) (a.put x.dst (.pointer (some ⟨X, 0, none⟩))) w
  | [], a, w, _, h => mg_lex _ X _ _ hpost ((mgX hx).1 h X w (.inl ⟨rfl, rfl⟩))
  | k :: pre, a, w, hp, h => by
    obtain ⟨hf, hap, hsk⟩ := hp k (by simp)
    have ih := fun a w => mg_front hx hpost X pre a w (fun x hx => hp x (by simp [hx]))
    have h' : wpMg P ops S kd fx Z K0 (k :: (pre ++ x :: post)) (some X) a w := h
    by_cases hk : kd k = 0
    · obtain ⟨u, hu, h1⟩ := (mg0 hf hk).1 h'
      obtain ⟨e3, e4⟩ := same_of_apart hsk hap a (.pointer (some ⟨X, 0, none⟩))
      refine yif_cons hk (hu.of_same e3 e4) ?_
      rw [Act.put_comm a (.pointer (some ⟨X, 0, none⟩)) u (Oper.apart_spec hap).2.1]
      exact ih _ _ h1
    · have h1 := (mgE hf hk).1 h' (some X) w (.inl ⟨rfl, rfl⟩)
      show wpLex P ops S kd K0 (k :: (pre ++ post)) _ _
      rw [lexStep hk, (same_of_apart hsk hap a (.pointer (some ⟨X, 0, none⟩))).2]
      by_cases hw : Region.wanted k (yielded ops a.tmps) = true
      · simp only [hw, if_true] at h1 ⊢
        refine wp_put_rev hap hsk ?_
        exact Oper.wp_mono (fun a' w' h2 => ⟨h2.1, ih _ _ h2.2⟩) h1
      · simp only [hw] at h1 ⊢
        rw [Act.put_comm a (.pointer (some ⟨X, 0, none⟩)) undef (Oper.apart_spec hap).2.1]
        exact ⟨h1.1, ih _ _ h1.2⟩
theorem mg_early {x : Oper} (hx : fx x = true) {post : List Oper} : ∀ (pre : List Oper) (a : Act) (w : World), (∀ k ∈ pre, fx k = false) → wpMg P ops S kd fx Z K0 (pre ++ x :: post) none a w → wpMg P ops S kd fx Z K0 (pre ++ x :: post) (some w.heap.size) a (w.alloc Z)
  | [], a, w, _, h => by
    refine (mgX hx).2 fun X w1 hE => ?_
    rcases hE with ⟨e1, e2⟩ | ⟨e1, _⟩
    · cases e1
      subst e2
      exact (mgX hx).1 h _ _ (.inr ⟨rfl, rfl, rfl⟩)
    · cases e1
  | k :: pre, a, w, hp, h => by
    have hf := hp k (by simp)
    have h' : wpMg P ops S kd fx Z K0 (k :: (pre ++ x :: post)) none a w := h
    show wpMg P ops S kd fx Z K0 (k :: (pre ++ x :: post)) _ _ _
    by_cases hk : kd k = 0
    · obtain ⟨u, hu, h1⟩ := (mg0 hf hk).1 h'
      exact (mg0 hf hk).2 ⟨u, hu, mg_early hx pre _ _ (fun x hx => hp x (by simp [hx])) h1⟩
    · refine (mgE hf hk).2 fun m1 w1 hE => ?_
      rcases hE with ⟨e1, e2⟩ | ⟨e1, _⟩
      · subst e1 e2
        exact (mgE hf hk).1 h' _ _ (.inr ⟨rfl, rfl, rfl⟩)
      · cases e1
theorem mg_pu {oj : Oper} (hj : kd oj = 0) (hfj : fx oj = false) (hsj : ∀ cs b, oj.op ≠ .select cs b) {post : List Oper} :
    ∀ (pre : List Oper) (m : Option Nat) (a : Act) (w : World), S w → (∀ k ∈ pre, fx k = false ∧ oj.apart ops k = true ∧ ∀ cs b, k.op ≠ .select cs b) → wpMg P ops S kd fx Z K0 (pre ++ oj :: post) m a w →
      ∃ v, YieldsIf P ops S oj v a ∧ wpMg P ops S kd fx Z K0 (pre ++ post) m (a.put oj.dst v) w
  | [], m, a, w, hS, _, h => (mg0 hfj hj).1 h
  | k :: pre, m, a, w, hS, hp, h => by
    obtain ⟨hf, hap, hsk⟩ := hp k (by simp)
    have ih := fun m a w hS => mg_pu hj hfj hsj (post := post) pre m a w hS (fun x hx => hp x (by simp [hx]))
    have back : ∀ u v, YieldsIf P ops S oj v (a.put k.dst u) → YieldsIf P ops S oj v a := fun u v hy =>
      hy.of_same (same_of_apart' hsj hap a u).1.symm (same_of_apart' hsj hap a u).2.symm
    have backD : ∀ d u v, YieldsIf P ops S oj v ({ a with defers := d :: a.defers }.put k.dst u) → YieldsIf P ops S oj v a := fun d u v hy => by
      have := hy.of_same (same_of_apart' hsj hap { a with defers := d :: a.defers } u).1.symm (same_of_apart' hsj hap { a with defers := d :: a.defers } u).2.symm
      exact this
    have h' : wpMg P ops S kd fx Z K0 (k :: (pre ++ oj :: post)) m a w := h
    by_cases hk : kd k = 0
    · obtain ⟨u, hu0, h1⟩ := (mg0 hf hk).1 h'
      obtain ⟨v, hv, h2⟩ := ih m _ w hS h1
      obtain ⟨e3, e4⟩ := same_of_apart hsk hap a v
      refine ⟨v, back u v hv, (mg0 hf hk).2 ⟨u, hu0.of_same e3 e4, ?_⟩⟩
      rw [Act.put_comm a v u (Oper.apart_spec hap).2.1]
      exact h2
    · have hall := (mgE hf hk).1 h'
      have h0 := hall m w (.inl ⟨rfl, rfl⟩)
      by_cases hw : Region.wanted k (yielded ops a.tmps) = true
      · simp only [hw, if_true] at h0 hall
        obtain ⟨v, hv⟩ : ∃ v, YieldsIf P ops S oj v a := by
          obtain ⟨u, w', h1 | ⟨d, h1⟩⟩ := outcome h0
          · obtain ⟨v, hv, _⟩ := ih m _ _ h1.1 h1.2
            exact ⟨v, back u v hv⟩
          · obtain ⟨v, hv, _⟩ := ih m _ _ h1.1 h1.2
            exact ⟨v, backD d u v hv⟩
        refine ⟨v, hv, ?_⟩
        show wpMg P ops S kd fx Z K0 (k :: (pre ++ post)) m (a.put oj.dst v) w
        refine (mgE hf hk).2 fun m1 w1 hE => ?_
        rw [(same_of_apart hsk hap a v).2]
        simp only [hw, if_true]
        refine wp_put_rev hap hsk ?_
        refine Oper.wp_mono (fun a' w' h1 => ?_) (wp_frames (hall m1 w1 hE))
        obtain ⟨⟨hS', h1⟩, hsh⟩ := h1
        obtain ⟨v', hv', h2⟩ := ih m1 _ _ hS' h1
        have : v = v' := by
          rcases hsh with ⟨u, rfl⟩ | ⟨d, u, rfl⟩
          · exact yields_one hS hv (back u v' hv')
          · exact yields_one hS hv (backD d u v' hv')
        subst this
        exact ⟨hS', h2⟩
      · simp only [hw] at h0 hall
        obtain ⟨v, hv, _⟩ := ih m _ _ h0.1 h0.2
        refine ⟨v, back _ v hv, ?_⟩
        show wpMg P ops S kd fx Z K0 (k :: (pre ++ post)) m (a.put oj.dst v) w
        refine (mgE hf hk).2 fun m1 w1 hE => ?_
        rw [(same_of_apart hsk hap a v).2]
        simp only [hw]
        rw [Act.put_comm a v undef (Oper.apart_spec hap).2.1]
        have h1 := hall m1 w1 hE
        obtain ⟨v', hv', h2⟩ := ih m1 _ _ h1.1 h1.2
        have : v = v' := yields_one hS (back _ v hv) (back _ v' hv')
        subst this
        exact ⟨h1.1, h2⟩
theorem mg_any {j : Nat} {oj : Oper} (hj : ops[j]? = some oj) (hfj : fx oj = false) (hkj : kd oj ≠ 0) (hsj : ∀ cs b, oj.op ≠ .select cs b) {post : List Oper} (m : Option Nat) :
    ∀ (pre : List Oper) (a : Act) (w : World), (∀ k ∈ pre, fx k = false ∧ kd k = 0 ∧ k.apart ops oj = true ∧ ∀ cs b, k.op ≠ .select cs b) → wpMg P ops S kd fx Z K0 (pre ++ oj :: post) m a w →
      wpOp P ops (Only K0) j (fun a' w' => S w' ∧ wpMg P ops S kd fx Z K0 (pre ++ post) m a' w') a w
  | [], a, w, _, h => by
    have h1 := (mgE hfj hkj).1 h m w (.inl ⟨rfl, rfl⟩)
    unfold wpOp
    simp only [hj]
    split
    · rename_i hw
      simp only [hw, if_true] at h1
      exact .inl h1
    · rename_i hw
      simp only [hw] at h1
      exact h1
  | k :: pre, a, w, hp, h => by
    obtain ⟨hf, hk, hap, hsk⟩ := hp k (by simp)
    have h' : wpMg P ops S kd fx Z K0 (k :: (pre ++ oj :: post)) m a w := h
    obtain ⟨u, hu, h1⟩ := (mg0 hf hk).1 h'
    have h2 := mg_any hj hfj hkj hsj (post := post) m pre (a.put k.dst u) w (fun x hx => hp x (by simp [hx])) h1
    have h3 := wpOp_putIf hj hap hsk hsj (fun c a w h => h) hu h2
    refine wpOp_mono (fun a' w' h4 => ?_) h3
    obtain ⟨hy, hS', h5⟩ := h4
    exact ⟨hS', (mg0 hf hk).2 ⟨u, hy, h5⟩⟩
end
section
variable {P : Program} {K0 : Act → World → Prop}
theorem mg_main (kd : Oper → Nat) (S : World → Prop) (fx : Oper → Bool) (Z : Obj) (hk1 : ∀ o, kd o = 1 → Qu P o) (l : List Oper) (hns : Region.noSelect l.toArray = true) (x : Nat) (ox : Oper) (hox : l[x]? = some ox) (hfx : ∀ i u, l[i]? = some u → (fx u = true ↔ i = x)) (hgx : ox.guard = none)
    (hrun : ∀ (a : Act) (w : World), (execOp a.eval ox).run P w = .ok (.value (.pointer (some ⟨w.heap.size, 0, none⟩))) (w.alloc Z)) (hSZ : ∀ w, S w → S (w.alloc Z))
    (hat : ∀ j o, l[j]? = some o → (∀ e ∈ o.after, Region.binds .any e = true → e.on < l.length ∧ e.on < j) ∧ ∀ i u, i < j → l[i]? = some u → ((bef l).getD j 0).testBit i = true ∨ pairB kd l.toArray u o = true ∨ (i = x ∨ j = x))
    (hxa : ∀ i u, i < x → l[i]? = some u → ((bef l).getD x 0).testBit i = true ∨ ox.apart l.toArray u = true) (hxb : ∀ j o, x < j → l[j]? = some o → ((bef l).getD j 0).testBit x = true) (hkk : ∀ i u, l[i]? = some u → i ≠ x → kd u ≠ 1) :
    ∀ (n : Nat) (rem : List Nat) (listed : Array Bool) (a : Act) (w : World), S w → rem.length = n → (∀ j, j ∈ rem ↔ listed.getD j true = false) → rem.Pairwise (fun i j => i < j) → x ∈ rem → listed.size = l.length →
      (∀ k o, l[k]? = some o → listed.getD k false = true → ∀ e ∈ o.after, Region.binds .any e = true → listed.getD e.on false = true) →
      wpMg P l.toArray S kd fx Z K0 (opsOf l rem) none a w → wpAny P .any l.toArray (Only K0) n listed a w := by
  have hsel : ∀ (j : Nat) (o : Oper), l[j]? = some o → ∀ cs b, o.op ≠ .select cs b := fun j o ho cs b => Region.noSelect_spec hns j o cs b (by simpa using ho)
  intro n
  induction n with
  | zero =>
    intro rem listed a w _ hn hmem _ hx _ _ h
    rw [List.eq_nil_of_length_eq_zero hn] at hx
    cases hx
  | succ n ih =>
    intro rem listed a w hS hn hmem hpw hxr hsz hcl h
    have inr : ∀ j, j ∈ rem → j < l.length := fun j hj => by
      have := (hmem j).1 hj
      rcases Nat.lt_or_ge j listed.size with h' | h'
      · omega
      · simp [Array.getElem?_eq_none h'] at this
    have unl : ∀ j, j < l.length → j ∉ rem → listed.getD j false = true := fun j hj hm => by
      have : ¬ listed.getD j true = false := fun e => hm ((hmem j).2 e)
      have hlt : j < listed.size := by omega
      simp [hlt] at this ⊢
      exact this
    refine ⟨fun h0 => ?_, fun j hj => ?_⟩
    · exfalso
      match rem, hn with
      | m :: rem', _ =>
        have hm : m ∈ m :: rem' := by simp
        have hml := inr m hm
        have ho : l[m]? = some l[m] := List.getElem?_eq_getElem hml
        have : m ∈ Region.ready .any l.toArray listed := mem_ready.2 ⟨(hmem m).1 hm, l[m], by simp, fun e he hb => by
          obtain ⟨hlt0, hlt⟩ := (hat m _ ho).1 e he hb
          refine unl e.on hlt0 (fun hin => ?_)
          rcases List.mem_cons.1 hin with hin | hin
          · omega
          · have := (List.pairwise_cons.1 hpw).1 _ hin
            omega⟩
        rw [h0] at this
        cases this
    · obtain ⟨hun, o, ho, hpre⟩ := mem_ready.1 hj
      have ho' : l[j]? = some o := by simpa using ho
      have hin : j ∈ rem := (hmem j).2 hun
      obtain ⟨pre, post, rfl⟩ := List.append_of_mem hin
      rw [List.pairwise_append] at hpw
      obtain ⟨hp1, hp2, hp3⟩ := hpw
      have hjl := inr j hin
      have nobef : ∀ i, i ∈ pre ++ j :: post → ¬ ((bef l).getD j 0).testBit i = true := fun i hi hb => by
        have := bef_spec (fun k => listed.getD k false = true) l (fun k o hk hL => hcl k o hk hL) j o ho' (fun e he hb => hpre e he hb) i hb
        have h2 := (hmem i).1 hi
        have hlt : i < listed.size := by have := inr i hi; omega
        simp [hlt] at this h2
        rw [this] at h2
        cases h2
      have hnj : j ∉ pre ++ post := by
        intro hm
        rcases List.mem_append.1 hm with hm | hm
        · have := hp3 j hm j (by simp); omega
        · have := (List.pairwise_cons.1 hp2).1 j hm; omega
      have q1 : (pre ++ post).length = n := by simp at hn ⊢; omega
      have q2 : ∀ i, i ∈ pre ++ post ↔ (listed.setIfInBounds j true).getD i true = false := by
        intro i
        by_cases hij : j = i
        · subst hij
          have hlt : j < listed.size := by omega
          constructor
          · intro hm; exact absurd hm hnj
          · intro hm; simp [hlt] at hm
        · rw [getD_set_ne true hij, ← hmem i]
          simp [Ne.symm hij]
      have q3 : (pre ++ post).Pairwise (fun i j => i < j) := by
        rw [List.pairwise_append]
        exact ⟨hp1, (List.pairwise_cons.1 hp2).2, fun x hx y hy => hp3 x hx y (by simp [hy])⟩
      have q4 : ∀ k o', l[k]? = some o' → (listed.setIfInBounds j true).getD k false = true → ∀ e ∈ o'.after, Region.binds .any e = true → (listed.setIfInBounds j true).getD e.on false = true := by
        intro k o' hk hL e he hb
        refine getD_set_true ?_
        by_cases hjk : j = k
        · subst hjk
          rw [ho'] at hk
          cases hk
          exact hpre e he hb
        · rw [getD_set_ne false hjk] at hL
          exact hcl k o' hk hL e he hb
      rw [opsOf_append, opsOf_cons ho'] at h
      by_cases hjx : j = x
      · subst hjx
        obtain rfl : o = ox := by rw [hox] at ho'; cases ho'; rfl
        have hxo : fx o = true := (hfx j o ho').2 rfl
        have noX : ∀ r : List Nat, j ∉ r → ∀ u ∈ opsOf l r, fx u = false := fun r hr u hu => by
          obtain ⟨i, hi, hu'⟩ := mem_opsOf hu
          cases hf : fx u
          · rfl
          · exact absurd ((hfx i u hu').1 hf ▸ hi) hr
        have hpreX : j ∉ pre := fun hm => hnj (by simp [hm])
        have hpostX : j ∉ post := fun hm => hnj (by simp [hm])
        have hapx : ∀ k ∈ opsOf l pre, fx k = false ∧ o.apart l.toArray k = true ∧ ∀ cs b, k.op ≠ .select cs b := fun k hk => by
          obtain ⟨i, hi, hk'⟩ := mem_opsOf hk
          refine ⟨noX pre hpreX k hk, ?_, hsel i k hk'⟩
          rcases hxa i k (hp3 i hi j (by simp)) hk' with hb | hb
          · exact absurd hb (nobef i (by simp [hi]))
          · exact hb
        have h1 := mg_front hxo (noX post hpostX) _ _ _ _ hapx (mg_early hxo _ _ _ (fun k hk => (hapx k hk).1) h)
        rw [← opsOf_append] at h1
        have h2 := lexE_main kd S hk1 l hns (fun j => j) (fun i k => i = j ∨ k = j) hat n (pre ++ post) (listed.setIfInBounds j true) _ _ (hSZ w hS) q1 q2 q3 (fun i hi k hk h => by rcases h with q | q; exact hnj (q ▸ hi); exact hnj (q ▸ hk)) (by simpa using hsz) q4 h1
        unfold wpOp
        simp only [ho]
        have hw : Region.wanted o (yielded l.toArray a.tmps) = true := by unfold Region.wanted; rw [hgx]
        simp only [hw, if_true]
        refine .inl ?_
        unfold Oper.wp
        rw [hrun]
        exact h2
      · have hfo : fx o = false := by
          cases hf : fx o
          · rfl
          · exact absurd ((hfx j o ho').1 hf) hjx
        have hjlt : j < x := by
          rcases Nat.lt_trichotomy j x with h' | h' | h'
          · exact h'
          · exact absurd h' hjx
          · exact absurd (hxb j o h' ho') (nobef x hxr)
        have hxpre : x ∉ pre := fun hm => by have := hp3 x hm j (by simp); omega
        have hpx : ∀ u ∈ opsOf l pre, fx u = false ∧ pairB kd l.toArray u o = true ∧ (∀ cs b, u.op ≠ .select cs b) := fun u hu => by
          obtain ⟨i, hi, hu'⟩ := mem_opsOf hu
          have hix : i ≠ x := fun e => hxpre (e ▸ hi)
          refine ⟨?_, ?_, hsel i u hu'⟩
          · cases hf : fx u
            · rfl
            · exact absurd ((hfx i u hu').1 hf) hix
          · rcases (hat j o ho').2 i u (hp3 i hi j (by simp)) hu' with hb | hb | hb | hb
            · exact absurd hb (nobef i (by simp [hi]))
            · exact hb
            · exact absurd hb hix
            · exact absurd hb hjx
        have hxin : x ∈ pre ++ post := by
          simp at hxr ⊢
          rcases hxr with q | q | q
          · exact .inl q
          · exact absurd q.symm hjx
          · exact .inr q
        have hK : ∀ a' w', S w' → wpMg P l.toArray S kd fx Z K0 (opsOf l pre ++ opsOf l post) none a' w' → wpAny P .any l.toArray (Only K0) n (listed.setIfInBounds j true) a' w' := by
          intro a' w' hS' h'
          rw [← opsOf_append] at h'
          exact ih (pre ++ post) _ a' w' hS' q1 q2 q3 hxin (by simpa using hsz) q4 h'
        by_cases k0 : kd o = 0
        · obtain ⟨v, hv, h1⟩ := mg_pu k0 hfo (hsel j o ho') (opsOf l pre) none a w hS (fun u hu => by
            obtain ⟨hf, hb, hs⟩ := hpx u hu
            simp only [pairB, Bool.and_eq_true] at hb
            exact ⟨hf, hb.1.2, hs⟩) h
          exact (yif_yw hv hS).wpOp ho (hK _ _ hS h1)
        · have h1 := mg_any ho hfo k0 (hsel j o ho') none (opsOf l pre) a w (fun u hu => by
            obtain ⟨hf, hb, hs⟩ := hpx u hu
            simp only [pairB, Bool.and_eq_true, Bool.or_eq_true, beq_iff_eq] at hb
            refine ⟨hf, ?_, hb.1.1, hs⟩
            rcases hb.2 with (hx0 | hx0) | hx0
            · exact hx0
            · exact absurd hx0 k0
            · exact absurd hx0.2 (hkk j o ho' hjx)) h
          exact wpOp_mono (fun a' w' h2 => hK a' w' h2.1 h2.2) h1
def fxOf (d : Nat) (o : Oper) : Bool := o.dst == some d
def floatAt (l : List Oper) (b : Array Nat) (x j : Nat) : Bool :=
  match l[j]? with
  | none => true
  | some o => (o.after.all fun e => !Region.binds .any e || decide (e.on < j)) &&
    (List.range j).all fun i => match l[i]? with
      | none => true
      | some u => (b.getD j 0).testBit i || pairB kindL l.toArray u o || i == x || j == x
def floatB (l : List Oper) (x d : Nat) (t : TypeId) : Bool :=
  Region.noSelect l.toArray && (match l[x]? with | none => false | some o => o.guard.isNone && (match o.op with | .alloc t' => t' == t | _ => false) && (List.range x).all fun i => match l[i]? with | none => true | some u => ((bef l).getD x 0).testBit i || o.apart l.toArray u) &&
  (List.range l.length).all fun j => floatAt l (bef l) x j && (decide (j ≤ x) || ((bef l).getD j 0).testBit x) && (match l[j]? with | none => true | some o => (fxOf d o == (j == x)) && (j == x || !(kindL o == 1)))
theorem wp_region_float (S : World → Prop) (x d : Nat) (t : TypeId) (Z : Obj) {id : Nat} {l : List Oper} {Q : Exit → Act → World → Prop} {a : Act} {w : World}
    (hm : P.follows .mixedOrders = true) (hB : floatB l x d t = true) (hrun : ∀ (ρ : Operand → Value) (o : Oper) (w : World), o.op = .alloc t → (execOp ρ o).run P w = .ok (.value (.pointer (some ⟨w.heap.size, 0, none⟩))) (w.alloc Z)) (hSZ : ∀ w, S w → S (w.alloc Z)) (hS : S w.drew)
    (h : wpMg P l.toArray S kindL (fxOf d) Z (Q .normal) l none a w.drew) : (Code.region id l.toArray true).wp P Q a w := by
  refine Code.wp_mono Only.to (wp_region_any hm ?_)
  simp only [floatB, Bool.and_eq_true, List.all_eq_true, List.mem_range] at hB
  obtain ⟨⟨b1, b2⟩, b3⟩ := hB
  match hox : l[x]?, b2 with
  | some ox, b2 =>
    simp only [Bool.and_eq_true, List.all_eq_true, List.mem_range] at b2
    obtain ⟨⟨g1, g2⟩, g3⟩ := b2
    have hop : ox.op = .alloc t := by
      split at g2
      · rename_i t' ht'
        rw [ht', beq_iff_eq.1 g2]
      · cases g2
    have hx := (List.getElem?_eq_some_iff.1 hox).1
    have := mg_main (P := P) (K0 := Q .normal) kindL S (fxOf d) Z (fun o => kindL_one) l b1 x ox hox (fun i u hu => by
      have h3 := (b3 i (List.getElem?_eq_some_iff.1 hu).1).2
      simp only [hu, Bool.and_eq_true, beq_iff_eq] at h3
      rw [h3.1]
      simp) (by simpa using g1) (fun a w => hrun a.eval ox w hop) hSZ (fun j o ho => by
      have h3 := (b3 j (List.getElem?_eq_some_iff.1 ho).1).1.1
      simp only [floatAt, ho, Bool.and_eq_true, Array.all_eq_true_iff_forall_mem, List.all_eq_true, List.mem_range] at h3
      have hjl := (List.getElem?_eq_some_iff.1 ho).1
      refine ⟨fun e he hb => ?_, fun i u hi hu => ?_⟩
      · have h := h3.1 e he
        have : e.on < j := by simpa [hb] using h
        exact ⟨by omega, this⟩
      · have h := h3.2 i hi
        simp only [hu, Bool.or_eq_true, beq_iff_eq] at h
        rcases h with ((h | h) | h) | h
        · exact .inl h
        · exact .inr (.inl h)
        · exact .inr (.inr (.inl h))
        · exact .inr (.inr (.inr h))) (fun i u hi hu => by
      have h := g3 i hi
      simp only [hu, Bool.or_eq_true] at h
      exact h) (fun j o hj ho => by
      have h3 := (b3 j (List.getElem?_eq_some_iff.1 ho).1).1.2
      simp only [Bool.or_eq_true, decide_eq_true_eq] at h3
      rcases h3 with h3 | h3
      · omega
      · exact h3) (fun i u hu hix => by
      have h3 := (b3 i (List.getElem?_eq_some_iff.1 hu).1).2
      simp only [hu, Bool.and_eq_true, Bool.or_eq_true, beq_iff_eq, Bool.not_eq_true', beq_eq_false_iff_ne] at h3
      rcases h3.2 with q | q
      · exact absurd q hix
      · exact q) l.length (List.range l.length) (Array.replicate l.length false) a w.drew hS (by simp) (fun j => by
      by_cases hj : j < l.length
      · simp [hj]
      · simp [hj]) List.pairwise_lt_range (by simpa using hx) (by simp) (fun k o hk hL => by
      have hlt := (List.getElem?_eq_some_iff.1 hk).1
      simp [hlt] at hL) (by rw [opsOf_range]; exact h)
    simpa using this
section
variable {ops : Array Oper} {S : World → Prop} {d : Nat} {Z : Obj}
theorem mgL_q0 {o : Oper} {m : Option Nat} {a : Act} {w : World} {rest : List Oper} (hf : fxOf d o = false) (hk : kindOf o = 0) (h : wpQuiet P ops (fun _ => True) (fun a' => wpMg P ops S kindL (fxOf d) Z K0 rest m a' w) [o] a) : wpMg P ops S kindL (fxOf d) Z K0 (o :: rest) m a w := by
  have hk' : kindL o = 0 := by
    unfold kindL
    split
    · rfl
    · exact hk
  simp only [wpQuiet] at h
  by_cases hw : Region.wanted o (yielded ops a.tmps) = true
  · simp only [hw, if_true] at h
    obtain ⟨v, hv, h⟩ := h
    refine (mg0 hf hk').2 ⟨v, .inl ⟨hw, fun w' hw' => ?_⟩, h⟩
    have := hv w' trivial
    unfold Oper.quietAt at this
    cases hr : (execOp a.eval o).run P w' with
    | halt x w1 => rw [hr] at this; exact this.elim
    | ok n w1 =>
      obtain ⟨u, rfl⟩ := val0 hk a.eval w' n w1 hr
      rw [hr] at this
      obtain ⟨e1, e2⟩ := this
      rw [e1, e2]
  · simp only [hw] at h
    exact (mg0 hf hk').2 ⟨undef, .inr ⟨by simpa using hw, rfl⟩, h⟩
theorem mgL_ld {o : Oper} {m : Option Nat} {a : Act} {w : World} {rest : List Oper} {t : TypeId} {x : Operand} (A : Addr) (v : Value) (hf : fxOf d o = false) (ho : o.op = .load t x) (hw : Region.wanted o (yielded ops a.tmps) = true) (hx : a.eval x = .pointer (some A))
    (hv : ∀ w', S w' → (loadVar t A).run P w' = .ok v w') (h : wpMg P ops S kindL (fxOf d) Z K0 rest m (a.put o.dst v) w) : wpMg P ops S kindL (fxOf d) Z K0 (o :: rest) m a w := by
  refine (mg0 hf (by unfold kindL; rw [ho])).2 ⟨v, .inl ⟨hw, fun w' hw' => ?_⟩, h⟩
  unfold execOp
  simp only [ho, hx, Instr.loadAt, Instr.sureAddr, Sem.run_bind, Sem.run_pure, Result.andThen_ok, hv w' hw']
theorem mgL_skip0 {o : Oper} {m : Option Nat} {a : Act} {w : World} {rest : List Oper} (hf : fxOf d o = false) (hk : kindL o = 0) (hw : Region.wanted o (yielded ops a.tmps) = false) (h : wpMg P ops S kindL (fxOf d) Z K0 rest m (a.put o.dst undef) w) : wpMg P ops S kindL (fxOf d) Z K0 (o :: rest) m a w :=
  (mg0 hf hk).2 ⟨undef, .inr ⟨hw, rfl⟩, h⟩
theorem mgL_e {o : Oper} {m : Option Nat} {a : Act} {w : World} {rest : List Oper} (hf : fxOf d o = false) (hk : (kindL o == 0) = false) (h : ∀ m1 w1, FExt Z m w m1 w1 → wpList P ops (Only (fun a' w' => S w' ∧ wpMg P ops S kindL (fxOf d) Z K0 rest m1 a' w')) [o] a w1) : wpMg P ops S kindL (fxOf d) Z K0 (o :: rest) m a w := by
  show (if fxOf d o = true then _ else if kindL o = 0 then _ else _)
  rw [if_neg (by simp [hf]), if_neg (by simpa using hk)]
  exact h
theorem mgL_d {o : Oper} {X : Nat} {a : Act} {w : World} {rest : List Oper} (hf : fxOf d o = false) (hk : (kindL o == 0) = false) (h : wpList P ops (Only (fun a' w' => S w' ∧ wpMg P ops S kindL (fxOf d) Z K0 rest (some X) a' w')) [o] a w) : wpMg P ops S kindL (fxOf d) Z K0 (o :: rest) (some X) a w :=
  mgL_e hf hk fun m1 w1 hE => by
    rcases hE with ⟨rfl, rfl⟩ | ⟨e, _⟩
    · exact h
    · cases e
theorem mgL_x {o : Oper} {m : Option Nat} {a : Act} {w : World} {rest : List Oper} (hf : fxOf d o = true) (h : ∀ X w1, FExt Z m w (some X) w1 → wpMg P ops S kindL (fxOf d) Z K0 rest (some X) (a.put o.dst (.pointer (some ⟨X, 0, none⟩))) w1) : wpMg P ops S kindL (fxOf d) Z K0 (o :: rest) m a w := (mgX hf).2 h
theorem mgL_go {m : Option Nat} {a : Act} {w : World} {rest : List Oper} (hS : S w) (h : wpMg P ops S kindL (fxOf d) Z K0 rest m a w) : Only (fun a' w' => S w' ∧ wpMg P ops S kindL (fxOf d) Z K0 rest m a' w') .normal a w := ⟨hS, h⟩
theorem mgL_nil {m : Option Nat} {a : Act} {w : World} (h : K0 a w) : wpMg P ops S kindL (fxOf d) Z K0 [] m a w := h
end
end
def Bx (B : Nat) (Z : Obj) (m : Option Nat) (w : World) : Prop := ∀ X, m = some X → B ≤ X ∧ w.heap[X]? = some Z
theorem Bx.none_ (B : Nat) (Z : Obj) (w : World) : Bx B Z none w := fun X h => by cases h
theorem FExt.below {Z : Obj} {m m1 : Option Nat} {w w1 : World} (h : FExt Z m w m1 w1) : Below w.heap.size w w1 := by
  rcases h with ⟨_, rfl⟩ | ⟨_, _, rfl⟩
  · exact Below.refl _ _
  · exact (Below.refl _ _).alloc (Nat.le_refl _) _
theorem FExt.bx {B : Nat} {Z : Obj} {m m1 : Option Nat} {w w1 : World} (h : FExt Z m w m1 w1) (hb : Bx B Z m w) (hB : B ≤ w.heap.size) : Bx B Z m1 w1 := by
  rcases h with ⟨rfl, rfl⟩ | ⟨_, rfl, rfl⟩
  · exact hb
  · intro X e
    cases e
    exact ⟨hB, heap_alloc_new _ _⟩
theorem FExt.ne {Z : Obj} {m m1 : Option Nat} {w w1 : World} (h : FExt Z m w m1 w1) {b : Nat} (hb : b < w.heap.size) (hne : m ≠ some b) : m1 ≠ some b := by
  rcases h with ⟨rfl, rfl⟩ | ⟨_, rfl, rfl⟩
  · exact hne
  · intro e
    cases e
    exact Nat.lt_irrefl _ hb
theorem Bx.lt {B : Nat} {Z : Obj} {m : Option Nat} {w : World} (h : Bx B Z m w) {b : Nat} (hb : w.heap.size ≤ b) : m ≠ some b := fun e => by
  have := (Array.getElem?_eq_some_iff.1 (h b e).2).1
  omega
theorem Bx.ext {B : Nat} {Z : Obj} {m : Option Nat} {w w' : World} (h : Bx B Z m w) (hb : Below w.heap.size w w') : Bx B Z m w' := fun X e => ⟨(h X e).1, (hb.block X (Array.getElem?_eq_some_iff.1 (h X e).2).1).trans (h X e).2⟩
theorem Bx.grown {B g : Nat} {Z : Obj} {m : Option Nat} {w w' : World} (h : Bx B Z m w) (hg : w.grownBy w' (some g)) (hlt : g < B) : Bx B Z m w' := fun X e => ⟨(h X e).1, (hg.block X (Array.getElem?_eq_some_iff.1 (h X e).2).1 (fun e' => by cases e'; have := (h _ e).1; omega)).trans (h X e).2⟩
theorem row_alloc {w : World} {g : Nat} {o : Obj} (h : w.heap[g]? = some o) (Z : Obj) : (w.alloc Z).heap[g]? = some o := (((Below.refl _ w).alloc (Nat.le_refl _) Z).block g (Array.getElem?_eq_some_iff.1 h).1).trans h
theorem run_alloc_op {P : Program} {t : TypeId} {i : TypeInfo} {z : Value} (hi : P.info? t = some i) (hz : i.zero = some z) (ρ : Operand → Value) (o : Oper) (w : World) (ho : o.op = .alloc t) : (execOp ρ o).run P w = .ok (.value (.pointer (some ⟨w.heap.size, 0, none⟩))) (w.alloc (.cells z.cells t)) := by
  unfold execOp
  simp only [ho]
  simp [Instr.alloc, zeroValue, typeInfo, hi, hz, newVar, newRow]
end Go.Proofs.YtiblijmngokcgaaDoor
namespace Go.Proofs.YtiblijmngokcgaaDoor
open Go.RowKit
set_option linter.unusedVariables false
end Go.Proofs.YtiblijmngokcgaaDoor
