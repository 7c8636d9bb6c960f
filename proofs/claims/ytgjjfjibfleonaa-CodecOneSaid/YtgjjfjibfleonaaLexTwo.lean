/-
  A region that draws its order, with two operations that make memory and that Go leaves unordered: a walk for each of the two orders.
-/
import Derived.Test.YtgjjfjibfleonaaLexL
namespace Go.Proofs.Ytgjjfjibfleonaa
set_option linter.unusedVariables false
section
variable {P : Program} {K0 : Act → World → Prop}
theorem lexO_main (kd : Oper → Nat) (S : World → Prop) (hk1 : ∀ o, kd o = 1 → Qu P o) (l : List Oper) (hns : Region.noSelect l.toArray = true) (rk : Nat → Nat) (x y : Nat)
    (hat : ∀ j o, l[j]? = some o → (∀ e ∈ o.after, Region.binds .any e = true → e.on < l.length ∧ rk e.on < rk j) ∧ ∀ i u, rk i < rk j → l[i]? = some u → ((bef l).getD j 0).testBit i = true ∨ pairB kd l.toArray u o = true ∨ (i = x ∧ j = y) ∨ (i = y ∧ j = x)) :
    ∀ (n : Nat) (rem : List Nat) (listed : Array Bool) (a : Act) (w : World), S w → rem.length = n → (∀ j, j ∈ rem ↔ listed.getD j true = false) → rem.Pairwise (fun i j => rk i < rk j) → ¬ (x ∈ rem ∧ y ∈ rem) → listed.size = l.length →
      (∀ k o, l[k]? = some o → listed.getD k false = true → ∀ e ∈ o.after, Region.binds .any e = true → listed.getD e.on false = true) →
      wpLex P l.toArray S kd K0 (opsOf l rem) a w → wpAny P .any l.toArray (Only K0) n listed a w := by
  have hsel : ∀ (j : Nat) (o : Oper), l[j]? = some o → ∀ cs b, o.op ≠ .select cs b := fun j o ho cs b => Region.noSelect_spec hns j o cs b (by simpa using ho)
  intro n
  induction n with
  | zero =>
    intro rem listed a w _ hn hmem _ _ _ _ h
    have : rem = [] := List.eq_nil_of_length_eq_zero hn
    subst this
    refine ⟨?_, h⟩
    rw [List.eq_nil_iff_forall_not_mem]
    intro j hj
    have := (hmem j).2 (mem_ready.1 hj).1
    simp at this
  | succ n ih =>
    intro rem listed a w hS hn hmem hpw hxy hsz hcl h
    have inr : ∀ j, j ∈ rem → j < l.length := fun j hj => by
      have := (hmem j).1 hj
      rcases Nat.lt_or_ge j listed.size with h' | h'
      · omega
      · simp [Array.getElem?_eq_none h'] at this
    have unl : ∀ j, j < l.length → j ∉ rem → listed.getD j false = true := fun j hj hm => by
      have : ¬ listed.getD j true = false := fun e => hm ((hmem j).2 e)
      have hlt : j < listed.size := by omega
      simp [hlt] at this ⊢
      exact this
    refine ⟨fun h0 => ?_, fun j hj => ?_⟩
    · exfalso
      match rem, hn with
      | m :: rem', _ =>
        have hm : m ∈ m :: rem' := by simp
        have hml := inr m hm
        have ho : l[m]? = some l[m] := List.getElem?_eq_getElem hml
        have : m ∈ Region.ready .any l.toArray listed := mem_ready.2 ⟨(hmem m).1 hm, l[m], by simp, fun e he hb => by
          obtain ⟨hlt0, hlt⟩ := (hat m _ ho).1 e he hb
          refine unl e.on hlt0 (fun hin => ?_)
          rcases List.mem_cons.1 hin with hin | hin
          · rw [hin] at hlt
            omega
          · have := (List.pairwise_cons.1 hpw).1 _ hin
            omega⟩
        rw [h0] at this
        cases this
    · obtain ⟨hun, o, ho, hpre⟩ := mem_ready.1 hj
      have ho' : l[j]? = some o := by simpa using ho
      have hin : j ∈ rem := (hmem j).2 hun
      obtain ⟨pre, post, rfl⟩ := List.append_of_mem hin
      rw [List.pairwise_append] at hpw
      obtain ⟨hp1, hp2, hp3⟩ := hpw
      have hjl := inr j hin
      -- none of those before it is waited for
      have hpair : ∀ i u, i ∈ pre → l[i]? = some u → pairB kd l.toArray u o = true := fun i u hi hx => by
        have hij : rk i < rk j := hp3 i hi j (by simp)
        rcases (hat j o ho').2 i u hij hx with hb | hb | hb
        · exfalso
          have := bef_spec (fun k => listed.getD k false = true) l (fun k o hk hL => hcl k o hk hL) j o ho' (fun e he hb => hpre e he hb) i hb
          have h2 := (hmem i).1 (by simp [hi])
          have hlt : i < listed.size := by have := inr i (by simp [hi]); omega
          simp [hlt] at this h2
          rw [this] at h2
          cases h2
        · exact hb
        · exfalso
          rcases hb with ⟨rfl, rfl⟩ | ⟨rfl, rfl⟩
          · exact hxy ⟨by simp [hi], by simp⟩
          · exact hxy ⟨by simp, by simp [hi]⟩
      have hnj : j ∉ pre ++ post := by
        intro hm
        rcases List.mem_append.1 hm with hm | hm
        · have := hp3 j hm j (by simp); omega
        · have := (List.pairwise_cons.1 hp2).1 j hm; omega
      have hK : ∀ a' w', S w' → wpLex P l.toArray S kd K0 (opsOf l (pre ++ post)) a' w' → wpAny P .any l.toArray (Only K0) n (listed.setIfInBounds j true) a' w' := by
        intro a' w' hS' h'
        refine ih (pre ++ post) _ a' w' hS' (by simp at hn ⊢; omega) (fun i => ?_) ?_ (fun ⟨q1, q2⟩ => hxy ⟨by simp at q1 ⊢; rcases q1 with q1 | q1 <;> simp [q1], by simp at q2 ⊢; rcases q2 with q2 | q2 <;> simp [q2]⟩) (by simpa using hsz) ?_ h'
        · by_cases hij : j = i
          · subst hij
            have hlt : j < listed.size := by omega
            constructor
            · intro hm; exact absurd hm hnj
            · intro hm; simp [hlt] at hm
          · rw [getD_set_ne true hij, ← hmem i]
            simp [Ne.symm hij]
        · rw [List.pairwise_append]
          exact ⟨hp1, (List.pairwise_cons.1 hp2).2, fun x hx y hy => hp3 x hx y (by simp [hy])⟩
        · intro k o' hk hL e he hb
          refine getD_set_true ?_
          by_cases hjk : j = k
          · subst hjk
            rw [ho'] at hk
            cases hk
            exact hpre e he hb
          · rw [getD_set_ne false hjk] at hL
            exact hcl k o' hk hL e he hb
      rw [opsOf_append, opsOf_cons ho'] at h
      have hpx : ∀ x ∈ opsOf l pre, pairB kd l.toArray x o = true ∧ ∀ cs b, x.op ≠ .select cs b := fun x hx => by
        obtain ⟨i, hi, hx'⟩ := mem_opsOf hx
        exact ⟨hpair i x hi hx', hsel i x hx'⟩
      rw [opsOf_append] at hK
      by_cases k0 : kd o = 0
      · obtain ⟨v, hv, h1⟩ := front_pu k0 (hsel j o ho') (opsOf l pre) a w hS (fun x hx => by
          obtain ⟨hb, hs⟩ := hpx x hx
          simp only [pairB, Bool.and_eq_true] at hb
          exact ⟨hb.1.2, hs⟩) h
        exact (yif_yw hv hS).wpOp ho (hK _ _ hS h1)
      · by_cases k1 : kd o = 1
        · obtain ⟨v, hv, h1⟩ := front_qu ⟨k1, hk1 o k1⟩ (hsel j o ho') (opsOf l pre) a w hS (fun x hx => by
            obtain ⟨hb, hs⟩ := hpx x hx
            simp only [pairB, Bool.and_eq_true, Bool.or_eq_true, beq_iff_eq] at hb
            refine ⟨?_, hb.1.2, hs⟩
            rcases hb.2 with (hx0 | hx0) | hx0
            · exact .inl hx0
            · exact absurd hx0 k0
            · exact .inr ⟨hx0.1, hk1 x hx0.1⟩) h
          exact hv.wpOp ho (hK _ _ hS h1)
        · have h1 := front_any ho k0 (hsel j o ho') (opsOf l pre) a w hS (fun x hx => by
            obtain ⟨hb, hs⟩ := hpx x hx
            simp only [pairB, Bool.and_eq_true, Bool.or_eq_true, beq_iff_eq] at hb
            refine ⟨?_, hb.1.1, hs⟩
            rcases hb.2 with (hx0 | hx0) | hx0
            · exact hx0
            · exact absurd hx0 k0
            · exact absurd hx0.2 k1) h
          exact wpOp_mono (fun a' w' h2 => hK a' w' h2.1 h2.2) h1


/-- what must hold of an order: written as ranks -/
def rankOf (p : List Nat) (i : Nat) : Nat := p.idxOf i
def lexAt2 (kd : Oper → Nat) (l : List Oper) (b : Array Nat) (p : List Nat) (x y j : Nat) : Bool :=
  match l[j]? with
  | none => true
  | some o => (o.after.all fun e => !Region.binds .any e || (decide (e.on < l.length) && decide (rankOf p e.on < rankOf p j))) &&
    (List.range l.length).all fun i => match l[i]? with
      | none => true
      | some u => !decide (rankOf p i < rankOf p j) || (b.getD j 0).testBit i || pairB kd l.toArray u o || (i == x && j == y) || (i == y && j == x)
/-- of another kind than 0 only behind both -/
def lexAt2k (kd : Oper → Nat) (l : List Oper) (b : Array Nat) (x y j : Nat) : Bool :=
  match l[j]? with
  | none => true
  | some o => kd o == 0 || j == x || j == y || ((b.getD j 0).testBit x && (b.getD j 0).testBit y)
def lexB2 (kd : Oper → Nat) (l : List Oper) (p : List Nat) (x y : Nat) : Bool :=
  Region.noSelect l.toArray && (List.range l.length).all (fun j => lexAt2 kd l (bef l) p x y j && lexAt2k kd l (bef l) x y j && decide (j ∈ p)) && decide p.Nodup && decide (p.length = l.length) && p.all (fun j => decide (j < l.length))
theorem lexB2_spec {kd : Oper → Nat} {l : List Oper} {p : List Nat} {x y : Nat} (h : lexB2 kd l p x y = true) :
    Region.noSelect l.toArray = true ∧ (∀ j o, l[j]? = some o → (∀ e ∈ o.after, Region.binds .any e = true → e.on < l.length ∧ rankOf p e.on < rankOf p j) ∧ ∀ i u, rankOf p i < rankOf p j → l[i]? = some u → ((bef l).getD j 0).testBit i = true ∨ pairB kd l.toArray u o = true ∨ (i = x ∧ j = y) ∨ (i = y ∧ j = x)) ∧
    (∀ j o, l[j]? = some o → kd o = 0 ∨ j = x ∨ j = y ∨ (((bef l).getD j 0).testBit x = true ∧ ((bef l).getD j 0).testBit y = true)) ∧ (∀ j, j < l.length ↔ j ∈ p) ∧ p.Nodup ∧ p.length = l.length := by
  simp only [lexB2, Bool.and_eq_true, List.all_eq_true, List.mem_range, decide_eq_true_eq] at h
  obtain ⟨⟨⟨⟨h1, h2⟩, h3⟩, h4⟩, h5⟩ := h
  refine ⟨h1, fun j o ho => ?_, fun j o ho => ?_, fun j => ⟨fun hj => (h2 j hj).2, h5 j⟩, h3, h4⟩
  · have hj := (List.getElem?_eq_some_iff.1 ho).1
    have := (h2 j hj).1.1
    simp only [lexAt2, ho, Bool.and_eq_true, Array.all_eq_true_iff_forall_mem, List.all_eq_true, List.mem_range] at this
    refine ⟨fun e he hb => ?_, fun i u hi hu => ?_⟩
    · have h := this.1 e he
      simpa [hb] using h
    · have h := this.2 i (List.getElem?_eq_some_iff.1 hu).1
      simp only [hu, Bool.or_eq_true, Bool.not_eq_true', decide_eq_false_iff_not, Bool.and_eq_true, beq_iff_eq] at h
      rcases h with (((h | h) | h) | h) | h
      · exact absurd hi h
      · exact .inl h
      · exact .inr (.inl h)
      · exact .inr (.inr (.inl h))
      · exact .inr (.inr (.inr h))
  · have hj := (List.getElem?_eq_some_iff.1 ho).1
    have := (h2 j hj).1.2
    simp only [lexAt2k, ho, Bool.or_eq_true, Bool.and_eq_true, beq_iff_eq] at this
    rcases this with ((h | h) | h) | h
    · exact .inl h
    · exact .inr (.inl h)
    · exact .inr (.inr (.inl h))
    · exact .inr (.inr (.inr h))
theorem rank_inj {p : List Nat} (hp : p.Nodup) {i j : Nat} (hi : i ∈ p) (hj : j ∈ p) (h : rankOf p i = rankOf p j) : i = j := by
  have h1 := List.getElem_idxOf (List.idxOf_lt_length_of_mem hi)
  have h2 := List.getElem_idxOf (List.idxOf_lt_length_of_mem hj)
  unfold rankOf at h
  rw [← h1, ← h2]
  congr 1

theorem yif_same {ops : Array Oper} {S : World → Prop} {oj : Oper} {a : Act} {w : World} (hS : S w) {v v' : Value} (hy : YieldsIf P ops S oj v a) (hy' : YieldsIf P ops S oj v' a) : v = v' := yields_one hS hy hy'

theorem lex2_main (kd : Oper → Nat) (S : World → Prop) (hk1 : ∀ o, kd o = 1 → Qu P o) (l : List Oper) (p1 p2 : List Nat) (x y : Nat) (hB1 : lexB2 kd l p1 x y = true) (hB2 : lexB2 kd l p2 x y = true) (hx0 : ∀ o, l[x]? = some o → kd o ≠ 0 ∧ kd o ≠ 1) (hy0 : ∀ o, l[y]? = some o → kd o ≠ 0 ∧ kd o ≠ 1) (hlx : x < l.length) (hly : y < l.length) (hr1 : rankOf p1 x < rankOf p1 y) (hr2 : rankOf p2 y < rankOf p2 x) :
    ∀ (n : Nat) (r1 r2 : List Nat) (listed : Array Bool) (a : Act) (w : World), S w → r1.length = n → r2.length = n → (∀ j, j ∈ r1 ↔ listed.getD j true = false) → (∀ j, j ∈ r2 ↔ listed.getD j true = false) → r1.Pairwise (fun i j => rankOf p1 i < rankOf p1 j) → r2.Pairwise (fun i j => rankOf p2 i < rankOf p2 j) → x ∈ r1 → y ∈ r1 → listed.size = l.length →
      (∀ k o, l[k]? = some o → listed.getD k false = true → ∀ e ∈ o.after, Region.binds .any e = true → listed.getD e.on false = true) →
      wpLex P l.toArray S kd K0 (opsOf l r1) a w → wpLex P l.toArray S kd K0 (opsOf l r2) a w → wpAny P .any l.toArray (Only K0) n listed a w := by
  obtain ⟨hns, hat1, hkk, hin1, hnd1, hlen1⟩ := lexB2_spec hB1
  obtain ⟨_, hat2, _, hin2, hnd2, hlen2⟩ := lexB2_spec hB2
  have hsel : ∀ (j : Nat) (o : Oper), l[j]? = some o → ∀ cs b, o.op ≠ .select cs b := fun j o ho cs b => Region.noSelect_spec hns j o cs b (by simpa using ho)
  have hne : x ≠ y := fun e => by rw [e] at hr1; omega
  intro n
  induction n with
  | zero =>
    intro r1 r2 listed a w _ hn _ _ _ _ _ hx _ _ _ _ _
    rw [List.eq_nil_of_length_eq_zero hn] at hx
    cases hx
  | succ n ih =>
    intro r1 r2 listed a w hS hn1 hn2 hm1 hm2 hp1 hp2 hx hy hsz hcl h1 h2
    have inr : ∀ j, j ∈ r1 → j < l.length := fun j hj => by
      have := (hm1 j).1 hj
      rcases Nat.lt_or_ge j listed.size with h' | h'
      · omega
      · simp [Array.getElem?_eq_none h'] at this
    have unl : ∀ j, j < l.length → j ∉ r1 → listed.getD j false = true := fun j hj hm => by
      have : ¬ listed.getD j true = false := fun e => hm ((hm1 j).2 e)
      have hlt : j < listed.size := by omega
      simp [hlt] at this ⊢
      exact this
    have step : ∀ (r : List Nat) (p : List Nat), (∀ j, j ∈ r ↔ listed.getD j true = false) → r.length = n + 1 → ∀ j, j ∈ r → ∀ pre post, r = pre ++ j :: post → r.Pairwise (fun i j => rankOf p i < rankOf p j) →
        (pre ++ post).length = n ∧ (∀ i, i ∈ pre ++ post ↔ (listed.setIfInBounds j true).getD i true = false) ∧ (pre ++ post).Pairwise (fun i j => rankOf p i < rankOf p j) ∧ j ∉ pre ++ post ∧ (∀ i ∈ pre, rankOf p i < rankOf p j) := by
      intro r p hm hn j hj pre post hr hp
      subst hr
      rw [List.pairwise_append] at hp
      obtain ⟨q1, q2, q3⟩ := hp
      have hnj : j ∉ pre ++ post := by
        intro hin
        rcases List.mem_append.1 hin with hin | hin
        · have := q3 j hin j (by simp); omega
        · have := (List.pairwise_cons.1 q2).1 j hin; omega
      refine ⟨by simp at hn ⊢; omega, fun i => ?_, ?_, hnj, fun i hi => q3 i hi j (by simp)⟩
      · by_cases hij : j = i
        · subst hij
          have hlt : j < listed.size := by
            have := (hm j).1 hj
            rcases Nat.lt_or_ge j listed.size with h' | h'
            · exact h'
            · simp [Array.getElem?_eq_none h'] at this
          constructor
          · intro hin; exact absurd hin hnj
          · intro hin; simp [hlt] at hin
        · rw [getD_set_ne true hij, ← hm i]
          simp [Ne.symm hij]
      · rw [List.pairwise_append]
        exact ⟨q1, (List.pairwise_cons.1 q2).2, fun u hu v hv => q3 u hu v (by simp [hv])⟩
    have hcl' : ∀ j o, l[j]? = some o → (∀ e ∈ o.after, Region.binds .any e = true → listed.getD e.on false = true) → ∀ k o', l[k]? = some o' → (listed.setIfInBounds j true).getD k false = true → ∀ e ∈ o'.after, Region.binds .any e = true → (listed.setIfInBounds j true).getD e.on false = true := by
      intro j o ho hpre k o' hk hL e he hb
      refine getD_set_true ?_
      by_cases hjk : j = k
      · subst hjk
        rw [ho] at hk
        cases hk
        exact hpre e he hb
      · rw [getD_set_ne false hjk] at hL
        exact hcl k o' hk hL e he hb
    refine ⟨fun h0 => ?_, fun j hj => ?_⟩
    · exfalso
      match r1, hn1 with
      | m :: rem', _ =>
        have hm : m ∈ m :: rem' := by simp
        have hml := inr m hm
        have ho : l[m]? = some l[m] := List.getElem?_eq_getElem hml
        have : m ∈ Region.ready .any l.toArray listed := mem_ready.2 ⟨(hm1 m).1 hm, l[m], by simp, fun e he hb => by
          obtain ⟨hlt0, hlt⟩ := (hat1 m _ ho).1 e he hb
          refine unl e.on hlt0 (fun hin => ?_)
          rcases List.mem_cons.1 hin with hin | hin
          · rw [hin] at hlt
            omega
          · have := (List.pairwise_cons.1 hp1).1 _ hin
            omega⟩
        rw [h0] at this
        cases this
    · obtain ⟨hun, o, ho, hpre⟩ := mem_ready.1 hj
      have ho' : l[j]? = some o := by simpa using ho
      have hin : j ∈ r1 := (hm1 j).2 hun
      have hin2' : j ∈ r2 := (hm2 j).2 hun
      obtain ⟨pr1, po1, e1⟩ := List.append_of_mem hin
      obtain ⟨pr2, po2, e2⟩ := List.append_of_mem hin2'
      obtain ⟨s1, s2, s3, s4, s5⟩ := step r1 p1 hm1 hn1 j hin pr1 po1 e1 hp1
      obtain ⟨t1, t2, t3, t4, t5⟩ := step r2 p2 hm2 hn2 j hin2' pr2 po2 e2 hp2
      have nobef : ∀ i, i ∈ r1 → ¬ ((bef l).getD j 0).testBit i = true := fun i hi hb => by
        have := bef_spec (fun k => listed.getD k false = true) l (fun k o hk hL => hcl k o hk hL) j o ho' (fun e he hb => hpre e he hb) i hb
        have h2 := (hm1 i).1 hi
        have hlt : i < listed.size := by have := inr i hi; omega
        simp [hlt] at this h2
        rw [this] at h2
        cases h2
      have in12 : ∀ i, i ∈ r2 → i ∈ r1 := fun i hi => (hm1 i).2 ((hm2 i).1 hi)
      rw [e1, opsOf_append, opsOf_cons ho'] at h1
      rw [e2, opsOf_append, opsOf_cons ho'] at h2
      by_cases hjx : j = x
      · subst hjx
        have hxp : ∀ i u, i ∈ pr1 → l[i]? = some u → pairB kd l.toArray u o = true := fun i u hi hu => by
          rcases (hat1 j o ho').2 i u (s5 i hi) hu with hb | hb | ⟨q1, q2⟩ | ⟨q1, q2⟩
          · exact absurd hb (nobef i (by rw [e1]; simp [hi]))
          · exact hb
          · exact absurd q2 hne
          · rw [q1] at hi; have := s5 y hi; omega
        have hko := hx0 o ho'
        have h3 := front_any (ops := l.toArray) ho hko.1 (hsel j o ho') (opsOf l pr1) a w hS (fun u hu => by
          obtain ⟨i, hi, hu'⟩ := mem_opsOf hu
          have hb := hxp i u hi hu'
          simp only [pairB, Bool.and_eq_true, Bool.or_eq_true, beq_iff_eq] at hb
          refine ⟨?_, hb.1.1, hsel i u hu'⟩
          rcases hb.2 with (q | q) | q
          · exact q
          · exact absurd q hko.1
          · exact absurd q.2 hko.2) h1
        refine wpOp_mono (fun a' w' h4 => ?_) h3
        rw [← opsOf_append] at h4
        exact lexO_main kd S hk1 l hns (rankOf p1) j y hat1 n (pr1 ++ po1) _ a' w' h4.1 s1 s2 s3 (fun h => s4 h.1) (by simpa using hsz) (hcl' j o ho' hpre) h4.2
      by_cases hjy : j = y
      · subst hjy
        have hxp : ∀ i u, i ∈ pr2 → l[i]? = some u → pairB kd l.toArray u o = true := fun i u hi hu => by
          rcases (hat2 j o ho').2 i u (t5 i hi) hu with hb | hb | ⟨q1, q2⟩ | ⟨q1, q2⟩
          · exact absurd hb (nobef i (in12 i (by rw [e2]; simp [hi])))
          · exact hb
          · rw [q1] at hi; have := t5 x hi; omega
          · exact absurd q2.symm hne
        have hko := hy0 o ho'
        have h3 := front_any (ops := l.toArray) ho hko.1 (hsel j o ho') (opsOf l pr2) a w hS (fun u hu => by
          obtain ⟨i, hi, hu'⟩ := mem_opsOf hu
          have hb := hxp i u hi hu'
          simp only [pairB, Bool.and_eq_true, Bool.or_eq_true, beq_iff_eq] at hb
          refine ⟨?_, hb.1.1, hsel i u hu'⟩
          rcases hb.2 with (q | q) | q
          · exact q
          · exact absurd q hko.1
          · exact absurd q.2 hko.2) h2
        refine wpOp_mono (fun a' w' h4 => ?_) h3
        rw [← opsOf_append] at h4
        exact lexO_main kd S hk1 l hns (rankOf p2) x j hat2 n (pr2 ++ po2) _ a' w' h4.1 t1 t2 t3 (fun h => t4 h.2) (by simpa using hsz) (hcl' j o ho' hpre) h4.2
      have k0 : kd o = 0 := by
        rcases hkk j o ho' with q | q | q | q
        · exact q
        · exact absurd q hjx
        · exact absurd q hjy
        · exact absurd q.1 (nobef x hx)
      have pk : ∀ (p : List Nat) (hat : ∀ j o, l[j]? = some o → (∀ e ∈ o.after, Region.binds .any e = true → e.on < l.length ∧ rankOf p e.on < rankOf p j) ∧ ∀ i u, rankOf p i < rankOf p j → l[i]? = some u → ((bef l).getD j 0).testBit i = true ∨ pairB kd l.toArray u o = true ∨ (i = x ∧ j = y) ∨ (i = y ∧ j = x)) (pr : List Nat), (∀ i ∈ pr, i ∈ r1 ∧ rankOf p i < rankOf p j) → ∀ u ∈ opsOf l pr, o.apart l.toArray u = true ∧ ∀ cs b, u.op ≠ .select cs b := by
        intro p hat pr hpr u hu
        obtain ⟨i, hi, hu'⟩ := mem_opsOf hu
        refine ⟨?_, hsel i u hu'⟩
        rcases (hat j o ho').2 i u (hpr i hi).2 hu' with hb | hb | ⟨q1, q2⟩ | ⟨q1, q2⟩
        · exact absurd hb (nobef i (hpr i hi).1)
        · simp only [pairB, Bool.and_eq_true] at hb
          exact hb.1.2
        · exact absurd q2 hjy
        · exact absurd q2 hjx
      obtain ⟨v1, y1, g1⟩ := front_pu (ops := l.toArray) k0 (hsel j o ho') (opsOf l pr1) a w hS (pk p1 hat1 pr1 (fun i hi => ⟨by rw [e1]; simp [hi], s5 i hi⟩)) h1
      obtain ⟨v2, y2, g2⟩ := front_pu (ops := l.toArray) k0 (hsel j o ho') (opsOf l pr2) a w hS (pk p2 hat2 pr2 (fun i hi => ⟨in12 i (by rw [e2]; simp [hi]), t5 i hi⟩)) h2
      obtain rfl : v1 = v2 := yields_one hS y1 y2
      rw [← opsOf_append] at g1 g2
      refine (yif_yw y1 hS).wpOp ho (ih (pr1 ++ po1) (pr2 ++ po2) _ _ w hS s1 t1 s2 t2 s3 t3 ?_ ?_ (by simpa using hsz) (hcl' j o ho' hpre) g1 g2)
      · rw [e1] at hx
        simp at hx ⊢
        rcases hx with q | q | q
        · exact .inl q
        · exact absurd q.symm hjx
        · exact .inr q
      · rw [e1] at hy
        simp at hy ⊢
        rcases hy with q | q | q
        · exact .inl q
        · exact absurd q.symm hjy
        · exact .inr q

/-- THE LAW: p1 and p2 are two orders of the operations; in p1 operation x comes first, in p2 operation y -/
theorem wp_region_two (S : World → Prop) (p1 p2 : List Nat) (x y : Nat) {id : Nat} {l : List Oper} {Q : Exit → Act → World → Prop} {a : Act} {w : World}
    (hm : P.follows .mixedOrders = true) (hB1 : lexB2 kindL l p1 x y = true) (hB2 : lexB2 kindL l p2 x y = true) (hk : ((List.range l.length).all fun j => !(j == x || j == y) || match l[j]? with | none => false | some o => kindL o == 2) = true)
    (hlx : x < l.length) (hly : y < l.length) (hr1 : rankOf p1 x < rankOf p1 y) (hr2 : rankOf p2 y < rankOf p2 x) (hS : S w.drew)
    (h1 : wpLex P l.toArray S kindL (Q .normal) (opsOf l p1) a w.drew) (h2 : wpLex P l.toArray S kindL (Q .normal) (opsOf l p2) a w.drew) : (Code.region id l.toArray true).wp P Q a w := by
  refine Code.wp_mono Only.to (wp_region_any hm ?_)
  obtain ⟨_, _, _, hin1, hnd1, hlen1⟩ := lexB2_spec hB1
  obtain ⟨_, _, _, hin2, hnd2, hlen2⟩ := lexB2_spec hB2
  have kinds : ∀ j, j = x ∨ j = y → ∀ o, l[j]? = some o → kindL o ≠ 0 ∧ kindL o ≠ 1 := by
    intro j hj o ho
    have := List.all_eq_true.1 hk j (List.mem_range.2 (List.getElem?_eq_some_iff.1 ho).1)
    rcases hj with rfl | rfl <;> simp [ho] at this <;> omega
  have mem : ∀ (p : List Nat), (∀ j, j < l.length ↔ j ∈ p) → ∀ j, j ∈ p ↔ (Array.replicate l.length false).getD j true = false := by
    intro p hin j
    rw [← hin j]
    by_cases hj : j < l.length
    · simp [hj]
    · simp [hj]
  have pw : ∀ (p : List Nat), p.Nodup → p.Pairwise (fun i j => rankOf p i < rankOf p j) := by
    intro p hp
    rw [List.pairwise_iff_getElem]
    intro i j hi hj hij
    unfold rankOf
    rw [List.Nodup.idxOf_getElem hp, List.Nodup.idxOf_getElem hp]
    exact hij
  have := lex2_main (K0 := Q .normal) kindL S (fun o => kindL_one) l p1 p2 x y hB1 hB2 (kinds x (.inl rfl)) (kinds y (.inr rfl)) hlx hly hr1 hr2 l.length p1 p2 (Array.replicate l.length false) a w.drew hS hlen1 hlen2 (mem p1 hin1) (mem p2 hin2) (pw p1 hnd1) (pw p2 hnd2) ((hin1 x).1 hlx) ((hin1 y).1 hly) (by simp) (fun k o hk hL => by
    have hlt := (List.getElem?_eq_some_iff.1 hk).1
    simp [hlt] at hL) h1 h2
  simpa using this
end
end Go.Proofs.Ytgjjfjibfleonaa
