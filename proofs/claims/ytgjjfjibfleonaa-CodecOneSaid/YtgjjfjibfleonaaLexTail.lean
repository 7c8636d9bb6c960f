/-
  The law of XLexL with a tail: the last operations of the region stand behind all the others, and are walked one after another; the class of worlds is asked only ahead of them.
-/
import Derived.Test.YtgjjfjibfleonaaLexL
namespace Go.Proofs.Ytgjjfjibfleonaa
set_option linter.unusedVariables false

def tailB (l : List Oper) (n1 : Nat) : Bool := (List.range l.length).all fun j => decide (j < n1) || (List.range j).all fun i => ((bef l).getD j 0).testBit i
theorem tailB_spec {l : List Oper} {n1 : Nat} (h : tailB l n1 = true) {j : Nat} (h1 : n1 ≤ j) (h2 : j < l.length) {i : Nat} (hi : i < j) : ((bef l).getD j 0).testBit i = true := by
  unfold tailB at h
  rw [List.all_eq_true] at h
  have := h j (by simpa using h2)
  simp only [Bool.or_eq_true, decide_eq_true_eq, List.all_eq_true, List.mem_range] at this
  rcases this with h | h
  · omega
  · exact h i hi
def listedAt (l : List Oper) (n1 : Nat) : Array Bool := ((List.range l.length).map (fun i => decide (i < n1))).toArray
section
variable {P : Program} {K0 : Act → World → Prop}
theorem wpOp_only {ops : Array Oper} {j : Nat} {K K1 K2 : Act → World → Prop} {a : Act} {w : World} (h : wpOp P ops (Only K1) j K a w) : wpOp P ops (Only K2) j K a w := by
  unfold wpOp at *
  cases hj : ops[j]? with
  | none => simp only [hj] at h ⊢; exact h
  | some o =>
    simp only [hj] at h ⊢
    split
    · rename_i hw
      simp only [hw, if_true] at h
      rcases h with h | ⟨_, h⟩
      · exact .inl (wp_only h)
      · exact (Only_out h).elim
    · rename_i hw
      simp only [hw] at h
      exact h
theorem tail_main (kd : Oper → Nat) (S : World → Prop) (hk1 : ∀ o, kd o = 1 → Qu P o) (l : List Oper) (n1 : Nat) (hn1 : n1 ≤ l.length) (hB : lexB kd l = true) (hT : tailB l n1 = true) {K1 : Act → World → Prop}
    (hK1 : ∀ a w, K1 a w → wpAny P .any l.toArray (Only K0) (l.length - n1) (listedAt l n1) a w) :
    ∀ (n : Nat) (rem : List Nat) (listed : Array Bool) (a : Act) (w : World), S w → rem.length = n → (∀ j ∈ rem, j < n1) → (∀ j, (j ∈ rem ∨ (n1 ≤ j ∧ j < l.length)) ↔ listed.getD j true = false) → rem.Pairwise (· < ·) → listed.size = l.length →
      (∀ k o, l[k]? = some o → listed.getD k false = true → ∀ e ∈ o.after, Region.binds .any e = true → listed.getD e.on false = true) →
      wpLex P l.toArray S kd K1 (opsOf l rem) a w → wpAny P .any l.toArray (Only K0) (n + (l.length - n1)) listed a w := by
  have hns : Region.noSelect l.toArray = true := by simp [lexB] at hB; exact hB.1
  have hsel : ∀ (j : Nat) (o : Oper), l[j]? = some o → ∀ cs b, o.op ≠ .select cs b := fun j o ho cs b => Region.noSelect_spec hns j o cs b (by simpa using ho)
  have hat : ∀ j o, l[j]? = some o → (∀ e ∈ o.after, Region.binds .any e = true → e.on < j) ∧ ∀ i x, i < j → l[i]? = some x → ((bef l).getD j 0).testBit i = true ∨ pairB kd l.toArray x o = true := by
    intro j o ho
    have hlt := (List.getElem?_eq_some_iff.1 ho).1
    have h : lexAt kd l.toArray l (bef l) j = true := by
      simp only [lexB, Bool.and_eq_true, List.all_eq_true, List.mem_range] at hB
      exact hB.2 j hlt
    simp only [lexAt, ho, Bool.and_eq_true, Array.all_eq_true_iff_forall_mem, List.all_eq_true, List.mem_range] at h
    refine ⟨fun e he hb => ?_, fun i x hi hx => ?_⟩
    · have := h.1 e he
      simpa [hb] using this
    · have := h.2 i hi
      simpa [hx] using this
  intro n
  induction n with
  | zero =>
    intro rem listed a w _ hn _ hmem _ hsz _ h
    have : rem = [] := List.eq_nil_of_length_eq_zero hn
    subst this
    have : listed = listedAt l n1 := by
      apply Array.ext
      · rw [hsz]; simp [listedAt]
      · intro i h1 h2
        have hm := hmem i
        simp [h1] at hm
        simp only [listedAt, List.getElem_toArray, List.getElem_map, List.getElem_range]
        by_cases hi : i < n1
        · rw [decide_eq_true hi]
          cases hq : listed[i] with
          | true => rfl
          | false => have := hm.2 hq; omega
        · rw [decide_eq_false hi]
          exact hm.1 ⟨by omega, by omega⟩
    rw [this, Nat.zero_add]
    exact hK1 a w h
  | succ n ih =>
    intro rem listed a w hS hn hlo hmem hpw hsz hcl h
    rw [Nat.succ_add]
    have inr : ∀ j, j ∈ rem → j < l.length := fun j hj => by
      have := (hmem j).1 (.inl hj)
      rcases Nat.lt_or_ge j listed.size with h' | h'
      · omega
      · simp [Array.getElem?_eq_none h'] at this
    have unl : ∀ j, j < n1 → j ∉ rem → listed.getD j false = true := fun j hj hm => by
      have : ¬ listed.getD j true = false := fun e => by
        rcases (hmem j).2 e with h | h
        · exact hm h
        · omega
      have hlt : j < listed.size := by omega
      simp [hlt] at this ⊢
      exact this
    refine ⟨fun h0 => ?_, fun j hj => ?_⟩
    · exfalso
      match rem, hn with
      | m :: rem', _ =>
        have hm : m ∈ m :: rem' := by simp
        have hml := inr m hm
        have ho : l[m]? = some l[m] := List.getElem?_eq_getElem hml
        have : m ∈ Region.ready .any l.toArray listed := mem_ready.2 ⟨(hmem m).1 (.inl hm), l[m], by simp, fun e he hb => by
          have hlt := (hat m _ ho).1 e he hb
          refine unl e.on (by have := hlo m hm; omega) (fun hin => ?_)
          rcases List.mem_cons.1 hin with rfl | hin
          · omega
          · have := (List.pairwise_cons.1 hpw).1 _ hin
            omega⟩
        rw [h0] at this
        cases this
    · obtain ⟨hun, o, ho, hpre⟩ := mem_ready.1 hj
      have ho' : l[j]? = some o := by simpa using ho
      have hin : j ∈ rem := by
        rcases (hmem j).2 hun with hin | ⟨hj1, hj2⟩
        · exact hin
        · exfalso
          match rem, hn with
          | m :: rem', _ =>
            have hm : m ∈ m :: rem' := by simp
            have hm1 := hlo m hm
            have hb := tailB_spec hT hj1 hj2 (show m < j by omega)
            have := bef_spec (fun k => listed.getD k false = true) l (fun k o hk hL => hcl k o hk hL) j o ho' (fun e he hb => hpre e he hb) m hb
            have h2 := (hmem m).1 (.inl hm)
            have hlt : m < listed.size := by omega
            simp [hlt] at this h2
            rw [this] at h2
            cases h2
      obtain ⟨pre, post, rfl⟩ := List.append_of_mem hin
      rw [List.pairwise_append] at hpw
      obtain ⟨hp1, hp2, hp3⟩ := hpw
      have hjl := inr j hin
      -- none of those before it is waited for
      have hpair : ∀ i x, i ∈ pre → l[i]? = some x → pairB kd l.toArray x o = true := fun i x hi hx => by
        have hij : i < j := hp3 i hi j (by simp)
        rcases (hat j o ho').2 i x hij hx with hb | hb
        · exfalso
          have := bef_spec (fun k => listed.getD k false = true) l (fun k o hk hL => hcl k o hk hL) j o ho' (fun e he hb => hpre e he hb) i hb
          have h2 := (hmem i).1 (.inl (by simp [hi]))
          have hlt : i < listed.size := by omega
          simp [hlt] at this h2
          rw [this] at h2
          cases h2
        · exact hb
      have hnj : j ∉ pre ++ post := by
        intro hm
        rcases List.mem_append.1 hm with hm | hm
        · have := hp3 j hm j (by simp); omega
        · have := (List.pairwise_cons.1 hp2).1 j hm; omega
      have hK : ∀ a' w', S w' → wpLex P l.toArray S kd K1 (opsOf l (pre ++ post)) a' w' → wpAny P .any l.toArray (Only K0) (n + (l.length - n1)) (listed.setIfInBounds j true) a' w' := by
        intro a' w' hS' h'
        refine ih (pre ++ post) _ a' w' hS' (by simp at hn ⊢; omega) (fun i hi => hlo i (by rcases List.mem_append.1 hi with h | h <;> simp [h])) (fun i => ?_) ?_ (by simpa using hsz) ?_ h'
        · by_cases hij : j = i
          · subst hij
            have hlt : j < listed.size := by omega
            constructor
            · intro hm
              rcases hm with hm | hm
              · exact absurd hm hnj
              · have := hlo j hin; omega
            · intro hm; simp [hlt] at hm
          · rw [getD_set_ne true hij, ← hmem i]
            simp [Ne.symm hij]
        · rw [List.pairwise_append]
          exact ⟨hp1, (List.pairwise_cons.1 hp2).2, fun x hx y hy => hp3 x hx y (by simp [hy])⟩
        · intro k o' hk hL e he hb
          refine getD_set_true ?_
          by_cases hjk : j = k
          · subst hjk
            rw [ho'] at hk
            cases hk
            exact hpre e he hb
          · rw [getD_set_ne false hjk] at hL
            exact hcl k o' hk hL e he hb
      rw [opsOf_append, opsOf_cons ho'] at h
      have hpx : ∀ x ∈ opsOf l pre, pairB kd l.toArray x o = true ∧ ∀ cs b, x.op ≠ .select cs b := fun x hx => by
        obtain ⟨i, hi, hx'⟩ := mem_opsOf hx
        exact ⟨hpair i x hi hx', hsel i x hx'⟩
      rw [opsOf_append] at hK
      by_cases k0 : kd o = 0
      · obtain ⟨v, hv, h1⟩ := front_pu k0 (hsel j o ho') (opsOf l pre) a w hS (fun x hx => by
          obtain ⟨hb, hs⟩ := hpx x hx
          simp only [pairB, Bool.and_eq_true] at hb
          exact ⟨hb.1.2, hs⟩) h
        exact (yif_yw hv hS).wpOp ho (hK _ _ hS h1)
      · by_cases k1 : kd o = 1
        · obtain ⟨v, hv, h1⟩ := front_qu ⟨k1, hk1 o k1⟩ (hsel j o ho') (opsOf l pre) a w hS (fun x hx => by
            obtain ⟨hb, hs⟩ := hpx x hx
            simp only [pairB, Bool.and_eq_true, Bool.or_eq_true, beq_iff_eq] at hb
            refine ⟨?_, hb.1.2, hs⟩
            rcases hb.2 with (hx0 | hx0) | hx0
            · exact .inl hx0
            · exact absurd hx0 k0
            · exact .inr ⟨hx0.1, hk1 x hx0.1⟩) h
          exact hv.wpOp ho (hK _ _ hS h1)
        · have h1 := front_any ho k0 (hsel j o ho') (opsOf l pre) a w hS (fun x hx => by
            obtain ⟨hb, hs⟩ := hpx x hx
            simp only [pairB, Bool.and_eq_true, Bool.or_eq_true, beq_iff_eq] at hb
            refine ⟨?_, hb.1.1, hs⟩
            rcases hb.2 with (hx0 | hx0) | hx0
            · exact hx0
            · exact absurd hx0 k0
            · exact absurd hx0.2 k1) h
          exact wpOp_mono (fun a' w' h2 => hK a' w' h2.1 h2.2) (wpOp_only h1)

theorem listedAt_getD {l : List Oper} {k i : Nat} (d : Bool) (hi : i < l.length) : (listedAt l k).getD i d = decide (i < k) := by
  simp [listedAt, hi]
theorem listedAt_out {l : List Oper} {k i : Nat} (hi : l.length ≤ i) : (listedAt l k).getD i true = true := by
  simp [listedAt, hi]
theorem listedAt_set {l : List Oper} {k : Nat} (hk : k < l.length) : (listedAt l k).setIfInBounds k true = listedAt l (k + 1) := by
  apply Array.ext
  · simp [listedAt]
  · intro i h1 h2
    simp [listedAt, List.getElem_set]
    by_cases hi : k = i
    · simp [hi]
    · simp [hi]
      omega
/-- operations that stand one behind the other -/
theorem seq_main (l : List Oper) (n1 : Nat) (hB : ∀ j o, l[j]? = some o → ∀ e ∈ o.after, Region.binds .any e = true → e.on < j) (hT : tailB l n1 = true) :
    ∀ (m k : Nat), n1 ≤ k → k + m = l.length → ∀ a w, wpList P l.toArray (Only K0) (l.drop k) a w → wpAny P .any l.toArray (Only K0) m (listedAt l k) a w := by
  have hcl : ∀ k i o, l[i]? = some o → (listedAt l k).getD i false = true → ∀ e ∈ o.after, Region.binds .any e = true → (listedAt l k).getD e.on false = true := by
    intro k i o ho hL e he hb
    have hlt := (List.getElem?_eq_some_iff.1 ho).1
    have := hB i o ho e he hb
    rw [listedAt_getD _ hlt] at hL
    rw [listedAt_getD _ (by omega)]
    simp at hL ⊢
    omega
  intro m
  induction m with
  | zero =>
    intro k hk hl a w h
    rw [List.drop_eq_nil_of_le (by omega)] at h
    refine ⟨?_, h⟩
    rw [List.eq_nil_iff_forall_not_mem]
    intro j hj
    have := (mem_ready.1 hj).1
    rcases Nat.lt_or_ge j l.length with h1 | h1
    · rw [listedAt_getD _ h1] at this
      simp at this
      omega
    · rw [listedAt_out h1] at this
      cases this
  | succ m ih =>
    intro k hk hl a w h
    have hkl : k < l.length := by omega
    have hok : l[k]? = some l[k] := List.getElem?_eq_getElem hkl
    refine ⟨fun h0 => ?_, fun j hj => ?_⟩
    · exfalso
      have : k ∈ Region.ready .any l.toArray (listedAt l k) := mem_ready.2 ⟨by rw [listedAt_getD _ hkl]; simp, l[k], by simp, fun e he hb => by
        have := hB k _ hok e he hb
        rw [listedAt_getD _ (by omega)]
        simpa using this⟩
      rw [h0] at this
      cases this
    · obtain ⟨hun, o, ho, hpre⟩ := mem_ready.1 hj
      have ho' : l[j]? = some o := by simpa using ho
      have hjl := (List.getElem?_eq_some_iff.1 ho').1
      rw [listedAt_getD _ hjl] at hun
      simp at hun
      have hjk : j = k := by
        rcases Nat.lt_or_ge k j with h1 | h1
        · have := bef_spec (fun i => (listedAt l k).getD i false = true) l (hcl k) j o ho' (fun e he hb => hpre e he hb) k (tailB_spec hT (by omega) hjl h1)
          rw [listedAt_getD _ hkl] at this
          simp at this
        · omega
      subst hjk
      rw [List.drop_eq_getElem_cons hkl] at h
      have hK := ih (j + 1) (by omega) (by omega)
      rw [listedAt_set hkl]
      unfold wpOp
      rw [hok] at ho'
      cases ho'
      simp only [ho]
      simp only [wpList] at h
      split
      · rename_i hw
        simp only [hw, if_true] at h
        rcases h with h | ⟨_, h⟩
        · exact .inl (Oper.wp_mono (fun a' w' h => hK a' w' h) h)
        · exact (Only_out h).elim
      · rename_i hw
        simp only [hw] at h
        exact hK _ _ h
/-- THE LAW -/
theorem wp_region_tail (S : World → Prop) (n1 : Nat) {id : Nat} {l : List Oper} {Q : Exit → Act → World → Prop} {a : Act} {w : World}
    (hm : P.follows .mixedOrders = true) (hB : lexB kindL l = true) (hT : tailB l n1 = true) (hn1 : n1 ≤ l.length) (hS : S w.drew)
    (h : wpLex P l.toArray S kindL (fun a w => wpList P l.toArray (Only (Q .normal)) (l.drop n1) a w) (l.take n1) a w.drew) : (Code.region id l.toArray true).wp P Q a w := by
  refine Code.wp_mono Only.to (wp_region_any hm ?_)
  have hat : ∀ j o, l[j]? = some o → ∀ e ∈ o.after, Region.binds .any e = true → e.on < j := by
    intro j o ho e he hb
    have hlt := (List.getElem?_eq_some_iff.1 ho).1
    have h : lexAt kindL l.toArray l (bef l) j = true := by
      simp only [lexB, Bool.and_eq_true, List.all_eq_true, List.mem_range] at hB
      exact hB.2 j hlt
    simp only [lexAt, ho, Bool.and_eq_true, Array.all_eq_true_iff_forall_mem, List.all_eq_true, List.mem_range] at h
    have := h.1 e he
    simpa [hb] using this
  have htake : opsOf l (List.range n1) = l.take n1 := by
    have : ∀ (m : Nat) (hm : m ≤ l.length), (List.range m).filterMap (fun i => l[i]?) = l.take m := by
      intro m
      induction m with
      | zero => simp
      | succ m ih =>
        intro hm
        rw [List.range_succ, List.filterMap_append, ih (by omega)]
        rw [List.take_succ_eq_append_getElem (show m < l.length by omega)]
        congr 1
        rw [List.filterMap_cons, List.getElem?_eq_getElem (show m < l.length by omega)]
        rfl
    exact this n1 hn1
  have := tail_main (K0 := Q .normal) kindL S (fun o => kindL_one) l n1 hn1 hB hT (fun a w h => seq_main l n1 hat hT (l.length - n1) n1 (Nat.le_refl _) (by omega) a w h) n1 (List.range n1) (Array.replicate l.length false) a w.drew hS (by simp) (by simp) (fun j => by
    by_cases hj : j < l.length
    · simp [hj]; omega
    · simp [hj]; omega) List.pairwise_lt_range (by simp) (fun k o hk hL => by
    have hlt := (List.getElem?_eq_some_iff.1 hk).1
    simp [hlt] at hL) (by rw [htake]; exact h)
  rw [show n1 + (l.length - n1) = l.length by omega] at this
  simpa using this
end
end Go.Proofs.Ytgjjfjibfleonaa
