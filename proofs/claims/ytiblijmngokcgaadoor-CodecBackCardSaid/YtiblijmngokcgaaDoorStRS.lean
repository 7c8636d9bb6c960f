import Derived.Test.YtiblijmngokcgaaDoorTreeS
import Derived.Test.YtiblijmngokcgaaDoorCodecBS
namespace Go.Proofs.YtiblijmngokcgaaDoor
open Go.RowKit
set_option linter.unusedVariables false
set_option linter.unusedSimpArgs false
def snds (idx : Int) : Nat → List Ef → List Snd
  | _, [] => []
  | o, e :: l => if e.kind = 1 then ⟨idx, (o : Int), e.to, e.value⟩ :: snds idx (o + 1) l else snds idx o l
def outsE (idx : Int) : List Ef → List Ou
  | [] => []
  | e :: l => if e.kind = 1 then outsE idx l else ⟨idx, e.value⟩ :: outsE idx l
def cntS : List Ef → Nat
  | [] => 0
  | e :: l => if e.kind = 1 then cntS l + 1 else cntS l
theorem snds_snoc (idx : Int) (e : Ef) : ∀ (l : List Ef) (o : Nat), snds idx o (l ++ [e]) = snds idx o l ++ (if e.kind = 1 then [⟨idx, ((o + cntS l : Nat) : Int), e.to, e.value⟩] else [])
  | [], o => by simp [snds, cntS]
  | a :: l, o => by
    rw [List.cons_append]
    unfold snds cntS
    by_cases h : a.kind = 1
    · rw [if_pos h, if_pos h, if_pos h, snds_snoc idx e l (o + 1), List.cons_append]
      have : o + 1 + cntS l = o + (cntS l + 1) := by omega
      rw [this]
    · rw [if_neg h, if_neg h, if_neg h, snds_snoc idx e l o]
theorem outsE_snoc (idx : Int) (e : Ef) : ∀ (l : List Ef), outsE idx (l ++ [e]) = outsE idx l ++ (if e.kind = 1 then [] else [⟨idx, e.value⟩])
  | [] => by simp [outsE]
  | a :: l => by
    rw [List.cons_append]
    unfold outsE
    by_cases h : a.kind = 1
    · rw [if_pos h, if_pos h, outsE_snoc idx e l]
    · rw [if_neg h, if_neg h, outsE_snoc idx e l, List.cons_append]
theorem cntS_snoc (e : Ef) : ∀ (l : List Ef), cntS (l ++ [e]) = cntS l + (if e.kind = 1 then 1 else 0)
  | [] => by simp [cntS]
  | a :: l => by
    rw [List.cons_append]
    unfold cntS
    by_cases h : a.kind = 1
    · rw [if_pos h, if_pos h, cntS_snoc e l]; omega
    · rw [if_neg h, if_neg h, cntS_snoc e l]
theorem cntS_le : ∀ (l : List Ef), cntS l ≤ l.length
  | [] => by simp [cntS]
  | a :: l => by
    have := cntS_le l
    unfold cntS
    split <;> simp <;> omega
theorem snds_len (idx : Int) : ∀ (l : List Ef) (o : Nat), (snds idx o l).length = cntS l
  | [], o => rfl
  | a :: l, o => by
    unfold snds cntS
    split
    · rw [List.length_cons, snds_len idx l]
    · exact snds_len idx l o
theorem outsE_len (idx : Int) : ∀ (l : List Ef), (outsE idx l).length + cntS l = l.length
  | [] => rfl
  | a :: l => by
    have := outsE_len idx l
    unfold outsE cntS
    split
    · rw [List.length_cons]; omega
    · rw [List.length_cons, List.length_cons]; omega
def ExR (body : List Sm) (v : Env) (idx : Int) (s s' : Stt) : Prop := ∃ r ok, RunL v body ⟨s.cells, [], 0⟩ r ok ∧ s' = ⟨r.cells, s.evs, s.sent ++ snds idx 0 r.l, s.outs ++ outsE idx r.l⟩
theorem ExR.uniq {body : List Sm} {v : Env} {idx : Int} {s a b : Stt} (h : ExR body v idx s a) (k : ExR body v idx s b) : a = b := by
  obtain ⟨r, ok, h1, rfl⟩ := h
  obtain ⟨r', ok', h2, rfl⟩ := k
  obtain ⟨rfl, _⟩ := RunL.uniq (r2 := r) (b := ok) h1 h2
  rfl
structure Cd where
  init : List Int
  st : List Sm
  me : List Sm
  ti : List Sm
  inp : List Sm
def StartR (c : Cd) (self procs : Int) (s : Stt) : Prop := ExR c.st ⟨self, procs, self, 0⟩ 0 ⟨c.init, [], [], []⟩ s
def addEv (s : Stt) (e : Ev) : Stt := { s with evs := s.evs ++ [e] }
def NextR (c : Cd) (self procs : Int) (s : Stt) (e : Ev) (s' : Stt) : Prop :=
  if e.k0 = 1 then ExR c.me ⟨self, procs, e.k2, e.k6⟩ ((s.evs.length + 1 : Nat) : Int) (addEv s e) s'
  else if e.k0 = 2 then ExR c.ti ⟨self, procs, self, e.k6⟩ ((s.evs.length + 1 : Nat) : Int) (addEv s e) s'
  else if e.k0 = 3 then ExR c.inp ⟨self, procs, self, e.k6⟩ ((s.evs.length + 1 : Nat) : Int) (addEv s e) s' else s' = addEv s e
theorem NextR.uniq {c : Cd} {self procs : Int} {s a b : Stt} {e : Ev} (h : NextR c self procs s e a) (k : NextR c self procs s e b) : a = b := by
  unfold NextR at h k
  split at h
  · rw [if_pos (by assumption)] at k; exact h.uniq k
  · rw [if_neg (by assumption)] at k
    split at h
    · rw [if_pos (by assumption)] at k; exact h.uniq k
    · rw [if_neg (by assumption)] at k
      split at h
      · rw [if_pos (by assumption)] at k; exact h.uniq k
      · rw [if_neg (by assumption)] at k; rw [h, k]
inductive RepR (c : Cd) (self procs : Int) : Stt → List Ev → Stt → Prop
  | nil (s : Stt) : RepR c self procs s [] s
  | cons {s s1 s2 : Stt} {e : Ev} {l : List Ev} : NextR c self procs s e s1 → RepR c self procs s1 l s2 → RepR c self procs s (e :: l) s2
def ReplayR (c : Cd) (self procs : Int) (l : List Ev) (s : Stt) : Prop := ∃ s0, StartR c self procs s0 ∧ RepR c self procs s0 l s
theorem RepR.uniq {c : Cd} {self procs : Int} {s a : Stt} {l : List Ev} (h : RepR c self procs s l a) : ∀ {b}, RepR c self procs s l b → a = b := by
  induction h with
  | nil s => intro b k; cases k; rfl
  | cons h1 _ ih =>
    intro b k
    cases k with
    | cons g1 g2 => obtain rfl := h1.uniq g1; exact ih g2
theorem ReplayR.uniq {c : Cd} {self procs : Int} {l : List Ev} {a b : Stt} (h : ReplayR c self procs l a) (k : ReplayR c self procs l b) : a = b := by
  obtain ⟨s0, h1, h2⟩ := h
  obtain ⟨s1, k1, k2⟩ := k
  obtain rfl := ExR.uniq h1 k1
  exact h2.uniq k2
theorem RepR.snoc {c : Cd} {self procs : Int} {s a b : Stt} {l : List Ev} {e : Ev} (h : RepR c self procs s l a) (k : NextR c self procs a e b) : RepR c self procs s (l ++ [e]) b := by
  induction h with
  | nil s => exact .cons k (.nil _)
  | cons h1 _ ih => exact .cons h1 (ih k)
structure SttPre (a b : Stt) : Prop where
  cells : b.cells.length = a.cells.length
  evs : a.evs <+: b.evs
  sent : a.sent <+: b.sent
  outs : a.outs <+: b.outs
theorem SttPre.refl (a : Stt) : SttPre a a := ⟨rfl, List.prefix_refl _, List.prefix_refl _, List.prefix_refl _⟩
theorem SttPre.trans {a b c : Stt} (h : SttPre a b) (k : SttPre b c) : SttPre a c := ⟨k.cells.trans h.cells, h.evs.trans k.evs, h.sent.trans k.sent, h.outs.trans k.outs⟩
theorem ExR.pre {body : List Sm} {v : Env} {idx : Int} {s a : Stt} (h : ExR body v idx s a) : SttPre s a ∧ a.evs = s.evs := by
  obtain ⟨r, ok, h1, rfl⟩ := h
  exact ⟨⟨h1.keeps.len, List.prefix_refl _, List.prefix_append _ _, List.prefix_append _ _⟩, rfl⟩
theorem NextR.pre {c : Cd} {self procs : Int} {s a : Stt} {e : Ev} (h : NextR c self procs s e a) : SttPre s a ∧ a.evs = s.evs ++ [e] := by
  have h0 : SttPre s (addEv s e) := ⟨rfl, List.prefix_append _ _, List.prefix_refl _, List.prefix_refl _⟩
  unfold NextR at h
  split at h
  · exact ⟨h0.trans h.pre.1, h.pre.2⟩
  · split at h
    · exact ⟨h0.trans h.pre.1, h.pre.2⟩
    · split at h
      · exact ⟨h0.trans h.pre.1, h.pre.2⟩
      · rw [h]; exact ⟨h0, rfl⟩
theorem RepR.pre {c : Cd} {self procs : Int} {s a : Stt} {l : List Ev} (h : RepR c self procs s l a) : SttPre s a ∧ a.evs = s.evs ++ l := by
  induction h with
  | nil s => exact ⟨SttPre.refl _, by simp⟩
  | cons h1 _ ih =>
    refine ⟨h1.pre.1.trans ih.1, ?_⟩
    rw [ih.2, h1.pre.2, List.append_assoc]
    rfl
theorem RepR.split {c : Cd} {self procs : Int} {l1 : List Ev} : ∀ {s b : Stt} {l2 : List Ev}, RepR c self procs s (l1 ++ l2) b → ∃ a, RepR c self procs s l1 a ∧ RepR c self procs a l2 b := by
  induction l1 with
  | nil => intro s b l2 h; exact ⟨s, .nil _, h⟩
  | cons e l1 ih =>
    intro s b l2 h
    cases h with
    | cons h1 h2 =>
      obtain ⟨a, g1, g2⟩ := ih h2
      exact ⟨a, .cons h1 g1, g2⟩
theorem ReplayR.evs {c : Cd} {self procs : Int} {l : List Ev} {s : Stt} (h : ReplayR c self procs l s) : s.evs = l := by
  obtain ⟨s0, h1, h2⟩ := h
  rw [h2.pre.2, (ExR.pre h1).2]
  rfl
theorem ReplayR.cells {c : Cd} {self procs : Int} {l : List Ev} {s : Stt} (h : ReplayR c self procs l s) : s.cells.length = c.init.length := by
  obtain ⟨s0, h1, h2⟩ := h
  rw [h2.pre.1.cells, (ExR.pre h1).1.cells]
theorem ReplayR.pre {c : Cd} {self procs : Int} {l : List Ev} {j k : Nat} {a b : Stt} (hjk : j ≤ k) (h : ReplayR c self procs (l.take j) a) (g : ReplayR c self procs (l.take k) b) : SttPre a b := by
  obtain ⟨s0, h1, h2⟩ := h
  obtain ⟨s1, g1, g2⟩ := g
  obtain rfl := ExR.uniq h1 g1
  have e : l.take k = l.take j ++ (l.take k).drop j := by
    have := List.take_append_drop j (l.take k)
    rw [List.take_take, Nat.min_eq_left hjk] at this
    exact this.symm
  rw [e] at g2
  obtain ⟨x, x1, x2⟩ := g2.split
  obtain rfl := h2.uniq x1
  exact x2.pre.1
end Go.Proofs.YtiblijmngokcgaaDoor
