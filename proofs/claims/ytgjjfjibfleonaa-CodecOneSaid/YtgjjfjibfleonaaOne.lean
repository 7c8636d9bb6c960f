/-
  What is read has one form: written again it has the bytes that were read. Plain.
-/
import Derived.Test.YtgjjfjibfleonaaRdS
import Derived.Deep.Cut
namespace Go.Proofs.Ytgjjfjibfleonaa
open Go.RowKit
set_option linter.unusedVariables false
set_option linter.unusedSimpArgs false

theorem rdI_form (L : List UInt8) : ∀ (n i u p t q : Nat), n + i = 10 → u < 2 ^ (7 * i) → rdI L n i u p = .ok (t, q) →
    p < q ∧ q ≤ L.length ∧ ∃ v, t = u + v * 2 ^ (7 * i) ∧ t < 2 ^ 64 ∧ (0 < i → 0 < v) ∧ encU v = (L.take q).drop p := by
  intro n
  induction n with
  | zero => intro i u p t q _ _ h; simp [rdI] at h
  | succ n ih =>
    intro i u p t q hni hu h
    cases hc : L[p]? with
    | none => rw [rdI_none hc] at h; cases h
    | some c =>
      have hpl : p < L.length := (List.getElem?_eq_some_iff.1 hc).1
      have hlt := c.toNat_lt
      by_cases hb : (i = 9 ∧ 1 < c.toNat) ∨ (0 < i ∧ c.toNat = 0)
      · rw [rdI_bad hc hb] at h; cases h
      · by_cases h1 : c.toNat < 128
        · rw [rdI_end hc hb h1] at h
          injection h with h; injection h with ht hq
          subst ht hq
          have hv := grp_lt64 (i := i) (u := u) (c := c.toNat) (by omega) hu hlt (by omega)
          rw [Nat.mod_eq_of_lt h1] at hv
          refine ⟨by omega, by omega, c.toNat, rfl, by simpa using hv, by omega, ?_⟩
          rw [encU_lt h1, List.take_add_one, hc, List.drop_append, List.drop_eq_nil_of_le (by simp; omega)]
          simp only [List.length_take, Option.toList_some]
          rw [show min p L.length = p by omega, Nat.sub_self]
          simp
        · rw [rdI_go hc hb h1] at h
          have hi9 : i < 9 := by omega
          have hu2 := grp_lt (i := i) (u := u) (x := c.toNat - 128) (by omega) hu (by omega)
          obtain ⟨hp, hq, v, hv, h64, hpos, he⟩ := ih (i + 1) _ (p + 1) t q (by omega) hu2 h
          refine ⟨by omega, hq, (c.toNat - 128) + v * 128, ?_, h64, by omega, ?_⟩
          · have e1 : (2 : Nat) ^ (7 * (i + 1)) = 128 * 2 ^ (7 * i) := by rw [show 7 * (i + 1) = 7 + 7 * i by omega, Nat.pow_add]
            rw [hv, e1, Nat.add_mul, Nat.mul_assoc v 128, Nat.add_assoc]
          · have hv0 := hpos (by omega)
            rw [encU_ge (by omega), show ((c.toNat - 128) + v * 128) % 128 + 128 = c.toNat by omega, show ((c.toNat - 128) + v * 128) / 128 = v by omega, he]
            have hd : (L.take q).drop p = c :: (L.take q).drop (p + 1) := by
              have h3 : p < (L.take q).length := by simp; omega
              rw [List.drop_eq_getElem_cons h3]
              congr 1
              rw [List.getElem_take]
              exact (List.getElem?_eq_some_iff.1 hc).2
            rw [hd, UInt8.ofNat_toNat]
theorem zz_zd (t : Nat) : zz (zd t) = t := by
  unfold zd zz
  by_cases h : t % 2 = 0
  · rw [if_pos h, if_pos (by omega)]; omega
  · rw [if_neg h, if_neg (by omega)]; omega
/-- the bytes from p to q are the numbers l -/
structure Seg (L : List UInt8) (p q : Nat) (l : List Int) : Prop where
  lo : p + l.length ≤ q
  hi : q ≤ L.length
  inr : ∀ z ∈ l, InR z
  eq : encs l = (L.take q).drop p
theorem take_join {L : List UInt8} {p q r : Nat} (h1 : p ≤ q) (h2 : q ≤ r) (hr : r ≤ L.length) : (L.take q).drop p ++ (L.take r).drop q = (L.take r).drop p := by
  have h3 : L.take r = L.take q ++ (L.take r).drop q := by
    have := List.take_append_drop q (L.take r)
    rw [List.take_take, Nat.min_eq_left h2] at this
    exact this.symm
  conv => rhs; rw [h3, List.drop_append, show p - (L.take q).length = 0 by simp; omega]
  rfl
theorem Seg.nil_ {L : List UInt8} {p : Nat} (h : p ≤ L.length) : Seg L p p [] := ⟨by simp, h, fun z hz => by simp at hz, by simp [encs]⟩
theorem Seg.app {L : List UInt8} {p q r : Nat} {a b : List Int} (h1 : Seg L p q a) (h2 : Seg L q r b) : Seg L p r (a ++ b) := by
  have e1 := h1.lo
  have e2 := h2.lo
  refine ⟨by simp; omega, h2.hi, fun z hz => ?_, ?_⟩
  · rcases List.mem_append.1 hz with hz | hz
    · exact h1.inr z hz
    · exact h2.inr z hz
  · rw [encs_append, h1.eq, h2.eq, take_join (by omega) (by omega) h2.hi]
theorem bnd_inv {α β : Type} {x : Except Nat (α × Nat)} {f : α → Nat → Except Nat (β × Nat)} {y : β × Nat} (h : bnd x f = .ok y) : ∃ a q, x = .ok (a, q) ∧ f a q = .ok y := by
  cases x with
  | error k => cases h
  | ok v => exact ⟨v.1, v.2, rfl, h⟩
theorem rdInt_seg {L : List UInt8} {p : Nat} {a : Int} {q : Nat} (h : rdInt L p = .ok (a, q)) : Seg L p q [a] := by
  unfold rdInt rdU at h
  cases hr : rdI L 10 0 0 p with
  | error k => rw [hr] at h; cases h
  | ok x =>
    obtain ⟨t, q'⟩ := x
    rw [hr] at h
    injection h with h; injection h with ha hq
    subst ha hq
    obtain ⟨hp, hq, v, hv, h64, _, he⟩ := rdI_form L 10 0 0 p t q' rfl (by decide) hr
    have hvt : t = v := by simpa using hv
    subst hvt
    refine ⟨by simp; omega, hq, ?_, ?_⟩
    · intro z hz
      simp at hz
      subst hz
      unfold zd InR
      split <;> constructor <;> omega
    · simp [encs, encI, zz_zd, he]
theorem rdEv_seg {L : List UInt8} {p : Nat} {a : Ev} {q : Nat} (h : rdEv L p = .ok (a, q)) : Seg L p q a.l := by
  unfold rdEv at h
  obtain ⟨a0, p0, h0, h⟩ := bnd_inv h
  obtain ⟨a1, p1, h1, h⟩ := bnd_inv h
  obtain ⟨a2, p2, h2, h⟩ := bnd_inv h
  obtain ⟨a3, p3, h3, h⟩ := bnd_inv h
  obtain ⟨a4, p4, h4, h⟩ := bnd_inv h
  obtain ⟨a5, p5, h5, h⟩ := bnd_inv h
  obtain ⟨a6, p6, h6, h⟩ := bnd_inv h
  injection h with h; injection h with ha hq
  subst ha hq
  exact (rdInt_seg h0).app ((rdInt_seg h1).app ((rdInt_seg h2).app ((rdInt_seg h3).app ((rdInt_seg h4).app ((rdInt_seg h5).app (rdInt_seg h6))))))
theorem rdSn_seg {L : List UInt8} {p : Nat} {a : Snd} {q : Nat} (h : rdSn L p = .ok (a, q)) : Seg L p q a.l := by
  unfold rdSn at h
  obtain ⟨a0, p0, h0, h⟩ := bnd_inv h
  obtain ⟨a1, p1, h1, h⟩ := bnd_inv h
  obtain ⟨a2, p2, h2, h⟩ := bnd_inv h
  obtain ⟨a3, p3, h3, h⟩ := bnd_inv h
  injection h with h; injection h with ha hq
  subst ha hq
  exact (rdInt_seg h0).app ((rdInt_seg h1).app ((rdInt_seg h2).app (rdInt_seg h3)))
theorem rdOu_seg {L : List UInt8} {p : Nat} {a : Ou} {q : Nat} (h : rdOu L p = .ok (a, q)) : Seg L p q a.l := by
  unfold rdOu at h
  obtain ⟨a0, p0, h0, h⟩ := bnd_inv h
  obtain ⟨a1, p1, h1, h⟩ := bnd_inv h
  injection h with h; injection h with ha hq
  subst ha hq
  exact (rdInt_seg h0).app (rdInt_seg h1)
theorem rdDt_seg {L : List UInt8} {p : Nat} {a : Dt} {q : Nat} (h : rdDt L p = .ok (a, q)) : Seg L p q a.l := by
  unfold rdDt at h
  obtain ⟨a0, p0, h0, h⟩ := bnd_inv h
  obtain ⟨a1, p1, h1, h⟩ := bnd_inv h
  obtain ⟨a2, p2, h2, h⟩ := bnd_inv h
  injection h with h; injection h with ha hq
  subst ha hq
  exact (rdInt_seg h0).app ((rdInt_seg h1).app (rdEv_seg h2))
theorem rdRep_seg {α : Type} {L : List UInt8} {f : Nat → Except Nat (α × Nat)} {b : α → List Int} (hf : ∀ p a q, f p = .ok (a, q) → Seg L p q (b a)) : ∀ (n p : Nat) (l : List α) (q : Nat), p ≤ L.length → rdRep f n p = .ok (l, q) → Seg L p q (l.flatMap b) ∧ l.length = n := by
  intro n
  induction n with
  | zero =>
    intro p l q hp h
    rw [rdRep] at h
    injection h with h; injection h with ha hq
    subst ha hq
    exact ⟨Seg.nil_ hp, rfl⟩
  | succ n ih =>
    intro p l q hp h
    rw [rdRep] at h
    obtain ⟨a, p1, h1, h⟩ := bnd_inv h
    obtain ⟨l', p2, h2, h⟩ := bnd_inv h
    injection h with h; injection h with ha hq
    subst ha hq
    have s1 := hf _ _ _ h1
    obtain ⟨s2, hl⟩ := ih _ _ _ s1.hi h2
    exact ⟨by rw [List.flatMap_cons]; exact s1.app s2, by simp [hl]⟩
theorem rdList_seg {α : Type} {L : List UInt8} {f : Nat → Except Nat (α × Nat)} {b : α → List Int} (hf : ∀ p a q, f p = .ok (a, q) → Seg L p q (b a)) {p : Nat} {l : List α} {q : Nat} (h : rdList f L p = .ok (l, q)) : Seg L p q ([(l.length : Int)] ++ l.flatMap b) := by
  unfold rdList at h
  obtain ⟨n, p1, h1, h⟩ := bnd_inv h
  have s1 := rdInt_seg h1
  by_cases hb : n < 0 ∨ (L.length : Int) - (p1 : Int) < n
  · rw [if_pos hb] at h; cases h
  · rw [if_neg hb] at h
    obtain ⟨s2, hl⟩ := rdRep_seg hf _ _ _ _ s1.hi h
    have : (l.length : Int) = n := by omega
    rw [this]
    exact s1.app s2
theorem flat_one (l : List Int) : l.flatMap (fun a => [a]) = l := by
  induction l with
  | nil => rfl
  | cons a l ih => rw [List.flatMap_cons, ih]; rfl
theorem rdInts_seg {L : List UInt8} {p : Nat} {l : List Int} {q : Nat} (h : rdList (rdInt L) L p = .ok (l, q)) : Seg L p q ([(l.length : Int)] ++ l) := by
  have := rdList_seg (b := fun a => [a]) (fun p a q h => rdInt_seg h) h
  rwa [flat_one] at this
theorem rdPg_seg {L : List UInt8} {p : Nat} {a : Pg} {q : Nat} (h : rdPg L p = .ok (a, q)) : Seg L p q a.l := by
  unfold rdPg at h
  obtain ⟨a0, p0, h0, h⟩ := bnd_inv h
  obtain ⟨a1, p1, h1, h⟩ := bnd_inv h
  injection h with h; injection h with ha hq
  subst ha hq
  exact (rdInt_seg h0).app (rdInts_seg h1)
theorem rdPgs_seg {L : List UInt8} {p : Nat} {a : List Pg} {q : Nat} (h : rdPgs L p = .ok (a, q)) : Seg L p q (pgL a) := rdList_seg (fun p a q h => rdPg_seg h) h
theorem rdSt_seg {L : List UInt8} {p : Nat} {a : Stt} {q : Nat} (h : rdSt L p = .ok (a, q)) : Seg L p q a.l := by
  unfold rdSt at h
  obtain ⟨a0, p0, h0, h⟩ := bnd_inv h
  obtain ⟨a1, p1, h1, h⟩ := bnd_inv h
  obtain ⟨a2, p2, h2, h⟩ := bnd_inv h
  obtain ⟨a3, p3, h3, h⟩ := bnd_inv h
  injection h with h; injection h with ha hq
  subst ha hq
  have := ((rdInts_seg h0).app ((rdList_seg (fun p a q h => rdEv_seg h) h1).app ((rdList_seg (fun p a q h => rdSn_seg h) h2).app (rdList_seg (fun p a q h => rdOu_seg h) h3))))
  have hl : Stt.l ⟨a0, a1, a2, a3⟩ = ([(a0.length : Int)] ++ a0) ++ (([(a1.length : Int)] ++ a1.flatMap Ev.l) ++ (([(a2.length : Int)] ++ a2.flatMap Snd.l) ++ ([(a3.length : Int)] ++ a3.flatMap Ou.l))) := by
    simp only [Stt.l, List.append_assoc]
  rw [hl]
  exact this
theorem flat_len {α : Type} (b : α → List Int) (hb : ∀ a, 1 ≤ (b a).length) (l : List α) : l.length ≤ (l.flatMap b).length := by
  induction l with
  | nil => simp
  | cons a l ih => rw [List.flatMap_cons, List.length_append, List.length_cons]; have := hb a; omega
/-- what the put of the pages needs -/
theorem pgs_ok {L : List UInt8} {p q : Nat} {ps : List Pg} (h : Seg L p q (pgL ps)) (hL : L.length ≤ 400) : (∀ x ∈ ps, PgOk x) ∧ ps.length ≤ 400 := by
  have h1 := h.lo
  have h2 := h.hi
  have h3 : (pgL ps).length = 1 + (ps.flatMap Pg.l).length := by simp [pgL]; omega
  have h4 := flat_len Pg.l (fun a => by simp [Pg.l]) ps
  refine ⟨fun x hx => ?_, by omega⟩
  have hz : ∀ z ∈ x.l, InR z := fun z hz => h.inr z (List.mem_append_right _ (List.mem_flatMap.2 ⟨x, hx, hz⟩))
  have h5 : x.l.length ≤ (ps.flatMap Pg.l).length := by
    obtain ⟨s, t, rfl⟩ := List.append_of_mem hx
    simp
    omega
  have h6 : x.l.length = 2 + x.cells.length := by simp [Pg.l]; omega
  exact ⟨hz _ (by simp [Pg.l]), fun z hzz => hz z (by simp [Pg.l, hzz]), by omega⟩
theorem st_ok {L : List UInt8} {p q : Nat} {s : Stt} (h : Seg L p q s.l) (hL : L.length ≤ 400) : SttOk s ∧ s.evs.length ≤ 400 ∧ s.sent.length ≤ 400 ∧ s.outs.length ≤ 400 := by
  have h1 := h.lo
  have h2 := h.hi
  have h3 : s.l.length = 4 + s.cells.length + (s.evs.flatMap Ev.l).length + (s.sent.flatMap Snd.l).length + (s.outs.flatMap Ou.l).length := by simp only [Stt.l, List.length_append, List.length_cons, List.length_nil]; omega
  have g1 := flat_len Ev.l (fun a => by simp [Ev.l]) s.evs
  have g2 := flat_len Snd.l (fun a => by simp [Snd.l]) s.sent
  have g3 := flat_len Ou.l (fun a => by simp [Ou.l]) s.outs
  refine ⟨⟨fun z hz => h.inr z (by simp [Stt.l, hz]), fun e he z hz => h.inr z ?_, fun e he z hz => h.inr z ?_, fun e he z hz => h.inr z ?_, by omega⟩, by omega, by omega, by omega⟩
  · have : z ∈ s.evs.flatMap Ev.l := List.mem_flatMap.2 ⟨e, he, hz⟩
    simp only [Stt.l, List.mem_append]
    simp only [this, true_or, or_true]
  · have : z ∈ s.sent.flatMap Snd.l := List.mem_flatMap.2 ⟨e, he, hz⟩
    simp only [Stt.l, List.mem_append]
    simp only [this, true_or, or_true]
  · have : z ∈ s.outs.flatMap Ou.l := List.mem_flatMap.2 ⟨e, he, hz⟩
    simp only [Stt.l, List.mem_append]
    simp only [this, true_or, or_true]
theorem seg0 {L : List UInt8} {q : Nat} {l : List Int} (h : Seg L 0 q l) : encs l = L.take q := by rw [h.eq, List.drop_zero]
/-- errors are not 0 -/
def Er {α : Type} (x : Except Nat (α × Nat)) : Prop := ∀ k, x = .error k → k ≠ 0
theorem Er.ok_ {α : Type} (y : α × Nat) : Er (.ok y) := fun k h => by cases h
theorem Er.bnd_ {α β : Type} {x : Except Nat (α × Nat)} {f : α → Nat → Except Nat (β × Nat)} (h : Er x) (hf : ∀ a q, Er (f a q)) : Er (bnd x f) := by
  intro k hk
  cases x with
  | error e => injection hk with hk; subst hk; exact h _ rfl
  | ok y => exact hf y.1 y.2 k hk
theorem rdI_er (L : List UInt8) : ∀ (n i u p k : Nat), rdI L n i u p = .error k → k ≠ 0 := by
  intro n
  induction n with
  | zero => intro i u p k h; rw [rdI] at h; injection h with h; omega
  | succ n ih =>
    intro i u p k h
    cases hc : L[p]? with
    | none => rw [rdI_none hc] at h; injection h with h; omega
    | some c =>
      by_cases hb : (i = 9 ∧ 1 < c.toNat) ∨ (0 < i ∧ c.toNat = 0)
      · rw [rdI_bad hc hb] at h; injection h with h; omega
      · by_cases h1 : c.toNat < 128
        · rw [rdI_end hc hb h1] at h; cases h
        · rw [rdI_go hc hb h1] at h; exact ih _ _ _ _ h
theorem rdInt_er (L : List UInt8) (p : Nat) : Er (rdInt L p) := by
  intro k h
  unfold rdInt rdU at h
  cases hr : rdI L 10 0 0 p with
  | error e => rw [hr] at h; injection h with h; subst h; exact rdI_er _ _ _ _ _ _ hr
  | ok x => rw [hr] at h; cases h
theorem rdEv_er (L : List UInt8) (p : Nat) : Er (rdEv L p) :=
  (rdInt_er _ _).bnd_ fun _ _ => (rdInt_er _ _).bnd_ fun _ _ => (rdInt_er _ _).bnd_ fun _ _ => (rdInt_er _ _).bnd_ fun _ _ => (rdInt_er _ _).bnd_ fun _ _ => (rdInt_er _ _).bnd_ fun _ _ => (rdInt_er _ _).bnd_ fun _ _ => Er.ok_ _
theorem rdSn_er (L : List UInt8) (p : Nat) : Er (rdSn L p) :=
  (rdInt_er _ _).bnd_ fun _ _ => (rdInt_er _ _).bnd_ fun _ _ => (rdInt_er _ _).bnd_ fun _ _ => (rdInt_er _ _).bnd_ fun _ _ => Er.ok_ _
theorem rdOu_er (L : List UInt8) (p : Nat) : Er (rdOu L p) := (rdInt_er _ _).bnd_ fun _ _ => (rdInt_er _ _).bnd_ fun _ _ => Er.ok_ _
theorem rdDt_er (L : List UInt8) (p : Nat) : Er (rdDt L p) := (rdInt_er _ _).bnd_ fun _ _ => (rdInt_er _ _).bnd_ fun _ _ => (rdEv_er _ _).bnd_ fun _ _ => Er.ok_ _
theorem rdRep_er {α : Type} {f : Nat → Except Nat (α × Nat)} (hf : ∀ p, Er (f p)) : ∀ n p, Er (rdRep f n p) := by
  intro n
  induction n with
  | zero => intro p; exact Er.ok_ _
  | succ n ih => intro p; exact (hf p).bnd_ fun _ q => (ih q).bnd_ fun _ _ => Er.ok_ _
theorem rdList_er {α : Type} {f : Nat → Except Nat (α × Nat)} (hf : ∀ p, Er (f p)) (L : List UInt8) (p : Nat) : Er (rdList f L p) :=
  (rdInt_er _ _).bnd_ fun n q => by
    intro k h
    by_cases hb : n < 0 ∨ (L.length : Int) - (q : Int) < n
    · rw [if_pos hb] at h; injection h with h; omega
    · rw [if_neg hb] at h; exact rdRep_er hf _ _ _ h
theorem rdPg_er (L : List UInt8) (p : Nat) : Er (rdPg L p) := (rdInt_er _ _).bnd_ fun _ _ => (rdList_er (rdInt_er L) _ _).bnd_ fun _ _ => Er.ok_ _
theorem rdPgs_er (L : List UInt8) (p : Nat) : Er (rdPgs L p) := rdList_er (rdPg_er L) _ _
theorem rdSt_er (L : List UInt8) (p : Nat) : Er (rdSt L p) :=
  (rdList_er (rdInt_er L) _ _).bnd_ fun _ _ => (rdList_er (rdEv_er L) _ _).bnd_ fun _ _ => (rdList_er (rdSn_er L) _ _).bnd_ fun _ _ => (rdList_er (rdOu_er L) _ _).bnd_ fun _ _ => Er.ok_ _
theorem rdAt0 {α : Type} (f : List UInt8 → Nat → Except Nat (α × Nat)) (L : List UInt8) : rdAt f L 0 = f L 0 := by
  unfold rdAt
  rw [if_neg (by omega)]
  rfl
/-- what a number of a Seg from 0 on gives -/
def OneAt (L : List UInt8) (q x : Int) (l : List Int) : Prop := x = 0 → ∃ n : Nat, q = n ∧ Seg L 0 n l
theorem OneAt.er {L : List UInt8} {q x : Int} {l : List Int} {k : Nat} (hk : k ≠ 0) (hx : x = k) : OneAt L q x l := fun h => absurd h (by omega)
theorem intOne (L : List UInt8) : ∃ (v q x : Int), rdOut iv (iv 0) (rdAt rdInt L 0) = .tuple #[.int .i64 v, .int .i64 q, .int .i64 x] ∧ OneAt L q x [v] := by
  rw [rdAt0]
  cases h : rdInt L 0 with
  | error x => exact ⟨0, 0, x, rfl, OneAt.er (rdInt_er _ _ _ h) rfl⟩
  | ok vq => exact ⟨vq.1, vq.2, 0, rfl, fun _ => ⟨vq.2, rfl, rdInt_seg h⟩⟩
theorem evOne (L : List UInt8) : ∃ (a : Ev) (q x : Int), (∀ e w', RdOut (rdAt rdEv L 0) (.agg #[Value.int .i64 0, Value.int .i64 0, Value.int .i64 0, Value.int .i64 0, Value.int .i64 0, Value.int .i64 0, Value.int .i64 0]) (fun a w' v => v = evV a) e w' → e = .returned (.tuple #[.agg #[Value.int .i64 a.k0, Value.int .i64 a.k1, Value.int .i64 a.k2, Value.int .i64 a.k3, Value.int .i64 a.k4, Value.int .i64 a.k5, Value.int .i64 a.k6], .int .i64 q, .int .i64 x])) ∧ OneAt L q x a.l := by
  unfold RdOut
  rw [rdAt0]
  cases h : rdEv L 0 with
  | error x => exact ⟨⟨0, 0, 0, 0, 0, 0, 0⟩, 0, x, fun e w' h => h, OneAt.er (rdEv_er _ _ _ h) rfl⟩
  | ok vq => exact ⟨vq.1, vq.2, 0, fun e w' ⟨v, h, hv⟩ => (by rw [h, hv]; rfl), fun _ => ⟨vq.2, rfl, rdEv_seg h⟩⟩
theorem pgsOne (L : List UInt8) : ∃ (ts : List Pg) (q x : Int), (∀ base e w', RdOut (rdAt rdPgs L 0) (.slice none 0 0) (fun a w' v => ∃ A c, v = .slice A a.length c ∧ PgsOwn base w' v a) e w' → ∃ A c, e = .returned (.tuple #[.slice A ts.length c, .int .i64 q, .int .i64 x]) ∧ Pgs (base ≤ ·) w' (.slice A ts.length c) ts) ∧ OneAt L q x (pgL ts) := by
  unfold RdOut
  rw [rdAt0]
  cases h : rdPgs L 0 with
  | error x => exact ⟨[], 0, x, fun base e w' h => ⟨none, 0, h, (PgsOwn.nil_ _ _).pgs⟩, OneAt.er (rdPgs_er _ _ _ h) rfl⟩
  | ok vq => exact ⟨vq.1, vq.2, 0, fun base e w' ⟨v, h, A, c, hv, hp⟩ => ⟨A, c, by rw [h, hv], by rw [hv] at hp; exact hp.pgs⟩, fun _ => ⟨vq.2, rfl, rdPgs_seg h⟩⟩
theorem stOne (L : List UInt8) : ∃ (s : Stt) (q x : Int), (∀ base e w', RdOut (rdAt rdSt L 0) (.agg #[Value.slice none 0 0, Value.slice none 0 0, Value.slice none 0 0, Value.slice none 0 0]) (fun a w' v => StO w' base v a) e w' → ∃ A1 c1 A2 c2 A3 c3 A4 c4, e = .returned (.tuple #[.agg #[.slice A1 s.cells.length c1, .slice A2 s.evs.length c2, .slice A3 s.sent.length c3, .slice A4 s.outs.length c4], .int .i64 q, .int .i64 x]) ∧
    Recs encZ (· < w'.heap.size) w' (.slice A1 s.cells.length c1) s.cells ∧ Recs encEv (· < w'.heap.size) w' (.slice A2 s.evs.length c2) s.evs ∧ Recs encSn (· < w'.heap.size) w' (.slice A3 s.sent.length c3) s.sent ∧ Recs encOu (· < w'.heap.size) w' (.slice A4 s.outs.length c4) s.outs) ∧ OneAt L q x s.l := by
  unfold RdOut
  rw [rdAt0]
  cases h : rdSt L 0 with
  | error x => exact ⟨⟨[], [], [], []⟩, 0, x, fun base e w' h => ⟨none, 0, none, 0, none, 0, none, 0, h, Recs.nil_ _ _, Recs.nil_ _ _, Recs.nil_ _ _, Recs.nil_ _ _⟩, OneAt.er (rdSt_er _ _ _ h) rfl⟩
  | ok vq => exact ⟨vq.1, vq.2, 0, fun base e w' ⟨v, h, A1, c1, A2, c2, A3, c3, A4, c4, hv, a1, a2, a3, a4⟩ => ⟨A1, c1, A2, c2, A3, c3, A4, c4, by rw [h, hv], a1.recs.mono fun b hb _ => hb, a2.recs.mono fun b hb _ => hb, a3.recs.mono fun b hb _ => hb, a4.recs.mono fun b hb _ => hb⟩, fun _ => ⟨vq.2, rfl, rdSt_seg h⟩⟩
theorem Pgs.lt_ {S : Nat → Prop} {w : World} {v : Value} {ps : List Pg} (h : Pgs S w v ps) : Pgs (· < w.heap.size) w v ps := by
  obtain ⟨xs, h1, h2, h3⟩ := h
  exact ⟨xs, h1.mono fun b hb _ => hb, h2, fun i x p hx hp => ⟨(h3 i x p hx hp).1, (h3 i x p hx hp).2.mono fun b hb _ => hb⟩⟩
theorem rlo {α : Type} {enc : α → List Value} {S : Nat → Prop} {w : World} {v : Value} {l : List α} (h : Recs enc S w v l) : Recs enc (· < w.heap.size) w v l := h.mono fun b hb _ => hb
theorem newB1 (w w1 : World) (B : Nat) (cs : Array Value) (T : TypeId) (hb : Below B w w1) (hB : B ≤ w1.heap.size) : ∃ W, W = w1.alloc (.cells cs T) ∧ Below B w W ∧ Below w1.heap.size w1 W ∧ W.heap.size = w1.heap.size + 1 ∧ W.heap[w1.heap.size]? = some (.cells cs T (0, 0)) :=
  ⟨_, rfl, hb.alloc hB _, (Below.refl _ _).alloc (Nat.le_refl _) _, by simp, heap_alloc_new _ _⟩
end Go.Proofs.Ytgjjfjibfleonaa
