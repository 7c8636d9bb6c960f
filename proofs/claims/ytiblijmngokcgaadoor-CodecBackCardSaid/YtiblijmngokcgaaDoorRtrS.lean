import Derived.Test.YtiblijmngokcgaaDoorCodecBS
namespace Go.Proofs.YtiblijmngokcgaaDoor
open Go.RowKit
set_option linter.unusedVariables false
set_option linter.unusedSimpArgs false
theorem drop_get {L : List UInt8} {p : Nat} {c : UInt8} {r : List UInt8} (h : L.drop p = c :: r) : L[p]? = some c ∧ L.drop (p + 1) = r := by
  constructor
  · have := List.getElem?_drop (xs := L) (i := p) (j := 0)
    rw [h] at this
    simpa using this.symm
  · rw [← List.drop_drop, h]
    rfl
theorem drop_more {L a r : List UInt8} {p : Nat} (h : L.drop p = a ++ r) : L.drop (p + a.length) = r := by
  rw [← List.drop_drop, h, List.drop_left]
theorem rdI_encU (L post : List UInt8) : ∀ (n i u p v : Nat), n + i = 10 → u < 2 ^ (7 * i) → (0 < i → 0 < v) → u + v * 2 ^ (7 * i) < 18446744073709551616 → L.drop p = encU v ++ post →
    rdI L n i u p = .ok (u + v * 2 ^ (7 * i), p + (encU v).length) := by
  intro n
  induction n with
  | zero =>
    intro i u p v hn hu hv h64 hL
    obtain rfl : i = 10 := by omega
    have h1 := hv (by omega)
    have : 2 ^ (7 * 10) = 1180591620717411303424 := by decide
    rw [this] at h64
    omega
  | succ n ih =>
    intro i u p v hn hu hv h64 hL
    have hi9 : i ≤ 9 := by omega
    by_cases h1 : v < 128
    · rw [encU_lt h1] at hL ⊢
      have hc := (drop_get hL).1
      have hcn : (UInt8.ofNat v).toNat = v := by rw [UInt8.toNat_ofNat']; exact Nat.mod_eq_of_lt (by omega)
      rw [rdI_end hc (by
        rw [hcn]
        rintro (⟨rfl, h2⟩ | ⟨h2, h3⟩)
        · have e : 2 ^ (7 * 9) = 9223372036854775808 := by decide
          rw [e] at h64
          omega
        · have := hv h2
          omega) (by rw [hcn]; exact h1), hcn]
      rfl
    · have hge : encU v = UInt8.ofNat (v % 128 + 128) :: encU (v / 128) := encU_ge h1
      rw [hge] at hL
      rw [hge, List.length_cons]
      have hc := drop_get hL
      have hcn : (UInt8.ofNat (v % 128 + 128)).toNat = v % 128 + 128 := by rw [UInt8.toNat_ofNat']; exact Nat.mod_eq_of_lt (by omega)
      have hi8 : i < 9 := by
        rcases Nat.lt_or_ge i 9 with h | h
        · exact h
        · obtain rfl : i = 9 := by omega
          have e : 2 ^ (7 * 9) = 9223372036854775808 := by decide
          rw [e] at h64
          omega
      rw [rdI_go hc.1 (by
        rw [hcn]
        rintro (⟨rfl, h2⟩ | ⟨h2, h3⟩) <;> omega) (by rw [hcn]; omega), hcn]
      have e1 : (2 : Nat) ^ (7 * (i + 1)) = 128 * 2 ^ (7 * i) := by rw [show 7 * (i + 1) = 7 + 7 * i by omega, Nat.pow_add]
      have e2 : u + (v % 128 + 128 - 128) * 2 ^ (7 * i) + v / 128 * 2 ^ (7 * (i + 1)) = u + v * 2 ^ (7 * i) := by
        rw [e1, Nat.add_sub_cancel]
        generalize 2 ^ (7 * i) = P
        have hv2 : v = v % 128 + v / 128 * 128 := by omega
        conv => rhs; rw [hv2, Nat.add_mul, Nat.mul_assoc]
        rw [Nat.add_assoc]
      have hu2 := grp_lt (i := i) (u := u) (x := v % 128 + 128 - 128) (by omega) hu (by omega)
      rw [ih (i + 1) _ (p + 1) (v / 128) (by omega) hu2 (by omega) (by rw [e2]; exact h64) hc.2, e2]
      congr 2
      omega
theorem zd_zz {z : Int} (h : InR z) : zd (zz z) = z := by
  unfold zd zz
  obtain ⟨h1, h2⟩ := h
  by_cases hz : 0 ≤ z
  · rw [if_pos hz, if_pos (by omega)]; omega
  · rw [if_neg hz, if_neg (by omega)]; omega
theorem rdInt_enc {L post : List UInt8} {p : Nat} {z : Int} (hz : InR z) (h : L.drop p = encI z ++ post) : rdInt L p = .ok (z, p + (encI z).length) := by
  unfold rdInt rdU
  have h64 : zz z < 18446744073709551616 := zz_lt hz.1 hz.2
  rw [rdI_encU L post 10 0 0 p (zz z) rfl (by decide) (by omega) (by simpa using h64) h]
  simp [zd_zz hz, encI]
theorem encs_cons (a : Int) (l : List Int) : encs (a :: l) = encI a ++ encs l := rfl
theorem rdEv_enc {L post : List UInt8} {p : Nat} {e : Ev} (hz : ∀ z ∈ e.l, InR z) (h : L.drop p = encs e.l ++ post) : rdEv L p = .ok (e, p + (encs e.l).length) := by
  unfold Ev.l at h hz ⊢
  simp only [encs_cons, List.append_assoc] at h
  unfold rdEv
  have h0 := rdInt_enc (hz _ (by simp)) h
  have g0 := drop_more h
  have h1 := rdInt_enc (hz _ (by simp)) g0
  have g1 := drop_more g0
  have h2 := rdInt_enc (hz _ (by simp)) g1
  have g2 := drop_more g1
  have h3 := rdInt_enc (hz _ (by simp)) g2
  have g3 := drop_more g2
  have h4 := rdInt_enc (hz _ (by simp)) g3
  have g4 := drop_more g3
  have h5 := rdInt_enc (hz _ (by simp)) g4
  have g5 := drop_more g4
  have h6 := rdInt_enc (hz _ (by simp)) g5
  rw [bnd_ok h0, bnd_ok h1, bnd_ok h2, bnd_ok h3, bnd_ok h4, bnd_ok h5, bnd_ok h6]
  congr 2
  simp only [encs_cons, List.length_append]
  simp [encs]
  omega
theorem rdSn_enc {L post : List UInt8} {p : Nat} {e : Snd} (hz : ∀ z ∈ e.l, InR z) (h : L.drop p = encs e.l ++ post) : rdSn L p = .ok (e, p + (encs e.l).length) := by
  unfold Snd.l at h hz ⊢
  simp only [encs_cons, List.append_assoc] at h
  unfold rdSn
  have h0 := rdInt_enc (hz _ (by simp)) h
  have g0 := drop_more h
  have h1 := rdInt_enc (hz _ (by simp)) g0
  have g1 := drop_more g0
  have h2 := rdInt_enc (hz _ (by simp)) g1
  have g2 := drop_more g1
  have h3 := rdInt_enc (hz _ (by simp)) g2
  rw [bnd_ok h0, bnd_ok h1, bnd_ok h2, bnd_ok h3]
  congr 2
  simp only [encs_cons, List.length_append]
  simp [encs]
  omega
theorem rdOu_enc {L post : List UInt8} {p : Nat} {e : Ou} (hz : ∀ z ∈ e.l, InR z) (h : L.drop p = encs e.l ++ post) : rdOu L p = .ok (e, p + (encs e.l).length) := by
  unfold Ou.l at h hz ⊢
  simp only [encs_cons, List.append_assoc] at h
  unfold rdOu
  have h0 := rdInt_enc (hz _ (by simp)) h
  have g0 := drop_more h
  have h1 := rdInt_enc (hz _ (by simp)) g0
  rw [bnd_ok h0, bnd_ok h1]
  congr 2
  simp only [encs_cons, List.length_append]
  simp [encs]
  omega
theorem rdDt_enc {L post : List UInt8} {p : Nat} {d : Dt} (hz : ∀ z ∈ d.l, InR z) (h : L.drop p = encs d.l ++ post) : rdDt L p = .ok (d, p + (encs d.l).length) := by
  have e : d.l = d.proc :: d.index :: d.ev.l := rfl
  rw [e] at h hz ⊢
  simp only [encs_cons, List.append_assoc] at h
  unfold rdDt
  have h0 := rdInt_enc (hz _ (by simp)) h
  have g0 := drop_more h
  have h1 := rdInt_enc (hz _ (by simp)) g0
  have h2 := rdEv_enc (fun z hz' => hz z (by simp [hz'])) (drop_more g0)
  rw [bnd_ok h0, bnd_ok h1, bnd_ok h2]
  congr 2
  simp only [encs_cons, List.length_append]
  omega
theorem encs_app (a b : List Int) : encs (a ++ b) = encs a ++ encs b := by simp [encs]
theorem encs4 (a b c d : List Int) : encs (a ++ (b ++ (c ++ d))) = encs a ++ (encs b ++ (encs c ++ encs d)) := by simp only [encs_app]
theorem encI_pos (z : Int) : 1 ≤ (encI z).length := by
  unfold encI
  rw [encU]
  split <;> simp
theorem encs_ge : ∀ (l : List Int), l.length ≤ (encs l).length
  | [] => by simp
  | a :: l => by
    have := encI_pos a
    have := encs_ge l
    rw [encs_cons, List.length_append, List.length_cons]
    omega
theorem rdRep_enc {α : Type} {L : List UInt8} {f : Nat → Except Nat (α × Nat)} {b : α → List Int} : ∀ (l : List α) (p : Nat) (post : List UInt8), (∀ x ∈ l, ∀ p post, L.drop p = encs (b x) ++ post → f p = .ok (x, p + (encs (b x)).length)) → L.drop p = encs (l.flatMap b) ++ post →
    rdRep f l.length p = .ok (l, p + (encs (l.flatMap b)).length)
  | [], p, post, hf, h => by simp [rdRep, encs]
  | x :: l, p, post, hf, h => by
    rw [List.flatMap_cons, encs_app, List.append_assoc] at h
    have h0 := hf x (by simp) p _ h
    have h1 := rdRep_enc l _ post (fun y hy => hf y (by simp [hy])) (drop_more h)
    rw [List.length_cons, rdRep, bnd_ok h0, bnd_ok h1, List.flatMap_cons, encs_app, List.length_append, Nat.add_assoc]
theorem rdList_enc {α : Type} {L : List UInt8} {f : Nat → Except Nat (α × Nat)} {b : α → List Int} (hb : ∀ a, 1 ≤ (b a).length) (l : List α) (p : Nat) (post : List UInt8) (hl : l.length ≤ 1000000) (hf : ∀ x ∈ l, ∀ p post, L.drop p = encs (b x) ++ post → f p = .ok (x, p + (encs (b x)).length)) (h : L.drop p = encs ([(l.length : Int)] ++ l.flatMap b) ++ post) :
    rdList f L p = .ok (l, p + (encs ([(l.length : Int)] ++ l.flatMap b)).length) := by
  rw [encs_app, List.append_assoc] at h
  have e1 : encs [(l.length : Int)] = encI (l.length : Int) := by simp [encs]
  rw [e1] at h
  have h0 := rdInt_enc (z := (l.length : Int)) ⟨by omega, by omega⟩ h
  have h1 := drop_more h
  have h2 := rdRep_enc l _ post hf h1
  have hlen : l.length ≤ (encs (l.flatMap b)).length := by
    refine Nat.le_trans ?_ (encs_ge _)
    clear h h0 h1 h2 e1 hl hf
    induction l with
    | nil => simp
    | cons x l ih => rw [List.flatMap_cons, List.length_append, List.length_cons]; have := hb x; omega
  have hL : l.length + (p + (encI (l.length : Int)).length) ≤ L.length := by
    have h3 := congrArg List.length h1
    rw [List.length_drop, List.length_append] at h3
    rcases Nat.eq_zero_or_pos l.length with h4 | h4
    · have h5 := congrArg List.length h
      rw [List.length_drop, List.length_append] at h5
      have := encI_pos (l.length : Int)
      omega
    · omega
  rw [rdList_start h0 (by omega), bnd_ok h2, encs_app, e1, List.length_append, ← Nat.add_assoc]
  rfl
theorem flat_id (l : List Int) : l.flatMap (fun a => [a]) = l := by
  induction l with
  | nil => rfl
  | cons a l ih => rw [List.flatMap_cons, ih]; rfl
theorem rdInts_enc {L : List UInt8} (l : List Int) (p : Nat) (post : List UInt8) (hl : l.length ≤ 1000000) (hz : ∀ z ∈ l, InR z) (h : L.drop p = encs ([(l.length : Int)] ++ l) ++ post) : rdList (rdInt L) L p = .ok (l, p + (encs ([(l.length : Int)] ++ l)).length) := by
  have := rdList_enc (L := L) (f := rdInt L) (b := fun a => [a]) (fun a => by simp) l p post hl (fun x hx p post h => by
    have e : encs [x] = encI x := by simp [encs]
    rw [e] at h ⊢
    exact rdInt_enc (hz x hx) h) (by rwa [flat_id])
  rwa [flat_id] at this
theorem rdPg_enc {L : List UInt8} {p : Nat} {post : List UInt8} {e : Pg} (hz : ∀ z ∈ e.l, InR z) (hl : e.cells.length ≤ 1000000) (h : L.drop p = encs e.l ++ post) : rdPg L p = .ok (e, p + (encs e.l).length) := by
  have e1 : e.l = e.num :: ([(e.cells.length : Int)] ++ e.cells) := rfl
  rw [e1] at h ⊢
  rw [encs_cons, List.append_assoc] at h
  have h0 := rdInt_enc (hz _ (by rw [e1]; simp)) h
  have h1 := rdInts_enc e.cells _ post hl (fun z hz' => hz z (by rw [e1]; simp [hz'])) (drop_more h)
  unfold rdPg
  rw [bnd_ok h0, bnd_ok h1, encs_cons, List.length_append, ← Nat.add_assoc]
theorem rdPgs_enc {L : List UInt8} {p : Nat} {post : List UInt8} {ps : List Pg} (hz : ∀ e ∈ ps, (∀ z ∈ e.l, InR z) ∧ e.cells.length ≤ 1000000) (hl : ps.length ≤ 1000000) (h : L.drop p = encs (pgL ps) ++ post) : rdPgs L p = .ok (ps, p + (encs (pgL ps)).length) :=
  rdList_enc (b := Pg.l) (fun a => by simp [Pg.l]) ps p post hl (fun x hx p post h => rdPg_enc (hz x hx).1 (hz x hx).2 h) h
theorem rdSt_enc {L : List UInt8} {p : Nat} {post : List UInt8} {s : Stt} (hz : ∀ z ∈ s.l, InR z) (h1 : s.cells.length ≤ 1000000) (h2 : s.evs.length ≤ 1000000) (h3 : s.sent.length ≤ 1000000) (h4 : s.outs.length ≤ 1000000) (h : L.drop p = encs s.l ++ post) : rdSt L p = .ok (s, p + (encs s.l).length) := by
  have e : s.l = ([(s.cells.length : Int)] ++ s.cells) ++ (([(s.evs.length : Int)] ++ s.evs.flatMap Ev.l) ++ (([(s.sent.length : Int)] ++ s.sent.flatMap Snd.l) ++ ([(s.outs.length : Int)] ++ s.outs.flatMap Ou.l))) := by
    simp only [Stt.l, List.append_assoc]
  rw [e] at h hz ⊢
  rw [encs4, List.append_assoc, List.append_assoc, List.append_assoc] at h
  have mem2 : ∀ {α : Type} {b : α → List Int} {l : List α} {x : α} {z : Int}, x ∈ l → z ∈ b x → z ∈ l.flatMap b := fun hx hz => List.mem_flatMap.2 ⟨_, hx, hz⟩
  have g1 := rdInts_enc s.cells p _ h1 (fun z hz' => hz z (by simp [hz'])) h
  have d1 := drop_more h
  have g2 := rdList_enc (f := rdEv L) (b := Ev.l) (fun a => by simp [Ev.l]) s.evs _ _ h2 (fun x hx p post h => rdEv_enc (fun z hz' => hz z (by have := mem2 hx hz'; simp only [List.mem_append]; simp only [this, true_or, or_true])) h) d1
  have d2 := drop_more d1
  have g3 := rdList_enc (f := rdSn L) (b := Snd.l) (fun a => by simp [Snd.l]) s.sent _ _ h3 (fun x hx p post h => rdSn_enc (fun z hz' => hz z (by have := mem2 hx hz'; simp only [List.mem_append]; simp only [this, true_or, or_true])) h) d2
  have d3 := drop_more d2
  have g4 := rdList_enc (f := rdOu L) (b := Ou.l) (fun a => by simp [Ou.l]) s.outs _ _ h4 (fun x hx p post h => rdOu_enc (fun z hz' => hz z (by have := mem2 hx hz'; simp only [List.mem_append]; simp only [this, true_or, or_true])) h) d3
  unfold rdSt
  rw [bnd_ok g1, bnd_ok g2, bnd_ok g3, bnd_ok g4, encs4, List.length_append, List.length_append, List.length_append]
  congr 2
  omega
theorem bnd_iv {α β : Type} {x : Except Nat (α × Nat)} {f : α → Nat → Except Nat (β × Nat)} {y : β × Nat} (h : bnd x f = .ok y) : ∃ a q, x = .ok (a, q) ∧ f a q = .ok y := by
  cases x with
  | error k => cases h
  | ok v => exact ⟨v.1, v.2, rfl, h⟩
def Mon {α : Type} (k : Nat) (f g : Nat → Except Nat (α × Nat)) : Prop := ∀ p a q, f p = .ok (a, q) → g p = .ok (a, q) ∧ (p ≤ k → q ≤ k)
theorem Mon.ok_ {α : Type} (k : Nat) (a : α) : Mon k (fun p => .ok (a, p)) (fun p => .ok (a, p)) := fun p b q h => by
  cases h
  exact ⟨rfl, id⟩
theorem Mon.bnd_ {α β : Type} {k : Nat} {f g : Nat → Except Nat (α × Nat)} {f' g' : α → Nat → Except Nat (β × Nat)} (h : Mon k f g) (h' : ∀ a, Mon k (f' a) (g' a)) : Mon k (fun p => bnd (f p) f') (fun p => bnd (g p) g') := fun p b q e => by
  obtain ⟨a, q1, e1, e2⟩ := bnd_iv e
  have h1 := h p a q1 e1
  have h2 := h' a q1 b q e2
  exact ⟨by show bnd (g p) g' = _; rw [bnd_ok h1.1]; exact h2.1, fun hp => h2.2 (h1.2 hp)⟩
theorem take_get {L : List UInt8} {k p : Nat} {c : UInt8} (h : (L.take k)[p]? = some c) : L[p]? = some c ∧ p < k := by
  rw [List.getElem?_take] at h
  split at h
  · exact ⟨h, by assumption⟩
  · cases h
theorem rdI_mon (L : List UInt8) (k : Nat) : ∀ (n i u p t q : Nat), rdI (L.take k) n i u p = .ok (t, q) → rdI L n i u p = .ok (t, q) ∧ q ≤ k
  | 0, i, u, p, t, q, h => by cases h
  | n + 1, i, u, p, t, q, h => by
    cases hc : (L.take k)[p]? with
    | none => rw [rdI_none hc] at h; cases h
    | some c =>
      have hg := take_get hc
      by_cases hb : (i = 9 ∧ 1 < c.toNat) ∨ (0 < i ∧ c.toNat = 0)
      · rw [rdI_bad hc hb] at h; cases h
      · by_cases h7 : c.toNat < 128
        · rw [rdI_end hc hb h7] at h
          rw [rdI_end hg.1 hb h7]
          cases h
          exact ⟨rfl, hg.2⟩
        · rw [rdI_go hc hb h7] at h
          rw [rdI_go hg.1 hb h7]
          exact rdI_mon L k n _ _ _ t q h
theorem rdInt_mon (L : List UInt8) (k : Nat) : Mon k (rdInt (L.take k)) (rdInt L) := fun p a q h => by
  unfold rdInt rdU at h ⊢
  cases hx : rdI (L.take k) 10 0 0 p with
  | error e => rw [hx] at h; cases h
  | ok y =>
    have := rdI_mon L k 10 0 0 p y.1 y.2 hx
    rw [hx] at h
    rw [this.1]
    cases h
    exact ⟨rfl, fun _ => this.2⟩
theorem rdEv_mon (L : List UInt8) (k : Nat) : Mon k (rdEv (L.take k)) (rdEv L) := by
  have h := rdInt_mon L k
  exact h.bnd_ fun _ => h.bnd_ fun _ => h.bnd_ fun _ => h.bnd_ fun _ => h.bnd_ fun _ => h.bnd_ fun _ => h.bnd_ fun _ => Mon.ok_ _ _
theorem rdSn_mon (L : List UInt8) (k : Nat) : Mon k (rdSn (L.take k)) (rdSn L) := by
  have h := rdInt_mon L k
  exact h.bnd_ fun _ => h.bnd_ fun _ => h.bnd_ fun _ => h.bnd_ fun _ => Mon.ok_ _ _
theorem rdOu_mon (L : List UInt8) (k : Nat) : Mon k (rdOu (L.take k)) (rdOu L) := by
  have h := rdInt_mon L k
  exact h.bnd_ fun _ => h.bnd_ fun _ => Mon.ok_ _ _
theorem rdRep_mon {α : Type} {k : Nat} {f g : Nat → Except Nat (α × Nat)} (h : Mon k f g) : ∀ (n : Nat), Mon k (rdRep f n) (rdRep g n)
  | 0 => Mon.ok_ _ _
  | n + 1 => h.bnd_ fun _ => (rdRep_mon h n).bnd_ fun _ => Mon.ok_ _ _
theorem rdList_mon {α : Type} {L : List UInt8} {k : Nat} {f g : Nat → Except Nat (α × Nat)} (h : Mon k f g) : Mon k (rdList f (L.take k)) (rdList g L) := fun p l q e => by
  unfold rdList at e
  obtain ⟨a, q1, e1, e2⟩ := bnd_iv e
  have h1 := rdInt_mon L k p a q1 e1
  split at e2
  · cases e2
  · rename_i hn
    have h2 := rdRep_mon h _ _ _ _ e2
    refine ⟨?_, fun hp => h2.2 (h1.2 hp)⟩
    unfold rdList
    rw [bnd_ok h1.1, if_neg (by rw [List.length_take] at hn; omega)]
    exact h2.1
theorem rdSt_mon (L : List UInt8) (k : Nat) : Mon k (rdSt (L.take k)) (rdSt L) :=
  (rdList_mon (rdInt_mon L k)).bnd_ fun _ => (rdList_mon (rdEv_mon L k)).bnd_ fun _ => (rdList_mon (rdSn_mon L k)).bnd_ fun _ => (rdList_mon (rdOu_mon L k)).bnd_ fun _ => Mon.ok_ _ _
def E89 {α : Type} (x : Except Nat (α × Nat)) : Prop := ∀ k, x = .error k → k = 8 ∨ k = 9
theorem E89.ok_ {α : Type} (y : α × Nat) : E89 (.ok y) := fun k h => by cases h
theorem E89.bnd_ {α β : Type} {x : Except Nat (α × Nat)} {f : α → Nat → Except Nat (β × Nat)} (h : E89 x) (hf : ∀ a q, E89 (f a q)) : E89 (bnd x f) := by
  cases x with
  | error j => exact fun k e => h k (by cases e; rfl)
  | ok y => exact hf y.1 y.2
theorem rdI_89 (L : List UInt8) : ∀ (n i u p : Nat), E89 (rdI L n i u p)
  | 0, i, u, p => fun k h => by cases h; exact .inr rfl
  | n + 1, i, u, p => fun k h => by
    cases hc : L[p]? with
    | none => rw [rdI_none hc] at h; cases h; exact .inl rfl
    | some c =>
      by_cases hb : (i = 9 ∧ 1 < c.toNat) ∨ (0 < i ∧ c.toNat = 0)
      · rw [rdI_bad hc hb] at h; cases h; exact .inr rfl
      · by_cases h7 : c.toNat < 128
        · rw [rdI_end hc hb h7] at h; cases h
        · rw [rdI_go hc hb h7] at h
          exact rdI_89 L n _ _ _ k h
theorem rdInt_89 (L : List UInt8) (p : Nat) : E89 (rdInt L p) := fun k h => by
  unfold rdInt rdU at h
  cases hx : rdI L 10 0 0 p with
  | error e => rw [hx] at h; cases h; exact rdI_89 L 10 0 0 p _ hx
  | ok y => rw [hx] at h; cases h
theorem rdEv_89 (L : List UInt8) (p : Nat) : E89 (rdEv L p) :=
  (rdInt_89 _ _).bnd_ fun _ _ => (rdInt_89 _ _).bnd_ fun _ _ => (rdInt_89 _ _).bnd_ fun _ _ => (rdInt_89 _ _).bnd_ fun _ _ => (rdInt_89 _ _).bnd_ fun _ _ => (rdInt_89 _ _).bnd_ fun _ _ => (rdInt_89 _ _).bnd_ fun _ _ => E89.ok_ _
theorem rdSn_89 (L : List UInt8) (p : Nat) : E89 (rdSn L p) :=
  (rdInt_89 _ _).bnd_ fun _ _ => (rdInt_89 _ _).bnd_ fun _ _ => (rdInt_89 _ _).bnd_ fun _ _ => (rdInt_89 _ _).bnd_ fun _ _ => E89.ok_ _
theorem rdOu_89 (L : List UInt8) (p : Nat) : E89 (rdOu L p) := (rdInt_89 _ _).bnd_ fun _ _ => (rdInt_89 _ _).bnd_ fun _ _ => E89.ok_ _
theorem rdRep_89 {α : Type} {f : Nat → Except Nat (α × Nat)} (hf : ∀ p, E89 (f p)) : ∀ n p, E89 (rdRep f n p)
  | 0, p => E89.ok_ _
  | n + 1, p => (hf p).bnd_ fun _ q => (rdRep_89 hf n q).bnd_ fun _ _ => E89.ok_ _
theorem rdList_89 {α : Type} {f : Nat → Except Nat (α × Nat)} (hf : ∀ p, E89 (f p)) (L : List UInt8) (p : Nat) : E89 (rdList f L p) :=
  (rdInt_89 _ _).bnd_ fun a q => by
    split
    · exact fun k h => by cases h; exact .inr rfl
    · exact rdRep_89 hf _ _
theorem rdSt_89 (L : List UInt8) (p : Nat) : E89 (rdSt L p) :=
  (rdList_89 (rdInt_89 L) _ _).bnd_ fun _ _ => (rdList_89 (rdEv_89 L) _ _).bnd_ fun _ _ => (rdList_89 (rdSn_89 L) _ _).bnd_ fun _ _ => (rdList_89 (rdOu_89 L) _ _).bnd_ fun _ _ => E89.ok_ _
theorem rdSt_cut {L : List UInt8} {p k : Nat} {s : Stt} (h : rdSt L p = .ok (s, L.length)) (hp : p ≤ k) (hk : k < L.length) : ∃ e, rdSt (L.take k) p = .error e ∧ (e = 8 ∨ e = 9) := by
  cases hx : rdSt (L.take k) p with
  | error e => exact ⟨e, rfl, rdSt_89 _ _ _ hx⟩
  | ok y =>
    have := rdSt_mon L k p y.1 y.2 hx
    rw [h] at this
    have h1 := this.1
    have h2 := this.2 hp
    cases y
    cases h1
    dsimp only at h2
    omega
end Go.Proofs.YtiblijmngokcgaaDoor
