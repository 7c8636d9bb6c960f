/-
  What was written is read again: plain. The frames of determinants are found again.
-/
import Derived.Test.YtjcfnpmgklliiaaWalC
namespace Go.Proofs.Ytjcfnpmgklliiaa
open Go.RowKit
set_option linter.unusedVariables false
set_option linter.unusedSimpArgs false

theorem drop_get {L : List UInt8} {p : Nat} {c : UInt8} {r : List UInt8} (h : L.drop p = c :: r) : L[p]? = some c ∧ L.drop (p + 1) = r := by
  constructor
  · have := List.getElem?_drop (xs := L) (i := p) (j := 0)
    rw [h] at this
    simpa using this.symm
  · rw [← List.drop_drop, h]
    rfl
theorem drop_more {L a r : List UInt8} {p : Nat} (h : L.drop p = a ++ r) : L.drop (p + a.length) = r := by
  rw [← List.drop_drop, h, List.drop_left]
theorem rdI_encU (L post : List UInt8) : ∀ (n i u p v : Nat), n + i = 10 → u < 2 ^ (7 * i) → (0 < i → 0 < v) → u + v * 2 ^ (7 * i) < 18446744073709551616 → L.drop p = encU v ++ post →
    rdI L n i u p = .ok (u + v * 2 ^ (7 * i), p + (encU v).length) := by
  intro n
  induction n with
  | zero =>
    intro i u p v hn hu hv h64 hL
    obtain rfl : i = 10 := by omega
    have h1 := hv (by omega)
    have : 2 ^ (7 * 10) = 1180591620717411303424 := by decide
    rw [this] at h64
    omega
  | succ n ih =>
    intro i u p v hn hu hv h64 hL
    have hi9 : i ≤ 9 := by omega
    by_cases h1 : v < 128
    · rw [encU_lt h1] at hL ⊢
      have hc := (drop_get hL).1
      have hcn : (UInt8.ofNat v).toNat = v := by rw [UInt8.toNat_ofNat']; exact Nat.mod_eq_of_lt (by omega)
      rw [rdI_end hc (by
        rw [hcn]
        rintro (⟨rfl, h2⟩ | ⟨h2, h3⟩)
        · have e : 2 ^ (7 * 9) = 9223372036854775808 := by decide
          rw [e] at h64
          omega
        · have := hv h2
          omega) (by rw [hcn]; exact h1), hcn]
      rfl
    · have hge : encU v = UInt8.ofNat (v % 128 + 128) :: encU (v / 128) := encU_ge h1
      rw [hge] at hL
      rw [hge, List.length_cons]
      have hc := drop_get hL
      have hcn : (UInt8.ofNat (v % 128 + 128)).toNat = v % 128 + 128 := by rw [UInt8.toNat_ofNat']; exact Nat.mod_eq_of_lt (by omega)
      have hi8 : i < 9 := by
        rcases Nat.lt_or_ge i 9 with h | h
        · exact h
        · obtain rfl : i = 9 := by omega
          have e : 2 ^ (7 * 9) = 9223372036854775808 := by decide
          rw [e] at h64
          omega
      rw [rdI_go hc.1 (by
        rw [hcn]
        rintro (⟨rfl, h2⟩ | ⟨h2, h3⟩) <;> omega) (by rw [hcn]; omega), hcn]
      have e1 : (2 : Nat) ^ (7 * (i + 1)) = 128 * 2 ^ (7 * i) := by rw [show 7 * (i + 1) = 7 + 7 * i by omega, Nat.pow_add]
      have e2 : u + (v % 128 + 128 - 128) * 2 ^ (7 * i) + v / 128 * 2 ^ (7 * (i + 1)) = u + v * 2 ^ (7 * i) := by
        rw [e1, Nat.add_sub_cancel]
        generalize 2 ^ (7 * i) = P
        have hv2 : v = v % 128 + v / 128 * 128 := by omega
        conv => rhs; rw [hv2, Nat.add_mul, Nat.mul_assoc]
        rw [Nat.add_assoc]
      have hu2 := grp_lt (i := i) (u := u) (x := v % 128 + 128 - 128) (by omega) hu (by omega)
      rw [ih (i + 1) _ (p + 1) (v / 128) (by omega) hu2 (by omega) (by rw [e2]; exact h64) hc.2, e2]
      congr 2
      omega
theorem zd_zz {z : Int} (h : InR z) : zd (zz z) = z := by
  unfold zd zz
  obtain ⟨h1, h2⟩ := h
  by_cases hz : 0 ≤ z
  · rw [if_pos hz, if_pos (by omega)]; omega
  · rw [if_neg hz, if_neg (by omega)]; omega
theorem rdInt_enc {L post : List UInt8} {p : Nat} {z : Int} (hz : InR z) (h : L.drop p = encI z ++ post) : rdInt L p = .ok (z, p + (encI z).length) := by
  unfold rdInt rdU
  have h64 : zz z < 18446744073709551616 := zz_lt hz.1 hz.2
  rw [rdI_encU L post 10 0 0 p (zz z) rfl (by decide) (by omega) (by simpa using h64) h]
  simp [zd_zz hz, encI]
theorem encs_cons (a : Int) (l : List Int) : encs (a :: l) = encI a ++ encs l := rfl
theorem rdEv_enc {L post : List UInt8} {p : Nat} {e : Ev} (hz : ∀ z ∈ e.l, InR z) (h : L.drop p = encs e.l ++ post) : rdEv L p = .ok (e, p + (encs e.l).length) := by
  unfold Ev.l at h hz ⊢
  simp only [encs_cons, List.append_assoc] at h
  unfold rdEv
  have h0 := rdInt_enc (hz _ (by simp)) h
  have g0 := drop_more h
  have h1 := rdInt_enc (hz _ (by simp)) g0
  have g1 := drop_more g0
  have h2 := rdInt_enc (hz _ (by simp)) g1
  have g2 := drop_more g1
  have h3 := rdInt_enc (hz _ (by simp)) g2
  have g3 := drop_more g2
  have h4 := rdInt_enc (hz _ (by simp)) g3
  have g4 := drop_more g3
  have h5 := rdInt_enc (hz _ (by simp)) g4
  have g5 := drop_more g4
  have h6 := rdInt_enc (hz _ (by simp)) g5
  rw [bnd_ok h0, bnd_ok h1, bnd_ok h2, bnd_ok h3, bnd_ok h4, bnd_ok h5, bnd_ok h6]
  congr 2
  simp only [encs_cons, List.length_append]
  simp [encs]
  omega
theorem rdDt_enc {L post : List UInt8} {p : Nat} {d : Dt} (hz : DtIn d) (h : L.drop p = encs d.l ++ post) : rdDt L p = .ok (d, p + (encs d.l).length) := by
  unfold DtIn at hz
  have hl : d.l = d.proc :: d.index :: d.ev.l := rfl
  rw [hl] at h hz ⊢
  simp only [encs_cons, List.append_assoc] at h
  unfold rdDt
  have h0 := rdInt_enc (hz _ (by simp)) h
  have g0 := drop_more h
  have h1 := rdInt_enc (hz _ (by simp)) g0
  have g1 := drop_more g0
  have h2 := rdEv_enc (fun z hzz => hz z (by simp [hzz])) g1
  rw [bnd_ok h0, bnd_ok h1, bnd_ok h2]
  congr 2
  simp only [encs_cons, List.length_append]
  omega
theorem parse_detB {d : Dt} (h : DtIn d) : parse1 (detB d) = some d := by
  unfold parse1
  have := rdDt_enc (L := detB d) (post := []) (p := 0) h (by simp [detB])
  rw [this]
  simp [detB]
theorem wholeB_map : ∀ (l : List Dt) (rest : List (List UInt8)), (∀ d ∈ l, DtIn d) → wholeB (l.map detB ++ rest) = l ++ wholeB rest
  | [], rest, _ => rfl
  | d :: l, rest, h => by
    rw [List.map_cons, List.cons_append, wholeB_cons (parse_detB (h d (by simp))), wholeB_map l rest (fun x hx => h x (by simp [hx]))]
    rfl
theorem det_small {l : List Dt} (h : ∀ d ∈ l, DtIn d) : ∀ li ∈ l.map detB, li.length ≤ 4096 := by
  intro li hli
  obtain ⟨d, hd, rfl⟩ := List.mem_map.1 hli
  have := detB_len (h d hd)
  omega
/-- the frames of determinants, whatever stands behind them -/
theorem whole_more (l : List Dt) (more : List UInt8) (h : ∀ d ∈ l, DtIn d) : ∃ m, WholeR (frL l ++ more) (l ++ m) := by
  obtain ⟨qs, ps, e, hs, hb, _⟩ := scans_back (l.map detB) more (det_small h)
  refine ⟨wholeB (ps.map (bodyL (frL l ++ more))), qs ++ ps, e, hs, ?_⟩
  rw [List.map_append, show qs.map (bodyL (frL l ++ more)) = l.map detB from hb, wholeB_map l _ h]
/-- where no further frame is found -/
theorem whole_stop (l : List Dt) (more : List UInt8) (h : ∀ d ∈ l, DtIn d) (hx : (nextL (frL l ++ more) (frL l).length).2.2 ≠ 0) : WholeR (frL l ++ more) l := by
  obtain ⟨qs, hq, hs⟩ := scans_flat (frL l ++ more) more [] (frL l).length (l.map detB) [] (by simp [frL]) (det_small h) (by
    have : ([] : List UInt8).length + ((l.map detB).flatMap sealL).length = (frL l).length := by simp [frL]
    rw [this]
    exact .stop hx)
  refine ⟨qs, _, by simpa using hs, ?_⟩
  rw [hq]
  have := wholeB_map l [] h
  simpa [wholeB] using this.symm
theorem whole_frL (l : List Dt) (h : ∀ d ∈ l, DtIn d) : WholeR (frL l) l := by
  have := whole_stop l [] h (by rw [List.append_nil, nextL_end rfl]; simp)
  simpa using this
/-- a beginning of frames -/
theorem whole_cut (l : List Dt) (h : ∀ d ∈ l, DtIn d) (k : Nat) (hk : k ≤ (frL l).length) : ∃ i, i ≤ l.length ∧ WholeR ((frL l).take k) (l.take i) ∧ (frL (l.take i)).length ≤ k ∧ ∀ j, j ≤ l.length → (frL (l.take j)).length ≤ k → j ≤ i := by
  have hmono : ∀ a b, a ≤ b → (frL (l.take a)).length ≤ (frL (l.take b)).length := fun a b hab => by
    have : l.take b = l.take a ++ (l.take b).drop a := by
      have := List.take_append_drop a (l.take b)
      rw [List.take_take, Nat.min_eq_left hab] at this
      exact this.symm
    rw [this, frL_append, List.length_append]
    omega
  -- the last count that fits
  have hex : ∃ i, i ≤ l.length ∧ (frL (l.take i)).length ≤ k ∧ (∀ d, l[i]? = some d → k < (frL (l.take i)).length + 8 + (detB d).length) := by
    have : ∀ m, m ≤ l.length → (frL (l.take (l.length - m))).length ≤ k → ∃ i, i ≤ l.length ∧ (frL (l.take i)).length ≤ k ∧ (∀ d, l[i]? = some d → k < (frL (l.take i)).length + 8 + (detB d).length) := by
      intro m
      induction m with
      | zero => intro _ hm; exact ⟨l.length, Nat.le_refl _, by simpa using hm, fun d hd => by simp at hd⟩
      | succ m ih =>
        intro hml hm
        by_cases hf : (frL (l.take (l.length - m))).length ≤ k
        · exact ih (by omega) hf
        · refine ⟨l.length - (m + 1), by omega, hm, fun d hd => ?_⟩
          have := frL_snoc hd
          rw [show l.length - (m + 1) + 1 = l.length - m by omega] at this
          rw [this, List.length_append, sealL_length] at hf
          omega
    exact this l.length (Nat.le_refl _) (by simp [frL])
  obtain ⟨i, hi, hik, hid⟩ := hex
  refine ⟨i, hi, ?_, hik, fun j hj hjk => ?_⟩
  · have hmt : (l.take i).map detB = (l.map detB).take i := List.map_take
    have he : frL (l.take i) = ((l.map detB).take i).flatMap sealL := by unfold frL; rw [hmt]
    obtain ⟨qs', hs', hl'⟩ := scans_cut (l.map detB) (det_small h) k i hk (by simpa using hi) (by rw [← he]; exact hik) (fun li hli => by
      rw [List.getElem?_map] at hli
      cases hd : l[i]? with
      | none => rw [hd] at hli; simp at hli
      | some d =>
        rw [hd] at hli
        simp at hli
        subst hli
        rw [← he]
        exact hid d hd)
    have hpre : (frL l).take k = frL (l.take i) ++ ((frL l).take k).drop (frL (l.take i)).length := by
      have h1 : frL l = frL (l.take i) ++ frL (l.drop i) := by rw [← frL_append, List.take_append_drop]
      have h2 : ((frL l).take k).take (frL (l.take i)).length = frL (l.take i) := by
        rw [List.take_take, Nat.min_eq_left hik, h1, List.take_left]
      have := List.take_append_drop (frL (l.take i)).length ((frL l).take k)
      rw [h2] at this
      exact this.symm
    have hin : ∀ d ∈ l.take i, DtIn d := fun d hd => h d (List.mem_of_mem_take hd)
    obtain ⟨qs, ps, e, hs, hb, _⟩ := scans_back ((l.take i).map detB) (((frL l).take k).drop (frL (l.take i)).length) (det_small hin)
    have hs2 : Scans ((frL l).take k) 0 (qs ++ ps) e := by rw [hpre]; exact hs
    obtain ⟨hu, _⟩ := hs2.unique hs'
    have hql : qs.length = i := by
      have := congrArg List.length hb
      simp at this
      omega
    have hps : ps = [] := by
      have := congrArg List.length hu
      rw [List.length_append] at this
      exact List.eq_nil_of_length_eq_zero (by omega)
    subst hps
    refine ⟨qs ++ [], e, hs2, ?_⟩
    rw [List.append_nil]
    have hb2 : qs.map (bodyL ((frL l).take k)) = (l.take i).map detB := by rw [hpre]; exact hb
    rw [hb2]
    have := wholeB_map (l.take i) [] hin
    simpa [wholeB] using this.symm
  · rcases Nat.lt_or_ge i j with hlt | hge
    · exfalso
      have hil : i < l.length := by omega
      have := hid l[i] (List.getElem?_eq_getElem hil)
      have h1 := frL_snoc (List.getElem?_eq_getElem hil)
      have h2 := hmono (i + 1) j hlt
      rw [h1, List.length_append, sealL_length] at h2
      omega
    · exact hge
end Go.Proofs.Ytjcfnpmgklliiaa
