/-
  What a scan finds in sealed bodies, plain.
-/
import Derived.Test.YtmakcggmaphanaaScanFn
namespace Go.Proofs.Ytmakcggmaphanaa
set_option linter.unusedVariables false

theorem seal_at {b pre post li : List UInt8} (hb : b = pre ++ (sealL li ++ post)) (hl : li.length ≤ 4096) :
    nextL b pre.length = ((b.drop (pre.length + 8)).take li.length, pre.length + 8 + li.length, 0) ∧ num ((b.drop pre.length).take 4) = li.length ∧ pre.length + 8 + li.length ≤ b.length ∧ (b.drop (pre.length + 8)).take li.length = li := by
  have d0 : b.drop pre.length = sealL li ++ post := by rw [hb, List.drop_left]
  have e1 : (b.drop pre.length).take 4 = le4 li.length := by rw [d0]; simp [sealL, headL, le4]
  have e2 : (b.drop (pre.length + 4)).take 4 = le4 (sumL li) := by rw [← List.drop_drop, d0]; simp [sealL, headL, le4]
  have e3 : (b.drop (pre.length + 8)).take li.length = li := by rw [← List.drop_drop, d0]; simp [sealL, headL, le4]
  have n1 : num ((b.drop pre.length).take 4) = li.length := by rw [e1, num_le4 _ (by omega)]
  have hlen : pre.length + 8 + li.length ≤ b.length := by rw [hb, List.length_append, List.length_append, sealL_length]; omega
  have h := nextL_ok (b := b) (k := pre.length) (by omega) (by rw [n1]; exact hl) (by rw [n1]; exact hlen) (by rw [n1, e3, e2, num_le4 _ (sumL_lt _)])
  rw [n1] at h
  exact ⟨h, n1, hlen, e3⟩

theorem scans_flat (b post : List UInt8) (ps : List (Nat × Nat)) (e : Nat) : ∀ (ll : List (List UInt8)) (pre : List UInt8), b = pre ++ (ll.flatMap sealL ++ post) → (∀ li ∈ ll, li.length ≤ 4096) →
    Scans b (pre.length + (ll.flatMap sealL).length) ps e → ∃ qs, qs.map (bodyL b) = ll ∧ Scans b pre.length (qs ++ ps) e
  | [], pre, _, _, h => ⟨[], rfl, by simpa using h⟩
  | li :: ll, pre, hb, hsm, h => by
    rw [List.flatMap_cons] at hb h
    have hb1 : b = pre ++ (sealL li ++ (ll.flatMap sealL ++ post)) := by rw [hb]; simp
    obtain ⟨h1, h2, h3, h4⟩ := seal_at hb1 (hsm li (by simp))
    have e1 : (pre ++ sealL li).length = pre.length + 8 + li.length := by rw [List.length_append, sealL_length]; omega
    obtain ⟨qs, hq, hs⟩ := scans_flat b post ps e ll (pre ++ sealL li) (by rw [hb1]; simp) (fun x hx => hsm x (by simp [hx])) (by
      rw [List.length_append]
      rw [List.length_append] at h
      rw [show pre.length + (sealL li).length + (ll.flatMap sealL).length = pre.length + ((sealL li).length + (ll.flatMap sealL).length) by omega]
      exact h)
    rw [e1] at hs
    exact ⟨(pre.length, li.length) :: qs, by rw [List.map_cons, hq]; show (b.drop (pre.length + 8)).take li.length :: ll = _; rw [h4], .go h1 h2.symm h3 hs⟩

/-- frames, and anything behind them -/
theorem scans_back (ll : List (List UInt8)) (more : List UInt8) (hsm : ∀ li ∈ ll, li.length ≤ 4096) : ∃ qs ps e, Scans (ll.flatMap sealL ++ more) 0 (qs ++ ps) e ∧ qs.map (bodyL (ll.flatMap sealL ++ more)) = ll ∧ (ll.flatMap sealL).length ≤ e := by
  obtain ⟨ps, e, hs⟩ := scans_ex (ll.flatMap sealL ++ more) _ (ll.flatMap sealL).length (Nat.le_refl _)
  have hl := (hs.len (by simp)).1
  obtain ⟨qs, hq, hs'⟩ := scans_flat (ll.flatMap sealL ++ more) more ps e ll [] (by simp) hsm (by simpa using hs)
  exact ⟨qs, ps, e, hs', hq, by omega⟩
theorem scans_all (ll : List (List UInt8)) (hsm : ∀ li ∈ ll, li.length ≤ 4096) : ∃ qs, Scans (ll.flatMap sealL) 0 qs (ll.flatMap sealL).length ∧ qs.length = ll.length := by
  have hs : Scans (ll.flatMap sealL) (ll.flatMap sealL).length [] (ll.flatMap sealL).length := .stop (by rw [nextL_end rfl]; decide)
  obtain ⟨qs, hq, hs'⟩ := scans_flat (ll.flatMap sealL) [] [] _ ll [] (by simp) hsm (by simpa using hs)
  exact ⟨qs, by simpa using hs', by rw [← hq]; simp⟩
/-- a beginning of frames -/
theorem scans_cut (ll : List (List UInt8)) (hsm : ∀ li ∈ ll, li.length ≤ 4096) (k i : Nat) (hk : k ≤ (ll.flatMap sealL).length) (hi : i ≤ ll.length) (h1 : ((ll.take i).flatMap sealL).length ≤ k)
    (h2 : ∀ li, ll[i]? = some li → k < ((ll.take i).flatMap sealL).length + 8 + li.length) : ∃ qs, Scans ((ll.flatMap sealL).take k) 0 qs ((ll.take i).flatMap sealL).length ∧ qs.length = i := by
  have hsplit : ll.flatMap sealL = (ll.take i).flatMap sealL ++ (ll.drop i).flatMap sealL := by rw [← List.flatMap_append, List.take_append_drop]
  have hbk : (ll.flatMap sealL).take k = (ll.take i).flatMap sealL ++ ((ll.drop i).flatMap sealL).take (k - ((ll.take i).flatMap sealL).length) := by
    rw [hsplit, List.take_append, List.take_of_length_le h1]
  have hlen : ((ll.flatMap sealL).take k).length = k := by rw [List.length_take]; omega
  have hstop : (nextL ((ll.flatMap sealL).take k) ((ll.take i).flatMap sealL).length).2.2 ≠ 0 := by
    by_cases e : ((ll.take i).flatMap sealL).length = k
    · rw [nextL_end (by rw [hlen]; exact e)]; decide
    · by_cases e8 : k - ((ll.take i).flatMap sealL).length < 8
      · rw [nextL_short1 (by rw [hlen]; omega) (by rw [hlen]; exact e8)]; decide
      · have hil : i < ll.length := by
          refine Nat.lt_of_le_of_ne hi (fun ei => ?_)
          rw [ei, List.take_length] at e h1
          omega
        have hli := List.getElem?_eq_getElem hil
        have hm := h2 _ hli
        have hmem := hsm ll[i] (List.getElem_mem hil)
        have hd : (ll.drop i).flatMap sealL = sealL ll[i] ++ (ll.drop (i + 1)).flatMap sealL := by rw [List.drop_eq_getElem_cons hil, List.flatMap_cons]
        have hn : num ((((ll.flatMap sealL).take k).drop ((ll.take i).flatMap sealL).length).take 4) = ll[i].length := by
          rw [hbk, List.drop_left, List.take_take, Nat.min_eq_left (by omega), hd, sealL, headL, List.append_assoc, List.append_assoc, take_first, num_le4 _ (by omega)]
        rw [nextL_short2 (by rw [hlen]; omega) (by rw [hn]; exact hmem) (by rw [hn, hlen]; omega)]
        decide
  obtain ⟨qs, hq, hs'⟩ := scans_flat ((ll.flatMap sealL).take k) _ [] _ (ll.take i) [] (by simpa using hbk) (fun x hx => hsm x (List.mem_of_mem_take hx)) (by simpa using Scans.stop hstop)
  refine ⟨qs, by simpa using hs', ?_⟩
  have := congrArg List.length hq
  simp at this
  omega
theorem sumL_nil : sumL [] = 558161692 := by decide +kernel
theorem num_zeros : num (List.replicate 4 0) = 0 := by decide +kernel
theorem nextL_zeros (n : Nat) (hn : 8 ≤ n) : nextL (List.replicate n 0) 0 = ([], 0, 10) := by
  have e1 : ((List.replicate n (0 : UInt8)).drop 0).take 4 = List.replicate 4 0 := by rw [List.drop_zero, List.take_replicate, Nat.min_eq_left (by omega)]
  have e2 : ((List.replicate n (0 : UInt8)).drop (0 + 4)).take 4 = List.replicate 4 0 := by rw [List.drop_replicate, List.take_replicate, Nat.min_eq_left (by omega)]
  have h := nextL_sum (b := List.replicate n 0) (k := 0) (by simp; omega) (by rw [e1, num_zeros]; omega) (by rw [e1, num_zeros]; simp; omega) (by rw [e1, e2, num_zeros, List.take_zero, sumL_nil]; decide)
  exact h
end Go.Proofs.Ytmakcggmaphanaa
