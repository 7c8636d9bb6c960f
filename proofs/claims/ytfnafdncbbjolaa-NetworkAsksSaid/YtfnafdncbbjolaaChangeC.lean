/-
  The changes of the messages in flight: the refusals; Drop, Duplicate; the reference's.
-/
import Derived.Test.YtfnafdncbbjolaaChangeB
namespace Go.Proofs.Ytfnafdncbbjolaa
open Go.RowKit
set_option maxRecDepth 100000
set_option linter.unusedVariables false

def zM : Msg := ⟨0, 0, 0, 0, 0, 0⟩
theorem out_cases {n : Nat} {k : Int} (h : k < 0 ∨ (n : Int) ≤ k) {K : Prop} (h1 : decide (k < 0) = true → K) (h2 : decide (k < 0) = false → decide ((n : Int) ≤ k) = true → K) : K := by
  by_cases h0 : k < 0
  · exact h1 (by simpa using h0)
  · exact h2 (by simpa using h0) (by simp; omega)

set_option maxHeartbeats 1000000 in
theorem take_no (A : Option Addr) (n c : Nat) (w : World) (k : Int) (hk : k < 0 ∨ (n : Int) ≤ k) (hn : n ≤ 1000) :
    Calls Try.prog 23 #[.slice A n c, .int .i64 k] w fun e w' => e = .returned (.tuple #[aggM zM, .slice none 0 0, .int .i64 11]) ∧ Below w.heap.size w w' := by
  refine out_cases hk ?_ ?_
  · intro d1
    go_enter Try.func23, Try.ntmps23
    go_wp2
    refine bodyPost_ret (v := .tuple #[aggM zM, .slice none 0 0, .int .i64 11]) (by simp [results, Try.results23, go_sem, aggM, zM]) rfl ⟨rfl, ?_⟩
    exact (Below.refl _ w).alloc (Nat.le_refl _) _
  · intro d1 d2
    go_enter Try.func23, Try.ntmps23
    go_wp2
    refine bodyPost_ret (v := .tuple #[aggM zM, .slice none 0 0, .int .i64 11]) (by simp [results, Try.results23, go_sem, aggM, zM]) rfl ⟨rfl, ?_⟩
    exact (Below.refl _ w).alloc (Nat.le_refl _) _

set_option maxHeartbeats 1000000 in
theorem drop_ok (A : Option Addr) (n c : Nat) (ms : List Msg) (S : Nat → Prop) (w : World) (hv : Recs encM S w (.slice A n c) ms) (hlen : n ≤ 1000) (k : Nat) (m : Msg) (hk : ms[k]? = some m) :
    Calls Try.prog 20 #[.slice A n c, .int .i64 (k : Int)] w fun e w' => ∃ A' c', e = .returned (.tuple #[.slice A' (n - 1) c', .int .i64 0]) ∧ OwnR encM 9 w' w.heap.size 32 (.slice A' (n - 1) c') (ms.take k ++ ms.drop (k + 1)) ∧ Below w.heap.size w w' := by
  go_enter Try.func20, Try.ntmps20
  go_wp2_with fail
  refine (take_ok A n c ms S w hv hlen k m hk).mono ?_
  rintro e w1 ⟨A', c', rfl, hown, hb1⟩
  unfold aggM
  go_wp2
  go_ret2
  have ha : ∀ o, Below w1.heap.size w1 (w1.alloc o) := fun o => (Below.refl _ _).alloc (Nat.le_refl _) o
  exact ⟨A', c', rfl, hown.ext (ha _), Below.ext hb1 (ha _)⟩

set_option maxHeartbeats 1000000 in
theorem drop_no (A : Option Addr) (n c : Nat) (w : World) (k : Int) (hk : k < 0 ∨ (n : Int) ≤ k) (hn : n ≤ 1000) :
    Calls Try.prog 20 #[.slice A n c, .int .i64 k] w fun e w' => e = .returned (.tuple #[.slice none 0 0, .int .i64 11]) ∧ Below w.heap.size w w' := by
  go_enter Try.func20, Try.ntmps20
  go_wp2_with fail
  refine (take_no A n c w k hk hn).mono ?_
  rintro e w1 ⟨rfl, hb1⟩
  unfold aggM zM
  go_wp2
  go_ret2
  exact ⟨rfl, Below.ext hb1 ((Below.refl _ _).alloc (Nat.le_refl _) _)⟩

set_option maxHeartbeats 1000000 in
theorem dup_no (A : Option Addr) (n c : Nat) (w : World) (k : Int) (hk : k < 0 ∨ (n : Int) ≤ k) (hn : n ≤ 1000) :
    Calls Try.prog 19 #[.slice A n c, .int .i64 k] w fun e w' => e = .returned (.tuple #[.slice none 0 0, .int .i64 11]) ∧ w = w' := by
  refine out_cases hk ?_ ?_
  · intro d1
    go_enter Try.func19, Try.ntmps19
    go_wp2
    go_ret2
    exact ⟨rfl, rfl⟩
  · intro d1 d2
    go_enter Try.func19, Try.ntmps19
    go_wp2
    go_ret2
    exact ⟨rfl, rfl⟩

theorem one_part {A : Option Addr} {n c k : Nat} {ms : List Msg} {m : Msg} {S : Nat → Prop} {w : World} (hv : Recs encM S w (.slice A n c) ms) (hk : ms[k]? = some m) : ∃ b off, A = some ⟨b, off, none⟩ ∧ k < n ∧ n ≤ c ∧ c ≤ 9223372036854775807 ∧ Recs encM S w (.slice (some ⟨b, off + k * 9, none⟩) 1 (c - k)) [m] := by
  obtain ⟨hl1, hl2, hl3⟩ := hv.len
  obtain ⟨hlt, rfl⟩ := List.getElem?_eq_some_iff.1 hk
  obtain ⟨b, off, m', rfl, _⟩ := hv.at_ encM_len hlt (by omega)
  have hd := (hv.drop_ encM_len (j := k) (by omega) (q := False) (fun h => h.elim)).take_ encM_len (j := 1) (by omega)
  simp only [if_false, Option.map_some, Addr.add_mid] at hd
  refine ⟨b, off, rfl, by omega, hl2, hl3, ?_⟩
  rw [List.drop_eq_getElem_cons hlt] at hd
  exact hd

set_option maxHeartbeats 1000000 in
theorem dup_ok (A : Option Addr) (n c : Nat) (ms : List Msg) (S : Nat → Prop) (w : World) (hv : Recs encM S w (.slice A n c) ms) (hlen : n ≤ 255) (k : Nat) (m : Msg) (hk : ms[k]? = some m) :
    Calls Try.prog 19 #[.slice A n c, .int .i64 (k : Int)] w fun e w' => ∃ A' c', e = .returned (.tuple #[.slice A' (n + 1) c', .int .i64 0]) ∧ OwnR encM 9 w' w.heap.size 32 (.slice A' (n + 1) c') (ms ++ [m]) ∧ Below w.heap.size w w' := by
  obtain ⟨b, off, rfl, hlt, hnc, hcm, h1⟩ := one_part hv hk
  have d0 : decide ((k : Int) < 0) = false := by simp
  have d1 : decide (n ≤ k) = false := by simpa using hlt
  have hck : ¬ c = k := by omega
  go_enter Try.func19, Try.ntmps19
  go_wp2_with fail
  refine (add_ok _ _ n c 1 (c - k) ms [m] S S w hv h1 (by omega)).mono ?_
  rintro e w1 ⟨A', c', rfl, hown, hb1⟩
  go_wp2
  go_ret2
  exact ⟨A', c', rfl, hown, hb1⟩

set_option maxHeartbeats 1000000 in
theorem dup_many (A : Option Addr) (n c : Nat) (ms : List Msg) (S : Nat → Prop) (w : World) (hv : Recs encM S w (.slice A n c) ms) (hlen : 256 ≤ n) (hlen2 : n ≤ 1000) (k : Nat) (m : Msg) (hk : ms[k]? = some m) :
    Calls Try.prog 19 #[.slice A n c, .int .i64 (k : Int)] w fun e w' => e = .returned (.tuple #[.slice none 0 0, .int .i64 4]) ∧ w = w' := by
  obtain ⟨b, off, rfl, hlt, hnc, hcm, h1⟩ := one_part hv hk
  have d0 : decide ((k : Int) < 0) = false := by simp
  have d1 : decide (n ≤ k) = false := by simpa using hlt
  have hck : ¬ c = k := by omega
  go_enter Try.func19, Try.ntmps19
  go_wp2_with fail
  refine (add_no _ _ n c 1 (c - k) w (by omega) (by omega) (by omega)).mono ?_
  rintro e w1 ⟨rfl, rfl⟩
  go_wp2
  go_ret2
  exact ⟨rfl, rfl⟩

theorem mkMsgs (n : Nat) (hn : n ≤ 1000000) (w : World) : (Instr.makeSlice 26 (.int .i64 (n : Int)) (.int .i64 (n : Int))).run Try.prog w = .ok (.slice (some ⟨w.heap.size, 0, none⟩) n n) (w.alloc (.cells (madeCells (encM zM).toArray (n * 9)) 32)) := by
  obtain ⟨i, hi, hz, hs, hb⟩ := info_parts infoM
  have h := run_make (P := Try.prog) w 26 32 i zeroM Try.underlying26 hi hz .i64 .i64 n n (by omega) (by omega) (by rw [hb]; omega) (by omega)
  rw [h, hs]
  simp only [Int.toNat_natCast]
  rfl
theorem made_recs (n : Nat) (hn : n ≤ 1000000) (w : World) : Recs encM (fun _ => True) (w.alloc (.cells (madeCells (encM zM).toArray (n * 9)) 32)) (.slice (some ⟨w.heap.size, 0, none⟩) n n) (List.replicate n zM) := by
  refine ⟨_, n, by simp, by simp, by unfold maxLen; omega, Cs.lit _ _ _ _ _ trivial ?_⟩
  rw [flat_made encM_len zM (by omega) n]
  exact List.take_length
end Go.Proofs.Ytfnafdncbbjolaa
