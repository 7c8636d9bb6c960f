/-
  The helpers of the laws on frames: bodies, seal, same.
-/
import Derived.Test.YtmakcggmaphanaaRefNext
import Derived.Test.YtmakcggmaphanaaLists
namespace Go.Proofs.Ytmakcggmaphanaa
open Go.RowKit
attribute [local irreducible] upd inv le4 putN byteOf z8 sumL headL sealL brow num nextL
set_option maxRecDepth 100000
set_option linter.unusedVariables false

set_option maxHeartbeats 400000 in
theorem bodies_any (v : Value) (l : List UInt8) (S : Nat → Prop) (w : World) (hv : Bytes S w v l) :
    Calls Try.prog 24 #[v] w fun e w' => ∃ v' ll, e = .returned v' ∧ ll.length ≤ 4 ∧ (∀ li ∈ ll, li.length ≤ 12) ∧ Lists (fun b => w.heap.size ≤ b) w' v' ll ∧ Below w.heap.size w w' := by
  go_enter Try.func24, Try.ntmps24
  go_wp2_with fail
  refine (codnew_any v l S _ 120 (by omega) hv).mono ?_
  rintro e w1 ⟨g, rfl, hC1, hb1⟩
  have hg1 := hC1.1
  have hglt := hC1.lt
  go_wp2_with fail
  refine (codnext_any w.heap.size g 5 _ hC1 (by omega) (by omega)).mono ?_
  rintro e w2 ⟨n, rfl, hn, hC2, hg2⟩
  have hb2 := Below.grow hb1 hg2 hg1
  go_wp2
  go_loopw [4, 5] (fun v i wr => ∃ (j : Nat) (A : Option Addr) (c : Nat) (ll : List (List UInt8)), i = .int .i64 j ∧ v = .slice A ll.length c ∧ ll.length + j = n ∧ (∀ li ∈ ll, li.length ≤ 12) ∧ OwnLs wr w1.heap.size 23 (.slice A ll.length c) ll ∧ Cod w.heap.size wr g ∧ w1.grownBy wr (some g)) (fun _ i _ => (intOf i).toNat)
  case atStart => exact ⟨n, none, 0, [], rfl, rfl, by simp, by simp, OwnLs.nil_ _ _ _, hC2, hg2⟩
  case round =>
    obtain ⟨j, A, c, ll, rfl, rfl, hlj, hsm, hown, hC, hgr⟩ := hrel
    have hlj' : ll.length + j ≤ n := by omega
    have Hlj := Lib.hid hlj
    have Hsm := Lib.hid hsm
    clear hlj hsm
    by_cases hlt : 0 < j
    · go_wp2_with fail
      refine (codbytes_any w.heap.size g 12 _ hC (by omega)).mono ?_
      rintro e w3 ⟨x, l', rfl, hl', hownx, hC3, hg3⟩
      have hszr := hgr.size
      have hsz3 := hg3.size
      obtain ⟨vs, hrow, hin⟩ := hown
      have hrow3 := World.ownsRow.kept hrow hg3 (by
        rcases Option.eq_none_or_eq_some (Value.slice A ll.length c).ownBlock with h0 | ⟨m, h0⟩
        · exact .inl h0
        · refine .inr (fun e => ?_)
          rw [h0] at e
          cases e
          have := (World.ownsRow.lt hrow _ h0).1
          omega)
      have hbx := hownx.bytes.mono (S' := fun b => wr.heap.size ≤ b) (fun b _ hs => hs.1)
      obtain ⟨Ax, cx, rfl, _⟩ := hownx.bytes
      go_wp2_with (refine wpList_app (D := fun _ => True) (o := ⟨some 18, _, _, _, _, _⟩) rfl _ _ 33 rfl w1.heap.size 23 (.slice none 0 0) 1 24 Try.underlying33 (by kernel_rfl) rfl (by omega) (.slice A ll.length c) ll.length vs rfl (World.ownsRow.alloc hrow3 _) (some ⟨w3.heap.size, 0, none⟩) 1 1 [.slice Ax l'.length cx] rfl rfl ?c1 ?c2 (by omega) (by unfold maxLen; omega) ?c3 (ll.length + 1) rfl ?_; rotate_left; rotate_left; rotate_left; intro A5 c5 w5 hown5 hgr5 hat5 hc51 hc52)
      case c1 => exact Cs.lit _ _ _ _ _ trivial rfl
      case c2 => intro u hu; simp at hu; subst hu; rfl
      case c3 => simp; omega
      obtain ⟨hC5, hg5⟩ := app_step _ hglt hgr hg3 hC3 hgr5 (fun m hm => (World.ownsRow.lt hrow3 m hm).1)
      have hnew := OwnLs.push hin (by simpa using hrow.1) (fun m hm => (World.ownsRow.lt hrow m hm).2) hszr (fun b hb hs => hg3.block b hb (by intro e; cases e; omega)) hsz3 hbx hown5 hgr5 hat5
      have e : (ll ++ [l']).length = ll.length + 1 := by simp
      go_roundw
      case rel =>
        refine ⟨j - 1, A5, c5, ll ++ [l'], by congr 1; omega, by rw [e], by have := Hlj.out; omega, ?_, by rw [e]; exact hnew, hC5, hg5⟩
        intro li hli
        rcases List.mem_append.1 hli with h | h
        · exact Hsm.out li h
        · simp at h; subst h; exact hl'
      case measure => simp [intOf]; omega
    · obtain rfl : j = 0 := by omega
      go_wp2
      go_ret
      exact ⟨_, ll, rfl, by omega, Hsm.out, hown.lists.mono (fun b _ hs => Nat.le_trans hb1.size hs), Below.grow hb1 hgr hg1⟩

set_option maxHeartbeats 400000 in
theorem lseal_any (v : Value) (ll : List (List UInt8)) (S : Nat → Prop) (w : World) (hv : Lists S w v ll) (hsm : ∀ li ∈ ll, li.length ≤ 4096) (hll : ll.length ≤ 1000) :
    Calls Try.prog 23 #[v] w fun e w' => ∃ v', e = .returned v' ∧ OwnB w' w.heap.size 5 v' (ll.flatMap sealL) ∧ Below w.heap.size w w' := by
  have hL := hv
  obtain ⟨A, c, vs, rfl, hc1, hc2, _⟩ := hv
  unfold maxLen at hc2
  have Hsm := Lib.hid hsm
  clear hsm
  go_enter Try.func23, Try.ntmps23
  go_wp2
  go_loopw [3, 4, 5, 6, 9] (fun v _ _ _ i wr => ∃ (k : Nat) (A' : Option Addr) (n c' : Nat), k ≤ ll.length ∧ i = .int .i64 k ∧ v = .slice A' n c' ∧ n ≤ 4104 * k ∧ OwnB wr w.heap.size 5 (.slice A' n c') ((ll.take k).flatMap sealL) ∧ Below w.heap.size w wr) (fun _ _ _ _ i _ => ll.length - (intOf i).toNat)
  case atStart => exact ⟨0, none, 0, 0, by omega, rfl, rfl, by omega, OwnB.nil_ _ _ _, Below.refl _ _⟩
  case round =>
    obtain ⟨k, A', n, c', hk, rfl, rfl, hn, hown, hbw⟩ := hrel
    by_cases hlt : k < ll.length
    · obtain ⟨b, off, x, li, rfl, _, _, hli, hcx, hbx⟩ := (hL.ext hbw).at_ hlt
      have hlen : li.length ≤ 4096 := Hsm.out li (List.mem_of_getElem? hli)
      have Hli := Lib.hid hli
      clear hli
      go_wp2_with fail
      refine (seal_any _ li _ _ hbx hlen).mono ?_
      rintro e w3 ⟨x3, rfl, hown3, hb3⟩
      have hs3 := hb3.size
      have hsr := hbw.size
      obtain ⟨A3, c3, rfl, _, _, _⟩ := hown3.bytes
      rw [sealL_length] at hown3 ⊢
      have hon := Lib.hid hown.len.1
      go_wp2_with (refine wpList_appB (o := ⟨some 22, _, _, _, _, _⟩) _ _ 23 5 w.heap.size ((ll.take k).flatMap sealL) (sealL li) A3 (8 + li.length) c3 (.slice A' n c') (n + (8 + li.length)) rfl rfl Try.underlying23 (by kernel_rfl) rfl rfl (hown.ext hb3) hown3.bytes (by rw [hon.out]) (by rw [hon.out]; omega) (by omega) ?_; intro A5 c5 w5 hown5 hgr5 hat5 hc51 hc52)
      go_roundw
      case rel => exact ⟨k + 1, A5, n + (8 + li.length), c5, by omega, by go_num, rfl, by omega, by rw [flat_snoc ll k li Hli.out]; exact hown5, (hown.ext hb3).grow hgr5 (Below.ext hbw hb3) (Nat.le_refl _) (by omega)⟩
      case measure => simp [intOf]; omega
    · obtain rfl : k = ll.length := by omega
      rw [List.take_length] at hown
      go_wp2
      go_ret
      exact ⟨_, rfl, hown, hbw⟩

set_option maxHeartbeats 400000 in
theorem same_any (v : Value) (b : List UInt8) (S : Nat → Prop) (w : World) (at_ : Int) (hv : Bytes S w v b) (hb : b.length ≤ 140737488355328) :
    Calls Try.prog 25 #[v, .int .i64 at_] w fun e w' => e = .returned (.bool true) ∧ Below w.heap.size w w' := by
  go_enter Try.func25, Try.ntmps25
  go_wp2_with fail
  refine (next_any v b S _ at_ hv hb).mono ?_
  rintro e w1 ⟨v1, rfl, hB1, hb1⟩
  go_wp2_with fail
  refine (refnext_any v b S _ at_ (hv.ext hb1) hb).mono ?_
  rintro e w2 ⟨v2, rfl, hB2, hb2⟩
  generalize nextL b at_ = r at *
  go_wp2_with fail
  refine (samebytes_eq _ _ r.1 _ _ _ (hB1.ext hb2) hB2.bytes).mono ?_
  rintro e w3 ⟨rfl, hb3⟩
  go_wp2_with fail
  go_ret
  exact ⟨by simp, Below.ext (Below.ext hb1 hb2) hb3⟩
end Go.Proofs.Ytmakcggmaphanaa
