/-
  The walk of the document's Scan.
-/
import Derived.Test.YtmakcggmaphanaaScan
namespace Go.Proofs.Ytmakcggmaphanaa
open Go.RowKit
attribute [local irreducible] upd inv le4 putN byteOf z8 sumL headL sealL brow num nextL
set_option maxRecDepth 100000
set_option linter.unusedVariables false

set_option maxHeartbeats 1000000 in
theorem refscan_any (v : Value) (b : List UInt8) (S : Nat → Prop) (w : World) (hv : Bytes S w v b) (hb : b.length ≤ 4294967296) (ps : List (Nat × Nat)) (en : Nat) (hs : Scans b 0 ps en) :
    Calls Try.prog 28 #[v] w fun e w' => ∃ v', e = .returned (.tuple #[v', .int .i64 (en : Nat)]) ∧ Lists (fun k => w.heap.size ≤ k) w' v' (ps.map (bodyL b)) ∧ Below w.heap.size w w' := by
  have hpl := (hs.len (Nat.zero_le _)).1
  have hel := (hs.len (Nat.zero_le _)).2
  go_enter Try.func28, Try.ntmps28
  go_wp2
  go_loopw [4, 5, 6, 7, 8] (fun o a _ _ _ wr => ∃ (pre rest : List (Nat × Nat)) (k n : Nat) (A : Option Addr) (c : Nat), o = .slice A n c ∧ a = .int .i64 k ∧ n = (pre.map (bodyL b)).length ∧ n = pre.length ∧ k ≤ b.length ∧ ps = pre ++ rest ∧ Scans b k rest en ∧ OwnLs wr w.heap.size 23 (.slice A n c) (pre.map (bodyL b)) ∧ Below w.heap.size w wr) (fun _ a _ _ _ _ => b.length - (intOf a).toNat)
  case atStart => exact ⟨[], ps, 0, 0, none, 0, rfl, rfl, rfl, rfl, by omega, rfl, hs, OwnLs.nil_ _ _ _, Below.refl _ _⟩
  case round =>
    obtain ⟨pre, rest, k, n, A, c, rfl, rfl, hn1, hn2, hk, hx, hsr, hown, hbr⟩ := hrel
    have Hn1 := Lib.hid hn1
    have hbnd : n ≤ ps.length := by rw [hn2, hx]; simp
    have Hn2 := Lib.hid hn2
    have Hx := Lib.hid hx
    clear hn1 hn2 hx
    have hBr := hv.ext hbr
    rcases hsr.inv with ⟨rfl, rfl, h1⟩ | ⟨m, rest', rfl, he, hm, hl, hs'⟩
    · obtain ⟨r, hr⟩ : ∃ r, nextL b en = r := ⟨_, rfl⟩
      rw [hr] at h1
      have d1 : ((r.2.2 : Int) != 0) = true := by rw [bne_iff_ne]; omega
      have Hr := Lib.hid hr
      clear hr h1
      go_wp2_with fail
      refine (refnext_any v b S _ en hBr (by omega)).mono ?_
      rintro e w2 ⟨v2, h2, hB2, hb2⟩
      rw [Hr.out] at h2
      subst h2
      go_wp2
      refine bodyPost_ret (results_tmp2 rfl _ _ _) rfl ?_
      have hps : ps = pre := by simpa using Hx.out
      subst hps
      refine ⟨_, rfl, ?_, Below.ext hbr hb2⟩
      exact hown.lists.ext hb2
    · have hpl2 : pre.length < ps.length := by rw [Hx.out]; simp
      have hnps : n < ps.length := by rw [Hn2.out]; exact hpl2
      have hbl : (bodyL b (k, m)) = (b.drop (k + 8)).take m := rfl
      have Hbl := Lib.hid hbl
      have He := Lib.hid he
      have Hs := Lib.hid hs'
      clear he hm hs' hbl
      go_wp2_with fail
      refine (refnext_any v b S _ k hBr (by omega)).mono ?_
      rintro e w3 ⟨x, h2, hB2, hb3⟩
      rw [He.out] at h2 hB2
      subst h2
      have hbx : Bytes (fun b => wr.heap.size ≤ b) w3 x ((b.drop (k + 8)).take m) := hB2.bytes.mono (fun _ _ h => h.1)
      obtain ⟨vs, hrow, hin⟩ := hown
      rw [← Hn1.out] at hrow
      have hszr := hbr.size
      have hsz3 := hb3.size
      have hrow3 := World.ownsRow.kept hrow (grown_none hb3) (by
        rcases Option.eq_none_or_eq_some (Value.slice A n c).ownBlock with h0 | ⟨m0, h0⟩
        · exact .inl h0
        · exact .inr (by rw [h0]; simp))
      obtain ⟨Ax, cx, rfl, _⟩ := hB2.bytes
      dsimp only
      generalize hlx : ((b.drop (k + 8)).take m).length = nx at *
      go_wp2_with (refine wpList_app (D := fun _ => True) (o := ⟨some 23, _, _, _, _, _⟩) rfl _ _ 33 rfl w.heap.size 23 (.slice none 0 0) 1 24 Try.underlying33 (by kernel_rfl) rfl (by omega) (.slice A n c) n vs rfl (World.ownsRow.alloc hrow3 _) (some ⟨w3.heap.size, 0, none⟩) 1 1 [.slice Ax nx cx] rfl rfl ?c1 ?c2 (by omega) (by unfold maxLen; omega) ?c3 (n + 1) rfl ?_; rotate_left; rotate_left; rotate_left; intro A5 c5 w5 hown5 hgr5 hat5 hc51 hc52)
      case c1 => exact Cs.lit _ _ _ _ _ trivial rfl
      case c2 => first | rfl | (intro u hu; simp at hu; subst hu; rfl)
      case c3 => first | omega | (simp; omega)
      have hb5 : Below w.heap.size w w5 := by
        refine (((Below.ext hbr hb3).alloc (by omega) _).grown hgr5 (by simp; omega) (fun j ej => ?_))
        have := (World.ownsRow.lt hrow j ej).1
        exact this
      have hnew := OwnLs.push hin (by rw [hrow.1, ← Hn1.out]; simp) (fun m hm => (World.ownsRow.lt hrow m hm).2) hszr (fun b hb hs => hb3.block b hb) hsz3 hbx (by rw [← Hn1.out]; exact hown5) hgr5 hat5
      go_roundw
      case rel =>
        refine ⟨pre ++ [(k, m)], rest', k + 8 + m, n + 1, A5, c5, rfl, by push_cast; rfl, by simp [Hn2.out], by simp [Hn2.out], hl, by rw [Hx.out]; simp, Hs.out, ?_, hb5⟩
        rw [List.map_append, List.map_singleton, Hbl.out]
        exact hnew
      case measure => simp [intOf]; omega
end Go.Proofs.Ytmakcggmaphanaa
