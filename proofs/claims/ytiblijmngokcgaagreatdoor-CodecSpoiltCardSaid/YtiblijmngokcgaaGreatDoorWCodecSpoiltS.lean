import Derived.Test.YtiblijmngokcgaaGreatDoorCkLS
import Derived.Test.YtiblijmngokcgaaGreatDoorPutNS
import Derived.Test.YtiblijmngokcgaaGreatDoorCodecES
import Derived.WalkKit
import Derived.ProofKit
import Derived.OpenShut
import Derived.ShutString
import Derived.Below
namespace Go.Proofs.YtiblijmngokcgaaGreatDoor.codecSpoilt
open Go.ChangeShapes Go.WideShapes Go.ChangeAt Go.RowKit
open Go.ChangeMaps (open_string shut_string)
set_option linter.unusedVariables false
set_option maxRecDepth 100000
theorem u8_of {a : Int} (h : (Lit.int .u8 a).wf = true) : ∃ y : UInt8, a = (y.toNat : Int) := by
  have h2 := wf_u8 h
  refine ⟨UInt8.ofNat a.toNat, ?_⟩
  simp
  omega
theorem flat_k {α : Type} (l : List α) (b : α → List Int) (k : Nat) (h : ∀ a, (b a).length = k) : (l.flatMap b).length = l.length * k := by
  induction l with
  | nil => simp
  | cons a l ih => rw [List.flatMap_cons, List.length_append, ih, h, List.length_cons]; rw [Nat.add_mul]; omega
theorem glb_up {w x : World} {B : Nat} (h : Glb 2 w) (hb : Below w.heap.size w x) (h1 : w.heap.size ≤ B) (h2 : B ≤ x.heap.size) : Glb B x := by
  have hl := h.le
  have g := h.ext hb
  exact ⟨by omega, h2, g.s0, g.s1, g.s2, g.a0, g.a1⟩
set_option maxHeartbeats 8000000 in
theorem walk (a0 : Option Addr) (len0 cap0 : Nat) (z0 : List Int) (a1 a2 a3 : Int) (w : World) (w0 : IsRow .u8 w a0 len0 cap0 z0) (w1 : (Lit.int .i64 a1).wf = true) (w2 : (Lit.int .u8 a2).wf = true) (w3 : (Lit.int .i64 a3).wf = true) (hG : Glb 2 w) :
    Calls Tryz.prog 5 #[.slice a0 len0 cap0, .int .i64 a1, .int .u8 a2, .int .i64 a3] w fun e w' => e = .returned (.bool true) ∧ Below w.heap.size w w' := by
  have h1 := wf_i64 w1
  have h3 := wf_i64 w3
  obtain ⟨y, rfl⟩ := u8_of w2
  obtain ⟨L, hk1, hk2, hk3, hkB⟩ := IsRow.bytes w0
  clear w0 w1 w2 w3
  have HL := Lib.hid hk1
  have HG := Lib.hid hG
  clear hk1 hG
  go_enter Tryz.func5, Tryz.ntmps5
  go_wp2_with fail
  refine (awakeC_any _).mono ?_
  rintro e x1 ⟨rfl, b1⟩
  have Hn := Lib.hid (codnew_any _ L _ x1 200 (by omega) (hkB.ext b1))
  go_wp2_with fail
  refine Hn.out.mono ?_
  rintro e x2 ⟨g, rfl, hC, b2⟩
  have s1 := b1.size
  have s2 := b2.size
  have hb2 := Below.ext b1 b2
  have Hs := Lib.hid (state_any x1.heap.size g 5 (by omega) x2 hC (glb_up HG.out hb2 s1 s2))
  have hgB := hC.1
  clear hC hkB
  go_wp2_with fail
  refine Hs.out.mono ?_
  rintro e x3 ⟨c, self, evs, s, E1, p1, q1, E2, p2, q2, E3, p3, q3, E4, p4, q4, rfl, hR, hci, hle, hM, hin, hsi, hse, _, _, _, g3⟩
  have s3 := g3.size
  have hb3 : Below w.heap.size w x3 := hb2.grown g3 hb2.size (fun o e => by cases e; omega)
  have m : ∀ b, b < x3.heap.size → x2.heap.size ≤ b → b < x3.heap.size := fun b h _ => h
  have l1 := hM.1.len.1
  have l2 := hM.2.len.1
  have l3 := hM.3.len.1
  have l4 := hM.4.len.1
  have hsl := hin.len
  have hse2 : s.evs.length ≤ 5 := by rw [hse]; exact hle
  have hok : SttOk s := hsi.ok (by omega)
  have hsn := hsi.n
  have Hp := Lib.hid (refputState_n (.slice none 0 0) [] w.heap.size x3 (by omega) (OwnB.nil_ _ _ _) s E1 E2 E3 E4 p1 q1 p2 q2 p3 q3 p4 q4 (hM.1.mono m) (hM.2.mono m) (hM.3.mono m) (hM.4.mono m) hok (by simp) (by omega) (by omega) (by omega))
  have hinr := stt_inrS hok (by omega) (by omega) (by omega)
  have hD1 := encs_geS s.l
  have hD2 := encs_len s.l hinr
  have hD3 : 4 ≤ s.l.length ∧ s.l.length ≤ 3000000 := by
    have f1 := flat_k s.evs Ev.l 7 (fun _ => rfl)
    have f2 := flat_k s.sent Snd.l 4 (fun _ => rfl)
    have f3 := flat_k s.outs Ou.l 2 (fun _ => rfl)
    simp only [Stt.l, List.length_append, List.length_cons, List.length_nil]
    omega
  clear hM hR hci m hok hinr hse
  go_wp2_with fail
  refine Hp.out.mono ?_
  rintro e x4 ⟨v', rfl, hO, b4⟩
  rw [List.nil_append] at hO
  obtain ⟨D, hD⟩ : ∃ D, D = encs s.l := ⟨_, rfl⟩
  rw [← hD] at hO hD1 hD2
  obtain ⟨A, cc, rfl, hcc1, hcc2, _⟩ := hO.bytes
  have hd0 : 1 ≤ D.length := by omega
  have hd1 : D.length ≤ 100000000 := by omega
  clear hD hD1 hD2 hD3 hsl l1 l2 l3 l4 hsn hsi hle hin hse2
  obtain ⟨gb, rfl, hgb1, hgb2⟩ := hO.some_ (by omega)
  have hb4 := Below.ext hb3 b4
  obtain ⟨n, hn⟩ : ∃ n, n = D.length := ⟨_, rfl⟩
  rw [← hn] at hd0 hd1 hcc1
  have HN := Lib.hid hn
  have Hm := Lib.hid (modC_any a1 (n : Int) x4 (by omega) (by omega) h1.1 h1.2)
  have hm1 := Int.emod_nonneg a1 (b := (n : Int)) (by omega)
  have hm2 := Int.emod_lt_of_pos a1 (b := (n : Int)) (by omega)
  obtain ⟨k, hk⟩ := Int.eq_ofNat_of_zero_le hm1
  rw [hk] at Hm hm2
  have hkn : k < n := by omega
  rw [← hn]
  clear hm1 hm2 hk hn
  go_wp2_with fail
  refine Hm.out.mono ?_
  rintro e x4' ⟨rfl, rfl⟩
  obtain ⟨x, hx, hxc⟩ := hO.at_ (j := k) (by rw [← HN.out]; exact hkn)
  have hfz := hO.frozen k
  have hxor := u8_xor_step x y
  have hO5 := hO.set_ k (x ^^^ y)
  rw [UInt8.toNat_xor] at hO5
  obtain ⟨x5, hx5⟩ : ∃ x5, x5 = x4'.setCell ⟨gb, k, none⟩ (.int .u8 ((x.toNat ^^^ y.toNat : Nat) : Int)) := ⟨_, rfl⟩
  rw [← hx5] at hO5
  have hb5 : Below w.heap.size w x5 := by rw [hx5]; exact hb4.setCell hgb1 _
  have HO5 := Lib.hid hO5
  clear hO hx hO5
  go_upto_region 7 with fail
  rw [← hx5]
  clear hx5 hxc hfz hxor
  have hby : Bytes (fun _ => True) x5 (.slice (some ⟨gb, 0, none⟩) n cc) (D.set k (x ^^^ y)) := by
    have := HO5.out.bytes.mono (S' := fun _ => True) (fun _ _ _ => trivial)
    rwa [← HN.out] at this
  have H1 := Lib.hid (same_any (some ⟨gb, 0, none⟩) n cc 0 _ _ x5 hby hd1)
  go_wp2_with fail
  refine H1.out.mono ?_
  rintro e x6 ⟨rfl, b6⟩
  have Hm2 := Lib.hid (modC_any a3 ((n : Int) + 1) x6 (by omega) (by omega) h3.1 h3.2)
  have hm1 := Int.emod_nonneg a3 (b := (n : Int) + 1) (by omega)
  have hm2 := Int.emod_lt_of_pos a3 (b := (n : Int) + 1) (by omega)
  obtain ⟨m, hm⟩ := Int.eq_ofNat_of_zero_le hm1
  rw [hm] at Hm2 hm2
  have hmn : m ≤ n := by omega
  have hmc : m ≤ cc := by omega
  clear hm1 hm2 hm
  go_wp2_with fail
  refine Hm2.out.mono ?_
  rintro e x6' ⟨rfl, rfl⟩
  have hby6 := hby.ext b6
  have H2 := Lib.hid (same_any (some ⟨gb, 0, none⟩) m cc 0 _ _ x6' (hby6.take_ hmn) (by omega))
  go_wp2_with fail
  refine H2.out.mono ?_
  rintro e x7 ⟨rfl, b7⟩
  have H3 := Lib.hid (same_any (some ⟨gb, 0, none⟩) n cc (k : Int) _ _ x7 (hby6.ext b7) hd1)
  go_wp2_with fail
  refine H3.out.mono ?_
  rintro e x8 ⟨rfl, b8⟩
  go_wp2
  go_ret
  exact ⟨rfl, Below.ext (Below.ext (Below.ext hb5 b6) b7) b8⟩
end Go.Proofs.YtiblijmngokcgaaGreatDoor.codecSpoilt
