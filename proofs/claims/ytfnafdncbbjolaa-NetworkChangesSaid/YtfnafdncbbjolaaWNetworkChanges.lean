/-
  The walk of the law NetworkChanges: it returns true and writes nothing that was there. Conditions: what the row says of its arguments.
-/
import Derived.Test.YtfnafdncbbjolaaRefChange
import Derived.WalkKit
import Derived.ProofKit
import Derived.OpenShut
import Derived.ShutString
import Derived.Below
namespace Go.Proofs.Ytfnafdncbbjolaa.networkChanges
open Go.ChangeShapes Go.WideShapes Go.ChangeAt Go.RowKit
open Go.ChangeMaps (open_string shut_string)
set_option linter.unusedVariables false
set_option maxRecDepth 100000

set_option maxHeartbeats 4000000 in
theorem walk (a0 : Option Addr) (len0 cap0 : Nat) (z0 : List Int) (a1 : Option Addr) (len1 cap1 : Nat) (z1 : List Int) (a2 : Int) (w : World) (w0 : IsRow .u8 w a0 len0 cap0 z0) (w1 : IsRow .u8 w a1 len1 cap1 z1) (w2 : (Lit.int .i64 a2).wf = true) :
    Calls Try.prog 6 #[.slice a0 len0 cap0, .slice a1 len1 cap1, .int .i64 a2] w fun e w' => e = .returned (.bool true) ∧ Below w.heap.size w w' := by
  obtain ⟨lc, hlc, hcapc, hmaxc, hbc⟩ := IsRow.bytes w0
  obtain ⟨lo, hlo, hcapo, hmaxo, hbo⟩ := IsRow.bytes w1
  have hpl := wf_i64 w2
  clear w0 w1 w2
  go_enter Try.func6, Try.ntmps6
  go_wp2_with fail
  refine (awake_any _).mono ?_
  rintro e w1 ⟨rfl, hb1⟩
  go_wp2_with fail
  refine (messages_any _ lc _ _ 20 (by omega) (hbc.ext hb1)).mono ?_
  rintro e w2 ⟨v2, ms, rfl, hms, hrng, hR2, hb2⟩
  have hb12 := Below.ext hb1 hb2
  go_wp2_with fail
  refine (messages_any _ lo _ _ 6 (by omega) (hbo.ext hb12)).mono ?_
  rintro e w3 ⟨v3, ns, rfl, hns, hrng3, hR3, hb3⟩
  have hR := hR2.ext hb3
  have hN := hR3
  obtain ⟨A, c, rfl, hc1, hc2, _⟩ := hR2
  obtain ⟨A', c', rfl, hc1', hc2', _⟩ := hR3
  unfold maxLen at hc2 hc2'
  have hb13 := Below.ext hb12 hb3
  clear hrng hrng3 hb1 hb2 hb3 hb12
  go_wp2_with fail
  refine (mod_any _ _ _ (by omega) (by omega) hpl.1 hpl.2).mono ?_
  rintro e w4 ⟨rfl, rfl⟩
  have hk1 := Int.emod_nonneg a2 (b := (ms.length : Int) + 2) (by omega)
  have hk2 := Int.emod_lt_of_pos a2 (b := (ms.length : Int) + 2) (by omega)
  generalize a2 % ((ms.length : Int) + 2) = z at *
  have HR := Lib.hid hR
  have HN := Lib.hid hN
  clear hR hN
  go_wp2
  obtain ⟨W, hW⟩ : ∃ W, W = w3.alloc (.cells #[.int .i64 a2, .int .i64 (z - 1)] 3) := ⟨_, rfl⟩
  have hbW : Below w3.heap.size w3 W := by rw [hW]; exact (Below.refl _ _).alloc (Nat.le_refl _) _
  have q0 : W.cell? ⟨w3.heap.size, 0, none⟩ = some (.int .i64 a2) := by rw [hW]; go_simp
  have q1 : W.cell? ⟨w3.heap.size, 1, none⟩ = some (.int .i64 (z - 1)) := by rw [hW]; go_simp
  have hgl := block_lt_of_cell q0
  rw [← hW]
  clear hW
  go_loopw [42] (fun v wr => ∃ j : Nat, v = .int .i64 j ∧ j ≤ 2 ∧ Below W.heap.size W wr) (fun v _ => 2 - (intOf v).toNat)
  case atStart => exact ⟨0, rfl, by omega, Below.refl _ _⟩
  case round =>
    obtain ⟨j, rfl, hj, hbr⟩ := hrel
    have hRr := (HR.out.ext hbW).ext hbr
    by_cases hj2 : j < 2
    · obtain ⟨kv, hkv⟩ : ∃ kv : Int, wr.cell? ⟨w3.heap.size, j, none⟩ = some (.int .i64 kv) := by
        obtain rfl | rfl : j = 0 ∨ j = 1 := by omega
        · exact ⟨_, (hbr.cell (p := ⟨w3.heap.size, 0, none⟩) hgl).trans q0⟩
        · exact ⟨_, (hbr.cell (p := ⟨w3.heap.size, 1, none⟩) hgl).trans q1⟩
      have dj : decide (j < 2) = true := by simpa using hj2
      clear q0 q1
      by_cases hin : 0 ≤ kv ∧ kv < ms.length
      · obtain ⟨k, rfl⟩ := Int.eq_ofNat_of_zero_le hin.1
        have hkl : k < ms.length := by omega
        obtain ⟨m, hm⟩ : ∃ m, ms[k]? = some m := ⟨_, List.getElem?_eq_getElem hkl⟩
        have Hm := Lib.hid hm
        clear hm hin
        go_wp2_with fail
        refine (drop_ok A ms.length c ms _ _ hRr (by omega) k m Hm.out).mono ?_
        rintro e w5 ⟨A5, c5, rfl, hown5, hb5⟩
        have hRr := hRr.ext hb5
        go_wp2_with fail
        refine (refdrop_ok A ms.length c ms _ _ hRr (by omega) k m Hm.out).mono ?_
        rintro e w6 ⟨A6, c6, rfl, hown6, hb6⟩
        have hRr := hRr.ext hb6
        go_wp2_with fail
        refine (dup_ok A ms.length c ms _ _ hRr (by omega) k m Hm.out).mono ?_
        rintro e w7 ⟨A7, c7, rfl, hown7, hb7⟩
        have hRr := hRr.ext hb7
        go_wp2_with fail
        refine (refdup_ok A ms.length c ms _ _ hRr (by omega) k m Hm.out).mono ?_
        rintro e w8 ⟨A8, c8, rfl, hown8, hb8⟩
        have hRr := hRr.ext hb8
        go_wp2_with fail
        refine (take_ok A ms.length c ms _ _ hRr (by omega) k m Hm.out).mono ?_
        rintro e w9 ⟨A9, c9, rfl, hown9, hb9⟩
        have hRr := hRr.ext hb9
        have hx9 := box_msg m w9
        obtain ⟨W9, hW9⟩ : ∃ W9, W9 = w9.alloc (.cells #[.int .i64 m.f, .int .i64 m.t, .int .i64 m.i, .int .i64 m.x, .int .i64 m.o, .int .i64 m.v, .int .i64 0, .slice none 0 0, .slice none 0 0] 32) := ⟨_, rfl⟩
        have hbW9 : Below w9.heap.size w9 W9 := by rw [hW9]; exact (Below.refl _ _).alloc (Nat.le_refl _) _
        have hx9' : ∀ w', Below W9.heap.size W9 w' → (loadVar 32 ⟨w9.heap.size, 0, none⟩).run Try.prog w' = .ok (aggM m) w' := by rw [hW9]; exact hx9
        have Hx9 := Lib.hid hx9'
        clear hx9 hx9'
        unfold aggM
        go_wp2_with fail
        rw [← hW9]
        clear hW9
        refine (reftake_ok A ms.length c ms _ _ (hRr.ext hbW9) (by omega) k m Hm.out).mono ?_
        rintro e w10 ⟨A10, c10, rfl, hown10, hb10⟩
        have hx10 := box_msg m w10
        obtain ⟨W10, hW10⟩ : ∃ W10, W10 = w10.alloc (.cells #[.int .i64 m.f, .int .i64 m.t, .int .i64 m.i, .int .i64 m.x, .int .i64 m.o, .int .i64 m.v, .int .i64 0, .slice none 0 0, .slice none 0 0] 32) := ⟨_, rfl⟩
        have hbW10 : Below w10.heap.size w10 W10 := by rw [hW10]; exact (Below.refl _ _).alloc (Nat.le_refl _) _
        have hx10' : ∀ w', Below W10.heap.size W10 w' → (loadVar 32 ⟨w10.heap.size, 0, none⟩).run Try.prog w' = .ok (aggM m) w' := by rw [hW10]; exact hx10
        have Hx10 := Lib.hid hx10'
        clear hx10 hx10'
        unfold aggM
        go_wp2_with fail
        rw [← hW10]
        clear hW10
        have t9 := Below.ext hb10 hbW10
        have t8 := Below.ext hbW9 t9
        have t7 := Below.ext hb9 t8
        have t6 := Below.ext hb8 t7
        have t5 := Below.ext hb7 t6
        have t4 := Below.ext hb6 t5
        refine (same_eq _ _ (ms.take k ++ ms.drop (k + 1)) _ _ _ (hown5.ext t4).recs (hown6.ext t5).recs).mono ?_
        rintro e w11 ⟨rfl, hb11⟩
        go_wp2_with fail
        refine (same_eq _ _ (ms ++ [m]) _ _ _ ((hown7.ext t6).ext hb11).recs ((hown8.ext t7).ext hb11).recs).mono ?_
        rintro e w12 ⟨rfl, hb12⟩
        have hl9 := Hx9.out w12 (Below.ext (Below.ext t9 hb11) hb12)
        have hl10 := Hx10.out w12 (Below.ext hb11 hb12)
        go_wp2_with (first | (refine wpList_ldv (o := ⟨some 110, _, _, _, _, _⟩) rfl rfl rfl hl9 ?_) | (refine wpList_ldv (o := ⟨some 111, _, _, _, _, _⟩) rfl rfl rfl hl10 ?_))
        refine (samemsg_eq m _).mono ?_
        rintro e w13 ⟨rfl, hb13'⟩
        go_wp2_with fail
        refine (same_eq _ _ (ms.take k ++ ms.drop (k + 1)) _ _ _ ((hown9.ext t8).ext (Below.ext (Below.ext hb11 hb12) hb13')).recs ((hown10.ext hbW10).ext (Below.ext (Below.ext hb11 hb12) hb13')).recs).mono ?_
        rintro e w14 ⟨rfl, hb14⟩
        go_wp2
        go_roundw
        case rel => exact ⟨j + 1, by go_num, by omega, Below.ext hbr (Below.ext (Below.ext (Below.ext (Below.ext (Below.ext hb5 t4) hb11) hb12) hb13') hb14)⟩
        case measure => simp [intOf]; omega
      · have hout : kv < 0 ∨ (ms.length : Int) ≤ kv := by omega
        clear hin
        go_wp2_with fail
        refine (drop_no A ms.length c _ kv hout (by omega)).mono ?_
        rintro e w5 ⟨rfl, hb5⟩
        go_wp2_with fail
        refine (refdrop_no A ms.length c _ kv hout (by omega)).mono ?_
        rintro e w6 ⟨rfl, rfl⟩
        go_wp2_with fail
        refine (dup_no A ms.length c _ kv hout (by omega)).mono ?_
        rintro e w7 ⟨rfl, rfl⟩
        go_wp2_with fail
        refine (refdup_no A ms.length c _ kv hout (by omega)).mono ?_
        rintro e w8 ⟨rfl, rfl⟩
        go_wp2_with fail
        refine (take_no A ms.length c _ kv hout (by omega)).mono ?_
        rintro e w9 ⟨rfl, hb9⟩
        have hx9 := box_msg zM w9
        obtain ⟨W9, hW9⟩ : ∃ W9, W9 = w9.alloc (.cells #[.int .i64 0, .int .i64 0, .int .i64 0, .int .i64 0, .int .i64 0, .int .i64 0, .int .i64 0, .slice none 0 0, .slice none 0 0] 32) := ⟨_, rfl⟩
        have hbW9 : Below w9.heap.size w9 W9 := by rw [hW9]; exact (Below.refl _ _).alloc (Nat.le_refl _) _
        have hx9' : ∀ w', Below W9.heap.size W9 w' → (loadVar 32 ⟨w9.heap.size, 0, none⟩).run Try.prog w' = .ok (aggM zM) w' := by rw [hW9]; exact hx9
        have Hx9 := Lib.hid hx9'
        clear hx9 hx9'
        unfold aggM zM
        go_wp2_with fail
        rw [← hW9]
        clear hW9
        refine (reftake_no A ms.length c _ kv hout (by omega)).mono ?_
        rintro e w10 ⟨rfl, hb10⟩
        have hx10 := box_msg zM w10
        obtain ⟨W10, hW10⟩ : ∃ W10, W10 = w10.alloc (.cells #[.int .i64 0, .int .i64 0, .int .i64 0, .int .i64 0, .int .i64 0, .int .i64 0, .int .i64 0, .slice none 0 0, .slice none 0 0] 32) := ⟨_, rfl⟩
        have hbW10 : Below w10.heap.size w10 W10 := by rw [hW10]; exact (Below.refl _ _).alloc (Nat.le_refl _) _
        have hx10' : ∀ w', Below W10.heap.size W10 w' → (loadVar 32 ⟨w10.heap.size, 0, none⟩).run Try.prog w' = .ok (aggM zM) w' := by rw [hW10]; exact hx10
        have Hx10 := Lib.hid hx10'
        clear hx10 hx10'
        unfold aggM zM
        go_wp2_with fail
        rw [← hW10]
        clear hW10
        have t9 := Below.ext hb10 hbW10
        have t8 := Below.ext hbW9 t9
        have t7 := Below.ext hb9 t8
        refine (same_eq _ _ [] _ _ _ (Recs.nil_ (fun _ => True) _) (Recs.nil_ (fun _ => True) _)).mono ?_
        rintro e w11 ⟨rfl, hb11⟩
        go_wp2_with fail
        refine (same_eq _ _ [] _ _ _ (Recs.nil_ (fun _ => True) _) (Recs.nil_ (fun _ => True) _)).mono ?_
        rintro e w12 ⟨rfl, hb12⟩
        have hl9 := Hx9.out w12 (Below.ext (Below.ext t9 hb11) hb12)
        have hl10 := Hx10.out w12 (Below.ext hb11 hb12)
        go_wp2_with (first | (refine wpList_ldv (o := ⟨some 110, _, _, _, _, _⟩) rfl rfl rfl hl9 ?_) | (refine wpList_ldv (o := ⟨some 111, _, _, _, _, _⟩) rfl rfl rfl hl10 ?_))
        refine (samemsg_eq zM _).mono ?_
        rintro e w13 ⟨rfl, hb13'⟩
        go_wp2_with fail
        refine (same_eq _ _ [] _ _ _ (Recs.nil_ (fun _ => True) _) (Recs.nil_ (fun _ => True) _)).mono ?_
        rintro e w14 ⟨rfl, hb14⟩
        go_wp2
        go_roundw
        case rel => exact ⟨j + 1, by go_num, by omega, Below.ext hbr (Below.ext (Below.ext (Below.ext (Below.ext (Below.ext hb5 t7) hb11) hb12) hb13') hb14)⟩
        case measure => simp [intOf]; omega
    · obtain rfl : j = 2 := by omega
      clear q0 q1
      have d2 : decide ((2 : Nat) < 2) = false := by decide
      go_wp2_with fail
      refine (add_ok A A' ms.length c ns.length c' ms ns _ _ _ hRr ((HN.out.ext hbW).ext hbr) (by omega)).mono ?_
      rintro e w5 ⟨A5, c5, rfl, hown5, hb5⟩
      have hRr := hRr.ext hb5
      have hNr := ((HN.out.ext hbW).ext hbr).ext hb5
      have HR5 := Lib.hid hRr
      have HN5 := Lib.hid hNr
      clear hRr hNr
      go_wp2_with (first
        | (refine wpList_appRw (o := ⟨some 133, _, _, _, _, _⟩) encM_len encM_one zeroM 104 _ _ 26 32 w5.heap.size [] ms A ms.length c (.slice none 0 0) ms.length rfl rfl Try.underlying26 infoM rfl (by omega) rfl rfl (OwnR.nil_ _ _ _) HR5.out (by simp) (by simp; omega) (by simp; omega) (Nat.le_refl _) ?_; intro A6 c6 w6 hown6 hgr6 hat6 hc61 hc62)
        | (refine wpList_appRw (o := ⟨some 135, _, _, _, _, _⟩) encM_len encM_one zeroM 104 _ _ 26 32 w5.heap.size ms ns A' ns.length c' (.slice A6 ms.length c6) (ms.length + ns.length) rfl rfl Try.underlying26 infoM rfl (by omega) rfl rfl (by simpa using hown6) (HN5.out.ext ((OwnR.nil_ (enc := encM) (k := 9) w5 w5.heap.size 32).grow hgr6 (Below.refl _ _) (Nat.le_refl _) (Nat.le_refl _))) rfl (by omega) (by omega) hgr6.size ?_; intro A7 c7 w7 hown7 hgr7 hat7 hc71 hc72))
      have hb6 : Below w5.heap.size w5 w6 := (OwnR.nil_ (enc := encM) (k := 9) w5 w5.heap.size 32).grow hgr6 (Below.refl _ _) (Nat.le_refl _) (Nat.le_refl _)
      rw [List.nil_append] at hown6
      have hb7 : Below w5.heap.size w5 w7 := hown6.grow hgr7 hb6 (Nat.le_refl _) hb6.size
      refine (same_eq _ _ (ms ++ ns) _ _ _ (hown5.ext hb7).recs hown7.recs).mono ?_
      rintro e w8 ⟨rfl, hb8⟩
      go_wp2
      go_ret
      exact ⟨rfl, Below.ext (Below.ext hb13 hbW) (Below.ext hbr (Below.ext hb5 (Below.ext hb7 hb8)))⟩
end Go.Proofs.Ytfnafdncbbjolaa.networkChanges
