/-
  The walk of the law WalKeeps: it returns true and writes nothing that was there. Conditions: what the row says of its arguments.
-/
import Derived.Test.YtjcfnpmgklliiaaWalI
import Derived.WalkKit
import Derived.ProofKit
import Derived.OpenShut
import Derived.ShutString
import Derived.Below
namespace Go.Proofs.Ytjcfnpmgklliiaa.walKeeps
open Go.ChangeShapes Go.WideShapes Go.ChangeAt Go.RowKit
open Go.ChangeMaps (open_string shut_string)
set_option linter.unusedVariables false
set_option maxRecDepth 100000

set_option maxHeartbeats 4000000 in
theorem walk (a0 : Option Addr) (len0 cap0 : Nat) (z0 : List Int) (a1 : Int) (w : World) (w0 : IsRow .u8 w a0 len0 cap0 z0) (w1 : (Lit.int .i64 a1).wf = true) :
    Calls Try.prog 6 #[.slice a0 len0 cap0, .int .i64 a1] w fun e w' => e = .returned (.bool true) ∧ Below w.heap.size w w' := by
  obtain ⟨codes, hk1, hk2, hk3, hkB⟩ := IsRow.bytes w0
  have hn := wf_i64 w1
  clear w0 w1
  have HK := Lib.hid hk1
  clear hk1
  go_enter Try.func6, Try.ntmps6
  go_wp2_with fail
  refine (awake12_any _).mono ?_
  rintro e w1 ⟨rfl, hb1⟩
  have hcn := codnew_any _ codes _ w1 240 (by omega) (hkB.ext hb1)
  rw [show ((240 : Nat) : Int) = 240 from rfl] at hcn
  have Hcn := Lib.hid hcn
  clear hcn
  go_wp2_with fail
  refine (Hcn.out).mono ?_
  rintro e w2 ⟨g, rfl, hC2, hb2⟩
  have b2 := Below.ext hb1 hb2
  have hnew := new_ok 1 (by omega) w2
  rw [show ((1 : Nat) : Int) = 1 from rfl] at hnew
  have Hnew := Lib.hid hnew
  clear hnew
  go_wp2_with fail
  refine (Hnew.out).mono ?_
  rintro e w3 ⟨A3, c3, rfl, hD3, hb3⟩
  have b3 := Below.ext b2 hb3
  obtain ⟨W4, hW4, b4, k4, S4, r4⟩ := boxD w w3 #[.slice A3 1 c3] 45 b3
  go_upto_region 5 with (refine wpList_store_new rfl 45 _ _ rfl 45 _ #[.slice A3 1 c3] rfl rfl (by kernel_rfl) rfl (by simp [Value.oneCell']) ?_)
  rw [← hW4]
  clear hW4
  obtain ⟨bx, hbx⟩ : ∃ bx, bx = w3.heap.size := ⟨_, rfl⟩
  rw [← hbx] at r4 S4 ⊢
  have hC4 := hC2.ext (Below.ext hb3 k4)
  have hgx : g < bx := by have := hC2.lt; have := hb3.size; omega
  have hwg : w.heap.size ≤ g := by have := hC2.1; have := hb1.size; omega
  have hD4 : Dsk (fun b => b ≠ g ∧ b ≠ bx ∧ (Value.slice none 0 0).ownBlock ≠ some b) W4 (.slice A3 1 c3) [⟨[], []⟩] := (hD3.mono (fun b hb h => ⟨by have := hC2.lt; omega, by omega, by intro e; cases e⟩)).ext k4
  have S4x := S4.out
  have I4 : KI w w1.heap.size g bx W4.heap.size W4 [] 0 none 0 0 A3 c3 := ⟨hC4, r4.out, OwnR.nil_ _ _ _, hD4, Nat.le_refl _, fun d hd => (by cases hd), b4, Nat.le_refl _⟩
  have hbase : bx < W4.heap.size := by omega
  obtain ⟨base, hbs⟩ : ∃ base, base = W4.heap.size := ⟨_, rfl⟩
  rw [← hbs] at I4 hbase
  clear S4x S4 r4 hD3 hD4 hC2 hC4 hbx hbs hb3 b3 b2 hb2 k4
  have hcx := codnext_any w1.heap.size g 5 W4 I4.cod (by omega) (by omega)
  rw [show ((5 : Nat) : Int) = 5 from rfl] at hcx
  have Hcx := Lib.hid hcx
  clear hcx
  go_wp2_with fail
  refine (Hcx.out).mono ?_
  rintro e w5 ⟨n0, rfl, hn0, hC5, hg5⟩
  have I5 := I4.draw hC5 hg5 (by omega) (by omega) hwg
  clear I4 hg5 hC5 b4 Hcx
  go_wp2_with fail
  go_loopw [8, 9, 10] (fun v s i wr => ∃ (k sf m c' c : Nat) (A' A : Option Addr) (all : List Dt), i = .int .i64 (k : Int) ∧ s = .int .i64 (sf : Int) ∧ v = .slice A' m c' ∧ m + 3 * k ≤ 12 ∧ KI w w1.heap.size g bx base wr all sf A' m c' A c) (fun _ _ i _ => (intOf i).toNat)
  case atStart => exact ⟨n0, 0, 0, 0, c3, none, A3, [], rfl, rfl, rfl, by omega, I5⟩
  case round =>
    clear I5
    obtain ⟨k, sf, m, c', c, A', A, all, rfl, rfl, rfl, hm, hI⟩ := hrel
    have hlen := hI.own.len
    have hsf := hI.sfl
    by_cases hk : 0 < k
    · have dk : decide ((0 : Int) < (k : Int)) = true := by simp; omega
      have hcd := coddets_any w1.heap.size g 3 wr hI.cod (by omega)
      rw [show ((3 : Nat) : Int) = 3 from rfl] at hcd
      have Hcd := Lib.hid hcd
      clear hcd
      go_wp2_with fail
      refine Hcd.out.mono ?_
      rintro e w6 ⟨A6, c6, l6, rfl, hl6, hin6, hown6, hC6, hg6⟩
      have I6 := hI.draw hC6 hg6 (by omega) (by omega) hwg
      have hszr := hI.sz
      clear Hcd hI hC6
      have s6 := hg6.size
      have HB6 := Lib.hid I6.box
      have hf1 := frL_le (all.take sf) (fun d hd => I6.din d (mem_take' hd)) 12 (by rw [List.length_take]; omega)
      have hf2 := frL_le (all.drop sf) (fun d hd => I6.din d (mem_drop' hd)) 12 (by rw [List.length_drop]; omega)
      have hf6 := frL_le l6 hin6 3 hl6
      have hap := walappend_go A 1 c [⟨frL (all.take sf), frL (all.drop sf)⟩] _ w6 I6.dsk (by omega) 0 A6 l6.length c6 l6 _ hown6.recs hin6 (by omega) (fun f hf => by simp only [List.mem_singleton] at hf; subst hf; simp only [flen]; omega) [⟨frL (all.take sf), frL (all.drop sf) ++ frL l6⟩] 1 0 (.inl ⟨0, _, rfl, rfl, rfl, rfl, rfl⟩)
      have Hap := Lib.hid hap
      clear hap
      obtain ⟨n6, hn6⟩ : ∃ n6, l6.length = n6 := ⟨_, rfl⟩
      rw [hn6] at hown6 hl6 Hap ⊢
      have HN6 := Lib.hid hn6
      clear hn6
      go_wp2_with (refine wpList_load_row rfl 45 _ rfl _ rfl 45 _ (0,0) _ HB6.out Try.underlying45 rfl (by kernel_rfl) ?_)
      refine Hap.out.mono ?_
      rintro e w7 ⟨A7, c7, rfl, hD7, hb7⟩
      have I7 := Below.ext I6.blw hb7
      obtain ⟨W8, hW8, b8, k8, S8, r8⟩ := boxD w w7 #[.slice A7 1 c7] 45 I7
      go_upto_region 14 with (refine wpList_store_new rfl 45 _ _ rfl 45 _ #[.slice A7 1 c7] rfl rfl (by kernel_rfl) rfl (by simp [Value.oneCell']) ?_)
      rw [← hW8]
      clear hW8
      obtain ⟨by_, hby⟩ : ∃ by_, by_ = w7.heap.size := ⟨_, rfl⟩
      rw [← hby] at r8 S8 ⊢
      have hC8 := (I6.cod.ext hb7).ext k8
      have hO8 := (I6.own.ext hb7).ext k8
      have hL8 := (hown6.ext hb7).ext k8
      have hD8 := (hD7.mono (S' := fun b => (b ≠ g ∧ b ≠ bx) ∧ (Value.slice A' m c').ownBlock ≠ some b) (fun b hb h => by
        rcases h with h | h
        · exact ⟨⟨h.1, h.2.1⟩, h.2.2⟩
        · have := I6.sz
          exact ⟨⟨by omega, by omega⟩, fun e => by have := (World.ownsRow.lt I6.own _ e).2; omega⟩)).ext k8
      have HB8 := Lib.hid ((k8.block bx (by have := hb7.size; have := I6.sz; omega)).trans ((hb7.block bx (by have := I6.sz; omega)).trans HB6.out))
      have hs8 : base ≤ W8.heap.size := by have := I6.sz; have := hb7.size; have := k8.size; omega
      have hneby : bx ≠ by_ := by have := I6.sz; have := hb7.size; omega
      have hwby : w.heap.size ≤ by_ := by have := I6.sz; have := hb7.size; omega
      have hbs8 : by_ < W8.heap.size := by have := S8.out; omega
      have hdin := I6.din
      have hoff : ∀ b, (Value.slice A' m c').ownBlock = some b → base ≤ b ∧ b < by_ := fun b e => by have := World.ownsRow.lt I6.own b e; have := hb7.size; omega
      clear I6 I7 hD7 hb7 k8 hown6 hg6 Hap HB6 hby
      go_wp2_with fail
      refine wp_region_lexL ((fun w' => w'.heap[by_]? = some (.cells #[.slice A7 1 c7] 45 (0, 0)))) (by kernel_rfl) (by kernel_rfl) (r8.out) ?_
      repeat (first | (refine lexL_q0 rfl ?_; go_big_quiet_step (fail); refine wpQuiet_nil ?_) | (refine lexL_skip0 rfl rfl ?_; simp only [Act.put, List.setIfInBounds_toArray, List.set_cons_succ, List.set_cons_zero]))
      refine lexL_ld (⟨by_, 0, none⟩) (.agg #[.slice A7 1 c7]) rfl rfl rfl (fun w' hw' => run_ld_block hw' Try.underlying45 rfl (by kernel_rfl)) ?_
      simp only [Act.put, List.setIfInBounds_toArray, List.set_cons_succ, List.set_cons_zero]
      repeat (first | (refine lexL_q0 rfl ?_; go_big_quiet_step (fail); refine wpQuiet_nil ?_) | (refine lexL_skip0 rfl rfl ?_; simp only [Act.put, List.setIfInBounds_toArray, List.set_cons_succ, List.set_cons_zero]))
      refine lexL_e rfl ?_
      go_wp2_with (refine wpList_appR (o := ⟨some 49, _, _, _, _, _⟩) encDt_len encDt_one (.agg #[.int .i64 0, .int .i64 0, .int .i64 0, .int .i64 0, .int .i64 0, .int .i64 0, .int .i64 0, .int .i64 0, .int .i64 0]) 72 _ _ 27 38 base all l6 A6 n6 c6 (.slice A' m c') (m + n6) rfl rfl Try.underlying27 infoDt rfl (by omega) rfl rfl hO8 hL8.recs (by omega) (by omega) (by omega) hs8 ?_; intro A9 c9 w9 hown9 hgr9 hat9 hc91 hc92)

      have hr9 := (hgr9.block by_ hbs8 (fun e => by have := hoff _ e.symm; omega)).trans r8.out
      have HR9 := Lib.hid hr9
      clear hr9
      go_wp2_with fail
      refine lexL_go (HR9.out) ?_
      repeat (first | (refine lexL_q0 rfl ?_; go_big_quiet_step (fail); refine wpQuiet_nil ?_) | (refine lexL_skip0 rfl rfl ?_; simp only [Act.put, List.setIfInBounds_toArray, List.set_cons_succ, List.set_cons_zero]))
      have sz9 : W8.heap.size ≤ w9.heap.size := hgr9.size
      have HB9 := Lib.hid ((hgr9.block bx (show bx < W8.heap.size by omega) (fun e => by have := hoff _ e.symm; omega)).trans HB8.out)
      obtain ⟨W10, hW10⟩ : ∃ W10, W10 = w9.setRow bx #[.slice A7 1 c7] := ⟨_, rfl⟩
      have hg10 : w9.grownBy W10 (some bx) := by rw [hW10]; exact grown_setRow _ _ _
      have HB10 := Lib.hid (show W10.heap[bx]? = some (.cells #[.slice A7 1 c7] 45 (0, 0)) by rw [hW10]; exact setRow_heap _ _ _ _ _ _ HB9.out)
      have HR10 := Lib.hid ((hg10.block by_ (by omega) (by simp; omega)).trans HR9.out)
      have hO10 := hown9.kept hg10 (hown9.ne_ hbase)
      have hC10 := (Cod.grown (w := W8.drew) hC8 hgr9 (fun q hq => by have := hoff q hq; have := hC8.1; omega)).grown hg10 (fun q hq => by cases hq; have := hC8.1; omega)
      have hD9 := dsk_app (P := fun b => b ≠ g ∧ b ≠ bx) (w := W8.drew) (hD8.ext (Below.refl _ W8).drew) hgr9 hat9
      have hD10 := (hD9.keep (fun b hb h => hg10.block b hb (by simpa using h.1.2))).mono (S' := fun b => b ≠ g ∧ b ≠ bx ∧ (Value.slice A9 (m + n6) c9).ownBlock ≠ some b) (fun b _ h => ⟨h.1.1, h.1.2, h.2⟩)
      have hal := hlen.1
      have hfa := files_app all l6 sf (by omega)
      rw [← hfa.1, ← hfa.2] at hD10
      have b9 : Below w.heap.size w w9 := OwnR.grow (w := W8.drew) hO8 hgr9 b8.drew (by omega) hs8
      have b10 : Below w.heap.size w W10 := by rw [hW10]; exact Below.setRow b9 (by omega) _
      have hlen2 := hO10.len.1
      have I10 : KI w w1.heap.size g bx base W10 (all ++ l6) sf A9 (m + n6) c9 A7 c7 := ⟨hC10, HB10.out, hO10, hD10, by omega, fun d hd => by
        rcases List.mem_append.1 hd with h | h
        · exact hdin d h
        · exact hin6 d h, b10, by have := hg10.size; omega⟩
      have HLEN := Lib.hid hlen2
      refine lexL_e rfl ?_
      go_wp2_with (refine wpList_store_row rfl 45 _ _ rfl bx 45 _ _ rfl rfl HB9.out (by kernel_rfl) rfl (by simp [Value.oneCell']) ?_)
      rw [← hW10]
      clear hW10 hg10 hO10 hC10 hD9 hD10 hfa b9 b10 hown9 hgr9 hat9 hC8 hO8 hL8 hD8 HB8 HB9 HR9 r8 b8 hal hlen2 hoff hdin hf1 hf2 hf6 hc91 hc92
      go_wp2_with fail
      refine lexL_go (HR10.out) ?_
      repeat (first | (refine lexL_q0 rfl ?_; go_big_quiet_step (fail); refine wpQuiet_nil ?_) | (refine lexL_skip0 rfl rfl ?_; simp only [Act.put, List.setIfInBounds_toArray, List.set_cons_succ, List.set_cons_zero]))
      refine lexL_nil ?_
      go_wp2_with fail
      have hcx := codnext_any w1.heap.size g 2 W10 I10.cod (by omega) (by omega)
      rw [show ((2 : Nat) : Int) = 2 from rfl] at hcx
      have Hcx := Lib.hid hcx
      clear hcx
      refine Hcx.out.mono ?_
      rintro e w11 ⟨x, rfl, hx, hC11, hg11⟩
      have I11 := I10.draw hC11 hg11 (by omega) (by omega) hwg
      clear Hcx HB10 HR10 hC11 hg11 I10
      by_cases hx1 : x = 1
      · subst hx1
        have d1 : (((1 : Nat) : Int) == 1) = true := rfl
        have HB11 := Lib.hid I11.box
        have hd11 := I11.dsk
        have hf1 := frL_le ((all ++ l6).take sf) (fun d hd => I11.din d (mem_take' hd)) 12 (by have := HLEN.out; rw [List.length_take]; omega)
        have hf2 := frL_le ((all ++ l6).drop sf) (fun d hd => I11.din d (mem_drop' hd)) 12 (by have := HLEN.out; rw [List.length_drop]; omega)
        have hsy := sync_ok A7 1 c7 _ _ w11 I11.dsk (by omega) 0 _ rfl (by show (frL ((all ++ l6).take sf)).length + (frL ((all ++ l6).drop sf)).length ≤ 10000000; omega)
        rw [show ((0 : Nat) : Int) = 0 from rfl] at hsy
        have Hsy := Lib.hid hsy
        clear hsy hf1 hf2
        go_wp2_with (refine wpList_load_row rfl 45 _ rfl _ rfl 45 _ (0,0) _ HB11.out Try.underlying45 rfl (by kernel_rfl) ?_)
        refine Hsy.out.mono ?_
        rintro e w12 ⟨A12, c12, rfl, hD12, hb12⟩
        have b12 := Below.ext I11.blw hb12
        obtain ⟨W13, hW13, b13, k13, S13, r13⟩ := boxD w w12 #[.slice A12 1 c12] 45 b12
        go_upto_region 19 with (refine wpList_store_new rfl 45 _ _ rfl 45 _ #[.slice A12 1 c12] rfl rfl (by kernel_rfl) rfl (by simp [Value.oneCell']) ?_)
        rw [← hW13]
        clear hW13
        obtain ⟨bz, hbz⟩ : ∃ bz, bz = w12.heap.size := ⟨_, rfl⟩
        rw [← hbz] at r13 S13 ⊢
        have s12 := hb12.size
        have s11 := I11.sz
        have k1113 := Below.ext hb12 k13
        have HB13 := Lib.hid ((k1113.block bx (by omega)).trans HB11.out)
        have hoff : ∀ b, (Value.slice A9 (m + n6) c9).ownBlock = some b → base ≤ b ∧ b < w11.heap.size := fun b e => World.ownsRow.lt I11.own b e
        obtain ⟨W14, hW14⟩ : ∃ W14, W14 = W13.setRow bx #[.slice A12 1 c12] := ⟨_, rfl⟩
        have hg14 : W13.grownBy W14 (some bx) := by rw [hW14]; exact grown_setRow _ _ _
        have HB14 := Lib.hid (show W14.heap[bx]? = some (.cells #[.slice A12 1 c12] 45 (0, 0)) by rw [hW14]; exact setRow_heap _ _ _ _ _ _ HB13.out)
        have hD14 := (((hD12.mono (S' := fun b => b ≠ g ∧ b ≠ bx ∧ (Value.slice A9 (m + n6) c9).ownBlock ≠ some b) (fun b hb h => by
          rcases h with h | h
          · exact h
          · exact ⟨by omega, by omega, fun e => by have := hoff b e; omega⟩)).ext k13).keep (fun b hb h => hg14.block b hb (by simpa using h.2.1)))
        have hfa := files_all (all ++ l6) (m + n6) HLEN.out
        rw [files_join] at hD14
        have hD14' : Dsk (fun b => b ≠ g ∧ b ≠ bx ∧ (Value.slice A9 (m + n6) c9).ownBlock ≠ some b) W14 (.slice A12 1 c12) [⟨frL ((all ++ l6).take (m + n6)), frL ((all ++ l6).drop (m + n6))⟩] := by rw [hfa.1, hfa.2]; exact hD14
        have I14 : KI w w1.heap.size g bx base W14 (all ++ l6) (m + n6) A9 (m + n6) c9 A12 c12 := ⟨(I11.cod.ext k1113).grown hg14 (fun q hq => by cases hq; have := I11.cod.1; omega), HB14.out, (I11.own.ext k1113).kept hg14 (I11.own.ne_ hbase), hD14', Nat.le_refl _, I11.din, by rw [hW14]; exact Below.setRow b13 (by omega) _, by have := hg14.size; have := k13.size; omega⟩
        clear hD14 hD14' hfa hD12 I11 hd11
        go_wp2_with (first | (refine wpList_load_row rfl 45 _ rfl _ rfl 45 _ (0,0) _ r13.out Try.underlying45 rfl (by kernel_rfl) ?_) | (refine wpList_store_row rfl 45 _ _ rfl bx 45 _ _ rfl rfl HB13.out (by kernel_rfl) rfl (by simp [Value.oneCell']) ?_))
        rw [← hW14]
        refine ⟨⟨k - 1, m + n6, m + n6, c9, c12, A9, A12, all ++ l6, by congr 1; omega, rfl, rfl, by omega, I14⟩, by simp [intOf]; omega⟩
      · have d1 : ((x : Int) == 1) = false := by simp; omega
        go_wp2_with fail
        refine ⟨⟨k - 1, sf, m + n6, c9, c7, A9, A7, all ++ l6, by congr 1; omega, rfl, rfl, by omega, I11⟩, by simp [intOf]; omega⟩
    · obtain rfl : k = 0 := by omega
      have dk : decide ((0 : Int) < ((0 : Nat) : Int)) = false := by simp
      have HB := Lib.hid hI.box
      have hdin := hI.din
      have hf1 := frL_le (all.take sf) (fun d hd => hdin d (mem_take' hd)) 12 (by rw [List.length_take]; omega)
      have hf2 := frL_le (all.drop sf) (fun d hd => hdin d (mem_drop' hd)) 12 (by rw [List.length_drop]; omega)
      have hop := walopen_go A 1 c _ _ wr hI.dsk (by omega) 0 (fun f hf => by simp only [List.mem_singleton] at hf; subst hf; simp only [flen]; omega) all [⟨frL all, []⟩] 1 0 (.inl ⟨0, _, rfl, rfl, by rw [files_join]; exact whole_frL all hdin, rfl, rfl, rfl⟩)
      have Hop := Lib.hid hop
      clear hop
      go_wp2_with (refine wpList_load_row rfl 45 _ rfl _ rfl 45 _ (0,0) _ HB.out Try.underlying45 rfl (by kernel_rfl) ?_)
      refine Hop.out.mono ?_
      rintro e w6 ⟨A6, c6, B6, e6, rfl, hL6, _, hb6⟩
      rw [hlen.1] at hL6 ⊢
      have b6 := Below.ext hI.blw hb6
      obtain ⟨W7, hW7, b7, k7, S7, r7⟩ := boxD w w6 #[.slice B6 1 e6] 45 b6
      go_upto_region 21 with (refine wpList_store_new rfl 45 _ _ rfl 45 _ #[.slice B6 1 e6] rfl rfl (by kernel_rfl) rfl (by simp [Value.oneCell']) ?_)
      rw [← hW7]
      clear hW7 Hop
      have k67 := Below.ext hb6 k7
      have hDw := hI.dsk.ext k67
      have hLw := hL6.ext k7
      have hOw := (hI.own.ext k67).recs
      have hslt : bx < wr.heap.size := by have := hI.sz; omega
      have KB := Lib.hid ((k67.block bx hslt).trans HB.out)
      obtain ⟨i, hi1, hi2, hi3⟩ := keeps_cut all sf hdin (by omega) (a1 % 400)
      have him : i ≤ m := by omega
      have htl := tornL_le (frL (all.drop sf)) (a1 % 400) []
      have hli : (all.take i).length = i := by rw [List.length_take]; omega
      have HLI := Lib.hid hli
      clear hI HB hL6 hb6 b6 k67 k7 r7 S7 hli hslt
      have hBXlt : bx < W7.heap.size := (Array.getElem?_eq_some_iff.1 KB.out).1
      try (go_wp2_with fail)
      refine wp_region_float (fun w' => w'.heap[bx]? = some (.cells #[.slice A 1 c] 45 (0, 0))) 11 20 45 (.cells #[.slice none 0 0] 45) (by kernel_rfl) (by kernel_rfl) (alloc_disk) (fun w' h => row_alloc h _) (KB.out) ?_
      repeat (first | (refine mgL_q0 rfl rfl ?_; go_big_quiet_step (fail); refine wpQuiet_nil ?_) | (refine mgL_skip0 rfl rfl rfl ?_; simp only [Act.put, List.setIfInBounds_toArray, List.set_cons_succ, List.set_cons_zero]))
      refine mgL_ld (⟨bx, 0, none⟩) (.agg #[.slice A 1 c]) rfl rfl rfl rfl (fun w' hw' => run_ld_block hw' Try.underlying45 rfl (by kernel_rfl)) ?_
      simp only [Act.put, List.setIfInBounds_toArray, List.set_cons_succ, List.set_cons_zero]
      repeat (first | (refine mgL_q0 rfl rfl ?_; go_big_quiet_step (fail); refine wpQuiet_nil ?_) | (refine mgL_skip0 rfl rfl rfl ?_; simp only [Act.put, List.setIfInBounds_toArray, List.set_cons_succ, List.set_cons_zero]))
      refine mgL_e rfl rfl (fun m1 v1 hE1 => ?_)
      go_wp2_with fail
      have x1 := hE1.bx (Bx.none_ W7.heap.size _ _) (Nat.le_refl _)
      have y1 : Below W7.heap.size W7 v1 := Below.ext (Below.refl _ W7).drew hE1.below
      refine (mod_any _ _ _ (by omega) (by omega) hn.1 hn.2).mono ?_
      rintro e v1b ⟨rfl, rfl⟩
      have KR1 := Lib.hid ((y1.block bx hBXlt).trans KB.out)
      go_wp2_with fail
      refine mgL_go (KR1.out) ?_
      repeat (first | (refine mgL_q0 rfl rfl ?_; go_big_quiet_step (fail); refine wpQuiet_nil ?_) | (refine mgL_skip0 rfl rfl rfl ?_; simp only [Act.put, List.setIfInBounds_toArray, List.set_cons_succ, List.set_cons_zero]))
      refine mgL_e rfl rfl (fun m2 v2 hE2 => ?_)
      go_wp2_with fail
      have x2 := hE2.bx x1 y1.size
      have y2 : Below W7.heap.size W7 v2 := Below.ext y1 hE2.below
      have KR2 := Lib.hid ((y2.block bx hBXlt).trans KB.out)
      go_wp2_with fail
      refine mgL_go (KR2.out) ?_
      repeat (first | (refine mgL_q0 rfl rfl ?_; go_big_quiet_step (fail); refine wpQuiet_nil ?_) | (refine mgL_skip0 rfl rfl rfl ?_; simp only [Act.put, List.setIfInBounds_toArray, List.set_cons_succ, List.set_cons_zero]))
      refine mgL_e rfl rfl (fun m3 v3 hE3 => ?_)
      go_wp2_with fail
      have x3 := hE3.bx x2 y2.size
      have y3 : Below W7.heap.size W7 v3 := Below.ext y2 hE3.below
      obtain ⟨v4, hv4, z4, s4, r4⟩ := newD v3 #[.int .i64 (a1 % 400), .slice none 0 0] 57
      have S4h := Lib.hid s4
      clear s4 r4
      have hT4 := lit_tear1 v3 (a1 % 400) none 0 0 [] _ (Recs.nil_ (fun _ => True) _)
      rw [← hv4] at hT4 ⊢
      clear hv4
      have x4 := x3.ext z4
      have y4 := Below.ext y3 z4
      have KR4 := Lib.hid ((y4.block bx hBXlt).trans KB.out)
      go_wp2_with fail
      refine mgL_go (KR4.out) ?_
      repeat (first | (refine mgL_q0 rfl rfl ?_; go_big_quiet_step (fail); refine wpQuiet_nil ?_) | (refine mgL_skip0 rfl rfl rfl ?_; simp only [Act.put, List.setIfInBounds_toArray, List.set_cons_succ, List.set_cons_zero]))
      refine mgL_e rfl rfl (fun m5 v5 hE5 => ?_)
      go_wp2_with fail
      have x5 := hE5.bx x4 y4.size
      have y5 : Below W7.heap.size W7 v5 := Below.ext y4 hE5.below
      have hD5 := hDw.ext y5
      have hT5 := hT4.ext hE5.below
      have hcr := crash_any A 1 c _ _ v5 hD5 (by omega) _ 1 1 [⟨a1 % 400, []⟩] _ hT5 (fun f hf => by simp only [List.mem_singleton] at hf; subst hf; show (frL (all.take sf)).length + (frL (all.drop sf)).length ≤ 3000000; omega)
      rw [crash_file] at hcr
      have Hcr := Lib.hid hcr
      clear hcr
      refine Hcr.out.mono ?_
      rintro e v6 ⟨A6, c6, rfl, hD6, z6⟩
      have x6 := x5.ext z6
      have y6 := Below.ext y5 z6
      have KR6 := Lib.hid ((y6.block bx hBXlt).trans KB.out)
      go_wp2_with fail
      refine mgL_go (KR6.out) ?_
      repeat (first | (refine mgL_q0 rfl rfl ?_; go_big_quiet_step (fail); refine wpQuiet_nil ?_) | (refine mgL_skip0 rfl rfl rfl ?_; simp only [Act.put, List.setIfInBounds_toArray, List.set_cons_succ, List.set_cons_zero]))
      refine mgL_e rfl rfl (fun m7 v7 hE7 => ?_)
      go_wp2_with fail
      have x7 := hE7.bx x6 y6.size
      have y7 : Below W7.heap.size W7 v7 := Below.ext y6 hE7.below
      have hD7 := hD6.ext hE7.below
      have hop := walopen_go A6 1 c6 _ _ v7 hD7 (by omega) 0 (fun f hf => by simp only [List.mem_singleton] at hf; subst hf; simp only [flen, List.length_append, List.length_nil]; omega) (all.take i) _ 1 0 (.inl ⟨0, _, rfl, rfl, by simpa using hi3, rfl, rfl, rfl⟩)
      have Hop := Lib.hid hop
      clear hop
      refine Hop.out.mono ?_
      rintro e v8 ⟨A8, c8, B8, e8, rfl, hL8, _, z8⟩
      rw [HLI.out] at hL8 ⊢
      have x8 := x7.ext z8
      have y8 := Below.ext y7 z8
      have KR8 := Lib.hid ((y8.block bx hBXlt).trans KB.out)
      have hL8' := hL8.mono (S' := fun b => m7 ≠ some b) (fun b _ h => x7.lt h)
      go_wp2_with fail
      refine mgL_go (KR8.out) ?_
      repeat (first | (refine mgL_q0 rfl rfl ?_; go_big_quiet_step (fail); refine wpQuiet_nil ?_) | (refine mgL_skip0 rfl rfl rfl ?_; simp only [Act.put, List.setIfInBounds_toArray, List.set_cons_succ, List.set_cons_zero]))
      refine mgL_x rfl (fun X v9 hE9 => ?_)
      simp only [Act.put, List.setIfInBounds_toArray, List.set_cons_succ, List.set_cons_zero]
      repeat (first | (refine mgL_q0 rfl rfl ?_; go_big_quiet_step (fail); refine wpQuiet_nil ?_) | (refine mgL_skip0 rfl rfl rfl ?_; simp only [Act.put, List.setIfInBounds_toArray, List.set_cons_succ, List.set_cons_zero]))
      have x9 := hE9.bx x8 y8.size
      have y9 := Below.ext y8 hE9.below
      have rowX := (x9 X rfl).2
      have hWX := (x9 X rfl).1
      have hL9 := (hL8'.mono (S' := fun b => b ≠ X) (fun b hb h e => hE9.ne hb h (by rw [e]))).ext hE9.below
      refine mgL_d rfl rfl ?_
      refine wpList_store_row rfl 45 _ _ rfl X 45 _ _ rfl rfl rowX (by kernel_rfl) rfl (by simp [Value.oneCell']) ?_
      obtain ⟨W10, hW10⟩ : ∃ W10, W10 = v9.setRow X #[.slice B8 1 e8] := ⟨_, rfl⟩
      have hg10 : v9.grownBy W10 (some X) := by rw [hW10]; exact grown_setRow _ _ _
      have y10 : Below W7.heap.size W7 W10 := by rw [hW10]; exact Below.setRow y9 hWX _
      have hL10 := hL9.keep (fun b hb h => hg10.block b hb (by simpa using h))
      have KR10 := Lib.hid ((y10.block bx hBXlt).trans KB.out)
      rw [← hW10]
      clear hW10 hg10 hL9 hL8 hL8' rowX x1 x2 x3 x4 x5 x6 x7 x8 x9 hE1 hE2 hE3 hE5 hE7 hE9 hT4 hT5 hD5 hD6 hD7 Hcr Hop z4 z6 z8 y1 y2 y3 y4 y5 y6 y7 y8 y9
      refine mgL_go KR10.out ?_
      simp only [Act.put]
      repeat (first | (refine mgL_q0 rfl rfl ?_; go_big_quiet_step (fail); refine wpQuiet_nil ?_) | (refine mgL_skip0 rfl rfl rfl ?_; simp only [Act.put, List.setIfInBounds_toArray, List.set_cons_succ, List.set_cons_zero]))
      refine mgL_nil ?_
      have hLz := hLw.ext y10
      have hOz := hOw.ext y10
      have d2 : decide (sf ≤ i) = true := by simpa using hi2
      have d3 : decide (i ≤ m) = true := by simpa using him
      go_wp2_with fail
      refine (samedets_eq _ _ m _ _ all _ _ W10 hLz hOz).mono ?_
      rintro e w11 ⟨rfl, hb11⟩
      go_wp2_with fail
      refine (samedets_eq _ _ i _ _ (all.take i) _ _ w11 (hL10.ext hb11) ((hOz.ext hb11).take_ encDt_len him)).mono ?_
      rintro e w12 ⟨rfl, hb12⟩
      go_wp2
      go_ret
      exact ⟨rfl, Below.ext b7 (Below.ext y10 (Below.ext hb11 hb12))⟩
end Go.Proofs.Ytjcfnpmgklliiaa.walKeeps
