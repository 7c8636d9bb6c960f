/-
  The walks of package frame's writing half, of the document's, and of SameBytes.
-/
import Derived.Test.YtmakcggmaphanaaCrcWalk
import Derived.Test.YtmakcggmaphanaaFrameFn
import Derived.Test.YtmakcggmaphanaaLex
import Derived.Test.YtmakcggmaphanaaOwn
namespace Go.Proofs.Ytmakcggmaphanaa
open Go.RowKit
attribute [local irreducible] upd inv le4 putN byteOf z8 sumL headL sealL brow
set_option maxRecDepth 100000
set_option linter.unusedVariables false

set_option maxHeartbeats 400000 in
theorem samebytes_any (va vb : Value) (la lb : List UInt8) (S T : Nat → Prop) (w : World) (ha : Bytes S w va la) (hb : Bytes T w vb lb) :
    Calls Try.prog 22 #[va, vb] w fun e w' => e = .returned (.bool (decide (la = lb))) ∧ Below w.heap.size w w' := by
  obtain ⟨A, c, rfl, hc1, hc2, hcs⟩ := ha
  obtain ⟨B, d, rfl, hd1, hd2, hds⟩ := hb
  unfold maxLen at hc2 hd2
  by_cases hlen : la.length = lb.length
  · have hne : ((la.length : Int) != (lb.length : Int)) = false := by simp [hlen]
    have Hlen := Lib.hid hlen
    clear hlen
    have hle : la.length ≤ lb.length := by have := Hlen.out; omega
    go_enter Try.func22, Try.ntmps22
    go_wp2
    go_loopw [5] (fun i wr => ∃ k : Nat, k ≤ la.length ∧ i = .int .i64 k ∧ la.take k = lb.take k ∧ Below w.heap.size w wr) (fun i _ => la.length - (intOf i).toNat)
    case atStart => exact ⟨0, by omega, rfl, rfl, Below.refl _ _⟩
    case round =>
      obtain ⟨k, hk, rfl, htk, hbw⟩ := hrel
      have Htk := Lib.hid htk
      clear htk
      by_cases hlt : k < la.length
      · obtain ⟨b0, o0, x, rfl, _, _, hx, hcx⟩ := (hcs.keep (Keep.of_below hbw)).byte hlt
        obtain ⟨b1, o1, y, rfl, _, _, hy, hcy⟩ := (hds.keep (Keep.of_below hbw)).byte (k := k) (by omega)
        have Hx := Lib.hid hx
        have Hy := Lib.hid hy
        clear hx hy
        by_cases hxy : x = y
        · subst hxy
          have hne2 : (((x.toNat : Nat) : Int) != ((x.toNat : Nat) : Int)) = false := by simp
          go_wp2_with fail
          refine wp_region_lex (fun _ => True) (by kernel_rfl) (by kernel_rfl) trivial ?_
          repeat (refine lex_q rfl ⟨default, trivial⟩ ?_; go_big_quiet_step (fail); refine wpQuiet_nil ?_)
          refine lex_e rfl ?_
          go_wp2_with fail
          refine lex_go trivial ?_
          repeat (refine lex_q rfl ⟨default, trivial⟩ ?_; go_big_quiet_step (fail); refine wpQuiet_nil ?_)
          refine lex_e rfl ?_
          go_wp2_with fail
          refine lex_go trivial ?_
          repeat (refine lex_q rfl ⟨default, trivial⟩ ?_; go_big_quiet_step (fail); refine wpQuiet_nil ?_)
          refine lex_nil ?_
          go_wp2_with fail
          go_roundw
          case rel => exact ⟨k + 1, by omega, by go_num, take_eq_succ Htk.out Hx.out Hy.out, hbw.drew⟩
          case measure => simp [intOf]; omega
        · have hne2 : (((x.toNat : Nat) : Int) != ((y.toNat : Nat) : Int)) = true := by
            rw [bne_iff_ne]; intro h; exact hxy (UInt8.toNat_inj.1 (by omega))
          go_wp2_with fail
          refine wp_region_lex (fun _ => True) (by kernel_rfl) (by kernel_rfl) trivial ?_
          repeat (refine lex_q rfl ⟨default, trivial⟩ ?_; go_big_quiet_step (fail); refine wpQuiet_nil ?_)
          refine lex_e rfl ?_
          go_wp2_with fail
          refine lex_go trivial ?_
          repeat (refine lex_q rfl ⟨default, trivial⟩ ?_; go_big_quiet_step (fail); refine wpQuiet_nil ?_)
          refine lex_e rfl ?_
          go_wp2_with fail
          refine lex_go trivial ?_
          repeat (refine lex_q rfl ⟨default, trivial⟩ ?_; go_big_quiet_step (fail); refine wpQuiet_nil ?_)
          refine lex_nil ?_
          go_wp2_with fail
          go_ret
          refine ⟨ret_bool (a := false) ?_, hbw.drew⟩
          symm
          rw [decide_eq_false_iff_not]
          intro h
          subst h
          have := Hx.out.symm.trans Hy.out
          simp at this
          exact hxy this
      · go_wp2
        go_ret
        refine ⟨ret_bool (a := true) ?_, hbw⟩
        symm
        rw [decide_eq_true_iff]
        have h1 := Htk.out
        rw [List.take_of_length_le (by omega), List.take_of_length_le (by have := Hlen.out; omega)] at h1
        exact h1
  · have hne : ((la.length : Int) != (lb.length : Int)) = true := by rw [bne_iff_ne]; omega
    go_enter Try.func22, Try.ntmps22
    go_wp2
    go_ret
    refine ⟨ret_bool (a := false) ?_, Below.refl _ _⟩
    symm
    rw [decide_eq_false_iff_not]
    intro h
    exact hlen (by rw [h])
theorem samebytes_eq (va vb : Value) (l : List UInt8) (S T : Nat → Prop) (w : World) (ha : Bytes S w va l) (hb : Bytes T w vb l) :
    Calls Try.prog 22 #[va, vb] w fun e w' => e = .returned (.bool true) ∧ Below w.heap.size w w' := by
  have := samebytes_any va vb l l S T w ha hb
  simpa using this

set_option maxHeartbeats 400000 in
theorem putword_any (g off n c : Nat) (t : TypeId) (l : List UInt8) (v : Nat) (w : World) (hv : v < 4294967296) (hrow : BRow w g t l) (hoff : off + 4 ≤ l.length) (hn : 4 ≤ n) :
    Calls Try.prog 30 #[.slice (some ⟨g, off, none⟩) n c, .int .u32 v] w fun e w' => e = .returned (.tuple #[]) ∧ BRow w' g t (putN l off v 4) ∧ w.grownBy w' (some g) ∧ w'.heap.size = w.heap.size := by
  have Hrow := Lib.hid hrow
  clear hrow
  go_enter Try.func30, Try.ntmps30
  go_wp2
  go_loopw [4, 5] (fun _ i wr => ∃ k : Nat, k ≤ 4 ∧ i = .int .i64 k ∧ BRow wr g t (putN l off v k) ∧ w.grownBy wr (some g) ∧ wr.heap.size = w.heap.size) (fun _ i _ => 4 - (intOf i).toNat)
  case atStart => exact ⟨0, by omega, rfl, by rw [putN_zero]; exact Hrow.out, ⟨rfl, rfl, rfl, Nat.le_refl _, fun _ _ _ => rfl⟩, rfl⟩
  case round =>
    obtain ⟨k, hk, rfl, hrow, hgr, hsz⟩ := hrel
    by_cases hlt : k < 4
    · obtain ⟨x, hx, hcx⟩ := hrow.at_ (j := off + k) (by rw [putN_length]; omega)
      have hfx := hrow.frozen (off + k)
      have Hr := Lib.hid hrow
      have Hsz := Lib.hid hsz
      clear hrow hx hsz
      go_wp2
      go_roundw
      case rel =>
        rw [byteOf_val]
        exact ⟨k + 1, by omega, by go_num, by rw [putN_succ]; exact Hr.out.set_ _ _, grown_set hgr, by simpa [World.setCell] using Hsz.out⟩
      case measure => simp [intOf]; omega
    · obtain rfl : k = 4 := by omega
      have Hr := Lib.hid hrow
      have Hsz := Lib.hid hsz
      clear hrow hsz
      go_wp2
      go_end0
      exact ⟨rfl, Hr.out, hgr, Hsz.out⟩

theorem zero8 (w : World) : (zeroValue 50).run Try.prog w = .ok (.agg (brow z8)) w := by kernel_rfl
theorem mkBytes0 (n : Nat) (hn : n ≤ 140737488355328) (w : World) : (Instr.makeSlice 23 (.int .i64 0) (.int .i64 (n : Int))).run Try.prog w = .ok (.slice (some ⟨w.heap.size, 0, none⟩) 0 n) (w.alloc (.cells (brow (List.replicate n 0)) 5)) := by
  obtain ⟨i, hi, hz, hs, hb⟩ := info_parts (P := Try.prog) (e := 5) (z := .int .u8 0) (size := 1) (bytes := 1) (by kernel_rfl)
  have h := run_make (P := Try.prog) w 23 5 i (.int .u8 0) Try.underlying23 hi hz .i64 .i64 0 n (by omega) (by omega) (by rw [hb]; omega) (by omega)
  rw [h, hs]
  simp only [Int.toNat_natCast, Nat.mul_one]
  rw [← madeCells_brow]
  rfl
theorem own_made (w : World) (t : TypeId) (n : Nat) (l : List UInt8) (hl : l.length = n) (hn : n ≤ 9223372036854775807) (base : Nat) (hb : base ≤ w.heap.size) : OwnB (w.alloc (.cells (brow l) t)) base t (.slice (some ⟨w.heap.size, 0, none⟩) 0 n) [] := by
  refine ⟨by simp, .inr ⟨w.heap.size, n, brow l, rfl, hb, heap_alloc_new w _, by simp, by unfold maxLen; exact hn, by rw [brow_size, hl, Nat.mul_one], by simp⟩⟩

set_option maxHeartbeats 1000000 in
theorem seal_any (v : Value) (l : List UInt8) (S : Nat → Prop) (w : World) (hv : Bytes S w v l) (hl : l.length ≤ 4096) :
    Calls Try.prog 20 #[v] w fun e w' => ∃ v', e = .returned (.tuple #[v', .int .i64 0]) ∧ OwnB w' w.heap.size 5 v' (sealL l) ∧ Below w.heap.size w w' := by
  have hB := hv
  obtain ⟨A, c, rfl, hc1, hc2, hcs⟩ := hv
  unfold maxLen at hc2
  have hz := zero8
  go_enter Try.func20, Try.ntmps20
  go_wp2_with fail
  refine (putword_any w.heap.size 0 4 8 50 z8 _ _ (by omega) (BRow.new _ _ _) (by rw [z8_length]; omega) (by omega)).mono ?_
  rintro e w1 ⟨rfl, hr1, hg1, hs1⟩
  rw [put_first] at hr1
  have hb1 : Below w.heap.size w w1 := Below.grow ((Below.refl _ _).alloc (Nat.le_refl _) _) hg1 (Nat.le_refl _)
  have Hr1 := Lib.hid hr1
  have Hs1 := Lib.hid hs1
  clear hr1 hs1 hg1 hz
  have hA1 := (Hr1.out.bytes (S := fun _ => True) (n := 8) (c := 8) (by simp [le4_length]) (by omega) (by simp [maxLen]) trivial).take_ (k := 4) (by omega)
  rw [take_first] at hA1
  have hB1 := hB.ext hb1
  go_wp2_with fail
  refine wp_region_lex (fun _ => True) (by kernel_rfl) (by kernel_rfl) trivial ?_
  repeat (refine lex_q rfl ⟨default, trivial⟩ ?_; go_big_quiet_step (fail); refine wpQuiet_nil ?_)
  refine lex_e rfl ?_
  go_wp2_with fail
  refine (of_any _ (le4 l.length) _ _ hA1.drew).mono ?_
  rintro e w2 ⟨rfl, hb2⟩
  go_wp2_with fail
  refine lex_go trivial ?_
  repeat (refine lex_q rfl ⟨default, trivial⟩ ?_; go_big_quiet_step (fail); refine wpQuiet_nil ?_)
  refine lex_e rfl ?_
  go_wp2_with fail
  refine (update_any _ _ l _ _ (upd_lt (by omega) _) (hB1.drew.ext hb2)).mono ?_
  rintro e w3 ⟨rfl, hb3⟩
  go_wp2_with fail
  refine lex_go trivial ?_
  repeat (refine lex_q rfl ⟨default, trivial⟩ ?_; go_big_quiet_step (fail); refine wpQuiet_nil ?_)
  have hr3 := (Hr1.out.drew.ext hb2).ext hb3
  have hB3 := (hB1.drew.ext hb2).ext hb3
  have hb13 : Below w.heap.size w w3 := Below.ext (Below.ext hb1.drew hb2) hb3
  have Hr3 := Lib.hid hr3
  clear hr3 hA1 hB1 hcs
  refine lex_e rfl ?_
  go_wp2_with fail
  refine (putword_any w.heap.size 4 4 4 50 _ _ _ (upd_lt (upd_lt (by omega) _) _) Hr3.out (by simp [le4_length]) (by omega)).mono ?_
  rintro e w4 ⟨rfl, hr4, hg4, hs4⟩
  go_wp2_with fail
  refine lex_go trivial ?_
  repeat (refine lex_q rfl ⟨default, trivial⟩ ?_; go_big_quiet_step (fail); refine wpQuiet_nil ?_)
  rw [put_second] at hr4
  have hb4 : Below w.heap.size w w4 := Below.grow hb13 hg4 (Nat.le_refl _)
  have hB4 := hB.ext hb4
  have hH4 := hr4.bytes (S := fun _ => True) (n := 8) (c := 8) (by simp [le4_length]) (by omega) (by simp [maxLen]) trivial
  clear hr4 hg4 hs4 hB3
  have hmk := mkBytes0 (8 + l.length) (by omega)
  have ecast : ((8 + l.length : Nat) : Int) = 8 + (l.length : Int) := by omega
  rw [ecast] at hmk
  clear ecast
  have hs4 := hb4.size
  have hown4 := own_made w4 5 (8 + l.length) (List.replicate (8 + l.length) 0) (by simp) (by omega) w.heap.size hs4
  have hba : Below w4.heap.size w4 (w4.alloc (.cells (brow (List.replicate (8 + l.length) 0)) 5)) := (Below.refl _ _).alloc (Nat.le_refl _) _
  have hH5 := hH4.ext hba
  rw [sumL_def, headL_def] at hH5
  clear hH4 hB4
  refine lex_nil ?_
  go_wp2_with (first
    | (refine wpList_appB (o := ⟨some 26, _, _, _, _, _⟩) _ _ 23 5 w.heap.size [] (headL l) (some ⟨w.heap.size, 0, none⟩) 8 8 (.slice (some ⟨w4.heap.size, 0, none⟩) 0 (8 + l.length)) 8 rfl rfl Try.underlying23 (by kernel_rfl) rfl rfl hown4 hH5 (by simp) (by simp) (by simp; omega) ?_; intro A5 c5 w5 hown5 hgr5 hat5 hc51 hc52; clear hmk)
    | (refine wpList_appB (o := ⟨some 29, _, _, _, _, _⟩) _ _ 23 5 w.heap.size ([] ++ headL l) l A l.length c (.slice A5 8 c5) (8 + l.length) rfl rfl Try.underlying23 (by kernel_rfl) rfl rfl hown5 (hB.ext (Below.grow (Below.ext hb4 hba) hgr5 hs4)) (by simp [headL_length]) (by simp [headL_length]; omega) (Nat.le_trans hs4 (Nat.le_trans hba.size hgr5.size)) ?_; intro A6 c6 w6 hown6 hgr6 hat6 hc61 hc62))
  go_ret2
  have hb5 := Below.grow (Below.ext hb4 hba) hgr5 hs4
  refine ⟨_, rfl, ?_, hown5.grow hgr6 hb5 (Nat.le_refl _) hb5.size⟩
  rw [List.nil_append, sealL_def] at hown6
  exact hown6
theorem seal_long (v : Value) (l : List UInt8) (S : Nat → Prop) (w : World) (hv : Bytes S w v l) (hl : 4096 < l.length) :
    Calls Try.prog 20 #[v] w fun e w' => e = .returned (.tuple #[.slice none 0 0, .int .i64 5]) ∧ w = w' := by
  obtain ⟨A, c, rfl, hc1, hc2, hcs⟩ := hv
  go_enter Try.func20, Try.ntmps20
  go_wp2
  go_ret2
  exact ⟨rfl, rfl⟩

set_option maxHeartbeats 1000000 in
theorem refhead_any (v : Value) (l : List UInt8) (S : Nat → Prop) (w : World) (hv : Bytes S w v l) (hl : l.length ≤ 4096) :
    Calls Try.prog 31 #[v] w fun e w' => ∃ v', e = .returned v' ∧ OwnB w' w.heap.size 5 v' (headL l) ∧ Below w.heap.size w w' := by
  have hB := hv
  obtain ⟨A, c, rfl, hc1, hc2, hcs⟩ := hv
  unfold maxLen at hc2
  go_enter Try.func31, Try.ntmps31
  go_wp2_with fail
  rw [brow_le4_small _ hl]
  have hown1 := OwnB.lit w 5 (le4 l.length) 4 (le4_length _).symm (by omega) w.heap.size (Nat.le_refl _)
  have hba : Below w.heap.size w (w.alloc (.cells (brow (le4 l.length)) 5)) := (Below.refl _ _).alloc (Nat.le_refl _) _
  refine (refof_any _ (le4 l.length) _ _ hown1.bytes).mono ?_
  rintro e w1 ⟨rfl, rfl⟩
  rw [← upd_eq]
  go_wp2_with fail
  refine (refupdate_any _ _ l _ _ (upd_lt (by omega) _) (hB.ext hba)).mono ?_
  rintro e w1 ⟨rfl, rfl⟩
  rw [← upd_eq, sumL_def]
  have hsum := sumL_lt l
  generalize hs : sumL l = s at hsum ⊢
  have Hs := Lib.hid hs
  clear hs
  go_wp2_with (refine wpList_appB (D := fun _ => True) (o := ⟨some 37, _, _, _, _, _⟩) _ _ 23 5 w.heap.size (le4 l.length) (le4 s) (some ⟨w.heap.size + 1, 0, none⟩) 4 4 (.slice (some ⟨w.heap.size, 0, none⟩) 4 4) 8 rfl rfl Try.underlying23 (by kernel_rfl) rfl rfl (OwnB.ext hown1 ((Below.refl _ _).alloc (Nat.le_refl _) _)) ?c1 (by simp [le4_length]) (by simp [le4_length]) (by simp; omega) ?_; rotate_left; intro A5 c5 w5 hown5 hgr5 hat5 hc51 hc52)
  case c1 =>
    rw [brow_le4 _ hsum]
    have h := Bytes.lit (S := fun _ => True) (w.alloc (.cells (brow (le4 l.length)) 5)) (brow (le4 s)) 5 (0, 0) (le4 s) 4 4 trivial (le4_length _) (by omega) (by simp [maxLen]) (brow_take _ _ (le4_length _).symm)
    rw [World.size_alloc] at h
    exact h
  go_ret
  rw [← Hs.out, headL_def] at hown5
  refine ⟨_, rfl, hown5, ?_⟩
  exact Below.grow (((Below.refl _ _).alloc (Nat.le_refl _) _).alloc (by simp) _) hgr5 (Nat.le_refl _)

set_option maxHeartbeats 1000000 in
theorem refseal_any (v : Value) (l : List UInt8) (S : Nat → Prop) (w : World) (hv : Bytes S w v l) (hl : l.length ≤ 4096) :
    Calls Try.prog 21 #[v] w fun e w' => ∃ v', e = .returned (.tuple #[v', .int .i64 0]) ∧ OwnB w' w.heap.size 5 v' (sealL l) ∧ Below w.heap.size w w' := by
  have hB := hv
  obtain ⟨A, c, rfl, hc1, hc2, hcs⟩ := hv
  unfold maxLen at hc2
  go_enter Try.func21, Try.ntmps21
  go_wp2_with fail
  refine (refhead_any _ l _ _ hB hl).mono ?_
  rintro e w1 ⟨v1, rfl, hown1, hb1⟩
  go_wp2_with (refine wpList_appB (o := ⟨some 10, _, _, _, _, _⟩) _ _ 23 5 w.heap.size (headL l) l A l.length c v1 (8 + l.length) rfl rfl Try.underlying23 (by kernel_rfl) rfl rfl hown1 (hB.ext hb1) (by simp [headL_length]) (by simp [headL_length]; omega) hb1.size ?_; intro A5 c5 w5 hown5 hgr5 hat5 hc51 hc52)
  go_ret2
  rw [sealL_def] at hown5
  exact ⟨_, rfl, hown5, hown1.grow hgr5 hb1 (Nat.le_refl _) hb1.size⟩
theorem refseal_long (v : Value) (l : List UInt8) (S : Nat → Prop) (w : World) (hv : Bytes S w v l) (hl : 4096 < l.length) :
    Calls Try.prog 21 #[v] w fun e w' => e = .returned (.tuple #[.slice none 0 0, .int .i64 5]) ∧ w = w' := by
  obtain ⟨A, c, rfl, hc1, hc2, hcs⟩ := hv
  go_enter Try.func21, Try.ntmps21
  go_wp2
  go_ret2
  exact ⟨rfl, rfl⟩

set_option maxHeartbeats 400000 in
theorem awake11_any (w : World) : Calls Try.prog 19 #[] w fun e w' => e = .returned (.bool true) ∧ Below w.heap.size w w' := by
  go_enter Try.func19, Try.ntmps19
  go_wp2_with fail
  refine (seal_any _ [] (fun _ => True) _ (Bytes.nil_ _ _) (by simp)).mono ?_
  rintro e w1 ⟨v1, rfl, hown1, hb1⟩
  rw [sealL_nil] at hown1
  go_wp2_with fail
  refine (samebytes_eq _ _ [0, 0, 0, 0, 28, 223, 68, 33] _ _ _ (hown1.bytes.ext ((Below.refl _ _).alloc (Nat.le_refl _) _)) (Bytes.lit (S := fun _ => True) w1 _ _ _ _ 8 8 trivial rfl (by omega) (by simp [maxLen]) rfl)).mono ?_
  rintro e w2 ⟨rfl, hb2⟩
  go_wp2_with fail
  go_ret
  exact ⟨rfl, Below.ext (hb1.alloc hb1.size _) hb2⟩
end Go.Proofs.Ytmakcggmaphanaa
