/-
  The places of a channel: the iterator of network.places, network.Channel and network.Oldest.
-/
import Derived.Test.YtfnafdncbbjolaaNet
import Derived.Test.YtfnafdncbbjolaaLexIn
import Derived.RangeFuncBox
import Derived.Sort.QuietIn
import Derived.RangeFuncLeaves
import Derived.Shelf.Abstract
import Derived.OwnWalkIn
import Derived.TacticsInMore
import Derived.LoopNIn
import Derived.LoopIn
import Derived.Maps.AppendAt
import Derived.Maps.OwnIn
namespace Go.Proofs.Ytfnafdncbbjolaa
open Go.RowKit Go.Shelf
attribute [local go_sem] Oper.semAt_some
set_option maxRecDepth 100000
set_option linter.unusedVariables false

/-- a message of a channel -/
def isCh (fr to : Int) (m : Msg) : Bool := m.f == fr && m.t == to
/-- the places of a channel among the first k messages -/
def chN (ms : List Msg) (fr to : Int) (k : Nat) : List Nat := (List.range k).filter fun i => (ms[i]?.map (isCh fr to)).getD false
theorem chN_zero (ms : List Msg) (fr to : Int) : chN ms fr to 0 = [] := rfl
theorem chN_succ (ms : List Msg) (fr to : Int) (k : Nat) (m : Msg) (h : ms[k]? = some m) : chN ms fr to (k + 1) = chN ms fr to k ++ if isCh fr to m then [k] else [] := by
  unfold chN
  rw [List.range_succ, List.filter_append]
  congr 1
  simp [List.filter_cons, h]
theorem chN_len (ms : List Msg) (fr to : Int) (k : Nat) : (chN ms fr to k).length ≤ k := by
  unfold chN
  have := List.length_filter_le (fun i => (ms[i]?.map (isCh fr to)).getD false) (List.range k)
  simpa using this
theorem chN_prefix (ms : List Msg) (fr to : Int) (k : Nat) : ∀ j, k ≤ j → chN ms fr to k <+: chN ms fr to j := by
  intro j hj
  obtain ⟨d, rfl⟩ : ∃ d, j = k + d := ⟨j - k, by omega⟩
  induction d with
  | zero => exact List.prefix_rfl
  | succ d ih =>
    refine (ih (by omega)).trans ?_
    unfold chN
    rw [← Nat.add_assoc, List.range_succ, List.filter_append]
    exact List.prefix_append _ _
theorem chN_lt {ms : List Msg} {fr to : Int} {k i : Nat} (h : i ∈ chN ms fr to k) : i < k := by
  unfold chN at h
  simp at h
  exact h.1

/-- what a round is handed -/
def encI (k : Nat) : Array Value := #[.int .i64 (k : Int)]
/-- what the rounds keep: what lay below, and three boxes -/
def Keep3 (n₀ B1 B2 B3 : Nat) (X Y : World) : Prop := Below n₀ X Y ∧ Y.heap[B1]? = X.heap[B1]? ∧ Y.heap[B2]? = X.heap[B2]? ∧ Y.heap[B3]? = X.heap[B3]?
theorem grown_none {X Y : World} (h : Below X.heap.size X Y) : X.grownBy Y none := ⟨h.os, h.tape, h.output, h.size, fun k hk _ => h.block k hk⟩
theorem drew_grown (X : World) : X.grownBy X.drew none := ⟨rfl, rfl, rfl, Nat.le_refl _, fun _ _ _ => rfl⟩

set_option maxHeartbeats 2000000 in
theorem places1_in (n : Nat) (hn : 1 ≤ n) (l Bl Bf Bt : Nat) (A : Option Addr) (c : Nat) (ms : List Msg) (S : Nat → Prop) (w0 : World) (hv : Recs encM S w0 (.slice A ms.length c) ms) (hlen : ms.length ≤ 1000) (fr to : Int)
    (J Jx : List Nat → World → Prop) (hJ : ∀ pre X Y, J pre X → X.grownBy Y none → J pre Y)
    (hY : ∀ pre x W, J pre W → pre.length < ms.length → YieldAt Fence.wide (n - 1) Try.prog l (encI x) W fun e W' =>
      (e = .returned (.bool true) ∧ J (pre ++ [x]) W' ∧ Keep3 w0.heap.size Bl Bf Bt W W') ∨ (e = .returned (.bool false) ∧ Jx (pre ++ [x]) W'))
    (W : World) (hW : Below w0.heap.size w0 W) (hBl : Boxed W Bl 26 (.slice A ms.length c)) (hBf : Boxed W Bf 3 (.int .i64 fr)) (hBt : Boxed W Bt 3 (.int .i64 to)) (h0 : J [] W) :
    CallsIn Fence.wide n Try.prog 38 #[.func (.yield l) #[] #[], .pointer (some ⟨Bl, 0, none⟩), .pointer (some ⟨Bf, 0, none⟩), .pointer (some ⟨Bt, 0, none⟩)] W fun e W' => (∃ v, e = .returned v) ∧
      ((∃ ys, ys = chN ms fr to ms.length ∧ J ys W') ∨ (∃ pre, (pre <+: chN ms fr to ms.length) ∧ Jx pre W')) := by
  refine callsIn_of_wp Try.func38 rfl trivial ?_ rfl
  simp only [Try.ntmps38, List.size_toArray, List.length_cons, List.length_nil, Nat.reduceAdd, Nat.reduceSub, Array.replicate_succ, Array.replicate_zero, List.push_toArray, List.append_toArray, List.nil_append, List.cons_append]
  have hcl0 := hBl.cell
  gi_wp2
  clear hcl0
  gi_loopw [8] (fun a wr => ∃ k : Nat, a = .int .i64 k ∧ k ≤ ms.length ∧ J (chN ms fr to k) wr ∧ Below w0.heap.size w0 wr ∧ Boxed wr Bl 26 (.slice A ms.length c) ∧ Boxed wr Bf 3 (.int .i64 fr) ∧ Boxed wr Bt 3 (.int .i64 to))
    (fun a _ => ms.length - (intOf a).toNat)
  case atStart => exact ⟨0, rfl, by omega, h0, hW, hBl, hBf, hBt⟩
  case round =>
    obtain ⟨k, rfl, hk, hJr, hbr, hl, hf, ht⟩ := hrel
    have hcl := hl.cell
    have hcf := hf.cell
    have hct := ht.cell
    have hBr := hv.ext hbr
    by_cases hlt : k < ms.length
    · obtain ⟨b, off, m, rfl, hSb, hblt, hmk, hcell⟩ := hBr.at_ encM_len hlt (by omega)
      have hc0 := hcell 0 _ rfl
      have hc1 := hcell 1 _ rfl
      rw [Nat.add_zero] at hc0
      have hsn := chN_succ ms fr to k m hmk
      have hpl : (chN ms fr to k).length < ms.length := Nat.lt_of_le_of_lt (chN_len _ _ _ _) hlt
      have Hcell := Lib.hid hcell
      have Hmk := Lib.hid hmk
      clear hcell hmk
      have hk2 : ((k : Int) < 9223372036854775807) := by omega
      by_cases e1 : m.f = fr
      · by_cases e2 : m.t = to
        · have d1 : (m.f == fr) = true := by simpa using e1
          have d2 : (m.t == to) = true := by simpa using e2
          have hch : isCh fr to m = true := by unfold isCh; rw [d1, d2]; rfl
          rw [hch, if_pos rfl] at hsn
          have Hsn := Lib.hid hsn
          clear hsn hch e1 e2
          obtain ⟨fn, tmps, assign, body, hy, hR⟩ := hY (chN ms fr to k) k wr.drew (hJ _ _ _ hJr (drew_grown _)) hpl
          unfold encI at hy
          gi_wp2_with fail
          refine LexIn.wpIn_region_lex (fun _ => True) (by kernel_rfl) (by kernel_rfl) trivial ?_
          repeat (refine LexIn.lex_q rfl ⟨default, trivial⟩ ?_; go_big_quiet_step (fail); refine wpQuiet_nil ?_)
          refine LexIn.lex_e rfl ?_
          gi_wp2_with fail
          refine LexIn.lex_go trivial ?_
          repeat (refine LexIn.lex_q rfl ⟨default, trivial⟩ ?_; go_big_quiet_step (fail); refine wpQuiet_nil ?_)
          refine LexIn.lex_e rfl ?_
          gi_wp2_with fail
          refine LexIn.lex_go trivial ?_
          repeat (refine LexIn.lex_q rfl ⟨default, trivial⟩ ?_; go_big_quiet_step (fail); refine wpQuiet_nil ?_)
          refine LexIn.lex_e rfl ?_
          gi_wp2_with fail
          refine LexIn.lex_go trivial ?_
          repeat (refine LexIn.lex_q rfl ⟨default, trivial⟩ ?_; go_big_quiet_step (fail); refine wpQuiet_nil ?_)
          refine LexIn.lex_e rfl ?_
          gi_wp2_with fail
          refine LexIn.lex_go trivial ?_
          repeat (refine LexIn.lex_q rfl ⟨default, trivial⟩ ?_; go_big_quiet_step (fail); refine wpQuiet_nil ?_)
          refine LexIn.lex_e rfl ?_
          gi_wp2_with fail
          refine LexIn.lex_go trivial ?_
          repeat (refine LexIn.lex_q rfl ⟨default, trivial⟩ ?_; go_big_quiet_step (fail); refine wpQuiet_nil ?_)
          refine LexIn.lex_e rfl ?_
          gi_wp2_with fail
          refine LexIn.lex_go trivial ?_
          repeat (refine LexIn.lex_q rfl ⟨default, trivial⟩ ?_; go_big_quiet_step (fail); refine wpQuiet_nil ?_)
          refine LexIn.lex_e rfl ?_
          gi_wp2_with fail
          refine hR.mono ?_
          rintro e W3 (⟨rfl, hJ3, hk3⟩ | ⟨rfl, hJx3⟩)
          · have hbr3 : Below w0.heap.size w0 W3 := Below.trans (show Below w0.heap.size w0 wr.drew from hbr.drew) hk3.1
            have hl3 : Boxed W3 Bl 26 (.slice (some ⟨b, off, none⟩) ms.length c) := hk3.2.1.trans hl
            have hf3 : Boxed W3 Bf 3 (.int .i64 fr) := hk3.2.2.1.trans hf
            have ht3 : Boxed W3 Bt 3 (.int .i64 to) := hk3.2.2.2.trans ht
            gi_wp2_with fail
            refine LexIn.lex_go trivial ?_
            repeat (refine LexIn.lex_q rfl ⟨default, trivial⟩ ?_; go_big_quiet_step (fail); refine wpQuiet_nil ?_)
            refine LexIn.lex_nil ?_
            gi_wp2_with fail
            gi_wp2
            go_roundw
            case rel => exact ⟨k + 1, by go_num, by omega, by rw [Hsn.out]; exact hJ3, hbr3, hl3, hf3, ht3⟩
            case measure => simp [intOf]; omega
          · gi_wp2_with fail
            refine LexIn.lex_go trivial ?_
            repeat (refine LexIn.lex_q rfl ⟨default, trivial⟩ ?_; go_big_quiet_step (fail); refine wpQuiet_nil ?_)
            refine LexIn.lex_nil ?_
            gi_wp2_with fail
            gi_wp2
            refine bodyPost_ret (results_none rfl _ _ _) rfl ?_
            exact ⟨⟨_, rfl⟩, .inr ⟨_, chN_prefix ms fr to (k + 1) ms.length (by omega), by rw [Hsn.out]; exact hJx3⟩⟩
        · have d1 : (m.f == fr) = true := by simpa using e1
          have d2 : (m.t == to) = false := by simpa using e2
          have hch : isCh fr to m = false := by unfold isCh; rw [d1, d2]; rfl
          rw [hch, if_neg (by decide), List.append_nil] at hsn
          have Hsn := Lib.hid hsn
          clear hsn hch e1 e2
          gi_wp2_with fail
          refine LexIn.wpIn_region_lex (fun _ => True) (by kernel_rfl) (by kernel_rfl) trivial ?_
          repeat (refine LexIn.lex_q rfl ⟨default, trivial⟩ ?_; go_big_quiet_step (fail); refine wpQuiet_nil ?_)
          refine LexIn.lex_e rfl ?_
          gi_wp2_with fail
          refine LexIn.lex_go trivial ?_
          repeat (refine LexIn.lex_q rfl ⟨default, trivial⟩ ?_; go_big_quiet_step (fail); refine wpQuiet_nil ?_)
          refine LexIn.lex_e rfl ?_
          gi_wp2_with fail
          refine LexIn.lex_go trivial ?_
          repeat (refine LexIn.lex_q rfl ⟨default, trivial⟩ ?_; go_big_quiet_step (fail); refine wpQuiet_nil ?_)
          refine LexIn.lex_e rfl ?_
          gi_wp2_with fail
          refine LexIn.lex_go trivial ?_
          repeat (refine LexIn.lex_q rfl ⟨default, trivial⟩ ?_; go_big_quiet_step (fail); refine wpQuiet_nil ?_)
          refine LexIn.lex_e rfl ?_
          gi_wp2_with fail
          refine LexIn.lex_go trivial ?_
          repeat (refine LexIn.lex_q rfl ⟨default, trivial⟩ ?_; go_big_quiet_step (fail); refine wpQuiet_nil ?_)
          refine LexIn.lex_e rfl ?_
          gi_wp2_with fail
          refine LexIn.lex_go trivial ?_
          repeat (refine LexIn.lex_q rfl ⟨default, trivial⟩ ?_; go_big_quiet_step (fail); refine wpQuiet_nil ?_)
          refine LexIn.lex_e rfl ?_
          gi_wp2_with fail
          refine LexIn.lex_go trivial ?_
          repeat (refine LexIn.lex_q rfl ⟨default, trivial⟩ ?_; go_big_quiet_step (fail); refine wpQuiet_nil ?_)
          refine LexIn.lex_skip rfl rfl trivial ?_
          simp only [Act.put, List.setIfInBounds_toArray, List.set_cons_succ, List.set_cons_zero]
          repeat (refine LexIn.lex_q rfl ⟨default, trivial⟩ ?_; go_big_quiet_step (fail); refine wpQuiet_nil ?_)
          refine LexIn.lex_nil ?_
          gi_wp2_with fail
          gi_wp2
          go_roundw
          case rel => exact ⟨k + 1, by go_num, by omega, by rw [Hsn.out]; exact hJ _ _ _ hJr (drew_grown _), hbr.drew, hl, hf, ht⟩
          case measure => simp [intOf]; omega
      · have d1 : (m.f == fr) = false := by simpa using e1
        have hch : isCh fr to m = false := by unfold isCh; rw [d1]; rfl
        rw [hch, if_neg (by decide), List.append_nil] at hsn
        have Hsn := Lib.hid hsn
        clear hsn hch e1
        gi_wp2_with fail
        refine LexIn.wpIn_region_lex (fun _ => True) (by kernel_rfl) (by kernel_rfl) trivial ?_
        repeat (refine LexIn.lex_q rfl ⟨default, trivial⟩ ?_; go_big_quiet_step (fail); refine wpQuiet_nil ?_)
        refine LexIn.lex_e rfl ?_
        gi_wp2_with fail
        refine LexIn.lex_go trivial ?_
        repeat (refine LexIn.lex_q rfl ⟨default, trivial⟩ ?_; go_big_quiet_step (fail); refine wpQuiet_nil ?_)
        refine LexIn.lex_e rfl ?_
        gi_wp2_with fail
        refine LexIn.lex_go trivial ?_
        repeat (refine LexIn.lex_q rfl ⟨default, trivial⟩ ?_; go_big_quiet_step (fail); refine wpQuiet_nil ?_)
        refine LexIn.lex_e rfl ?_
        gi_wp2_with fail
        refine LexIn.lex_go trivial ?_
        repeat (refine LexIn.lex_q rfl ⟨default, trivial⟩ ?_; go_big_quiet_step (fail); refine wpQuiet_nil ?_)
        refine LexIn.lex_skip rfl rfl trivial ?_
        simp only [Act.put, List.setIfInBounds_toArray, List.set_cons_succ, List.set_cons_zero]
        repeat (refine LexIn.lex_q rfl ⟨default, trivial⟩ ?_; go_big_quiet_step (fail); refine wpQuiet_nil ?_)
        refine LexIn.lex_skip rfl rfl trivial ?_
        simp only [Act.put, List.setIfInBounds_toArray, List.set_cons_succ, List.set_cons_zero]
        repeat (refine LexIn.lex_q rfl ⟨default, trivial⟩ ?_; go_big_quiet_step (fail); refine wpQuiet_nil ?_)
        refine LexIn.lex_skip rfl rfl trivial ?_
        simp only [Act.put, List.setIfInBounds_toArray, List.set_cons_succ, List.set_cons_zero]
        repeat (refine LexIn.lex_q rfl ⟨default, trivial⟩ ?_; go_big_quiet_step (fail); refine wpQuiet_nil ?_)
        refine LexIn.lex_skip rfl rfl trivial ?_
        simp only [Act.put, List.setIfInBounds_toArray, List.set_cons_succ, List.set_cons_zero]
        repeat (refine LexIn.lex_q rfl ⟨default, trivial⟩ ?_; go_big_quiet_step (fail); refine wpQuiet_nil ?_)
        refine LexIn.lex_nil ?_
        gi_wp2_with fail
        gi_wp2
        go_roundw
        case rel => exact ⟨k + 1, by go_num, by omega, by rw [Hsn.out]; exact hJ _ _ _ hJr (drew_grown _), hbr.drew, hl, hf, ht⟩
        case measure => simp [intOf]; omega
    · obtain rfl : k = ms.length := by omega
      gi_wp2
      go_end0
      exact ⟨⟨_, rfl⟩, .inl ⟨_, rfl, hJr⟩⟩

theorem places_stops (n : Nat) (hn : 1 ≤ n) (Bl Bf Bt : Nat) (A : Option Addr) (c : Nat) (ms : List Msg) (S : Nat → Prop) (w : World) (hv : Recs encM S w (.slice A ms.length c) ms) (hlen : ms.length ≤ 1000) (fr to : Int)
    (hBl : Boxed w Bl 26 (.slice A ms.length c)) (hBf : Boxed w Bf 3 (.int .i64 fr)) (hBt : Boxed w Bt 3 (.int .i64 to)) :
    SeqStopsK Fence.wide n Try.prog 38 #[.pointer (some ⟨Bl, 0, none⟩), .pointer (some ⟨Bf, 0, none⟩), .pointer (some ⟨Bt, 0, none⟩)] encI (Below w.heap.size) (fun ys => ys = chN ms fr to ms.length) (fun pre => pre <+: chN ms fr to ms.length) ms.length w := fun l J Jx W hW hJ _ hY h0 =>
  places1_in n hn l Bl Bf Bt A c ms S w hv hlen fr to J Jx (fun pre X Y hX hg => hJ pre X Y none hX hg (fun r e => by cases e))
    (fun pre x W1 hJ1 hp => by
      obtain ⟨fn, tmps, assign, body, hy, hR⟩ := hY pre x W1 hJ1 hp
      refine ⟨fn, tmps, assign, body, hy, hR.mono ?_⟩
      rintro e W' (⟨h1, h2, h3⟩ | h)
      · exact .inl ⟨h1, h2, h3, h3.block _ hBl.lt, h3.block _ hBf.lt, h3.block _ hBt.lt⟩
      · exact .inr h)
    W hW ((hW.block _ hBl.lt).trans hBl) ((hW.block _ hBf.lt).trans hBf) ((hW.block _ hBt.lt).trans hBt) h0

/-- the value of a place -/
def valI (k : Nat) : Value := .int .i64 (k : Int)
def encZ (z : Int) : List Value := [.int .i64 z]
theorem encZ_len (z : Int) : (encZ z).length = 1 := rfl
theorem flatZ (l : List Nat) : (l.map (fun k : Nat => (k : Int))).flatMap encZ = l.map valI := by
  induction l with
  | nil => rfl
  | cons x l ih => simp only [List.map_cons, List.flatMap_cons, ih]; rfl
theorem infoI : (Try.prog.info? 3).map (fun i => (i.zero, i.size, i.bytes)) = some (some (.int .i64 0), 1, 8) := by kernel_rfl

set_option maxHeartbeats 2000000 in
theorem appseq_in (n : Nat) (hn : 3 ≤ n) (Bl Bf Bt : Nat) (A : Option Addr) (c : Nat) (ms : List Msg) (S : Nat → Prop) (w : World) (hv : Recs encM S w (.slice A ms.length c) ms) (hlen : ms.length ≤ 1000) (fr to : Int)
    (hBl : Boxed w Bl 26 (.slice A ms.length c)) (hBf : Boxed w Bf 3 (.int .i64 fr)) (hBt : Boxed w Bt 3 (.int .i64 to)) :
    CallsIn Fence.wide n Try.prog 37 #[.slice none 0 0, .func (.func 38) #[] #[.pointer (some ⟨Bl, 0, none⟩), .pointer (some ⟨Bf, 0, none⟩), .pointer (some ⟨Bt, 0, none⟩)]] w
      fun e w' => ∃ v, e = .returned v ∧ w'.ownsRow w.heap.size 3 1 v (chN ms fr to ms.length).length ((chN ms fr to ms.length).map valI) ∧ Below w.heap.size w w' := by
  obtain ⟨i0, hi, hz0, hz1, hz2⟩ := info_parts infoI
  refine callsIn_of_wp_marks Try.func37 rfl trivial ?_ rfl
  simp only [Try.ntmps37, List.size_toArray, List.length_cons, List.length_nil, Nat.reduceAdd, Nat.reduceSub, Array.replicate_succ, Array.replicate_zero, List.push_toArray, List.append_toArray, List.nil_append, List.cons_append]
  gi_wp2
  have bO := Boxed.new w 29 (.slice none 0 0)
  have hB0 : Below w.heap.size w (w.alloc (.cells #[.slice none 0 0] 29)) := (Below.refl _ w).alloc (Nat.le_refl _) _
  have hsz : (w.alloc (.cells #[.slice none 0 0] 29)).heap.size = w.heap.size + 1 := by simp
  generalize w.alloc (.cells #[.slice none 0 0] 29) = wq at *
  refine wpIn_rangeFunc_ownG rfl (by omega) (gf := 38) (lb := #[.pointer (some ⟨Bl, 0, none⟩), .pointer (some ⟨Bf, 0, none⟩), .pointer (some ⟨Bt, 0, none⟩)]) rfl trivial (enters_of Try.func38 (by kernel_rfl) rfl)
    (places_stops (n - 1) (by omega) Bl Bf Bt A c ms S w hv hlen fr to hBl hBf hBt) (fun h k => h.trans k)
    (fun W l o o' hl h h1 h2 => belowK_b (w := wq) (by omega) W l o o' hl h h1 h2) hB0 (fun _ => rfl)
    (fun pre W => (∃ v, Boxed W w.heap.size 29 v ∧ W.ownsRow w.heap.size 3 1 v pre.length (pre.map valI) ∧ True) ∧ Below w.heap.size w W)
    (fun _ _ _ => False)
    (OwnFrom.and (Own.from (holdsRow_own w.heap.size w.heap.size 29 3 1 (fun pre : List Nat => pre.length) (fun pre => pre.map valI) (fun _ _ => True)) _) (ownFrom_below (Nat.le_refl _) (by omega)))
    (fun _ _ _ _ _ hs _ _ => hs)
    ⟨⟨_, bO, World.ownsRow_nil _ _ _ _, trivial⟩, hB0⟩
    (fun x => { tmps := #[.slice none 0 0, .func (.func 38) #[] #[.pointer (some ⟨Bl, 0, none⟩), .pointer (some ⟨Bf, 0, none⟩), .pointer (some ⟨Bt, 0, none⟩)], .pointer (some ⟨w.heap.size, 0, none⟩), undef, .slice none 0 0, .int .i64 (x : Nat), .func (.func 38) #[] #[.pointer (some ⟨Bl, 0, none⟩), .pointer (some ⟨Bf, 0, none⟩), .pointer (some ⟨Bt, 0, none⟩)], .int .i64 (x : Nat), undef, undef, undef, undef, undef], defers := [] }) ?assign ?body ?done ?stop
  case assign =>
    intro l x W K hK
    unfold encI
    gi_wp2
    exact hK
  case body =>
    rintro l pre k W ⟨⟨v, hv, hrow, _⟩, hB⟩ hlt
    have hc := hv.cell
    have hsW := hB.size
    gi_wp2_with (gi_at_builtin; (refine wpListIn_append_own_at _ rfl _ _ 29 rfl w.heap.size 3 i0 (.int .i64 0) 1 8 Try.underlying29 hi hz0 hz1 hz2 rfl (by decide) _ _ _ rfl (hrow.alloc _) ⟨W.heap.size, 0, none⟩ 1 1 [.int .i64 (k : Int)] rfl rfl (cell_one_new _ _ _) (by simp [Value.oneCell']) (by unfold maxLen; omega) (by omega) (by simp; omega) ?_; intro v' w1 hown' hgrow _ hat'; obtain ⟨g', cap', rfl⟩ := ownsRow_succ hown'; obtain ⟨hv1, hv2, hr2, hk2, hb2⟩ := hv.appended (by decide) hrow hB.size (Nat.le_refl _) hown' hgrow; have hc1 := hv1.cell; have hf1 := hv1.frozen))
    refine ⟨hk2.from _, hb2, ⟨_, hv2, ?_, trivial⟩, hB.trans hb2⟩
    rw [List.map_append, List.map_singleton, List.length_append]
    exact hr2
  case done =>
    rintro D ys W hD rfl ⟨⟨v, hv, hrow, _⟩, hB⟩ hK
    have hc := hv.cell
    gi_wp2
    have hBf : Below w.heap.size w (W.putObj D (.deferred none)) := hB.trans (belowK_b (n₀ := w.heap.size) (w := wq) (by omega) W D _ (.deferred none) hD hK rfl rfl)
    refine ⟨by simp, .inl ⟨_, _, rfl, run_takeDeferred hK, ?_⟩⟩
    exact ⟨_, results_tmp rfl _ _ _, v, rfl, ownsRow_putObj hrow (.deferred none) hK rfl, hBf⟩
  case stop =>
    rintro D c pre W _ _ h _
    exact h.elim
end Go.Proofs.Ytfnafdncbbjolaa
