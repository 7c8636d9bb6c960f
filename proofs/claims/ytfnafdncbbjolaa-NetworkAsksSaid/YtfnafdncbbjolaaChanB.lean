/-
  network.Channel and network.Oldest by their contracts.
-/
import Derived.Test.YtfnafdncbbjolaaChan
namespace Go.Proofs.Ytfnafdncbbjolaa
open Go.RowKit Go.Shelf
attribute [local go_sem] Oper.semAt_some
set_option maxRecDepth 100000
set_option linter.unusedVariables false

/-- the places as integers -/
def chZ (ms : List Msg) (fr to : Int) : List Int := (chN ms fr to ms.length).map (fun k : Nat => (k : Int))
theorem chZ_len (ms : List Msg) (fr to : Int) : (chZ ms fr to).length = (chN ms fr to ms.length).length := by simp [chZ]

set_option maxHeartbeats 1000000 in
theorem places_any (A : Option Addr) (m c : Nat) (fr to : Int) (w : World) :
    Calls Try.prog 33 #[.slice A m c, .int .i64 fr, .int .i64 to] w fun e w' => e = .returned (.func (.func 38) #[] #[.pointer (some ⟨w.heap.size, 0, none⟩), .pointer (some ⟨w.heap.size + 1, 0, none⟩), .pointer (some ⟨w.heap.size + 2, 0, none⟩)]) ∧
      Boxed w' w.heap.size 26 (.slice A m c) ∧ Boxed w' (w.heap.size + 1) 3 (.int .i64 fr) ∧ Boxed w' (w.heap.size + 2) 3 (.int .i64 to) ∧ Below w.heap.size w w' := by
  go_enter Try.func33, Try.ntmps33
  go_wp2
  go_ret
  refine ⟨rfl, ?_, ?_, ?_, ?_⟩
  · exact ((Boxed.new w 26 (.slice A m c)).alloc _).alloc _
  · have := (Boxed.new (w.alloc (.cells #[.slice A m c] 26)) 3 (.int .i64 fr)).alloc (.cells #[.int .i64 to] 3)
    rw [World.size_alloc] at this
    exact this
  · have := Boxed.new ((w.alloc (.cells #[.slice A m c] 26)).alloc (.cells #[.int .i64 fr] 3)) 3 (.int .i64 to)
    rw [World.size_alloc, World.size_alloc] at this
    exact this
  · exact (((Below.refl _ w).alloc (Nat.le_refl _) _).alloc (by simp) _).alloc (by simp; omega) _

set_option maxHeartbeats 1000000 in
theorem collect_any (Bl Bf Bt : Nat) (A : Option Addr) (c : Nat) (ms : List Msg) (S : Nat → Prop) (w : World) (hv : Recs encM S w (.slice A ms.length c) ms) (hlen : ms.length ≤ 1000) (fr to : Int)
    (hBl : Boxed w Bl 26 (.slice A ms.length c)) (hBf : Boxed w Bf 3 (.int .i64 fr)) (hBt : Boxed w Bt 3 (.int .i64 to)) :
    Calls Try.prog 32 #[.func (.func 38) #[] #[.pointer (some ⟨Bl, 0, none⟩), .pointer (some ⟨Bf, 0, none⟩), .pointer (some ⟨Bt, 0, none⟩)]] w
      fun e w' => ∃ v, e = .returned v ∧ OwnR encZ 1 w' w.heap.size 3 v (chZ ms fr to) ∧ Below w.heap.size w w' := by
  go_enter Try.func32, Try.ntmps32
  go_wp2_with fail
  refine ((callsIn_wide (n := 9)).1 (appseq_in 9 (by omega) Bl Bf Bt A c ms S w hv hlen fr to hBl hBf hBt)).mono ?_
  rintro e w' ⟨v, rfl, hrow, hb⟩
  go_wp2
  go_ret
  refine ⟨v, rfl, ?_, hb⟩
  unfold OwnR
  rw [chZ_len, chZ, flatZ]
  exact hrow

set_option maxHeartbeats 1000000 in
theorem channel_any (v : Value) (ms : List Msg) (S : Nat → Prop) (w : World) (hv : Recs encM S w v ms) (hlen : ms.length ≤ 1000) (fr to : Int) :
    Calls Try.prog 14 #[v, .int .i64 fr, .int .i64 to] w fun e w' => ∃ v', e = .returned v' ∧ OwnR encZ 1 w' w.heap.size 3 v' (chZ ms fr to) ∧ Below w.heap.size w w' := by
  have hv' := hv
  obtain ⟨A, c, rfl, _⟩ := hv
  go_enter Try.func14, Try.ntmps14
  go_wp2_with fail
  refine (places_any A ms.length c fr to w).mono ?_
  rintro e w1 ⟨rfl, h1, h2, h3, hb1⟩
  go_wp2_with fail
  refine (collect_any w.heap.size (w.heap.size + 1) (w.heap.size + 2) A c ms S w1 (hv'.ext hb1) hlen fr to h1 h2 h3).mono ?_
  rintro e w2 ⟨v', rfl, hown, hb2⟩
  go_wp2
  go_ret
  exact ⟨v', rfl, hown.weak hb1.size, Below.ext hb1 hb2⟩

theorem boxed_own {β : Type} (B : Nat) (t : TypeId) (f : β → Value) : Own (fun s W => Boxed W B t (f s)) := by
  intro s X Y row hv hg hrow
  refine hv.kept hg (fun e' => ?_)
  obtain ⟨o, ho, hc⟩ := hrow B e'.symm
  rw [show X.heap[B]? = _ from hv] at ho; cases ho; cases hc
theorem chN_self {ms : List Msg} {k : Nat} {m : Msg} (hk : ms[k]? = some m) (hlt : k < ms.length) (h : chN ms m.f m.t ms.length = []) : False := by
  have : k ∈ chN ms m.f m.t ms.length := by
    obtain ⟨_, rfl⟩ := List.getElem?_eq_some_iff.1 hk
    unfold chN
    simp [hlt, isCh]
  rw [h] at this
  cases this
/-- the first place of a channel, or -1 -/
def firstZ (l : List Int) : Int := l.headD (-1)

set_option maxHeartbeats 2000000 in
theorem oldest_any (v : Value) (ms : List Msg) (S : Nat → Prop) (w : World) (hv : Recs encM S w v ms) (hlen : ms.length ≤ 1000) (k : Nat) (m : Msg) (hk : ms[k]? = some m) :
    Calls Try.prog 16 #[v, .int .i64 (k : Int)] w fun e w' => e = .returned (.int .i64 (firstZ (chZ ms m.f m.t))) ∧ Below w.heap.size w w' := by
  have hlt := (List.getElem?_eq_some_iff.1 hk).1
  have hv' := hv
  obtain ⟨A, c, rfl, _⟩ := hv
  obtain ⟨b, off, m', rfl, hSb, hblt, hmk, hcell⟩ := hv'.at_ encM_len hlt (by omega)
  obtain rfl : m' = m := by rw [hk] at hmk; cases hmk; rfl
  have hc0 := hcell 0 _ rfl
  have hc1 := hcell 1 _ rfl
  rw [Nat.add_zero] at hc0
  have d1 : decide (ms.length ≤ k) = false := by simpa using hlt
  have d0 : decide ((k : Int) < 0) = false := by simp
  have Hk := Lib.hid hk
  clear hk hmk hcell
  refine (callsIn_wide (n := 9)).1 (callsIn_of_wp_marks Try.func16 rfl trivial ?_ rfl)
  simp only [Try.ntmps16, List.size_toArray, List.length_cons, List.length_nil, Nat.reduceAdd, Nat.reduceSub, Array.replicate_succ, Array.replicate_zero, List.push_toArray, List.append_toArray, List.nil_append, List.cons_append]
  gi_wp2
  gi_wp2_with fail
  refine LexIn.wpIn_region_lex (fun _ => True) (by kernel_rfl) (by kernel_rfl) trivial ?_
  repeat (refine LexIn.lex_q rfl ⟨default, trivial⟩ ?_; go_big_quiet_step (fail); refine wpQuiet_nil ?_)
  refine LexIn.lex_e rfl ?_
  gi_wp2_with fail
  refine LexIn.lex_go trivial ?_
  repeat (refine LexIn.lex_q rfl ⟨default, trivial⟩ ?_; go_big_quiet_step (fail); refine wpQuiet_nil ?_)
  refine LexIn.lex_e rfl ?_
  gi_wp2_with fail
  refine LexIn.lex_go trivial ?_
  repeat (refine LexIn.lex_q rfl ⟨default, trivial⟩ ?_; go_big_quiet_step (fail); refine wpQuiet_nil ?_)
  refine LexIn.lex_e rfl ?_
  gi_wp2_with fail
  refine ⟨trivial, (callsIn_wide.2 (places_any (some ⟨b, off, none⟩) ms.length c m'.f m'.t _)).mono ?_⟩
  rintro e w1 ⟨rfl, h1, h2, h3, hb1⟩
  gi_wp2_with fail
  refine LexIn.lex_go trivial ?_
  repeat (refine LexIn.lex_q rfl ⟨default, trivial⟩ ?_; go_big_quiet_step (fail); refine wpQuiet_nil ?_)
  refine LexIn.lex_nil ?_
  gi_wp2_with fail
  have hszq : (w.alloc (.cells #[.int .i64 0] 3)).drew.heap.size = w.heap.size + 1 := by simp [World.drew]
  have hw0 : Below w.heap.size w (w.alloc (.cells #[.int .i64 0] 3)).drew := ((Below.refl _ w).alloc (Nat.le_refl _) _).drew
  have hR0 : Boxed (w.alloc (.cells #[.int .i64 0] 3)).drew w.heap.size 3 (.int .i64 0) := Boxed.new w 3 (.int .i64 0)
  generalize (w.alloc (.cells #[.int .i64 0] 3)).drew = wa at *
  rw [hszq] at h1 h2 h3
  have hR1 : Boxed w1 w.heap.size 3 (.int .i64 0) := (hb1.block _ hR0.lt).trans hR0
  have hb : Below w.heap.size w w1 := hw0.trans (hb1.mono (by omega))
  have hsz1 := hb1.size
  clear hw0 hR0
  refine wpIn_rangeFunc_ownG rfl (by omega) (gf := 38) (lb := #[.pointer (some ⟨w.heap.size + 1, 0, none⟩), .pointer (some ⟨w.heap.size + 1 + 1, 0, none⟩), .pointer (some ⟨w.heap.size + 1 + 2, 0, none⟩)]) rfl trivial (enters_of Try.func38 (by kernel_rfl) rfl)
    (places_stops (9 - 1) (by omega) (w.heap.size + 1) (w.heap.size + 1 + 1) (w.heap.size + 1 + 2) (some ⟨b, off, none⟩) c ms S w1 (hv'.ext hb) hlen m'.f m'.t h1 h2 h3) (fun h k => h.trans k)
    (fun W l o o' hl h h1 h2 => belowK_b (w := w1) (Nat.le_refl _) W l o o' hl h h1 h2) (Below.refl _ _) (fun _ => rfl)
    (fun pre W => (pre = [] ∧ Boxed W w.heap.size 3 (.int .i64 0)) ∧ Below w.heap.size w W)
    (fun cd pre W => (cd = .ret ∧ ∃ x : Nat, pre = [x] ∧ Boxed W w.heap.size 3 (.int .i64 x)) ∧ Below w.heap.size w W)
    (OwnFrom.and (Own.from (fun s X Y row hs hg hr => ⟨hs.1, boxed_own w.heap.size 3 (fun _ : List Nat => .int .i64 0) s X Y row hs.2 hg hr⟩) _) (ownFrom_below (Nat.le_refl _) (by omega)))
    (fun cd => OwnFrom.and (Own.from (fun s X Y row hs hg hr => by
      obtain ⟨h1, x, h2, h3⟩ := hs
      exact ⟨h1, x, h2, boxed_own w.heap.size 3 (fun _ : List Nat => .int .i64 x) s X Y row h3 hg hr⟩) _) (ownFrom_below (Nat.le_refl _) (by omega)))
    ⟨⟨rfl, hR1⟩, hb⟩
    (fun x => { tmps := #[.slice (some ⟨b, off, none⟩) ms.length c, .int .i64 k, undef, undef, .pointer (some ⟨w.heap.size, 0, none⟩), .int .i64 (x : Nat), .int .i64 k, .bool false, .bool false, .int .i64 k, .slice (some ⟨b, off, none⟩) ms.length c, .int .i64 ms.length, .bool false, .bool false, .slice (some ⟨b, off, none⟩) ms.length c, .slice (some ⟨b, off, none⟩) ms.length c, .int .i64 k, .pointer (some ⟨b, off + k * 9, none⟩), .pointer (some ⟨b, off + k * 9, none⟩), .int .i64 m'.f, .slice (some ⟨b, off, none⟩) ms.length c, .int .i64 k, .pointer (some ⟨b, off + k * 9, none⟩), .pointer (some ⟨b, off + k * 9 + 1, none⟩), .int .i64 m'.t, (.func (.func 38) #[] #[.pointer (some ⟨w.heap.size + 1, 0, none⟩), .pointer (some ⟨w.heap.size + 1 + 1, 0, none⟩), .pointer (some ⟨w.heap.size + 1 + 2, 0, none⟩)]), .int .i64 (x : Nat), undef], defers := [] }) ?assign ?body ?done ?stop
  case assign =>
    intro l x W K hK
    unfold encI
    gi_wp2
    exact hK
  case body =>
    rintro l pre x W ⟨⟨rfl, hR⟩, hB⟩ hlt
    have hc := hR.cell
    have hf := hR.frozen
    gi_wp2
    exact ⟨(KeepsOthers.setCell W ⟨w.heap.size, 0, none⟩ (.int .i64 (x : Int))).from _, ⟨rfl, x, rfl, hR.set _⟩, hB.setCell (Nat.le_refl _) _⟩
  case done =>
    rintro D ys W hD rfl ⟨⟨h, hR⟩, hB⟩ hK
    exfalso
    exact chN_self Hk.out hlt h
  case stop =>
    rintro D cd pre W hD hp ⟨⟨rfl, x, rfl, hR⟩, hB⟩ hK
    have hfirst : firstZ (chZ ms m'.f m'.t) = x := by
      obtain ⟨t, ht⟩ := hp
      unfold firstZ chZ
      rw [← ht]
      rfl
    have Hfirst := Lib.hid hfirst
    clear hfirst
    have hBf : Below w.heap.size w (W.putObj D (.deferred none)) := hB.trans (belowK_b (n₀ := w.heap.size) (w := w1) (by omega) W D _ (.deferred none) hD hK rfl rfl)
    have hRf : Boxed (W.putObj D (.deferred none)) w.heap.size 3 (.int .i64 x) := (World.putObj_heap_other (by omega)).trans hR
    have hcf := hRf.cell
    gi_wp2
    refine ⟨by simp, .inl ⟨_, _, rfl, run_takeDeferred hK, ?_⟩⟩
    refine ⟨.int .i64 (x : Int), ?_, by rw [Hfirst.out], hBf⟩
    simp [results, Try.results16, go_sem, hcf]

set_option maxHeartbeats 1000000 in
theorem oldest_no (v : Value) (ms : List Msg) (S : Nat → Prop) (w : World) (hv : Recs encM S w v ms) (hlen : ms.length ≤ 1000) (k : Int) (hk : k < 0 ∨ (ms.length : Int) ≤ k) :
    Calls Try.prog 16 #[v, .int .i64 k] w fun e w' => e = .returned (.int .i64 (-1)) ∧ Below w.heap.size w w' := by
  obtain ⟨A, c, rfl, _⟩ := hv
  have key : ∀ K : Prop, (decide (k < 0) = true → K) → (decide (k < 0) = false → decide ((ms.length : Int) ≤ k) = true → K) → K := fun K h1 h2 => by
    by_cases h : k < 0
    · exact h1 (by simpa using h)
    · exact h2 (by simpa using h) (by simp; omega)
  apply key
  · intro d1
    go_enter Try.func16, Try.ntmps16
    go_wp2
    exact bodyPost_ret (v := .int .i64 (-1)) (by simp [results, Try.results16, go_sem]) rfl ⟨rfl, (Below.refl _ w).alloc (Nat.le_refl _) _⟩
  · intro d1 d2
    go_enter Try.func16, Try.ntmps16
    go_wp2
    exact bodyPost_ret (v := .int .i64 (-1)) (by simp [results, Try.results16, go_sem]) rfl ⟨rfl, (Below.refl _ w).alloc (Nat.le_refl _) _⟩
end Go.Proofs.Ytfnafdncbbjolaa
