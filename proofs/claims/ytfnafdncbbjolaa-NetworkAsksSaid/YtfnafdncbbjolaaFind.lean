/-
  Find and the reference's Find, Channel, Oldest; SameInts.
-/
import Derived.Test.YtfnafdncbbjolaaChanB
namespace Go.Proofs.Ytfnafdncbbjolaa
open Go.RowKit Go.Shelf
set_option maxRecDepth 100000
set_option linter.unusedVariables false

/-- a message with an identity -/
def isF (fr i x o : Int) (m : Msg) : Bool := m.f == fr && (m.i == i && m.x == x) && m.o == o
def findZ (p : Msg → Bool) (ms : List Msg) : Int := match ms.findIdx? p with | some k => (k : Int) | none => -1
theorem findZ_some {p : Msg → Bool} {ms : List Msg} {k : Nat} {m : Msg} (hk : ms[k]? = some m) (hp : p m = true) (h : ∀ y ∈ ms.take k, p y = false) : findZ p ms = k := by
  obtain ⟨hlt, rfl⟩ := List.getElem?_eq_some_iff.1 hk
  unfold findZ
  have : ms.findIdx? p = some k := by
    rw [List.findIdx?_eq_some_iff_getElem]
    refine ⟨hlt, hp, fun j hj => ?_⟩
    have := h ms[j] (List.mem_take_iff_getElem.2 ⟨j, by omega, rfl⟩)
    simp [this]
  rw [this]
theorem findZ_none {p : Msg → Bool} {ms : List Msg} (h : ∀ y ∈ ms.take ms.length, p y = false) : findZ p ms = -1 := by
  rw [List.take_length] at h
  unfold findZ
  rw [List.findIdx?_eq_none_iff.2 h]
theorem none_succ {p : Msg → Bool} {ms : List Msg} {k : Nat} {m : Msg} (hk : ms[k]? = some m) (hp : p m = false) (h : ∀ y ∈ ms.take k, p y = false) : ∀ y ∈ ms.take (k + 1), p y = false := by
  intro y hy
  rw [List.take_add_one, hk] at hy
  rcases List.mem_append.1 hy with hy | hy
  · exact h y hy
  · simp at hy; rw [hy]; exact hp

set_option maxHeartbeats 2000000 in
theorem find1_any (m : Msg) (fr i x o : Int) (Bf Bs Bo : Nat) (w : World) (hf : w.cell? ⟨Bf, 0, none⟩ = some (.int .i64 fr)) (hs0 : w.cell? ⟨Bs, 0, none⟩ = some (.int .i64 i)) (hs1 : w.cell? ⟨Bs, 1, none⟩ = some (.int .i64 x)) (ho : w.cell? ⟨Bo, 0, none⟩ = some (.int .i64 o)) :
    Calls Try.prog 31 #[.agg (encM m).toArray, .pointer (some ⟨Bf, 0, none⟩), .pointer (some ⟨Bs, 0, none⟩), .pointer (some ⟨Bo, 0, none⟩)] w fun e w' => e = .returned (.bool (isF fr i x o m)) ∧ Below w.heap.size w w' := by
  have b1 : Bf < w.heap.size := block_lt_of_cell hf
  have b2 : Bs < w.heap.size := block_lt_of_cell hs0
  have b3 : Bo < w.heap.size := block_lt_of_cell ho
  have hba : ∀ ob, Below w.heap.size w (w.alloc ob) := fun ob => (Below.refl _ w).alloc (Nat.le_refl _) ob
  obtain ⟨mf, mt, mi, mx, mo, mv⟩ := m
  unfold encM isF
  dsimp only
  by_cases e1 : mf = fr
  · subst e1
    by_cases e2 : mi = i
    · subst e2
      by_cases e3 : mx = x
      · subst e3
        by_cases e4 : mo = o
        · subst e4
          go_enter Try.func31, Try.ntmps31
          go_wp2
          go_ret
          exact ⟨by simp, hba _⟩
        · have d4 : (mo == o) = false := by simpa using e4
          go_enter Try.func31, Try.ntmps31
          go_wp2
          go_ret
          exact ⟨by simp [d4], hba _⟩
      · have d3 : (mx == x) = false := by simpa using e3
        go_enter Try.func31, Try.ntmps31
        go_wp2
        go_ret
        exact ⟨by simp [d3], hba _⟩
    · have d2 : (mi == i) = false := by simpa using e2
      go_enter Try.func31, Try.ntmps31
      go_wp2
      go_ret
      exact ⟨by simp [d2], hba _⟩
  · have d1 : (mf == fr) = false := by simpa using e1
    go_enter Try.func31, Try.ntmps31
    go_wp2
    go_ret
    exact ⟨by simp [d1], hba _⟩

/-- all the cells of a message -/
theorem msg_cells {S : Nat → Prop} {w : World} {A : Option Addr} {n c : Nat} {ms : List Msg} {k : Nat} (h : Recs encM S w (.slice A n c) ms) (hk : k < ms.length) :
    ∃ b off m, A = some ⟨b, off, none⟩ ∧ b < w.heap.size ∧ ms[k]? = some m ∧ w.cell? ⟨b, off + k * 9, none⟩ = some (.int .i64 m.f) ∧ w.cell? ⟨b, off + k * 9 + 1, none⟩ = some (.int .i64 m.t) ∧ w.cell? ⟨b, off + k * 9 + 2, none⟩ = some (.int .i64 m.i) ∧ w.cell? ⟨b, off + k * 9 + 3, none⟩ = some (.int .i64 m.x) ∧
      w.cell? ⟨b, off + k * 9 + 4, none⟩ = some (.int .i64 m.o) ∧ w.cell? ⟨b, off + k * 9 + 5, none⟩ = some (.int .i64 m.v) ∧ w.cell? ⟨b, off + k * 9 + 6, none⟩ = some (.int .i64 0) ∧ w.cell? ⟨b, off + k * 9 + 7, none⟩ = some (.slice none 0 0) ∧ w.cell? ⟨b, off + k * 9 + 8, none⟩ = some (.slice none 0 0) := by
  obtain ⟨b, off, m, rfl, _, hb, hm, hc⟩ := h.at_ encM_len hk (by omega)
  exact ⟨b, off, m, rfl, hb, hm, hc 0 _ rfl, hc 1 _ rfl, hc 2 _ rfl, hc 3 _ rfl, hc 4 _ rfl, hc 5 _ rfl, hc 6 _ rfl, hc 7 _ rfl, hc 8 _ rfl⟩

set_option maxHeartbeats 2000000 in
theorem indexfunc_any (A : Option Addr) (c : Nat) (ms : List Msg) (S : Nat → Prop) (w : World) (hv : Recs encM S w (.slice A ms.length c) ms) (hlen : ms.length ≤ 1000) (fr i x o : Int) (Bf Bs Bo : Nat) (hf : w.cell? ⟨Bf, 0, none⟩ = some (.int .i64 fr)) (hs0 : w.cell? ⟨Bs, 0, none⟩ = some (.int .i64 i)) (hs1 : w.cell? ⟨Bs, 1, none⟩ = some (.int .i64 x)) (ho : w.cell? ⟨Bo, 0, none⟩ = some (.int .i64 o)) :
    Calls Try.prog 30 #[.slice A ms.length c, .func (.func 31) #[] #[.pointer (some ⟨Bf, 0, none⟩), .pointer (some ⟨Bs, 0, none⟩), .pointer (some ⟨Bo, 0, none⟩)]] w
      fun e w' => e = .returned (.int .i64 (findZ (isF fr i x o) ms)) ∧ Below w.heap.size w w' := by
  have b1 : Bf < w.heap.size := block_lt_of_cell hf
  have b2 : Bs < w.heap.size := block_lt_of_cell hs0
  have b3 : Bo < w.heap.size := block_lt_of_cell ho
  go_enter Try.func30, Try.ntmps30
  go_wp2
  go_loopw [8] (fun a wr => ∃ k : Nat, a = .int .i64 k ∧ k ≤ ms.length ∧ (∀ y ∈ ms.take k, isF fr i x o y = false) ∧ Below w.heap.size w wr) (fun a _ => ms.length - (intOf a).toNat)
  case atStart => exact ⟨0, rfl, by omega, by simp, Below.refl _ _⟩
  case round =>
    obtain ⟨k, rfl, hk, hno, hbr⟩ := hrel
    have Hno := Lib.hid hno
    clear hno
    by_cases hlt : k < ms.length
    · obtain ⟨b, off, m, rfl, hblt, hmk, c0, c1, c2, c3, c4, c5, c6, c7, c8⟩ := msg_cells (hv.ext hbr) hlt
      have hf' := (hbr.cell (p := ⟨Bf, 0, none⟩) b1).trans hf
      have hs0' := (hbr.cell (p := ⟨Bs, 0, none⟩) b2).trans hs0
      have hs1' := (hbr.cell (p := ⟨Bs, 1, none⟩) b2).trans hs1
      have ho' := (hbr.cell (p := ⟨Bo, 0, none⟩) b3).trans ho
      have Hmk := Lib.hid hmk
      have hcon := find1_any m fr i x o Bf Bs Bo wr hf' hs0' hs1' ho'
      rw [show (encM m).toArray = #[.int .i64 m.f, .int .i64 m.t, .int .i64 m.i, .int .i64 m.x, .int .i64 m.o, .int .i64 m.v, .int .i64 0, .slice none 0 0, .slice none 0 0] from rfl] at hcon
      clear hmk hf' hs0' hs1' ho' hf hs0 hs1 ho
      by_cases hp : isF fr i x o m = true
      · rw [hp] at hcon
        have Hp := Lib.hid hp
        have Hcon := Lib.hid hcon
        clear hp hcon
        go_wp2_with fail
        refine (Hcon.out).mono ?_
        rintro e w1 ⟨rfl, hb1⟩
        go_wp2
        go_ret
        exact ⟨ret_int (findZ_some Hmk.out Hp.out Hno.out).symm, Below.ext hbr hb1⟩
      · have hp' : isF fr i x o m = false := by simpa using hp
        rw [hp'] at hcon
        have Hp := Lib.hid hp'
        have Hcon := Lib.hid hcon
        clear hp hp' hcon
        go_wp2_with fail
        refine (Hcon.out).mono ?_
        rintro e w1 ⟨rfl, hb1⟩
        go_wp2
        go_roundw
        case rel => exact ⟨k + 1, by go_num, by omega, none_succ Hmk.out Hp.out Hno.out, Below.ext hbr hb1⟩
        case measure => simp [intOf]; omega
    · obtain rfl : k = ms.length := by omega
      go_wp2
      go_ret
      exact ⟨ret_int (findZ_none Hno.out).symm, hbr⟩

set_option maxHeartbeats 1000000 in
theorem find_any (v : Value) (ms : List Msg) (S : Nat → Prop) (w : World) (hv : Recs encM S w v ms) (hlen : ms.length ≤ 1000) (fr i x o : Int) :
    Calls Try.prog 11 #[v, .int .i64 fr, .agg #[.int .i64 i, .int .i64 x], .int .i64 o] w fun e w' => e = .returned (.int .i64 (findZ (isF fr i x o) ms)) ∧ Below w.heap.size w w' := by
  have hv' := hv
  obtain ⟨A, c, rfl, _⟩ := hv
  go_enter Try.func11, Try.ntmps11
  go_wp2_with fail
  obtain ⟨W, hW⟩ : ∃ W, W = ((w.alloc (.cells #[.int .i64 fr] 3)).alloc (.cells #[.int .i64 i, .int .i64 x] 24)).alloc (.cells #[.int .i64 o] 3) := ⟨_, rfl⟩
  have hb : Below w.heap.size w W := by rw [hW]; exact (((Below.refl _ w).alloc (Nat.le_refl _) _).alloc (by simp) _).alloc (by simp; omega) _
  refine (indexfunc_any A c ms S _ (hv'.ext (hW ▸ hb)) hlen fr i x o w.heap.size (w.heap.size + 1) (w.heap.size + 1 + 1) ?_ ?_ ?_ ?_).mono ?_
  · go_simp
  · go_simp
  · go_simp
  · go_simp
  rintro e w1 ⟨rfl, hb1⟩
  rw [← hW] at hb1
  go_wp2
  go_ret
  exact ⟨rfl, Below.ext hb hb1⟩
end Go.Proofs.Ytfnafdncbbjolaa
