/-
  Joined from texts of ours: XCodes, XLists, XFrameLaw, XScan, XScanRef, XScanLaw.
-/
import Derived.Test.YtjcfnpmgklliiaaCrc
import Derived.Test.YtjcfnpmgklliiaaKit
import Derived.Test.YtjcfnpmgklliiaaDraw
import Derived.Test.YtjcfnpmgklliiaaCodecA
import Derived.Test.YtjcfnpmgklliiaaFrame
import Derived.RangeFuncBox
import Derived.RangeFuncLeaves
import Derived.Shelf.Abstract
import Derived.OwnWalkIn
import Derived.TacticsInMore
import Derived.LoopNIn
import Derived.LoopIn
import Derived.Maps.AppendAt
import Derived.Maps.OwnIn
namespace Go.Proofs.Ytjcfnpmgklliiaa
open Go.RowKit
set_option maxRecDepth 100000
set_option linter.unusedVariables false

end Go.Proofs.Ytjcfnpmgklliiaa

namespace Go.Proofs.Ytjcfnpmgklliiaa
open Go.RowKit
set_option linter.unusedVariables false

/-- a slice of slices of bytes that reads as a list of lists -/
def Lists (S : Nat → Prop) (w : World) (v : Value) (ll : List (List UInt8)) : Prop :=
  ∃ A c vs, v = .slice A ll.length c ∧ ll.length ≤ c ∧ c ≤ maxLen ∧ vs.length = ll.length ∧ Cs S w A vs ∧ ∀ (i : Nat) (x : Value) (li : List UInt8), vs[i]? = some x → ll[i]? = some li → Bytes S w x li
theorem Lists.keep {S : Nat → Prop} {w w' : World} {v : Value} {ll : List (List UInt8)} (h : Lists S w v ll) (hk : Keep S w w') : Lists S w' v ll := by
  obtain ⟨A, c, vs, rfl, h1, h2, h3, h4, h5⟩ := h
  exact ⟨A, c, vs, rfl, h1, h2, h3, h4.keep hk, fun i x li hx hl => (h5 i x li hx hl).keep hk⟩
theorem Lists.ext {S : Nat → Prop} {w w' : World} {v : Value} {ll : List (List UInt8)} (h : Lists S w v ll) (hk : Below w.heap.size w w') : Lists S w' v ll := h.keep (Keep.of_below hk)
theorem Lists.mono {S S' : Nat → Prop} {w : World} {v : Value} {ll : List (List UInt8)} (h : Lists S w v ll) (hs : ∀ b, b < w.heap.size → S b → S' b) : Lists S' w v ll := by
  obtain ⟨A, c, vs, rfl, h1, h2, h3, h4, h5⟩ := h
  exact ⟨A, c, vs, rfl, h1, h2, h3, h4.mono hs, fun i x li hx hl => (h5 i x li hx hl).mono hs⟩
theorem Lists.nil_ (S : Nat → Prop) (w : World) : Lists S w (.slice none 0 0) [] := ⟨none, 0, [], rfl, by simp, by simp [maxLen], rfl, Cs.nil_ _ _ _, fun i x li h => by simp at h⟩
theorem Lists.drew {S : Nat → Prop} {w : World} {v : Value} {ll : List (List UInt8)} (h : Lists S w v ll) : Lists S w.drew v ll := h
/-- an element -/
theorem Lists.at_ {S : Nat → Prop} {w : World} {A : Option Addr} {n c k : Nat} {ll : List (List UInt8)} (h : Lists S w (.slice A n c) ll) (hk : k < n) :
    ∃ b off x li, A = some ⟨b, off, none⟩ ∧ S b ∧ b < w.heap.size ∧ ll[k]? = some li ∧ w.cell? ⟨b, off + k, none⟩ = some x ∧ Bytes S w x li := by
  obtain ⟨A', c', vs, e, h1, h2, h3, h4, h5⟩ := h
  cases e
  have hv : vs[k]? = some (vs[k]'(by omega)) := List.getElem?_eq_getElem (by omega)
  have hl : ll[k]? = some ll[k] := List.getElem?_eq_getElem hk
  obtain ⟨b, off, rfl, hs, hb, hc⟩ := h4.at_ hv
  exact ⟨b, off, _, ll[k], rfl, hs, hb, hl, hc, h5 k _ _ hv hl⟩
theorem Lists.len {S : Nat → Prop} {w : World} {A : Option Addr} {n c : Nat} {ll : List (List UInt8)} (h : Lists S w (.slice A n c) ll) : ll.length = n ∧ n ≤ c ∧ c ≤ 9223372036854775807 := by
  obtain ⟨A', c', vs, e, h1, h2, h3, h4, h5⟩ := h
  cases e
  unfold maxLen at h2
  exact ⟨rfl, h1, h2⟩

/-- a row of slices that the call itself made, and their bytes in rows made by it as well -/
def OwnLs (w : World) (base : Nat) (e : TypeId) (v : Value) (ll : List (List UInt8)) : Prop :=
  ∃ vs : List Value, w.ownsRow base e 1 v ll.length vs ∧ ∀ (i : Nat) (x : Value) (li : List UInt8), vs[i]? = some x → ll[i]? = some li → Bytes (fun b => base ≤ b ∧ v.ownBlock ≠ some b) w x li
theorem OwnLs.nil_ (w : World) (base : Nat) (e : TypeId) : OwnLs w base e (.slice none 0 0) [] := ⟨[], World.ownsRow_nil _ _ _ _, fun i x li h => by simp at h⟩
theorem OwnLs.lists {w : World} {base : Nat} {e : TypeId} {v : Value} {ll : List (List UInt8)} (h : OwnLs w base e v ll) : Lists (fun b => base ≤ b) w v ll := by
  obtain ⟨vs, hown, hin⟩ := h
  have hlen := hown.1
  have hin' : ∀ (i : Nat) (x : Value) (li : List UInt8), vs[i]? = some x → ll[i]? = some li → Bytes (fun b => base ≤ b) w x li := fun i x li hx hl => (hin i x li hx hl).mono (fun b _ hs => hs.1)
  rcases hown.2 with ⟨rfl, hn⟩ | ⟨g, cap, cur, rfl, hb, hh, h1, h2, h3, h4⟩
  · rw [List.eq_nil_of_length_eq_zero hn]
    exact Lists.nil_ _ _
  · refine ⟨_, cap, vs, rfl, h1, h2, by simpa using hlen, fun _ => ⟨g, 0, rfl, hb, fun j u hu => ?_⟩, hin'⟩
    rw [cell_of_row _ _ _ _ _ _ hh]
    rw [← h4, List.getElem?_take] at hu
    split at hu
    · simpa using hu
    · cases hu
/-- what a change elsewhere leaves -/
theorem OwnLs.kept {w w' : World} {base : Nat} {e : TypeId} {v : Value} {ll : List (List UInt8)} (h : OwnLs w base e v ll) (hk : ∀ b, b < w.heap.size → base ≤ b → w'.heap[b]? = w.heap[b]?) (hs : w.heap.size ≤ w'.heap.size) : OwnLs w' base e v ll := by
  obtain ⟨vs, hown, hin⟩ := h
  refine ⟨vs, ⟨hown.1, ?_⟩, fun i x li hx hl => (hin i x li hx hl).keep (fun b hb hsb => hk b hb hsb.1)⟩
  rcases hown.2 with hn | ⟨g, cap, cur, rfl, hb, hh, rest⟩
  · exact .inl hn
  · exact .inr ⟨g, cap, cur, rfl, hb, (hk g (Array.getElem?_eq_some_iff.1 hh).1 hb).trans hh, rest⟩
/-- one element more: it was made behind w, and boxed, and appended -/
theorem OwnLs.push {w w2 w5 : World} {base : Nat} {e : TypeId} {v v5 x : Value} {ll : List (List UInt8)} {l : List UInt8} {o : Obj} {vs : List Value}
    (hin : ∀ (i : Nat) (x : Value) (li : List UInt8), vs[i]? = some x → ll[i]? = some li → Bytes (fun b => base ≤ b ∧ v.ownBlock ≠ some b) w x li) (hlen : vs.length = ll.length)
    (hvlt : ∀ m, v.ownBlock = some m → m < w.heap.size) (hbw : base ≤ w.heap.size)
    (hk2 : ∀ b, b < w.heap.size → base ≤ b → w2.heap[b]? = w.heap[b]?) (hs2 : w.heap.size ≤ w2.heap.size) (hx : Bytes (fun b => w.heap.size ≤ b) w2 x l)
    (hown5 : w5.ownsRow base e 1 v5 (ll.length + 1) (vs ++ [x])) (hgr5 : (w2.alloc o).grownBy w5 v.ownBlock) (hat5 : v5.ownBlock = v.ownBlock ∨ v5.ownBlock = some (w2.alloc o).heap.size) : OwnLs w5 base e v5 (ll ++ [l]) := by
  have ha : Below w2.heap.size w2 (w2.alloc o) := (Below.refl _ _).alloc (Nat.le_refl _) _
  have hsa : (w2.alloc o).heap.size = w2.heap.size + 1 := by simp
  refine ⟨vs ++ [x], by rw [List.length_append]; exact hown5, fun i y li hy hl => ?_⟩
  have keep5 : ∀ b, b < w2.heap.size → v.ownBlock ≠ some b → w5.heap[b]? = w2.heap[b]? := fun b hb hne =>
    (hgr5.block b (by omega) (fun e => hne e.symm)).trans (ha.block b hb)
  have ne5 : ∀ b, b < w2.heap.size → v.ownBlock ≠ some b → v5.ownBlock ≠ some b := fun b hb hne => by
    rcases hat5 with h | h
    · rw [h]; exact hne
    · rw [h, hsa]
      intro e
      injection e with e
      omega
  by_cases hi : i < vs.length
  · rw [List.getElem?_append_left hi] at hy
    rw [List.getElem?_append_left (by omega)] at hl
    have h1 := hin i y li hy hl
    have h2 : Bytes (fun b => base ≤ b ∧ v.ownBlock ≠ some b) w2 y li := h1.keep (fun b hb hs => hk2 b hb hs.1)
    have h3 : Bytes (fun b => (base ≤ b ∧ v.ownBlock ≠ some b) ∧ b < w2.heap.size) w2 y li := h2.mono (fun b hb hs => ⟨hs, hb⟩)
    exact (h3.keep (w' := w5) (fun b hb hs => keep5 b hb hs.1.2)).mono (fun b _ hs => ⟨hs.1.1, ne5 b hs.2 hs.1.2⟩)
  · have hi' : i = vs.length := by
      have := (List.getElem?_eq_some_iff.1 hy).1
      simp at this
      omega
    subst hi'
    rw [List.getElem?_append_right (Nat.le_refl _)] at hy
    rw [List.getElem?_append_right (by omega)] at hl
    simp [hlen] at hy hl
    subst hy hl
    have hne : ∀ b, w.heap.size ≤ b → v.ownBlock ≠ some b := fun b hb e => by have := hvlt b e; omega
    have h3 : Bytes (fun b => w.heap.size ≤ b ∧ b < w2.heap.size) w2 x l := hx.mono (fun b hb hs => ⟨hs, hb⟩)
    exact (h3.keep (w' := w5) (fun b hb hs => keep5 b hb (hne b hs.1))).mono (fun b _ hs => ⟨Nat.le_trans hbw hs.1, ne5 b hs.2 (hne b hs.1)⟩)
end Go.Proofs.Ytjcfnpmgklliiaa

namespace Go.Proofs.Ytjcfnpmgklliiaa
open Go.RowKit
attribute [local irreducible] upd inv le4 putN byteOf z8 sumL headL sealL brow num nextL
set_option maxRecDepth 100000
set_option linter.unusedVariables false

end Go.Proofs.Ytjcfnpmgklliiaa

namespace Go.Proofs.Ytjcfnpmgklliiaa
open Go.RowKit Go.Shelf
attribute [local go_sem] Oper.semAt_some
attribute [local irreducible] upd inv le4 putN byteOf z8 sumL headL sealL brow num nextL
set_option maxRecDepth 100000
set_option linter.unusedVariables false

/-- the address of a body -/
def adr (A : Option Addr) (c k : Nat) : Option Addr := if c = k + 8 then A else Option.map (fun x => x.add (k + 8)) A
/-- what a round is handed -/
def encFr (A : Option Addr) (c : Nat) (p : Nat × Nat) : Array Value := #[.slice (adr A c p.1) p.2 p.2, .int .i64 ((p.1 + 8 + p.2 : Nat) : Int)]
/-- what the rounds keep: what lay below, and the box of the bytes -/
def KeepF (n₀ Bn : Nat) (X Y : World) : Prop := Below n₀ X Y ∧ Y.heap[Bn]? = X.heap[Bn]?
theorem grown_none {X Y : World} (h : Below X.heap.size X Y) : X.grownBy Y none := ⟨h.os, h.tape, h.output, h.size, fun k hk _ => h.block k hk⟩
theorem boxed_own {β : Type} (B : Nat) (t : TypeId) (f : β → Value) : Own (fun s W => Boxed W B t (f s)) := by
  intro s X Y row hv hg hrow
  refine hv.kept hg (fun e' => ?_)
  obtain ⟨o, ho, hc⟩ := hrow B e'.symm
  rw [show X.heap[B]? = _ from hv] at ho; cases ho; cases hc

set_option maxHeartbeats 1000000 in
theorem frames1_in (n : Nat) (hn : 1 ≤ n) (l Bn : Nat) (A : Option Addr) (c : Nat) (b : List UInt8) (S : Nat → Prop) (w0 : World) (hv : Bytes S w0 (.slice A b.length c) b) (hb : b.length ≤ 4294967296)
    (ps : List (Nat × Nat)) (en : Nat) (hs : Scans b 0 ps en) (J Jx : List (Nat × Nat) → World → Prop) (hJ : ∀ pre X Y, J pre X → X.grownBy Y none → J pre Y)
    (hY : ∀ pre x W, J pre W → pre.length < ps.length → YieldAt Fence.wide (n - 1) Try.prog l (encFr A c x) W fun e W' =>
      (e = .returned (.bool true) ∧ J (pre ++ [x]) W' ∧ KeepF w0.heap.size Bn W W') ∨ (e = .returned (.bool false) ∧ Jx (pre ++ [x]) W'))
    (W : World) (hW : Below w0.heap.size w0 W) (hBn : Boxed W Bn 22 (.slice A b.length c)) (h0 : J [] W) :
    CallsIn Fence.wide n Try.prog 105 #[.func (.yield l) #[] #[], .pointer (some ⟨Bn, 0, none⟩)] W fun e W' => (∃ v, e = .returned v) ∧
      ((∃ ys, ys = ps ∧ J ys W') ∨ (∃ pre, pre <+: ps ∧ Jx pre W')) := by
  refine callsIn_of_wp Try.func105 rfl trivial ?_ rfl
  simp only [Try.ntmps105, List.size_toArray, List.length_cons, List.length_nil, Nat.reduceAdd, Nat.reduceSub, Array.replicate_succ, Array.replicate_zero, List.push_toArray, List.append_toArray, List.nil_append, List.cons_append]
  gi_wp2
  gi_loopw [3, 4, 5, 6] (fun a _ _ _ wr => ∃ (pre rest : List (Nat × Nat)) (k : Nat), a = .int .i64 k ∧ k ≤ b.length ∧ ps = pre ++ rest ∧ Scans b k rest en ∧ J pre wr ∧ Below w0.heap.size w0 wr ∧ Boxed wr Bn 22 (.slice A b.length c))
    (fun a _ _ _ _ => b.length - (intOf a).toNat)
  case atStart => exact ⟨[], ps, 0, rfl, by omega, rfl, hs, h0, hW, hBn⟩
  case round =>
    obtain ⟨pre, rest, k, rfl, hk, hx, hsr, hJr, hbr, hbox⟩ := hrel
    have hc := hbox.cell
    have hBr := hv.ext hbr
    have Hx := Lib.hid hx
    clear hx
    rcases hsr.inv with ⟨rfl, _, h1⟩ | ⟨m, rest', rfl, he, hm, hl, hs'⟩
    · obtain ⟨r, hr⟩ : ∃ r, nextL b k = r := ⟨_, rfl⟩
      rw [hr] at h1
      have d1 : ((r.2.2 : Int) != 0) = true := by rw [bne_iff_ne]; omega
      have Hr := Lib.hid hr
      clear hr h1
      gi_wp2
      refine ⟨trivial, (callsIn_wide.2 (next_det _ b S _ k hBr (by omega))).mono ?_⟩
      rw [Hr.out]
      rintro e w1 ⟨v', rfl, hB1, hb1, _⟩
      gi_wp2
      refine ⟨fun _ h => (by cases h), ?_⟩
      gi_wp2
      refine bodyPost_ret (results_none rfl _ _ _) rfl ?_
      exact ⟨⟨_, rfl⟩, .inl ⟨pre, by simpa using Hx.out.symm, hJ _ _ _ hJr (grown_none hb1)⟩⟩
    · have hpl : pre.length < ps.length := by rw [Hx.out]; simp
      have He := Lib.hid he
      have Hm := Lib.hid hm
      have Hs := Lib.hid hs'
      clear he hm hs'
      gi_wp2
      refine ⟨trivial, (callsIn_wide.2 (next_det _ b S _ k hBr (by omega))).mono ?_⟩
      rw [He.out]
      rintro e w1 ⟨v', rfl, hB1, hb1, hbv⟩
      obtain rfl := hbv rfl
      rw [Int.toNat_natCast, ← Hm.out, bodyV_slice]
      obtain ⟨fn, tmps, assign, body, hy, hR⟩ := hY pre (k, m) w1 (hJ _ _ _ hJr (grown_none hb1)) hpl
      unfold encFr adr at hy
      dsimp only at hy
      generalize (if c = k + 8 then A else Option.map (fun x => x.add (k + 8)) A) = A2 at hy
      rw [show ((k + 8 + m : Nat) : Int) = (k : Int) + 8 + (m : Int) by omega] at hy
      gi_wp2
      refine hR.mono ?_
      rintro e W3 (⟨rfl, hJ3, hk3⟩ | ⟨rfl, hJx3⟩)
      · have hbr3 : Below w0.heap.size w0 W3 := (Below.ext hbr hb1).trans hk3.1
        have hbox3 : Boxed W3 Bn 22 (.slice A b.length c) := hk3.2.trans ((hb1.block _ hbox.lt).trans hbox)
        gi_wp2
        go_roundw
        case rel => exact ⟨pre ++ [(k, m)], rest', k + 8 + m, rfl, hl, by rw [Hx.out]; simp, Hs.out, hJ3, hbr3, hbox3⟩
        case measure => simp [intOf]; omega
      · gi_wp2
        refine bodyPost_ret (results_none rfl _ _ _) rfl ?_
        exact ⟨⟨_, rfl⟩, .inr ⟨pre ++ [(k, m)], ⟨rest', by rw [Hx.out]; simp⟩, hJx3⟩⟩

set_option maxHeartbeats 1000000 in
theorem frames_in (n : Nat) (A : Option Addr) (m c : Nat) (w : World) :
    CallsIn Fence.wide n Try.prog 87 #[.slice A m c] w fun e w' => e = .returned (.func (.func 105) #[] #[.pointer (some ⟨w.heap.size, 0, none⟩)]) ∧ w' = w.alloc (.cells #[.slice A m c] 22) := by
  refine callsIn_of_wp Try.func87 rfl trivial ?_ rfl
  simp only [Try.ntmps87, List.size_toArray, List.length_cons, List.length_nil, Nat.reduceAdd, Nat.reduceSub, Array.replicate_succ, Array.replicate_zero, List.push_toArray, List.append_toArray, List.nil_append, List.cons_append]
  gi_wp2
  go_ret
  exact ⟨rfl, rfl⟩

theorem frames_stops (n : Nat) (hn : 1 ≤ n) (Bn : Nat) (A : Option Addr) (c : Nat) (b : List UInt8) (S : Nat → Prop) (w0 w : World) (hv : Bytes S w0 (.slice A b.length c) b) (hb : b.length ≤ 4294967296)
    (ps : List (Nat × Nat)) (en : Nat) (hs : Scans b 0 ps en) (hw : Below w0.heap.size w0 w) (hBn : Boxed w Bn 22 (.slice A b.length c)) :
    SeqStopsK Fence.wide n Try.prog 105 #[.pointer (some ⟨Bn, 0, none⟩)] (encFr A c) (KeepF w0.heap.size Bn) (fun ys => ys = ps) (fun pre => pre <+: ps) ps.length w := fun l J Jx W hW hJ _ hY h0 =>
  frames1_in n hn l Bn A c b S w0 hv hb ps en hs J Jx (fun pre X Y hX hg => hJ pre X Y none hX hg (fun r e => by cases e)) hY W (Below.ext hw hW) ((hW.block _ hBn.lt).trans hBn) h0

theorem cs_of_owns {w : World} {base : Nat} {e : TypeId} {v : Value} {n : Nat} {vs : List Value} (h : w.ownsRow base e 1 v n vs) : ∃ A c, v = .slice A n c ∧ n ≤ c ∧ c ≤ maxLen ∧ vs.length = n ∧ Cs (fun b => base ≤ b) w A vs := by
  have hlen := h.1
  rcases h.2 with ⟨rfl, hn⟩ | ⟨g, cap, cur, rfl, hb, hh, h1, h2, h3, h4⟩
  · subst hn
    obtain rfl : vs = [] := List.eq_nil_of_length_eq_zero (by simpa using hlen)
    exact ⟨none, 0, rfl, by simp, by simp [maxLen], rfl, Cs.nil_ _ _ _⟩
  · refine ⟨_, cap, rfl, h1, h2, by simpa using hlen, fun _ => ⟨g, 0, rfl, hb, fun j u hu => ?_⟩⟩
    rw [cell_of_row _ _ _ _ _ _ hh]
    rw [← h4, List.getElem?_take] at hu
    split at hu
    · simpa using hu
    · cases hu
/-- the value of a body -/
def valF (A : Option Addr) (c : Nat) (p : Nat × Nat) : Value := .slice (adr A c p.1) p.2 p.2
theorem valF_bytes {S : Nat → Prop} {w : World} {A : Option Addr} {c : Nat} {b : List UInt8} (hv : Bytes S w (.slice A b.length c) b) (p : Nat × Nat) (hp : p.1 + 8 + p.2 ≤ b.length) : Bytes S w (valF A c p) (bodyL b p) := by
  obtain ⟨A', c', e, h1, h2, _⟩ := id hv
  cases e
  have h := (hv.drop_ (k := p.1 + 8) (by omega) (q := c = p.1 + 8) (by omega)).take_ (k := p.2) (by omega)
  exact h.clip (c' := p.2) (Nat.le_refl _) (by unfold maxLen at *; omega)

theorem infoBs : (Try.prog.info? 22).map (fun i => (i.zero, i.size, i.bytes)) = some (some (.slice none 0 0), 1, 24) := by kernel_rfl

set_option maxHeartbeats 2000000 in
theorem scan_any (v : Value) (b : List UInt8) (S : Nat → Prop) (w : World) (hv : Bytes S w v b) (hb : b.length ≤ 4294967296) (ps : List (Nat × Nat)) (en : Nat) (hs : Scans b 0 ps en) :
    Calls Try.prog 59 #[v] w fun e w' => ∃ v', e = .returned (.tuple #[v', .int .i64 (en : Nat)]) ∧ Lists (fun k => S k ∨ w.heap.size ≤ k) w' v' (ps.map (bodyL b)) ∧ Below w.heap.size w w' := by
  have hB' := hv
  obtain ⟨A, c, rfl, hc1, hc2, _⟩ := hv
  have hpl := (hs.len (Nat.zero_le _)).1
  have hel := (hs.len (Nat.zero_le _)).2
  obtain ⟨i0, hi, hz0, hz1, hz2⟩ := info_parts infoBs
  refine (callsIn_wide (n := 9)).1 (callsIn_of_wp_marks Try.func59 rfl trivial ?_ rfl)
  simp only [Try.ntmps59, List.size_toArray, List.length_cons, List.length_nil, Nat.reduceAdd, Nat.reduceSub, Array.replicate_succ, Array.replicate_zero, List.push_toArray, List.append_toArray, List.nil_append, List.cons_append]
  gi_wp2
  refine ⟨trivial, (frames_in _ A b.length c _).mono ?_⟩
  rintro e w' ⟨rfl, rfl⟩
  gi_wp2
  have bO := Boxed.new w 40 (.slice none 0 0)
  have bE := Boxed.new (w.alloc (.cells #[.slice none 0 0] 40)) 3 (.int .i64 0)
  have bN := Boxed.new ((w.alloc (.cells #[.slice none 0 0] 40)).alloc (.cells #[.int .i64 0] 3)) 22 (.slice A b.length c)
  rw [World.size_alloc] at bE bN
  rw [World.size_alloc] at bN
  have hB0 : Below w.heap.size w (((w.alloc (.cells #[.slice none 0 0] 40)).alloc (.cells #[.int .i64 0] 3)).alloc (.cells #[.slice A b.length c] 22)) := (((Below.refl _ w).alloc (Nat.le_refl _) _).alloc (by simp) _).alloc (by simp; omega) _
  have bO' := (bO.alloc (.cells #[.int .i64 0] 3)).alloc (.cells #[.slice A b.length c] 22)
  have bE' := bE.alloc (.cells #[.slice A b.length c] 22)
  have hsz : (((w.alloc (.cells #[.slice none 0 0] 40)).alloc (.cells #[.int .i64 0] 3)).alloc (.cells #[.slice A b.length c] 22)).heap.size = w.heap.size + 3 := by simp
  generalize ((w.alloc (.cells #[.slice none 0 0] 40)).alloc (.cells #[.int .i64 0] 3)).alloc (.cells #[.slice A b.length c] 22) = wq at *
  refine wpIn_rangeFunc_ownG rfl (by omega) (gf := 105) (lb := #[.pointer (some ⟨w.heap.size + 1 + 1, 0, none⟩)]) rfl trivial (enters_of Try.func105 (by kernel_rfl) rfl)
    (frames_stops (9 - 1) (by omega) (w.heap.size + 1 + 1) A c b S w wq hB' hb ps en hs hB0 bN) (fun h k => ⟨h.1.trans k.1, k.2.trans h.2⟩)
    (fun W l o o' hl h h1 h2 => ⟨belowK_b (w := wq) (by omega) W l o o' hl h h1 h2, World.putObj_heap_other (by omega)⟩) (Below.refl _ _) (fun _ => rfl)
    (fun pre W => ((∃ v, Boxed W w.heap.size 40 v ∧ W.ownsRow w.heap.size 22 1 v pre.length (pre.map (valF A c)) ∧ ∀ m, v.ownBlock = some m → w.heap.size + 3 ≤ m) ∧ Boxed W (w.heap.size + 1) 3 (.int .i64 (endOf pre : Nat)) ∧ Boxed W (w.heap.size + 1 + 1) 22 (.slice A b.length c)) ∧ Below w.heap.size w W)
    (fun _ _ _ => False)
    (OwnFrom.and (Own.from (fun s X Y row hs hg hr => ⟨holdsRow_own w.heap.size w.heap.size 40 22 1 (fun pre : List (Nat × Nat) => pre.length) (fun pre => pre.map (valF A c)) (fun _ v => ∀ m, v.ownBlock = some m → w.heap.size + 3 ≤ m) s X Y row hs.1 hg hr, boxed_own (w.heap.size + 1) 3 (fun pre : List (Nat × Nat) => .int .i64 (endOf pre : Nat)) s X Y row hs.2.1 hg hr, boxed_own (w.heap.size + 1 + 1) 22 (fun _ : List (Nat × Nat) => .slice A b.length c) s X Y row hs.2.2 hg hr⟩) _) (ownFrom_below (Nat.le_refl _) (by omega)))
    (fun _ _ _ _ _ hs _ _ => hs)
    ⟨⟨⟨_, bO', World.ownsRow_nil _ _ _ _, fun m hm => by cases hm⟩, bE', bN⟩, hB0⟩
    (fun x => { tmps := #[.slice A b.length c, undef, .slice none 0 0, .int .i64 0, .pointer (some ⟨w.heap.size, 0, none⟩), .pointer (some ⟨w.heap.size + 1, 0, none⟩), .slice (adr A c x.1) x.2 x.2, .int .i64 ((x.1 + 8 + x.2 : Nat) : Int), .slice A b.length c, .func (.func 105) #[] #[.pointer (some ⟨w.heap.size + 1 + 1, 0, none⟩)], .slice (adr A c x.1) x.2 x.2, .int .i64 ((x.1 + 8 + x.2 : Nat) : Int), undef, undef, undef, undef, undef, undef, undef], defers := [] }) ?assign ?body ?done ?stop
  case assign =>
    intro l x W K hK
    unfold encFr
    generalize ((x.1 + 8 + x.2 : Nat) : Int) = en' at *
    gi_wp2
    exact hK
  case body =>
    rintro l pre ⟨k, m⟩ W ⟨⟨⟨v, hv, hrow, hob⟩, hE, hN⟩, hB⟩ hlt
    dsimp only
    have hc := hv.cell
    have hsW := hB.size
    obtain ⟨en', hen'⟩ : ∃ en' : Int, ((k + 8 + m : Nat) : Int) = en' := ⟨_, rfl⟩
    obtain ⟨A2, hA2⟩ : ∃ A2, adr A c k = A2 := ⟨_, rfl⟩
    have hval : valF A c (k, m) = .slice A2 m m := by rw [valF, ← hA2]
    have hend : ((endOf (pre ++ [(k, m)]) : Nat) : Int) = en' := by rw [endOf_snoc, ← hen']
    rw [hen', hA2]
    have Hval := Lib.hid hval
    have Hend := Lib.hid hend
    clear hen' hA2 hval hend
    gi_wp2_with (gi_at_builtin; go_loud (refine wpListIn_append_own_at _ rfl _ _ 40 rfl w.heap.size 22 i0 (.slice none 0 0) 1 24 Try.underlying40 hi hz0 hz1 hz2 rfl (by decide) _ _ _ rfl (hrow.alloc _) ⟨W.heap.size, 0, none⟩ 1 1 [.slice A2 m m] rfl rfl (cell_one_new _ _ _) (by simp [Value.oneCell']) (by unfold maxLen; omega) (by omega) (by simp; omega) ?_; intro v' w1 hown' hgrow _ hat'; obtain ⟨g', cap', rfl⟩ := ownsRow_succ hown'; obtain ⟨hv1, hv2, hr2, hk2, hb2⟩ := hv.appended (by decide) hrow hB.size (Nat.le_refl _) hown' hgrow; have hE1 := ((hE.alloc _).kept hgrow (hE.not_row (by decide) hrow)).kept (grownBy_setCell' w1 w.heap.size (.slice (some ⟨g', 0, none⟩) (pre.length + 1) cap')) (by simp); have hc1 := hv1.cell; have hf1 := hv1.frozen; have hN1 := ((hN.alloc _).kept hgrow (fun e => by have := hob _ e.symm; omega)).kept (grownBy_setCell' w1 w.heap.size (.slice (some ⟨g', 0, none⟩) (pre.length + 1) cap')) (by simp; omega); have hc2' := hE1.cell; have hf2 := hE1.frozen))
    have hE2 := hE1.set (.int .i64 en')
    have hN2 := hN1.kept (grownBy_setCell' _ (w.heap.size + 1) (.int .i64 en')) (by simp)
    have hv3 := hv2.kept (grownBy_setCell' _ (w.heap.size + 1) (.int .i64 en')) (by simp)
    have hr3 := hr2.kept (grownBy_setCell' _ (w.heap.size + 1) (.int .i64 en')) (.inr (hE1.not_row (by decide) hr2).symm)
    have hb3 := hb2.setCell (p := ⟨w.heap.size + 1, 0, none⟩) (by simp) (.int .i64 en')
    have hk3 := hk2.trans (KeepsOthers.setCell _ ⟨w.heap.size + 1, 0, none⟩ (.int .i64 en'))
    refine ⟨hk3.from _, ⟨hb3, hN2.trans hN.symm⟩, ⟨⟨_, hv3, ?_, ?_⟩, ?_, hN2⟩, hB.trans hb3⟩
    · rw [List.map_append, List.map_singleton, Hval.out, List.length_append]
      exact hr3
    · intro m hm
      rcases hat' with h | h
      · rw [h] at hm; exact hob _ hm
      · rw [h] at hm
        injection hm with hm
        have := hN.lt
        simp at hm
        omega
    · rw [Hend.out]; exact hE2
  case done =>
    rintro D ys W hD rfl ⟨⟨⟨v, hv, hrow, _⟩, hE, _⟩, hB⟩ hK
    have hc := hv.cell
    have hc2' := hE.cell
    gi_wp2
    have hBf : Below w.heap.size w (W.drew.putObj D (.deferred none)) := hB.drew.trans (belowK_b (n₀ := w.heap.size) (w := wq) (by omega) W.drew D _ (.deferred none) hD hK rfl rfl)
    gi_region
    gi_wp2
    refine ⟨by simp, .inl ⟨_, _, rfl, run_takeDeferred (w := W.drew) hK, ?_⟩⟩
    refine ⟨_, results_tmp2 rfl _ _ _, v, ?_, ?_, ?_⟩
    · rw [hs.end0]; rfl
    · obtain ⟨A', c', rfl, h1, h2, h3, h4⟩ := cs_of_owns (ownsRow_putObj hrow (.deferred none) hK rfl)
      refine ⟨A', c', ys.map (valF A c), by rw [List.length_map], by rw [List.length_map]; exact h1, h2, by simp, ?_, ?_⟩
      · exact Cs.mono h4 (fun _ _ h => .inr h)
      · intro i x li hx hl
        rw [List.getElem?_map] at hx hl
        obtain ⟨p, hp, rfl⟩ := Option.map_eq_some_iff.1 hx
        rw [hp] at hl
        cases hl
        exact ((valF_bytes hB' p (hs.body_len p (List.mem_of_getElem? hp))).ext hBf).mono (fun _ _ h => .inl h)
    · exact hBf
  case stop =>
    rintro D c pre W _ _ h _
    exact h.elim
end Go.Proofs.Ytjcfnpmgklliiaa

namespace Go.Proofs.Ytjcfnpmgklliiaa
open Go.RowKit
attribute [local irreducible] upd inv le4 putN byteOf z8 sumL headL sealL brow num nextL
set_option maxRecDepth 100000
set_option linter.unusedVariables false

set_option maxHeartbeats 1000000 in
theorem refscan_any (v : Value) (b : List UInt8) (S : Nat → Prop) (w : World) (hv : Bytes S w v b) (hb : b.length ≤ 4294967296) (ps : List (Nat × Nat)) (en : Nat) (hs : Scans b 0 ps en) :
    Calls Try.prog 94 #[v] w fun e w' => ∃ v', e = .returned (.tuple #[v', .int .i64 (en : Nat)]) ∧ Lists (fun k => w.heap.size ≤ k) w' v' (ps.map (bodyL b)) ∧ Below w.heap.size w w' := by
  have hpl := (hs.len (Nat.zero_le _)).1
  have hel := (hs.len (Nat.zero_le _)).2
  go_enter Try.func94, Try.ntmps94
  go_wp2
  go_loopw [4, 5, 6, 7, 8] (fun o a _ _ _ wr => ∃ (pre rest : List (Nat × Nat)) (k n : Nat) (A : Option Addr) (c : Nat), o = .slice A n c ∧ a = .int .i64 k ∧ n = (pre.map (bodyL b)).length ∧ n = pre.length ∧ k ≤ b.length ∧ ps = pre ++ rest ∧ Scans b k rest en ∧ OwnLs wr w.heap.size 22 (.slice A n c) (pre.map (bodyL b)) ∧ Below w.heap.size w wr) (fun _ a _ _ _ _ => b.length - (intOf a).toNat)
  case atStart => exact ⟨[], ps, 0, 0, none, 0, rfl, rfl, rfl, rfl, by omega, rfl, hs, OwnLs.nil_ _ _ _, Below.refl _ _⟩
  case round =>
    obtain ⟨pre, rest, k, n, A, c, rfl, rfl, hn1, hn2, hk, hx, hsr, hown, hbr⟩ := hrel
    have Hn1 := Lib.hid hn1
    have hbnd : n ≤ ps.length := by rw [hn2, hx]; simp
    have Hn2 := Lib.hid hn2
    have Hx := Lib.hid hx
    clear hn1 hn2 hx
    have hBr := hv.ext hbr
    rcases hsr.inv with ⟨rfl, rfl, h1⟩ | ⟨m, rest', rfl, he, hm, hl, hs'⟩
    · obtain ⟨r, hr⟩ : ∃ r, nextL b en = r := ⟨_, rfl⟩
      rw [hr] at h1
      have d1 : ((r.2.2 : Int) != 0) = true := by rw [bne_iff_ne]; omega
      have Hr := Lib.hid hr
      clear hr h1
      go_wp2_with fail
      refine (refnext_any v b S _ en hBr (by omega)).mono ?_
      rintro e w2 ⟨v2, h2, hB2, hb2⟩
      rw [Hr.out] at h2
      subst h2
      go_wp2
      refine bodyPost_ret (results_tmp2 rfl _ _ _) rfl ?_
      have hps : ps = pre := by simpa using Hx.out
      subst hps
      refine ⟨_, rfl, ?_, Below.ext hbr hb2⟩
      exact hown.lists.ext hb2
    · have hpl2 : pre.length < ps.length := by rw [Hx.out]; simp
      have hnps : n < ps.length := by rw [Hn2.out]; exact hpl2
      have hbl : (bodyL b (k, m)) = (b.drop (k + 8)).take m := rfl
      have Hbl := Lib.hid hbl
      have He := Lib.hid he
      have Hs := Lib.hid hs'
      clear he hm hs' hbl
      go_wp2_with fail
      refine (refnext_any v b S _ k hBr (by omega)).mono ?_
      rintro e w3 ⟨x, h2, hB2, hb3⟩
      rw [He.out] at h2 hB2
      subst h2
      have hbx : Bytes (fun b => wr.heap.size ≤ b) w3 x ((b.drop (k + 8)).take m) := hB2.bytes.mono (fun _ _ h => h.1)
      obtain ⟨vs, hrow, hin⟩ := hown
      rw [← Hn1.out] at hrow
      have hszr := hbr.size
      have hsz3 := hb3.size
      have hrow3 := World.ownsRow.kept hrow (grown_none hb3) (by
        rcases Option.eq_none_or_eq_some (Value.slice A n c).ownBlock with h0 | ⟨m0, h0⟩
        · exact .inl h0
        · exact .inr (by rw [h0]; simp))
      obtain ⟨Ax, cx, rfl, _⟩ := hB2.bytes
      dsimp only
      generalize hlx : ((b.drop (k + 8)).take m).length = nx at *
      go_wp2_with (refine wpList_app (D := fun _ => True) (o := ⟨some 23, _, _, _, _, _⟩) rfl _ _ 40 rfl w.heap.size 22 (.slice none 0 0) 1 24 Try.underlying40 (by kernel_rfl) rfl (by omega) (.slice A n c) n vs rfl (World.ownsRow.alloc hrow3 _) (some ⟨w3.heap.size, 0, none⟩) 1 1 [.slice Ax nx cx] rfl rfl ?c1 ?c2 (by omega) (by unfold maxLen; omega) ?c3 (n + 1) rfl ?_; rotate_left; rotate_left; rotate_left; intro A5 c5 w5 hown5 hgr5 hat5 hc51 hc52)
      case c1 => exact Cs.lit _ _ _ _ _ trivial rfl
      case c2 => first | rfl | (intro u hu; simp at hu; subst hu; rfl)
      case c3 => first | omega | (simp; omega)
      have hb5 : Below w.heap.size w w5 := by
        refine (((Below.ext hbr hb3).alloc (by omega) _).grown hgr5 (by simp; omega) (fun j ej => ?_))
        have := (World.ownsRow.lt hrow j ej).1
        exact this
      have hnew := OwnLs.push hin (by rw [hrow.1, ← Hn1.out]; simp) (fun m hm => (World.ownsRow.lt hrow m hm).2) hszr (fun b hb hs => hb3.block b hb) hsz3 hbx (by rw [← Hn1.out]; exact hown5) hgr5 hat5
      go_roundw
      case rel =>
        refine ⟨pre ++ [(k, m)], rest', k + 8 + m, n + 1, A5, c5, rfl, by push_cast; rfl, by simp [Hn2.out], by simp [Hn2.out], hl, by rw [Hx.out]; simp, Hs.out, ?_, hb5⟩
        rw [List.map_append, List.map_singleton, Hbl.out]
        exact hnew
      case measure => simp [intOf]; omega
end Go.Proofs.Ytjcfnpmgklliiaa

namespace Go.Proofs.Ytjcfnpmgklliiaa
set_option linter.unusedVariables false

theorem seal_at {b pre post li : List UInt8} (hb : b = pre ++ (sealL li ++ post)) (hl : li.length ≤ 4096) :
    nextL b pre.length = ((b.drop (pre.length + 8)).take li.length, pre.length + 8 + li.length, 0) ∧ num ((b.drop pre.length).take 4) = li.length ∧ pre.length + 8 + li.length ≤ b.length ∧ (b.drop (pre.length + 8)).take li.length = li := by
  have d0 : b.drop pre.length = sealL li ++ post := by rw [hb, List.drop_left]
  have e1 : (b.drop pre.length).take 4 = le4 li.length := by rw [d0]; simp [sealL, headL, le4]
  have e2 : (b.drop (pre.length + 4)).take 4 = le4 (sumL li) := by rw [← List.drop_drop, d0]; simp [sealL, headL, le4]
  have e3 : (b.drop (pre.length + 8)).take li.length = li := by rw [← List.drop_drop, d0]; simp [sealL, headL, le4]
  have n1 : num ((b.drop pre.length).take 4) = li.length := by rw [e1, num_le4 _ (by omega)]
  have hlen : pre.length + 8 + li.length ≤ b.length := by rw [hb, List.length_append, List.length_append, sealL_length]; omega
  have h := nextL_ok (b := b) (k := pre.length) (by omega) (by rw [n1]; exact hl) (by rw [n1]; exact hlen) (by rw [n1, e3, e2, num_le4 _ (sumL_lt _)])
  rw [n1] at h
  exact ⟨h, n1, hlen, e3⟩

theorem scans_flat (b post : List UInt8) (ps : List (Nat × Nat)) (e : Nat) : ∀ (ll : List (List UInt8)) (pre : List UInt8), b = pre ++ (ll.flatMap sealL ++ post) → (∀ li ∈ ll, li.length ≤ 4096) →
    Scans b (pre.length + (ll.flatMap sealL).length) ps e → ∃ qs, qs.map (bodyL b) = ll ∧ Scans b pre.length (qs ++ ps) e
  | [], pre, _, _, h => ⟨[], rfl, by simpa using h⟩
  | li :: ll, pre, hb, hsm, h => by
    rw [List.flatMap_cons] at hb h
    have hb1 : b = pre ++ (sealL li ++ (ll.flatMap sealL ++ post)) := by rw [hb]; simp
    obtain ⟨h1, h2, h3, h4⟩ := seal_at hb1 (hsm li (by simp))
    have e1 : (pre ++ sealL li).length = pre.length + 8 + li.length := by rw [List.length_append, sealL_length]; omega
    obtain ⟨qs, hq, hs⟩ := scans_flat b post ps e ll (pre ++ sealL li) (by rw [hb1]; simp) (fun x hx => hsm x (by simp [hx])) (by
      rw [List.length_append]
      rw [List.length_append] at h
      rw [show pre.length + (sealL li).length + (ll.flatMap sealL).length = pre.length + ((sealL li).length + (ll.flatMap sealL).length) by omega]
      exact h)
    rw [e1] at hs
    exact ⟨(pre.length, li.length) :: qs, by rw [List.map_cons, hq]; show (b.drop (pre.length + 8)).take li.length :: ll = _; rw [h4], .go h1 h2.symm h3 hs⟩

/-- frames, and anything behind them -/
theorem scans_back (ll : List (List UInt8)) (more : List UInt8) (hsm : ∀ li ∈ ll, li.length ≤ 4096) : ∃ qs ps e, Scans (ll.flatMap sealL ++ more) 0 (qs ++ ps) e ∧ qs.map (bodyL (ll.flatMap sealL ++ more)) = ll ∧ (ll.flatMap sealL).length ≤ e := by
  obtain ⟨ps, e, hs⟩ := scans_ex (ll.flatMap sealL ++ more) _ (ll.flatMap sealL).length (Nat.le_refl _)
  have hl := (hs.len (by simp)).1
  obtain ⟨qs, hq, hs'⟩ := scans_flat (ll.flatMap sealL ++ more) more ps e ll [] (by simp) hsm (by simpa using hs)
  exact ⟨qs, ps, e, hs', hq, by omega⟩
theorem scans_all (ll : List (List UInt8)) (hsm : ∀ li ∈ ll, li.length ≤ 4096) : ∃ qs, Scans (ll.flatMap sealL) 0 qs (ll.flatMap sealL).length ∧ qs.length = ll.length := by
  have hs : Scans (ll.flatMap sealL) (ll.flatMap sealL).length [] (ll.flatMap sealL).length := .stop (by rw [nextL_end rfl]; decide)
  obtain ⟨qs, hq, hs'⟩ := scans_flat (ll.flatMap sealL) [] [] _ ll [] (by simp) hsm (by simpa using hs)
  exact ⟨qs, by simpa using hs', by rw [← hq]; simp⟩
/-- a beginning of frames -/
theorem scans_cut (ll : List (List UInt8)) (hsm : ∀ li ∈ ll, li.length ≤ 4096) (k i : Nat) (hk : k ≤ (ll.flatMap sealL).length) (hi : i ≤ ll.length) (h1 : ((ll.take i).flatMap sealL).length ≤ k)
    (h2 : ∀ li, ll[i]? = some li → k < ((ll.take i).flatMap sealL).length + 8 + li.length) : ∃ qs, Scans ((ll.flatMap sealL).take k) 0 qs ((ll.take i).flatMap sealL).length ∧ qs.length = i := by
  have hsplit : ll.flatMap sealL = (ll.take i).flatMap sealL ++ (ll.drop i).flatMap sealL := by rw [← List.flatMap_append, List.take_append_drop]
  have hbk : (ll.flatMap sealL).take k = (ll.take i).flatMap sealL ++ ((ll.drop i).flatMap sealL).take (k - ((ll.take i).flatMap sealL).length) := by
    rw [hsplit, List.take_append, List.take_of_length_le h1]
  have hlen : ((ll.flatMap sealL).take k).length = k := by rw [List.length_take]; omega
  have hstop : (nextL ((ll.flatMap sealL).take k) ((ll.take i).flatMap sealL).length).2.2 ≠ 0 := by
    by_cases e : ((ll.take i).flatMap sealL).length = k
    · rw [nextL_end (by rw [hlen]; exact e)]; decide
    · by_cases e8 : k - ((ll.take i).flatMap sealL).length < 8
      · rw [nextL_short1 (by rw [hlen]; omega) (by rw [hlen]; exact e8)]; decide
      · have hil : i < ll.length := by
          refine Nat.lt_of_le_of_ne hi (fun ei => ?_)
          rw [ei, List.take_length] at e h1
          omega
        have hli := List.getElem?_eq_getElem hil
        have hm := h2 _ hli
        have hmem := hsm ll[i] (List.getElem_mem hil)
        have hd : (ll.drop i).flatMap sealL = sealL ll[i] ++ (ll.drop (i + 1)).flatMap sealL := by rw [List.drop_eq_getElem_cons hil, List.flatMap_cons]
        have hn : num ((((ll.flatMap sealL).take k).drop ((ll.take i).flatMap sealL).length).take 4) = ll[i].length := by
          rw [hbk, List.drop_left, List.take_take, Nat.min_eq_left (by omega), hd, sealL, headL, List.append_assoc, List.append_assoc, take_first, num_le4 _ (by omega)]
        rw [nextL_short2 (by rw [hlen]; omega) (by rw [hn]; exact hmem) (by rw [hn, hlen]; omega)]
        decide
  obtain ⟨qs, hq, hs'⟩ := scans_flat ((ll.flatMap sealL).take k) _ [] _ (ll.take i) [] (by simpa using hbk) (fun x hx => hsm x (List.mem_of_mem_take hx)) (by simpa using Scans.stop hstop)
  refine ⟨qs, by simpa using hs', ?_⟩
  have := congrArg List.length hq
  simp at this
  omega
theorem sumL_nil : sumL [] = 558161692 := by decide +kernel
theorem num_zeros : num (List.replicate 4 0) = 0 := by decide +kernel
theorem nextL_zeros (n : Nat) (hn : 8 ≤ n) : nextL (List.replicate n 0) 0 = ([], 0, 10) := by
  have e1 : ((List.replicate n (0 : UInt8)).drop 0).take 4 = List.replicate 4 0 := by rw [List.drop_zero, List.take_replicate, Nat.min_eq_left (by omega)]
  have e2 : ((List.replicate n (0 : UInt8)).drop (0 + 4)).take 4 = List.replicate 4 0 := by rw [List.drop_replicate, List.take_replicate, Nat.min_eq_left (by omega)]
  have h := nextL_sum (b := List.replicate n 0) (k := 0) (by simp; omega) (by rw [e1, num_zeros]; omega) (by rw [e1, num_zeros]; simp; omega) (by rw [e1, e2, num_zeros, List.take_zero, sumL_nil]; decide)
  exact h
end Go.Proofs.Ytjcfnpmgklliiaa
