/-
  The walk of frame.Scan: a loop over the function that frames hands back.
-/
import Derived.Test.YtmakcggmaphanaaFrameLaw
import Derived.Test.YtmakcggmaphanaaScanFn
import Derived.RangeFuncBox
import Derived.RangeFuncLeaves
import Derived.Shelf.Abstract
import Derived.OwnWalkIn
import Derived.TacticsInMore
import Derived.LoopNIn
import Derived.LoopIn
import Derived.Maps.AppendAt
import Derived.Maps.OwnIn
namespace Go.Proofs.Ytmakcggmaphanaa
open Go.RowKit Go.Shelf
attribute [local go_sem] Oper.semAt_some
attribute [local irreducible] upd inv le4 putN byteOf z8 sumL headL sealL brow num nextL
set_option maxRecDepth 100000
set_option linter.unusedVariables false

/-- the address of a body -/
def adr (A : Option Addr) (c k : Nat) : Option Addr := if c = k + 8 then A else Option.map (fun x => x.add (k + 8)) A
/-- what a round is handed -/
def encF (A : Option Addr) (c : Nat) (p : Nat × Nat) : Array Value := #[.slice (adr A c p.1) p.2 p.2, .int .i64 ((p.1 + 8 + p.2 : Nat) : Int)]
/-- what the rounds keep: what lay below, and the box of the bytes -/
def KeepF (n₀ Bn : Nat) (X Y : World) : Prop := Below n₀ X Y ∧ Y.heap[Bn]? = X.heap[Bn]?
theorem grown_none {X Y : World} (h : Below X.heap.size X Y) : X.grownBy Y none := ⟨h.os, h.tape, h.output, h.size, fun k hk _ => h.block k hk⟩
theorem boxed_own {β : Type} (B : Nat) (t : TypeId) (f : β → Value) : Own (fun s W => Boxed W B t (f s)) := by
  intro s X Y row hv hg hrow
  refine hv.kept hg (fun e' => ?_)
  obtain ⟨o, ho, hc⟩ := hrow B e'.symm
  rw [show X.heap[B]? = _ from hv] at ho; cases ho; cases hc

set_option maxHeartbeats 1000000 in
theorem frames1_in (n : Nat) (hn : 1 ≤ n) (l Bn : Nat) (A : Option Addr) (c : Nat) (b : List UInt8) (S : Nat → Prop) (w0 : World) (hv : Bytes S w0 (.slice A b.length c) b) (hb : b.length ≤ 4294967296)
    (ps : List (Nat × Nat)) (en : Nat) (hs : Scans b 0 ps en) (J Jx : List (Nat × Nat) → World → Prop) (hJ : ∀ pre X Y, J pre X → X.grownBy Y none → J pre Y)
    (hY : ∀ pre x W, J pre W → pre.length < ps.length → YieldAt Fence.wide (n - 1) Try.prog l (encF A c x) W fun e W' =>
      (e = .returned (.bool true) ∧ J (pre ++ [x]) W' ∧ KeepF w0.heap.size Bn W W') ∨ (e = .returned (.bool false) ∧ Jx (pre ++ [x]) W'))
    (W : World) (hW : Below w0.heap.size w0 W) (hBn : Boxed W Bn 23 (.slice A b.length c)) (h0 : J [] W) :
    CallsIn Fence.wide n Try.prog 39 #[.func (.yield l) #[] #[], .pointer (some ⟨Bn, 0, none⟩)] W fun e W' => (∃ v, e = .returned v) ∧
      ((∃ ys, ys = ps ∧ J ys W') ∨ (∃ pre, pre <+: ps ∧ Jx pre W')) := by
  refine callsIn_of_wp Try.func39 rfl trivial ?_ rfl
  simp only [Try.ntmps39, List.size_toArray, List.length_cons, List.length_nil, Nat.reduceAdd, Nat.reduceSub, Array.replicate_succ, Array.replicate_zero, List.push_toArray, List.append_toArray, List.nil_append, List.cons_append]
  gi_wp2
  gi_loopw [3, 4, 5, 6] (fun a _ _ _ wr => ∃ (pre rest : List (Nat × Nat)) (k : Nat), a = .int .i64 k ∧ k ≤ b.length ∧ ps = pre ++ rest ∧ Scans b k rest en ∧ J pre wr ∧ Below w0.heap.size w0 wr ∧ Boxed wr Bn 23 (.slice A b.length c))
    (fun a _ _ _ _ => b.length - (intOf a).toNat)
  case atStart => exact ⟨[], ps, 0, rfl, by omega, rfl, hs, h0, hW, hBn⟩
  case round =>
    obtain ⟨pre, rest, k, rfl, hk, hx, hsr, hJr, hbr, hbox⟩ := hrel
    have hc := hbox.cell
    have hBr := hv.ext hbr
    have Hx := Lib.hid hx
    clear hx
    rcases hsr.inv with ⟨rfl, _, h1⟩ | ⟨m, rest', rfl, he, hm, hl, hs'⟩
    · obtain ⟨r, hr⟩ : ∃ r, nextL b k = r := ⟨_, rfl⟩
      rw [hr] at h1
      have d1 : ((r.2.2 : Int) != 0) = true := by rw [bne_iff_ne]; omega
      have Hr := Lib.hid hr
      clear hr h1
      gi_wp2
      refine ⟨trivial, (callsIn_wide.2 (next_det _ b S _ k hBr (by omega))).mono ?_⟩
      rw [Hr.out]
      rintro e w1 ⟨v', rfl, hB1, hb1, _⟩
      gi_wp2
      refine ⟨fun _ h => (by cases h), ?_⟩
      gi_wp2
      refine bodyPost_ret (results_none rfl _ _ _) rfl ?_
      exact ⟨⟨_, rfl⟩, .inl ⟨pre, by simpa using Hx.out.symm, hJ _ _ _ hJr (grown_none hb1)⟩⟩
    · have hpl : pre.length < ps.length := by rw [Hx.out]; simp
      have He := Lib.hid he
      have Hm := Lib.hid hm
      have Hs := Lib.hid hs'
      clear he hm hs'
      gi_wp2
      refine ⟨trivial, (callsIn_wide.2 (next_det _ b S _ k hBr (by omega))).mono ?_⟩
      rw [He.out]
      rintro e w1 ⟨v', rfl, hB1, hb1, hbv⟩
      obtain rfl := hbv rfl
      rw [Int.toNat_natCast, ← Hm.out, bodyV_slice]
      obtain ⟨fn, tmps, assign, body, hy, hR⟩ := hY pre (k, m) w1 (hJ _ _ _ hJr (grown_none hb1)) hpl
      unfold encF adr at hy
      dsimp only at hy
      generalize (if c = k + 8 then A else Option.map (fun x => x.add (k + 8)) A) = A2 at hy
      rw [show ((k + 8 + m : Nat) : Int) = (k : Int) + 8 + (m : Int) by omega] at hy
      gi_wp2
      refine hR.mono ?_
      rintro e W3 (⟨rfl, hJ3, hk3⟩ | ⟨rfl, hJx3⟩)
      · have hbr3 : Below w0.heap.size w0 W3 := (Below.ext hbr hb1).trans hk3.1
        have hbox3 : Boxed W3 Bn 23 (.slice A b.length c) := hk3.2.trans ((hb1.block _ hbox.lt).trans hbox)
        gi_wp2
        go_roundw
        case rel => exact ⟨pre ++ [(k, m)], rest', k + 8 + m, rfl, hl, by rw [Hx.out]; simp, Hs.out, hJ3, hbr3, hbox3⟩
        case measure => simp [intOf]; omega
      · gi_wp2
        refine bodyPost_ret (results_none rfl _ _ _) rfl ?_
        exact ⟨⟨_, rfl⟩, .inr ⟨pre ++ [(k, m)], ⟨rest', by rw [Hx.out]; simp⟩, hJx3⟩⟩

set_option maxHeartbeats 1000000 in
theorem frames_in (n : Nat) (A : Option Addr) (m c : Nat) (w : World) :
    CallsIn Fence.wide n Try.prog 37 #[.slice A m c] w fun e w' => e = .returned (.func (.func 39) #[] #[.pointer (some ⟨w.heap.size, 0, none⟩)]) ∧ w' = w.alloc (.cells #[.slice A m c] 23) := by
  refine callsIn_of_wp Try.func37 rfl trivial ?_ rfl
  simp only [Try.ntmps37, List.size_toArray, List.length_cons, List.length_nil, Nat.reduceAdd, Nat.reduceSub, Array.replicate_succ, Array.replicate_zero, List.push_toArray, List.append_toArray, List.nil_append, List.cons_append]
  gi_wp2
  go_ret
  exact ⟨rfl, rfl⟩

theorem frames_stops (n : Nat) (hn : 1 ≤ n) (Bn : Nat) (A : Option Addr) (c : Nat) (b : List UInt8) (S : Nat → Prop) (w0 w : World) (hv : Bytes S w0 (.slice A b.length c) b) (hb : b.length ≤ 4294967296)
    (ps : List (Nat × Nat)) (en : Nat) (hs : Scans b 0 ps en) (hw : Below w0.heap.size w0 w) (hBn : Boxed w Bn 23 (.slice A b.length c)) :
    SeqStopsK Fence.wide n Try.prog 39 #[.pointer (some ⟨Bn, 0, none⟩)] (encF A c) (KeepF w0.heap.size Bn) (fun ys => ys = ps) (fun pre => pre <+: ps) ps.length w := fun l J Jx W hW hJ _ hY h0 =>
  frames1_in n hn l Bn A c b S w0 hv hb ps en hs J Jx (fun pre X Y hX hg => hJ pre X Y none hX hg (fun r e => by cases e)) hY W (Below.ext hw hW) ((hW.block _ hBn.lt).trans hBn) h0

theorem cs_of_owns {w : World} {base : Nat} {e : TypeId} {v : Value} {n : Nat} {vs : List Value} (h : w.ownsRow base e 1 v n vs) : ∃ A c, v = .slice A n c ∧ n ≤ c ∧ c ≤ maxLen ∧ vs.length = n ∧ Cs (fun b => base ≤ b) w A vs := by
  have hlen := h.1
  rcases h.2 with ⟨rfl, hn⟩ | ⟨g, cap, cur, rfl, hb, hh, h1, h2, h3, h4⟩
  · subst hn
    obtain rfl : vs = [] := List.eq_nil_of_length_eq_zero (by simpa using hlen)
    exact ⟨none, 0, rfl, by simp, by simp [maxLen], rfl, Cs.nil_ _ _ _⟩
  · refine ⟨_, cap, rfl, h1, h2, by simpa using hlen, fun _ => ⟨g, 0, rfl, hb, fun j u hu => ?_⟩⟩
    rw [cell_of_row _ _ _ _ _ _ hh]
    rw [← h4, List.getElem?_take] at hu
    split at hu
    · simpa using hu
    · cases hu
/-- the value of a body -/
def valF (A : Option Addr) (c : Nat) (p : Nat × Nat) : Value := .slice (adr A c p.1) p.2 p.2
theorem valF_bytes {S : Nat → Prop} {w : World} {A : Option Addr} {c : Nat} {b : List UInt8} (hv : Bytes S w (.slice A b.length c) b) (p : Nat × Nat) (hp : p.1 + 8 + p.2 ≤ b.length) : Bytes S w (valF A c p) (bodyL b p) := by
  obtain ⟨A', c', e, h1, h2, _⟩ := id hv
  cases e
  have h := (hv.drop_ (k := p.1 + 8) (by omega) (q := c = p.1 + 8) (by omega)).take_ (k := p.2) (by omega)
  exact h.clip (c' := p.2) (Nat.le_refl _) (by unfold maxLen at *; omega)

theorem infoB : (Try.prog.info? 23).map (fun i => (i.zero, i.size, i.bytes)) = some (some (.slice none 0 0), 1, 24) := by kernel_rfl

set_option maxHeartbeats 2000000 in
theorem scan_any (v : Value) (b : List UInt8) (S : Nat → Prop) (w : World) (hv : Bytes S w v b) (hb : b.length ≤ 4294967296) (ps : List (Nat × Nat)) (en : Nat) (hs : Scans b 0 ps en) :
    Calls Try.prog 27 #[v] w fun e w' => ∃ v', e = .returned (.tuple #[v', .int .i64 (en : Nat)]) ∧ Lists (fun k => S k ∨ w.heap.size ≤ k) w' v' (ps.map (bodyL b)) ∧ Below w.heap.size w w' := by
  have hB' := hv
  obtain ⟨A, c, rfl, hc1, hc2, _⟩ := hv
  have hpl := (hs.len (Nat.zero_le _)).1
  have hel := (hs.len (Nat.zero_le _)).2
  obtain ⟨i0, hi, hz0, hz1, hz2⟩ := info_parts infoB
  refine (callsIn_wide (n := 9)).1 (callsIn_of_wp_marks Try.func27 rfl trivial ?_ rfl)
  simp only [Try.ntmps27, List.size_toArray, List.length_cons, List.length_nil, Nat.reduceAdd, Nat.reduceSub, Array.replicate_succ, Array.replicate_zero, List.push_toArray, List.append_toArray, List.nil_append, List.cons_append]
  gi_wp2
  refine ⟨trivial, (frames_in _ A b.length c _).mono ?_⟩
  rintro e w' ⟨rfl, rfl⟩
  gi_wp2
  have bO := Boxed.new w 33 (.slice none 0 0)
  have bE := Boxed.new (w.alloc (.cells #[.slice none 0 0] 33)) 3 (.int .i64 0)
  have bN := Boxed.new ((w.alloc (.cells #[.slice none 0 0] 33)).alloc (.cells #[.int .i64 0] 3)) 23 (.slice A b.length c)
  rw [World.size_alloc] at bE bN
  rw [World.size_alloc] at bN
  have hB0 : Below w.heap.size w (((w.alloc (.cells #[.slice none 0 0] 33)).alloc (.cells #[.int .i64 0] 3)).alloc (.cells #[.slice A b.length c] 23)) := (((Below.refl _ w).alloc (Nat.le_refl _) _).alloc (by simp) _).alloc (by simp; omega) _
  have bO' := (bO.alloc (.cells #[.int .i64 0] 3)).alloc (.cells #[.slice A b.length c] 23)
  have bE' := bE.alloc (.cells #[.slice A b.length c] 23)
  have hsz : (((w.alloc (.cells #[.slice none 0 0] 33)).alloc (.cells #[.int .i64 0] 3)).alloc (.cells #[.slice A b.length c] 23)).heap.size = w.heap.size + 3 := by simp
  generalize ((w.alloc (.cells #[.slice none 0 0] 33)).alloc (.cells #[.int .i64 0] 3)).alloc (.cells #[.slice A b.length c] 23) = wq at *
  refine wpIn_rangeFunc_ownG rfl (by omega) (gf := 39) (lb := #[.pointer (some ⟨w.heap.size + 1 + 1, 0, none⟩)]) rfl trivial (enters_of Try.func39 (by kernel_rfl) rfl)
    (frames_stops (9 - 1) (by omega) (w.heap.size + 1 + 1) A c b S w wq hB' hb ps en hs hB0 bN) (fun h k => ⟨h.1.trans k.1, k.2.trans h.2⟩)
    (fun W l o o' hl h h1 h2 => ⟨belowK_b (w := wq) (by omega) W l o o' hl h h1 h2, World.putObj_heap_other (by omega)⟩) (Below.refl _ _) (fun _ => rfl)
    (fun pre W => ((∃ v, Boxed W w.heap.size 33 v ∧ W.ownsRow w.heap.size 23 1 v pre.length (pre.map (valF A c)) ∧ ∀ m, v.ownBlock = some m → w.heap.size + 3 ≤ m) ∧ Boxed W (w.heap.size + 1) 3 (.int .i64 (endOf pre : Nat)) ∧ Boxed W (w.heap.size + 1 + 1) 23 (.slice A b.length c)) ∧ Below w.heap.size w W)
    (fun _ _ _ => False)
    (OwnFrom.and (Own.from (fun s X Y row hs hg hr => ⟨holdsRow_own w.heap.size w.heap.size 33 23 1 (fun pre : List (Nat × Nat) => pre.length) (fun pre => pre.map (valF A c)) (fun _ v => ∀ m, v.ownBlock = some m → w.heap.size + 3 ≤ m) s X Y row hs.1 hg hr, boxed_own (w.heap.size + 1) 3 (fun pre : List (Nat × Nat) => .int .i64 (endOf pre : Nat)) s X Y row hs.2.1 hg hr, boxed_own (w.heap.size + 1 + 1) 23 (fun _ : List (Nat × Nat) => .slice A b.length c) s X Y row hs.2.2 hg hr⟩) _) (ownFrom_below (Nat.le_refl _) (by omega)))
    (fun _ _ _ _ _ hs _ _ => hs)
    ⟨⟨⟨_, bO', World.ownsRow_nil _ _ _ _, fun m hm => by cases hm⟩, bE', bN⟩, hB0⟩
    (fun x => { tmps := #[.slice A b.length c, undef, .slice none 0 0, .int .i64 0, .pointer (some ⟨w.heap.size, 0, none⟩), .pointer (some ⟨w.heap.size + 1, 0, none⟩), .slice (adr A c x.1) x.2 x.2, .int .i64 ((x.1 + 8 + x.2 : Nat) : Int), .slice A b.length c, .func (.func 39) #[] #[.pointer (some ⟨w.heap.size + 1 + 1, 0, none⟩)], .slice (adr A c x.1) x.2 x.2, .int .i64 ((x.1 + 8 + x.2 : Nat) : Int), undef, undef, undef, undef, undef, undef, undef], defers := [] }) ?assign ?body ?done ?stop
  case assign =>
    intro l x W K hK
    unfold encF
    generalize ((x.1 + 8 + x.2 : Nat) : Int) = en' at *
    gi_wp2
    exact hK
  case body =>
    rintro l pre ⟨k, m⟩ W ⟨⟨⟨v, hv, hrow, hob⟩, hE, hN⟩, hB⟩ hlt
    dsimp only
    have hc := hv.cell
    have hsW := hB.size
    obtain ⟨en', hen'⟩ : ∃ en' : Int, ((k + 8 + m : Nat) : Int) = en' := ⟨_, rfl⟩
    obtain ⟨A2, hA2⟩ : ∃ A2, adr A c k = A2 := ⟨_, rfl⟩
    have hval : valF A c (k, m) = .slice A2 m m := by rw [valF, ← hA2]
    have hend : ((endOf (pre ++ [(k, m)]) : Nat) : Int) = en' := by rw [endOf_snoc, ← hen']
    rw [hen', hA2]
    have Hval := Lib.hid hval
    have Hend := Lib.hid hend
    clear hen' hA2 hval hend
    gi_wp2_with (gi_at_builtin; go_loud (refine wpListIn_append_own_at _ rfl _ _ 33 rfl w.heap.size 23 i0 (.slice none 0 0) 1 24 Try.underlying33 hi hz0 hz1 hz2 rfl (by decide) _ _ _ rfl (hrow.alloc _) ⟨W.heap.size, 0, none⟩ 1 1 [.slice A2 m m] rfl rfl (cell_one_new _ _ _) (by simp [Value.oneCell']) (by unfold maxLen; omega) (by omega) (by simp; omega) ?_; intro v' w1 hown' hgrow _ hat'; obtain ⟨g', cap', rfl⟩ := ownsRow_succ hown'; obtain ⟨hv1, hv2, hr2, hk2, hb2⟩ := hv.appended (by decide) hrow hB.size (Nat.le_refl _) hown' hgrow; have hE1 := ((hE.alloc _).kept hgrow (hE.not_row (by decide) hrow)).kept (grownBy_setCell' w1 w.heap.size (.slice (some ⟨g', 0, none⟩) (pre.length + 1) cap')) (by simp); have hc1 := hv1.cell; have hf1 := hv1.frozen; have hN1 := ((hN.alloc _).kept hgrow (fun e => by have := hob _ e.symm; omega)).kept (grownBy_setCell' w1 w.heap.size (.slice (some ⟨g', 0, none⟩) (pre.length + 1) cap')) (by simp; omega); have hc2' := hE1.cell; have hf2 := hE1.frozen))
    have hE2 := hE1.set (.int .i64 en')
    have hN2 := hN1.kept (grownBy_setCell' _ (w.heap.size + 1) (.int .i64 en')) (by simp)
    have hv3 := hv2.kept (grownBy_setCell' _ (w.heap.size + 1) (.int .i64 en')) (by simp)
    have hr3 := hr2.kept (grownBy_setCell' _ (w.heap.size + 1) (.int .i64 en')) (.inr (hE1.not_row (by decide) hr2).symm)
    have hb3 := hb2.setCell (p := ⟨w.heap.size + 1, 0, none⟩) (by simp) (.int .i64 en')
    have hk3 := hk2.trans (KeepsOthers.setCell _ ⟨w.heap.size + 1, 0, none⟩ (.int .i64 en'))
    refine ⟨hk3.from _, ⟨hb3, hN2.trans hN.symm⟩, ⟨⟨_, hv3, ?_, ?_⟩, ?_, hN2⟩, hB.trans hb3⟩
    · rw [List.map_append, List.map_singleton, Hval.out, List.length_append]
      exact hr3
    · intro m hm
      rcases hat' with h | h
      · rw [h] at hm; exact hob _ hm
      · rw [h] at hm
        injection hm with hm
        have := hN.lt
        simp at hm
        omega
    · rw [Hend.out]; exact hE2
  case done =>
    rintro D ys W hD rfl ⟨⟨⟨v, hv, hrow, _⟩, hE, _⟩, hB⟩ hK
    have hc := hv.cell
    have hc2' := hE.cell
    gi_wp2
    have hBf : Below w.heap.size w (W.drew.putObj D (.deferred none)) := hB.drew.trans (belowK_b (n₀ := w.heap.size) (w := wq) (by omega) W.drew D _ (.deferred none) hD hK rfl rfl)
    gi_region
    gi_wp2
    refine ⟨by simp, .inl ⟨_, _, rfl, run_takeDeferred (w := W.drew) hK, ?_⟩⟩
    refine ⟨_, results_tmp2 rfl _ _ _, v, ?_, ?_, ?_⟩
    · rw [hs.end0]; rfl
    · obtain ⟨A', c', rfl, h1, h2, h3, h4⟩ := cs_of_owns (ownsRow_putObj hrow (.deferred none) hK rfl)
      refine ⟨A', c', ys.map (valF A c), by rw [List.length_map], by rw [List.length_map]; exact h1, h2, by simp, ?_, ?_⟩
      · exact Cs.mono h4 (fun _ _ h => .inr h)
      · intro i x li hx hl
        rw [List.getElem?_map] at hx hl
        obtain ⟨p, hp, rfl⟩ := Option.map_eq_some_iff.1 hx
        rw [hp] at hl
        cases hl
        exact ((valF_bytes hB' p (hs.body_len p (List.mem_of_getElem? hp))).ext hBf).mono (fun _ _ h => .inl h)
    · exact hBf
  case stop =>
    rintro D c pre W _ _ h _
    exact h.elim
end Go.Proofs.Ytmakcggmaphanaa
