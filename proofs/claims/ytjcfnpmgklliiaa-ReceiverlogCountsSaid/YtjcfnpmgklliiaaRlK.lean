/-
  Law 30: how far events can be replayed: a map of booleans that the call makes; UpTo of the program and the document.
-/
import Derived.Test.YtjcfnpmgklliiaaRlJ
import Derived.Maps.Own
import Derived.Maps.Views
import Derived.LoopTactic
namespace Go.Proofs.Ytjcfnpmgklliiaa
open Go.RowKit
open Go.Maps (IsMap Keyed int_keyed keyOf_int_mk)
set_option maxRecDepth 100000
set_option linter.unusedVariables false
set_option linter.unusedSimpArgs false

/-- block b of w is a map of at most n keys that are numbers; the key z reads as p z -/
def BMap (w : World) (b n : Nat) (p : Int → Bool) : Prop := ∃ D : DataW Unit, w.ownsMap Try.prog 3 (plainElem Try.prog 4) b n D ∧ IsMap D ∧ ∀ z, InR z → D.atKey (.int .i64 z) (.lit (.bool false)) = .lit (.bool (p z))
theorem inr_wf {z : Int} (h : InR z) : (Lit.int .i64 z).wf = true := by
  obtain ⟨h1, h2⟩ := h
  simp only [Lit.wf, Bool.and_eq_true, decide_eq_true_eq]
  exact ⟨h1, h2⟩
theorem BMap.made (w : World) : BMap (w.alloc (.map #[] 0)) w.heap.size 0 (fun _ => false) := ⟨_, World.ownsMap_made w _ _ _, Go.Maps.isMap_empty, fun z _ => rfl⟩
theorem BMap.ext {w w' : World} {b n : Nat} {p : Int → Bool} (h : BMap w b n p) (hb : Below w.heap.size w w') : BMap w' b n p := by
  obtain ⟨D, h1, h2, h3⟩ := h
  obtain ⟨es, clock, g1, g2, g3, g4⟩ := h1
  exact ⟨D, ⟨es, clock, (hb.block b (Array.getElem?_eq_some_iff.1 g1).1).trans g1, g2, g3, g4⟩, h2, h3⟩
theorem BMap.mono {w : World} {b n m : Nat} {p : Int → Bool} (h : BMap w b n p) (hn : n ≤ m) : BMap w b m p := by
  obtain ⟨D, h1, h2, h3⟩ := h
  exact ⟨D, h1.mono hn, h2, h3⟩
theorem BMap.congr {w : World} {b n : Nat} {p q : Int → Bool} (h : BMap w b n p) (he : ∀ z, InR z → p z = q z) : BMap w b n q := by
  obtain ⟨D, h1, h2, h3⟩ := h
  exact ⟨D, h1, h2, fun z hz => by rw [h3 z hz, he z hz]⟩
theorem BMap.lookup {w : World} {b n : Nat} {p : Int → Bool} (h : BMap w b n p) {z : Int} (hz : InR z) : (Instr.lookup 110 (.map (some b)) (.int .i64 z) false).run Try.prog w = .ok (.bool (p z)) w := by
  obtain ⟨D, h1, h2, h3⟩ := h
  obtain ⟨v, ps, hrun, hv⟩ := h1.lookup (int_keyed Try.underlying3) Try.underlying110 (z := .bool false) (by kernel_rfl) (zd := .lit (.bool false)) (zp := []) (plainElem_bool Try.underlying4 false) (kl := .int .i64 z) (keyOf_int_mk Try.underlying3 (inr_wf hz))
  rw [h3 z hz] at hv
  have : v = .bool (p z) := by
    unfold plainElem at hv
    rw [Try.underlying4] at hv
    cases v <;> simp at hv
    rw [hv.1]
  rw [← this]
  exact hrun
theorem BMap.put {w : World} {b n : Nat} {p : Int → Bool} (h : BMap w b n p) (hn : n < 1000000) {z : Int} (hz : InR z) : ∃ w', (Instr.mapUpdate 110 (.map (some b)) (.int .i64 z) (.bool true)).run Try.prog w = .ok () w' ∧ BMap w' b (n + 1) (fun y => y == z || p y) ∧ w.grownBy w' (some b) := by
  obtain ⟨D, h1, h2, h3⟩ := h
  obtain ⟨w', hrun, ho, hg⟩ := h1.update (int_keyed Try.underlying3) Try.underlying110 (by unfold maxLen; omega) (kl := .int .i64 z) (keyOf_int_mk Try.underlying3 (inr_wf hz)) (plainElem_bool Try.underlying4 true)
  refine ⟨w', hrun, ⟨_, ho, h2.put _ _, fun y hy => ?_⟩, hg⟩
  by_cases e : y = z
  · subst e
    rw [Go.Maps.atKey_put_same h2 (show Go.WideAt.IsKeyLit (.int .i64 y) from trivial)]
    simp
  · rw [Go.Maps.atKey_put_other (fun e2 => e (by cases e2; rfl)), h3 y hy]
    simp [e]
theorem wpList_lookB {ops : Array Oper} {Q : Exit → Act → World → Prop} {o : Oper} {a : Act} {w : World} {rest : List Oper} {x k : Operand} {b n : Nat} {p : Int → Bool} {z : Int} (hw : Region.wanted o (yielded ops a.tmps) = true) (ho : o.op = .lookup 110 x k false)
    (hx : a.eval x = .map (some b)) (hk : a.eval k = .int .i64 z) (hM : BMap w b n p) (hz : InR z) (h : wpList Try.prog ops Q rest (a.put o.dst (.bool (p z))) w) : wpList Try.prog ops Q (o :: rest) a w := by
  have hl := hM.lookup hz
  simp only [wpList, hw, if_true]
  refine .inl ?_
  unfold Oper.wp execOp
  simp only [ho, hx, hk, hl, Oper.upon, Sem.run_bind, Sem.run_pure, Result.andThen_ok]
  exact h
theorem wpList_putB {ops : Array Oper} {Q : Exit → Act → World → Prop} {o : Oper} {a : Act} {w : World} {rest : List Oper} {x k v : Operand} {b n : Nat} {p : Int → Bool} {z : Int} (hg : o.guard = none) (ho : o.op = .mapUpdate 110 x k v)
    (hx : a.eval x = .map (some b)) (hk : a.eval k = .int .i64 z) (hv : a.eval v = .bool true) (hM : BMap w b n p) (hn : n < 1000000) (hz : InR z)
    (h : ∀ w', BMap w' b (n + 1) (fun y => y == z || p y) → w.grownBy w' (some b) → wpList Try.prog ops Q rest (a.put o.dst undef) w') : wpList Try.prog ops Q (o :: rest) a w := by
  obtain ⟨w', hrun, h1, h2⟩ := hM.put hn hz
  refine wpList_plain hg fun K' hK' => ?_
  unfold Oper.wp
  simp [execOp, ho, hx, hk, hv, hrun, Result.andThen]
  exact hK' _ _ (h w' h1 h2)

/-- the next event is known -/
def nextB (l : List Dt) (proc k : Int) : Bool := decide (k < 9223372036854775807) && l.any (fun d => d.proc == proc && d.index == k + 1)
/-- from k the events up to r can be replayed -/
inductive UpR (l : List Dt) (proc : Int) : Int → Int → Prop
  | stop {k : Int} : nextB l proc k = false → UpR l proc k k
  | step {k r : Int} : nextB l proc k = true → UpR l proc (k + 1) r → UpR l proc k r
theorem UpR.uniq {l : List Dt} {proc k r r' : Int} (h : UpR l proc k r) (h' : UpR l proc k r') : r = r' := by
  induction h with
  | stop hn =>
    cases h' with
    | stop _ => rfl
    | step h2 _ => rw [hn] at h2; cases h2
  | step hn _ ih =>
    cases h' with
    | stop h2 => rw [hn] at h2; cases h2
    | step _ h2 => exact ih h2
/-- how many determinants are beyond k -/
def beyond (l : List Dt) (k : Int) : Nat := (l.filter (fun d => decide (k < d.index))).length
theorem beyond_lt {l : List Dt} {proc k : Int} (h : nextB l proc k = true) : beyond l (k + 1) < beyond l k := by
  unfold nextB at h
  rw [Bool.and_eq_true] at h
  obtain ⟨_, h⟩ := h
  unfold beyond
  induction l with
  | nil => simp at h
  | cons d l ih =>
    have hle : (l.filter (fun d => decide (k + 1 < d.index))).length ≤ (l.filter (fun d => decide (k < d.index))).length := by
      rw [← List.countP_eq_length_filter, ← List.countP_eq_length_filter]
      exact List.countP_mono_left (fun d _ hd => by simp at hd ⊢; omega)
    rw [List.any_cons, Bool.or_eq_true] at h
    rw [List.filter_cons, List.filter_cons]
    by_cases h1 : k + 1 < d.index
    · have h2 : k < d.index := by omega
      rw [if_pos (by simpa using h1), if_pos (by simpa using h2)]
      simp only [List.length_cons]
      rcases h with h | h
      · simp at h; omega
      · have := ih h; omega
    · rw [if_neg (by simpa using h1)]
      by_cases h2 : k < d.index
      · rw [if_pos (by simpa using h2)]
        simp only [List.length_cons]
        omega
      · rw [if_neg (by simpa using h2)]
        rcases h with h | h
        · simp at h; omega
        · exact ih h
/-- the indexes of a process -/
def knownP (l : List Dt) (proc z : Int) : Bool := l.any (fun d => d.proc == proc && d.index == z)
theorem knownP_snoc {l : List Dt} {k : Nat} {x : Dt} (h : l[k]? = some x) (proc z : Int) : knownP (l.take (k + 1)) proc z = ((x.proc == proc && x.index == z) || knownP (l.take k) proc z) := by
  unfold knownP
  rw [List.take_add_one, h]
  simp only [Option.toList_some, List.any_append, List.any_cons, List.any_nil, Bool.or_false]
  rw [Bool.or_comm]

set_option maxHeartbeats 4000000 in
theorem uptoP_any (A : Option Addr) (n c : Nat) (l : List Dt) (proc from_ : Int) (S : Nat → Prop) (w : World) (hl : Recs encDt S w (.slice A n c) l) (hin : ∀ d ∈ l, DtIn d) (hf : InR from_) (hn : n ≤ 1000) :
    Calls Try.prog 49 #[.slice A n c, .int .i64 proc, .int .i64 from_] w fun e w' => ∃ r, e = .returned (.int .i64 r) ∧ UpR l proc from_ r ∧ Below w.heap.size w w' := by
  have HL := Lib.hid hl.len
  have HIN := Lib.hid hin
  have hmm := @run_makeMap Try.prog
  obtain ⟨W, hW⟩ : ∃ W, W = w.alloc (.map #[] 0) := ⟨_, rfl⟩
  have hM : BMap W w.heap.size 0 (fun _ => false) := by rw [hW]; exact BMap.made w
  have hbW : Below w.heap.size w W := by rw [hW]; exact (Below.refl _ w).alloc (Nat.le_refl _) _
  have hlW := (hl.mono (S' := (· < w.heap.size)) (fun b hb _ => hb)).ext hbW
  clear hin hl
  go_enter Try.func49, Try.ntmps49
  go_upto_region 2 with fail
  rw [← hW]
  clear hW hmm
  go_wp2_with fail
  go_loopw [14] (fun i wr => ∃ k : Nat, i = .int .i64 (k : Int) ∧ k ≤ n ∧ BMap wr w.heap.size k (knownP (l.take k) proc) ∧ Recs encDt (· < w.heap.size) wr (.slice A n c) l ∧ Below w.heap.size w wr) (fun i _ => n - (intOf i).toNat)
  case atStart => exact ⟨0, rfl, by omega, hM, hlW, hbW⟩
  case round =>
    obtain ⟨k, rfl, hk, hMr, hlr, hbr⟩ := hrel
    by_cases hlt : k < n
    · obtain ⟨b, o, x, rfl, hsb, hbk, hx, hc⟩ := hlr.at_ encDt_len (j := k) (by have := HL.out.1; omega) (by omega)
      have hxin := HIN.out x (List.mem_of_getElem? hx)
      have hz : InR x.index := hxin _ (by unfold Dt.l; simp)
      have HX := Lib.hid hx
      have HC := Lib.hid hc
      obtain ⟨W5, hW5, b5, k5, S5, r5⟩ := boxD w wr #[.int .i64 x.proc, .int .i64 x.index, .int .i64 x.ev.k0, .int .i64 x.ev.k1, .int .i64 x.ev.k2, .int .i64 x.ev.k3, .int .i64 x.ev.k4, .int .i64 x.ev.k5, .int .i64 x.ev.k6] 38 hbr
      have hM5 := hMr.ext k5
      have hl5 := hlr.ext k5
      have q0 : W5.cell? ⟨wr.heap.size, 0, none⟩ = some (.int .i64 x.proc) := row_cell r5.out 0 _ rfl
      have q1 : W5.cell? ⟨wr.heap.size, 1, none⟩ = some (.int .i64 x.index) := row_cell r5.out 1 _ rfl
      clear hx hc
      go_upto_region 5 with (first | (refine wpList_ldv (t := 38) (A := ⟨b, o + k * 9, none⟩) rfl rfl rfl (ld_det (Below.refl _ _) hbk HC.out) ?_) | (refine wpList_store_new rfl 38 _ _ rfl 38 _ #[.int .i64 x.proc, .int .i64 x.index, .int .i64 x.ev.k0, .int .i64 x.ev.k1, .int .i64 x.ev.k2, .int .i64 x.ev.k3, .int .i64 x.ev.k4, .int .i64 x.ev.k5, .int .i64 x.ev.k6] rfl rfl (by kernel_rfl) rfl (by simp [Value.oneCell']) ?_))
      rw [← hW5]
      clear hW5
      by_cases he : x.proc = proc
      · subst he
        go_wp2_with (refine wpList_putB rfl rfl rfl rfl rfl hM5 (by omega) hz ?_; intro w6 hM6 hg6)
        go_roundw
        case rel =>
          refine ⟨k + 1, by go_num, by omega, hM6.congr (fun z hz => ?_), hl5.keep (fun b hb h => hg6.block b hb (by simp; omega)), Below.grow b5 hg6 (Nat.le_refl _)⟩
          rw [knownP_snoc HX.out]
          simp only [beq_self_eq_true, Bool.true_and]
          congr 1
          exact Bool.beq_comm
        case measure => simp [intOf]; omega
      · have he' : (x.proc == proc) = false := by simpa using he
        go_wp2
        go_roundw
        case rel =>
          refine ⟨k + 1, by go_num, by omega, (hM5.mono (by omega)).congr (fun z hz => ?_), hl5, b5⟩
          rw [knownP_snoc HX.out, he']
          simp
        case measure => simp [intOf]; omega
    · obtain rfl : k = n := by omega
      have hlk : l.take k = l := List.take_of_length_le (by have := HL.out.1; omega)
      rw [hlk] at hMr
      clear hlk
      obtain ⟨f1, f2⟩ := hf
      go_wp2_with fail
      go_loop [10] (fun i => ∃ z : Int, i = .int .i64 z ∧ InR z ∧ ∀ r, UpR l proc z r → UpR l proc from_ r) (fun i => beyond l (intOf i))
      case atStart => exact ⟨from_, rfl, ⟨f1, f2⟩, fun r h => h⟩
      case round =>
        obtain ⟨z, rfl, ⟨z1, z2⟩, hup⟩ := hrel
        by_cases hz : z < 9223372036854775807
        · have dz : decide (z < 9223372036854775807) = true := by simpa using hz
          have hz1 : InR (z + 1) := ⟨by omega, by omega⟩
          by_cases hk1 : knownP l proc (z + 1) = true
          · have hnx : nextB l proc z = true := by unfold nextB; rw [dz]; exact hk1
            have hbl := Lib.hid (beyond_lt hnx)
            go_wp2_with (refine wpList_lookB rfl rfl rfl rfl hMr hz1 ?_; rw [hk1])
            go_round
            case rel => exact ⟨z + 1, by go_num, hz1, fun r h => hup r (.step hnx h)⟩
            case measure => simp [intOf]; exact hbl.out
          · have hk1' : knownP l proc (z + 1) = false := by simpa using hk1
            have hnx : nextB l proc z = false := by unfold nextB; rw [dz]; exact hk1'
            go_wp2_with (refine wpList_lookB rfl rfl rfl rfl hMr hz1 ?_; rw [hk1'])
            go_ret
            exact ⟨z, rfl, hup z (.stop hnx), hbr⟩
        · have dz : decide (z < 9223372036854775807) = false := by simpa using hz
          have hnx : nextB l proc z = false := by unfold nextB; rw [dz]; rfl
          go_wp2
          go_ret
          exact ⟨z, rfl, hup z (.stop hnx), hbr⟩
theorem nextB_snoc {l : List Dt} {k : Nat} {x : Dt} (h : l[k]? = some x) (proc z : Int) : nextB (l.take (k + 1)) proc z = (nextB (l.take k) proc z || (decide (z < 9223372036854775807) && (x.proc == proc && x.index == z + 1))) := by
  unfold nextB
  have := knownP_snoc h proc (z + 1)
  unfold knownP at this
  rw [this, Bool.or_comm, Bool.and_or_distrib_left]
set_option maxHeartbeats 4000000 in
theorem uptoD_any (A : Option Addr) (n c : Nat) (l : List Dt) (proc from_ : Int) (S : Nat → Prop) (w : World) (hl : Recs encDt S w (.slice A n c) l) (hf : InR from_) :
    Calls Try.prog 50 #[.slice A n c, .int .i64 proc, .int .i64 from_] w fun e w' => ∃ r, e = .returned (.int .i64 r) ∧ UpR l proc from_ r ∧ Below w.heap.size w w' := by
  have HL := Lib.hid hl.len
  have hcb := hl.len.2
  have hbw := Below.refl w.heap.size w
  go_enter Try.func50, Try.ntmps50
  go_wp2
  go_loop [2, 7, 8] (fun f fd i => ∃ z : Int, f = .int .i64 z ∧ InR z ∧ ∀ r, UpR l proc z r → UpR l proc from_ r) (fun f _ _ => beyond l (intOf f))
  case atStart => exact ⟨from_, rfl, hf, fun r h => h⟩
  case round =>
    obtain ⟨z, rfl, ⟨z1, z2⟩, hup⟩ := hrel
    go_wp2
    go_loop [7, 8] (fun fd i => ∃ k : Nat, fd = .bool (nextB (l.take k) proc z) ∧ i = .int .i64 (k : Int) ∧ k ≤ n) (fun _ i => n - (intOf i).toNat)
    case atStart => exact ⟨0, by simp [nextB], rfl, by omega⟩
    case round =>
      obtain ⟨k, rfl, rfl, hk⟩ := hrel
      by_cases hlt : k < n
      · obtain ⟨b, o, x, rfl, hsb, hbk, hx, hc⟩ := hl.at_ encDt_len (j := k) (by have := HL.out.1; omega) (by omega)
        have q0 : w.cell? ⟨b, o + k * 9, none⟩ = some (.int .i64 x.proc) := hc 0 _ rfl
        have q1 : w.cell? ⟨b, o + k * 9 + 1, none⟩ = some (.int .i64 x.index) := hc 1 _ rfl
        have HS := Lib.hid (nextB_snoc hx proc z)
        clear hc hx
        have fin : ∀ v, nextB (l.take (k + 1)) proc z = v → ∃ k' : Nat, Value.bool v = .bool (nextB (l.take k') proc z) ∧ Value.int .i64 ((k : Int) + 1) = .int .i64 (k' : Int) ∧ k' ≤ n := fun v hv => ⟨k + 1, by rw [hv], by go_num, by omega⟩
        have Fin := Lib.hid fin
        clear fin
        cases hnb : nextB (l.take k) proc z with
        | true =>
          rw [hnb, Bool.true_or] at HS
          have HS2 := Lib.hid HS.out
          clear HS hnb
          go_wp2
          go_round
          case rel => exact Fin.out _ HS2.out
          case measure => simp [intOf]; omega
        | false =>
          rw [hnb, Bool.false_or] at HS
          clear hnb
          by_cases hz : z < 9223372036854775807
          · have dz : decide (z < 9223372036854775807) = true := by simpa using hz
            rw [dz, Bool.true_and] at HS
            by_cases hp : x.proc = proc
            · have dp : (x.proc == proc) = true := by simpa using hp
              rw [dp, Bool.true_and] at HS
              by_cases hi : x.index = z + 1
              · have di : (x.index == z + 1) = true := by simpa using hi
                rw [di] at HS
                go_wp2
                go_round
                case rel => exact Fin.out _ HS.out
                case measure => simp [intOf]; omega
              · have di : (x.index == z + 1) = false := by simpa using hi
                rw [di] at HS
                go_wp2
                go_round
                case rel => exact Fin.out _ HS.out
                case measure => simp [intOf]; omega
            · have dp : (x.proc == proc) = false := by simpa using hp
              rw [dp, Bool.false_and] at HS
              go_wp2
              go_round
              case rel => exact Fin.out _ HS.out
              case measure => simp [intOf]; omega
          · have dz : decide (z < 9223372036854775807) = false := by simpa using hz
            rw [dz, Bool.false_and] at HS
            go_wp2
            go_round
            case rel => exact Fin.out _ HS.out
            case measure => simp [intOf]; omega
      · obtain rfl : k = n := by omega
        have hlk : l.take k = l := List.take_of_length_le (by have := HL.out.1; omega)
        rw [hlk]
        clear hlk
        cases hnb : nextB l proc z with
        | false =>
          go_wp2
          go_ret
          exact ⟨z, rfl, hup z (.stop hnb), hbw⟩
        | true =>
          have hz : z < 9223372036854775807 := by
            have := hnb
            unfold nextB at this
            rw [Bool.and_eq_true] at this
            simpa using this.1
          have hbl := Lib.hid (beyond_lt hnb)
          go_wp2
          go_round
          case rel => exact ⟨z + 1, by go_num, ⟨by omega, by omega⟩, fun r h => hup r (.step hnb h)⟩
          case measure => simp [intOf]; exact hbl.out
end Go.Proofs.Ytjcfnpmgklliiaa
