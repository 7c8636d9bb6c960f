/-
  Bytes as records of one cell; SameBytes; slices.Clone of bytes.
-/
import Derived.Test.YtgjjfjibfleonaaProg
import Derived.Test.YtgjjfjibfleonaaLex
import Derived.Test.YtgjjfjibfleonaaRec
import Derived.Lib.SliceRun
namespace Go.Proofs.Ytgjjfjibfleonaa
open Go.RowKit
set_option maxRecDepth 100000
set_option linter.unusedVariables false

def encB (c : UInt8) : List Value := [bv c]
theorem encB_len (c : UInt8) : (encB c).length = 1 := rfl
theorem encB_one (c : UInt8) : ∀ u ∈ encB c, u.oneCell' = true := by
  intro u hu
  simp [encB] at hu
  subst hu
  rfl
theorem flatB (l : List UInt8) : l.flatMap encB = l.map bv := by
  induction l with
  | nil => rfl
  | cons x l ih => rw [List.flatMap_cons, ih]; rfl
theorem infoB : (Try.prog.info? 5).map (fun i => (i.zero, i.size, i.bytes)) = some (some (.int .u8 0), 1, 1) := by kernel_rfl
/-- bytes in blocks of S -/
abbrev By (S : Nat → Prop) (w : World) (v : Value) (l : List UInt8) : Prop := Recs encB S w v l
theorem OwnR.by_ {w : World} {base : Nat} {e : TypeId} {v : Value} {l : List UInt8} (h : OwnR encB 1 w base e v l) : By (fun b => base ≤ b) w v l := h.recs.mono (fun _ _ h => h.1)
theorem Bytes.by_ {S : Nat → Prop} {w : World} {v : Value} {l : List UInt8} (h : Bytes S w v l) : By S w v l := by
  obtain ⟨A, c, rfl, h1, h2, h3⟩ := h
  exact ⟨A, c, rfl, h1, h2, by rw [flatB]; exact h3⟩
theorem Recs.bytes {S : Nat → Prop} {w : World} {v : Value} {l : List UInt8} (h : By S w v l) : Bytes S w v l := by
  obtain ⟨A, c, rfl, h1, h2, h3⟩ := h
  exact ⟨A, c, rfl, h1, h2, by rw [flatB] at h3; exact h3⟩
theorem Recs.byte {S : Nat → Prop} {w : World} {A : Option Addr} {n c k : Nat} {l : List UInt8} (h : By S w (.slice A n c) l) (hk : k < n) :
    ∃ b off x, A = some ⟨b, off, none⟩ ∧ b < w.heap.size ∧ l[k]? = some x ∧ w.cell? ⟨b, off + k, none⟩ = some (.int .u8 (x.toNat : Int)) := by
  obtain ⟨A', c', e, h1, h2, h3⟩ := h.bytes
  cases e
  obtain ⟨b, off, x, rfl, _, hb, hx, hc⟩ := h3.byte hk
  exact ⟨b, off, x, rfl, hb, hx, hc⟩
/-- where cells lie at all -/
theorem Recs.lo {α : Type} {enc : α → List Value} {S : Nat → Prop} {w : World} {v : Value} {l : List α} (h : Recs enc S w v l) : Recs enc (· < w.heap.size) w v l := h.mono (fun _ hb _ => hb)

set_option maxHeartbeats 1000000 in
theorem samebytes_eq (v1 v2 : Value) (l : List UInt8) (S1 S2 : Nat → Prop) (w : World) (hv1 : By S1 w v1 l) (hv2 : By S2 w v2 l) :
    Calls Try.prog 11 #[v1, v2] w fun e w' => e = .returned (.bool true) ∧ Below w.heap.size w w' := by
  have h1 := hv1
  have h2 := hv2
  obtain ⟨A1, c1, rfl, hc1, hm1, _⟩ := hv1
  obtain ⟨A2, c2, rfl, _⟩ := hv2
  unfold maxLen at hm1
  go_enter Try.func11, Try.ntmps11
  go_wp2
  go_loopw [5] (fun a wr => ∃ k : Nat, a = .int .i64 k ∧ k ≤ l.length ∧ Below w.heap.size w wr) (fun a _ => l.length - (intOf a).toNat)
  case atStart => exact ⟨0, rfl, by omega, Below.refl _ _⟩
  case round =>
    obtain ⟨k, rfl, hk, hbr⟩ := hrel
    by_cases hlt : k < l.length
    · obtain ⟨b1, off1, x1, rfl, hb1, hx1, q1⟩ := (h1.ext hbr).byte hlt
      obtain ⟨b2, off2, x2, rfl, hb2, hx2, q2⟩ := (h2.ext hbr).byte hlt
      obtain rfl : x1 = x2 := by rw [hx1] at hx2; cases hx2; rfl
      clear hx1 hx2
      go_wp2_with fail
      refine wp_region_lex (fun _ => True) (by kernel_rfl) (by kernel_rfl) trivial ?_
      repeat (first | (refine lex_q rfl ⟨default, trivial⟩ ?_; go_big_quiet_step (fail); refine wpQuiet_nil ?_) | (refine lex_skip rfl rfl trivial ?_; simp only [Act.put, List.setIfInBounds_toArray, List.set_cons_succ, List.set_cons_zero]) | (refine lex_e rfl ?_; go_wp2_with fail; refine lex_go trivial ?_))
      refine lex_nil ?_
      go_wp2_with fail
      go_wp2
      go_roundw
      case rel => exact ⟨k + 1, by go_num, by omega, hbr.drew⟩
      case measure => simp [intOf]; omega
    · obtain rfl : k = l.length := by omega
      go_wp2
      go_ret
      exact ⟨rfl, hbr⟩

/-- an owned row made empty -/
theorem OwnR.empty_ {α : Type} {enc : α → List Value} {k : Nat} (w : World) (base : Nat) (e : TypeId) (hb : base ≤ w.heap.size) : OwnR enc k (w.alloc (.cells #[] e)) base e (.slice (some ⟨w.heap.size, 0, none⟩) 0 0) [] :=
  ⟨by simp, .inr ⟨w.heap.size, 0, #[], rfl, hb, heap_alloc_new w _, Nat.le_refl _, by simp [maxLen], by simp, by simp⟩⟩
end Go.Proofs.Ytgjjfjibfleonaa
