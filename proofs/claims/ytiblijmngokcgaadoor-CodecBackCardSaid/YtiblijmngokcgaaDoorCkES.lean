import Derived.Test.YtiblijmngokcgaaDoorCkDS
import Derived.Test.YtiblijmngokcgaaDoorRunLS
namespace Go.Proofs.YtiblijmngokcgaaDoor
open Go.RowKit
set_option maxRecDepth 100000
set_option linter.unusedVariables false
set_option linter.unusedSimpArgs false
theorem encSm_p {x : SmV} {i : Nat} {u : Value} (h : (encEx x.p)[i]? = some u) : (encSm x)[4 + i]? = some u := by
  have hi : i < 6 := (List.getElem?_eq_some_iff.1 h).1
  have : i = 0 ∨ i = 1 ∨ i = 2 ∨ i = 3 ∨ i = 4 ∨ i = 5 := by omega
  rcases this with rfl | rfl | rfl | rfl | rfl | rfl <;> exact h
theorem encSm_v {x : SmV} {i : Nat} {u : Value} (h : (encEx x.v)[i]? = some u) : (encSm x)[10 + i]? = some u := by
  have hi : i < 6 := (List.getElem?_eq_some_iff.1 h).1
  have : i = 0 ∨ i = 1 ∨ i = 2 ∨ i = 3 ∨ i = 4 ∨ i = 5 := by omega
  rcases this with rfl | rfl | rfl | rfl | rfl | rfl <;> exact h
theorem ld_smP {w : World} {b o : Nat} {x : SmV} (hc : ∀ i u, (encSm x)[i]? = some u → w.cell? ⟨b, o + i, none⟩ = some u) : (loadVar 145 ⟨b, o + 4, none⟩).run Tryd.prog w = .ok (.agg #[.int .i64 x.p.op, .int .i64 x.p.val, .string x.p.name, .int .i64 x.p.slot, .int .i64 x.p.size, .slice x.p.A x.p.n x.p.c]) w :=
  ld_exw (y := x.p) (fun i u h => by rw [Nat.add_assoc]; exact hc _ u (encSm_p h))
theorem ld_smV {w : World} {b o : Nat} {x : SmV} (hc : ∀ i u, (encSm x)[i]? = some u → w.cell? ⟨b, o + i, none⟩ = some u) : (loadVar 145 ⟨b, o + 10, none⟩).run Tryd.prog w = .ok (.agg #[.int .i64 x.v.op, .int .i64 x.v.val, .string x.v.name, .int .i64 x.v.slot, .int .i64 x.v.size, .slice x.v.A x.v.n x.v.c]) w :=
  ld_exw (y := x.v) (fun i u h => by rw [Nat.add_assoc]; exact hc _ u (encSm_v h))
def NmS : Nat → Sm → Prop
  | 0, _ => False
  | n + 1, .mk kind name slot size place value body els => (1 ≤ kind ∧ kind ≤ 6) ∧ slot = 0 ∧ size = 0 ∧ NmE 3 place ∧ NmE 3 value ∧ ((kind = 1 ∧ isScal name) ∨ (kind = 2 ∧ isArr name) ∨ (3 ≤ kind ∧ name = ByteArray.mk #[])) ∧ (∀ s ∈ body, NmS n s) ∧ (∀ s ∈ els, NmS n s)
theorem NmS.of : ∀ {n : Nat} {t : Sm}, DrS n t → NmS n t
  | 0, _, h => h.elim
  | n + 1, .mk kind name slot size place value body els, ⟨h1, h2, h3, h4, h5, h6⟩ => by
    have hb : ∀ s ∈ body, NmS n s := fun s hs => NmS.of (h4 s hs)
    have he : ∀ s ∈ els, NmS n s := fun s hs => NmS.of (h5 s hs)
    have hv := NmE.of h3
    have hz : NmE 3 zEx := NmE.zero 2
    rcases h6 with ⟨a, b, c, _, _⟩ | ⟨a, b, c, _, _⟩ | ⟨a, b, c, _, _⟩ | ⟨a, b, c, _, _⟩ | ⟨a, b, c, _, _⟩ | ⟨a, b, c, _, _⟩
    · exact ⟨⟨by omega, by omega⟩, h1, h2, by rw [c]; exact hz, hv, .inl ⟨a, b⟩, hb, he⟩
    · exact ⟨⟨by omega, by omega⟩, h1, h2, NmE.of c, hv, .inr (.inl ⟨a, b⟩), hb, he⟩
    · exact ⟨⟨by omega, by omega⟩, h1, h2, NmE.of c, hv, .inr (.inr ⟨by omega, b⟩), hb, he⟩
    · exact ⟨⟨by omega, by omega⟩, h1, h2, by rw [c]; exact hz, hv, .inr (.inr ⟨by omega, b⟩), hb, he⟩
    · exact ⟨⟨by omega, by omega⟩, h1, h2, by rw [c]; exact hz, hv, .inr (.inr ⟨by omega, b⟩), hb, he⟩
    · exact ⟨⟨by omega, by omega⟩, h1, h2, by rw [c]; exact hz, hv, .inr (.inr ⟨by omega, b⟩), hb, he⟩
theorem ag_smsx (w : World) : (isAgg 66).run Tryd.prog w = .ok false w := by simp [isAgg, run_underlying Tryd.underlying66]
def SmL (n : Nat) (w : World) (v : Value) (ts : List Sm) : Prop := LsOk encSm (SmOk n (· < w.heap.size) w) (· < w.heap.size) w v ts
theorem SmL.ext {n : Nat} {w w' : World} {v : Value} {ts : List Sm} (h : SmL n w v ts) (hb : Below w.heap.size w w') : SmL n w' v ts :=
  (LsOk.mono h (S' := (· < w'.heap.size)) (P' := SmOk n (· < w'.heap.size) w) (fun b hb' _ => Nat.lt_of_lt_of_le hb' hb.size) (fun y u h => SmOk.mono (fun b hb' _ => Nat.lt_of_lt_of_le hb' hb.size) n y u h)).keep (Keep.of_below hb) (fun y u h => SmOk.keep (Keep.of_below hb) n y u h)
def mx4 (x y z u : Int) : Int := max (max (max x y) z) u
theorem run_max4 {P : Program} (w : World) (at_ : Array TypeId) (ty : TypeId) (x y z u : Int) : (Builtin.max_ at_ ty #[.int .i64 x, .int .i64 y, .int .i64 z, .int .i64 u]).run P w = .ok (.int .i64 (mx4 x y z u)) w := by
  have e : mx4 x y z u = if u > (if z > (if y > x then y else x) then z else (if y > x then y else x)) then u else (if z > (if y > x then y else x) then z else (if y > x then y else x)) := by
    unfold mx4
    repeat' split
    all_goals omega
  rw [e]
  simp [Builtin.max_, Builtin.max2]
theorem lexL_max4 {P : Program} {ops : Array Oper} {K0 : Act → World → Prop} {S : World → Prop} {o : Oper} {a : Act} {w : World} {rest : List Oper} {p q r t : Operand} {ts : Array TypeId} {x y z u : Int} (ho : o.op = .call { callee := .builtin .max, args := #[p, q, r, t], argTypes := ts }) (hw : Region.wanted o (yielded ops a.tmps) = true)
    (hp : a.eval p = .int .i64 x) (hq : a.eval q = .int .i64 y) (hr : a.eval r = .int .i64 z) (ht : a.eval t = .int .i64 u) (h : wpLex P ops S kindL K0 rest (a.put o.dst (.int .i64 (mx4 x y z u))) w) : wpLex P ops S kindL K0 (o :: rest) a w := by
  refine yif_cons (by unfold kindL kindOf; rw [ho]) (v := .int .i64 (mx4 x y z u)) (.inl ⟨hw, fun w' hw' => ?_⟩) h
  have key : ∀ ρ : Operand → Value, ρ p = .int .i64 x → ρ q = .int .i64 y → ρ r = .int .i64 z → ρ t = .int .i64 u → (execOp ρ o).run P w' = .ok (.value (.int .i64 (mx4 x y z u))) w' := by
    intro ρ h1 h2 h3 h4
    unfold execOp
    simp [ho, go_sem, h1, h2, h3, h4, run_max4, Sem.run_bind]
  exact key a.eval hp hq hr ht
def NestOk (n : Nat) : Prop := ∀ (A : Option Addr) (m c : Nat) (ts : List Sm) (w : World), SmL n w (.slice A m c) ts → (∀ s ∈ ts, NmS n s) →
  Calls Tryd.prog 74 #[.slice A m c] w fun e w' => ∃ d : Int, e = .returned (.int .i64 d) ∧ 0 ≤ d ∧ d ≤ n + 3 ∧ Below w.heap.size w w'
set_option maxHeartbeats 8000000 in
theorem nest_step (n : Nat) (hn : n ≤ 10) (ih : ∀ k, k < n → NestOk k) : NestOk n := by
  intro A m c ts w hL hrs
  have HL := Lib.hid hL.len.1
  have hlc := hL.len.2
  have HRS := Lib.hid hrs
  have HIH := Lib.hid ih
  clear hrs ih
  go_enter Tryd.func74, Tryd.ntmps74
  go_wp2
  go_loopw [3, 4] (fun a b wr => ∃ (k : Nat) (d : Int), b = .int .i64 k ∧ k ≤ m ∧ a = .int .i64 d ∧ 0 ≤ d ∧ d ≤ n + 3 ∧ Below w.heap.size w wr) (fun _ b _ => m - (intOf b).toNat)
  case atStart => exact ⟨0, 0, rfl, by omega, rfl, by omega, by omega, Below.refl _ _⟩
  case round =>
    obtain ⟨k, d, rfl, hk, rfl, hd0, hdn, hb⟩ := hrel
    by_cases hlt : k < m
    · obtain ⟨ba, oa, x, t, rfl, hSb, hba, ht, hok, hcx⟩ := hL.at_ encSm_len (j := k) hlt (by omega)
      cases n with
      | zero => exact hok.elim
      | succ n =>
        have hrt := HRS.out t (List.mem_of_getElem? ht)
        obtain ⟨kind, name, slot, size, place, value, body, els⟩ := t
        obtain ⟨rfl, rfl, rfl, rfl, hpl, hvl, hbd, hel⟩ := hok
        obtain ⟨hkd, hsl, hsz, npl, nvl, nnm, nbd, nel⟩ := hrt
        have HC := Lib.hid (fun (w' : World) (h : Below wr.heap.size wr w') i u h2 => ((Below.ext hb h).cell (p := ⟨ba, oa + k * 18 + i, none⟩) hba).trans (hcx i u h2))
        have up := fun (w' : World) (h : Below wr.heap.size wr w') => (Keep.of_below (Below.ext hb h) : Keep (· < w.heap.size) w w')
        have HP := Lib.hid (fun (w' : World) (h : Below wr.heap.size wr w') => deep_any 3 (by omega) x.p place _ w' (ExOk.keep (up w' h) _ _ _ hpl) npl)
        have HV := Lib.hid (fun (w' : World) (h : Below wr.heap.size wr w') => deep_any 3 (by omega) x.v value _ w' (ExOk.keep (up w' h) _ _ _ hvl) nvl)
        have HB := Lib.hid (fun (w' : World) (h : Below wr.heap.size wr w') => HIH.out n (by omega) x.A x.n x.c body w' (SmL.ext hbd (Below.ext hb h)) nbd)
        have HE := Lib.hid (fun (w' : World) (h : Below wr.heap.size wr w') => HIH.out n (by omega) x.B x.m x.d els w' (SmL.ext hel (Below.ext hb h)) nel)
        clear up hpl hvl hbd hel hcx ht hL nnm
        go_upto_region 5 with fail
        go_wp2_with fail
        refine wp_region_lexL ((fun w' => Below wr.heap.size wr w')) (by kernel_rfl) (by kernel_rfl) ((Below.refl _ wr).drew) ?_
        repeat (first | (refine lexL_q0 rfl ?_; go_big_quiet_step (fail); refine wpQuiet_nil ?_) | (refine lexL_skip0 rfl rfl ?_; simp only [Act.put, List.setIfInBounds_toArray, List.set_cons_succ, List.set_cons_zero]))
        refine lexL_ld (⟨ba, oa + k * 18 + 4, none⟩) (.agg #[.int .i64 x.p.op, .int .i64 x.p.val, .string x.p.name, .int .i64 x.p.slot, .int .i64 x.p.size, .slice x.p.A x.p.n x.p.c]) rfl rfl rfl (fun w' hw' => ld_smP (HC.out w' hw')) ?_
        simp only [Act.put, List.setIfInBounds_toArray, List.set_cons_succ, List.set_cons_zero]
        repeat (first | (refine lexL_q0 rfl ?_; go_big_quiet_step (fail); refine wpQuiet_nil ?_) | (refine lexL_skip0 rfl rfl ?_; simp only [Act.put, List.setIfInBounds_toArray, List.set_cons_succ, List.set_cons_zero]))
        refine lexL_e rfl ?_
        go_wp2_with fail
        refine (HP.out _ (Below.refl _ wr).drew).mono ?_
        rintro e w1 ⟨d1, rfl, g1, l1, b1⟩
        have y1 := Below.ext (Below.refl _ wr).drew b1
        go_wp2_with fail
        refine lexL_go (y1) ?_
        repeat (first | (refine lexL_q0 rfl ?_; go_big_quiet_step (fail); refine wpQuiet_nil ?_) | (refine lexL_skip0 rfl rfl ?_; simp only [Act.put, List.setIfInBounds_toArray, List.set_cons_succ, List.set_cons_zero]))
        refine lexL_ld (⟨ba, oa + k * 18 + 10, none⟩) (.agg #[.int .i64 x.v.op, .int .i64 x.v.val, .string x.v.name, .int .i64 x.v.slot, .int .i64 x.v.size, .slice x.v.A x.v.n x.v.c]) rfl rfl rfl (fun w' hw' => ld_smV (HC.out w' hw')) ?_
        simp only [Act.put, List.setIfInBounds_toArray, List.set_cons_succ, List.set_cons_zero]
        repeat (first | (refine lexL_q0 rfl ?_; go_big_quiet_step (fail); refine wpQuiet_nil ?_) | (refine lexL_skip0 rfl rfl ?_; simp only [Act.put, List.setIfInBounds_toArray, List.set_cons_succ, List.set_cons_zero]))
        refine lexL_e rfl ?_
        go_wp2_with fail
        refine (HV.out _ y1).mono ?_
        rintro e w2 ⟨d2, rfl, g2, l2, b2⟩
        have y2 := Below.ext y1 b2
        go_wp2_with fail
        refine lexL_go (y2) ?_
        repeat (first | (refine lexL_q0 rfl ?_; go_big_quiet_step (fail); refine wpQuiet_nil ?_) | (refine lexL_skip0 rfl rfl ?_; simp only [Act.put, List.setIfInBounds_toArray, List.set_cons_succ, List.set_cons_zero]))
        refine lexL_ld (⟨ba, oa + k * 18 + 16, none⟩) (.slice x.A x.n x.c) rfl rfl rfl (fun w' hw' => run_ld1 (ag_smsx _) (HC.out w' hw' 16 _ rfl)) ?_
        simp only [Act.put, List.setIfInBounds_toArray, List.set_cons_succ, List.set_cons_zero]
        repeat (first | (refine lexL_q0 rfl ?_; go_big_quiet_step (fail); refine wpQuiet_nil ?_) | (refine lexL_skip0 rfl rfl ?_; simp only [Act.put, List.setIfInBounds_toArray, List.set_cons_succ, List.set_cons_zero]))
        refine lexL_e rfl ?_
        go_wp2_with fail
        refine (HB.out _ y2).mono ?_
        rintro e w3 ⟨d3, rfl, g3, l3, b3⟩
        have y3 := Below.ext y2 b3
        go_wp2_with fail
        refine lexL_go (y3) ?_
        repeat (first | (refine lexL_q0 rfl ?_; go_big_quiet_step (fail); refine wpQuiet_nil ?_) | (refine lexL_skip0 rfl rfl ?_; simp only [Act.put, List.setIfInBounds_toArray, List.set_cons_succ, List.set_cons_zero]))
        refine lexL_ld (⟨ba, oa + k * 18 + 17, none⟩) (.slice x.B x.m x.d) rfl rfl rfl (fun w' hw' => run_ld1 (ag_smsx _) (HC.out w' hw' 17 _ rfl)) ?_
        simp only [Act.put, List.setIfInBounds_toArray, List.set_cons_succ, List.set_cons_zero]
        repeat (first | (refine lexL_q0 rfl ?_; go_big_quiet_step (fail); refine wpQuiet_nil ?_) | (refine lexL_skip0 rfl rfl ?_; simp only [Act.put, List.setIfInBounds_toArray, List.set_cons_succ, List.set_cons_zero]))
        refine lexL_e rfl ?_
        go_wp2_with fail
        refine (HE.out _ y3).mono ?_
        rintro e w4 ⟨d4, rfl, g4, l4, b4⟩
        have y4 := Below.ext y3 b4
        go_wp2_with fail
        refine lexL_go (y4) ?_
        repeat (first | (refine lexL_q0 rfl ?_; go_big_quiet_step (fail); refine wpQuiet_nil ?_) | (refine lexL_skip0 rfl rfl ?_; simp only [Act.put, List.setIfInBounds_toArray, List.set_cons_succ, List.set_cons_zero]))
        refine lexL_max4 rfl rfl rfl rfl rfl rfl ?_
        simp only [Act.put, List.setIfInBounds_toArray, List.set_cons_succ, List.set_cons_zero]
        have hmx : 0 ≤ mx4 d1 d2 d3 d4 ∧ mx4 d1 d2 d3 d4 ≤ n + 3 := by unfold mx4; omega
        obtain ⟨dm, hdm⟩ : ∃ dm, dm = mx4 d1 d2 d3 d4 := ⟨_, rfl⟩
        rw [← hdm] at hmx ⊢
        clear hdm
        obtain ⟨hm0, hm1⟩ := hmx
        repeat (first | (refine lexL_q0 rfl ?_; go_big_quiet_step (fail); refine wpQuiet_nil ?_) | (refine lexL_skip0 rfl rfl ?_; simp only [Act.put, List.setIfInBounds_toArray, List.set_cons_succ, List.set_cons_zero]))
        refine lexL_nil ?_
        go_wp2_with fail
        go_roundw
        case rel => exact ⟨k + 1, if d < 1 + dm then 1 + dm else d, by go_num, by omega, rfl, by split <;> omega, by split <;> omega, Below.ext hb y4⟩
        case measure => simp [intOf]; omega
    · obtain rfl : k = m := by omega
      go_wp2
      go_ret
      exact ⟨d, rfl, hd0, hdn, hb⟩
theorem nest_any : ∀ (n : Nat), n ≤ 10 → NestOk n := fun n => Nat.strongRecOn n fun n ih hn => nest_step n hn fun k hk => ih k hk (by omega)
end Go.Proofs.YtiblijmngokcgaaDoor
