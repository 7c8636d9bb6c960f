import Derived.Test.YtiblijmngokcgaaDoorEvlS
namespace Go.Proofs.YtiblijmngokcgaaDoor
open Go.RowKit
set_option maxRecDepth 100000
set_option linter.unusedVariables false
set_option linter.unusedSimpArgs false
set_option maxHeartbeats 1000000 in
theorem cell_any (A : Option Addr) (n c : Nat) (cells : List Int) (k : Int) (S : Nat → Prop) (w : World) (h : Recs encZ S w (.slice A n c) cells) (hk : InR k) : Calls Tryd.prog 88 #[.slice A n c, .int .i64 k] w fun e w' => e = .returned (.int .i64 (cellM cells k)) ∧ w' = w := by
  have HL := Lib.hid h.len
  have hc := h.len.2
  obtain ⟨k1, k2⟩ := hk
  by_cases h0 : k < 0
  · have d0 : decide (k < 0) = true := by simpa using h0
    have hr : cellM cells k = 0 := by unfold cellM; rw [if_neg (by omega)]
    rw [hr]
    go_enter Tryd.func88, Tryd.ntmps88
    go_wp2
    go_ret
    exact ⟨rfl, rfl⟩
  · obtain ⟨j, rfl⟩ := Int.eq_ofNat_of_zero_le (show 0 ≤ k by omega)
    by_cases h1 : j < n
    · obtain ⟨b, off, x, rfl, _, hb, hx, hcx⟩ := h.at_ encZ_len (j := j) (by have := HL.out.1; omega) (by omega)
      have q : w.cell? ⟨b, off + j, none⟩ = some (.int .i64 x) := by
        have := hcx 0 _ rfl
        rw [Nat.mul_one] at this
        exact this
      have hr : cellM cells (j : Int) = x := by
        unfold cellM
        rw [if_pos ⟨by omega, by have := HL.out.1; omega⟩]
        simp [List.getD, hx]
      rw [hr]
      clear hx hcx hr
      go_enter Tryd.func88, Tryd.ntmps88
      go_wp2
      go_ret
      exact ⟨rfl, rfl⟩
    · have hr : cellM cells (j : Int) = 0 := by unfold cellM; rw [if_neg (by have := HL.out.1; omega)]
      rw [hr]
      clear hr
      go_enter Tryd.func88, Tryd.ntmps88
      go_wp2
      go_ret
      exact ⟨rfl, rfl⟩
set_option maxHeartbeats 2000000 in
theorem place_any (A : Option Addr) (n c : Nat) (cells : List Int) (slot size index : Int) (w : World) (hl : cells.length = n) (hn : n ≤ 1000) (hs : 0 ≤ slot ∧ slot ≤ 1000) (hz : 0 ≤ size ∧ size ≤ 1000) (hi : InR index) :
    Calls Tryd.prog 86 #[.int .i64 slot, .int .i64 size, .int .i64 index, .slice A n c] w fun e w' => e = .returned (.int .i64 (placeM slot size index cells)) ∧ w' = w := by
  have HL := Lib.hid hl
  obtain ⟨i1, i2⟩ := hi
  obtain ⟨s1, s2⟩ := hs
  obtain ⟨z1, z2⟩ := hz
  clear hl
  have dneg : decide (slot < 0) = false := by simp; omega
  have dpos : decide (0 ≤ slot) = true := by simp; omega
  by_cases h0 : index < 0
  · have hr : placeM slot size index cells = -1 := by unfold placeM; rw [if_neg (by omega)]
    rw [hr]
    clear hr
    go_enter Tryd.func86, Tryd.ntmps86
    go_wp2
    go_ret
    exact ⟨rfl, rfl⟩
  · by_cases h1 : size ≤ index
    · have hr : placeM slot size index cells = -1 := by unfold placeM; rw [if_neg (by omega)]
      rw [hr]
      clear hr
      go_enter Tryd.func86, Tryd.ntmps86
      go_wp2
      go_ret
      exact ⟨rfl, rfl⟩
    · by_cases h2 : (n : Int) ≤ slot
      · have hr : placeM slot size index cells = -1 := by unfold placeM; rw [if_neg (by have := HL.out; omega)]
        rw [hr]
        clear hr
        go_enter Tryd.func86, Tryd.ntmps86
        go_wp2
        go_ret
        exact ⟨rfl, rfl⟩
      · by_cases h3 : (n : Int) - slot ≤ index
        · have hr : placeM slot size index cells = -1 := by unfold placeM; rw [if_neg (by have := HL.out; omega)]
          rw [hr]
          clear hr
          go_enter Tryd.func86, Tryd.ntmps86
          go_wp2
          go_ret
          exact ⟨rfl, rfl⟩
        · have hr : placeM slot size index cells = slot + index := by unfold placeM; rw [if_pos ⟨by omega, by omega, by have := HL.out; omega⟩]
          rw [hr]
          clear hr
          have d5 : decide ((n : Int) ≤ slot + index) = false := by simp; omega
          go_enter Tryd.func86, Tryd.ntmps86
          go_wp2
          go_ret
          exact ⟨rfl, rfl⟩
def RsE : Nat → Ex → Prop
  | 0, _ => False
  | n + 1, .mk op val name slot size args => (0 ≤ op ∧ op ≤ 22) ∧ InR val ∧ (0 ≤ slot ∧ slot ≤ 1000) ∧ (0 ≤ size ∧ size ≤ 1000) ∧ args.length ≤ 2 ∧ ∀ e ∈ args, RsE n e
structure EnvIn (v : Env) : Prop where
  self : InR v.self
  procs : InR v.procs
  frm : InR v.frm
  value : InR v.value
theorem cellM_in {cells : List Int} (h : ∀ z ∈ cells, InR z) (k : Int) : InR (cellM cells k) := by
  unfold cellM
  split
  · rename_i hk
    obtain ⟨j, rfl⟩ := Int.eq_ofNat_of_zero_le hk.1
    have hj : j < cells.length := by omega
    have e : (Int.ofNat j).toNat = j := rfl
    rw [show ((j : Int)).toNat = j from rfl, List.getD_eq_getElem?_getD, List.getElem?_eq_getElem hj]
    exact h _ (List.getElem_mem hj)
  · exact ⟨by decide, by decide⟩
def argM (n : Nat) (cells : List Int) (v : Env) (args : List Ex) (i : Nat) : Int := match args[i]? with | none => 0 | some e => evM n cells v e
theorem evM_in {cells : List Int} (h : ∀ z ∈ cells, InR z) {v : Env} (hv : EnvIn v) : ∀ (n : Nat) (t : Ex), RsE n t → InR (evM n cells v t)
  | 0, _, h => h.elim
  | n + 1, .mk op val name slot size args, ⟨_, h2, _, _, _, h6⟩ => by
    have ha : ∀ i, InR (argM n cells v args i) := fun i => by
      unfold argM
      split
      · exact ⟨by decide, by decide⟩
      · rename_i e he
        exact evM_in h hv n e (h6 e (List.mem_of_getElem? he))
    show InR (if op = 1 then val else if op = 2 then cellM cells slot else if op = 3 then cellM cells (placeM slot size (argM n cells v args 0) cells) else if op = 4 then v.self else if op = 5 then v.procs
      else if op = 6 then v.frm else if op = 7 then v.value else if op < 8 ∨ 22 < op then 0 else aplM op (argM n cells v args 0) (argM n cells v args 1))
    have := aplM_in (op := op) (ha 0) (ha 1)
    have h0 : InR 0 := ⟨by decide, by decide⟩
    repeat' (first | assumption | exact cellM_in h _ | exact hv.1 | exact hv.2 | exact hv.3 | exact hv.4 | refine ite_inr _ ?_ ?_)
theorem argM_in {cells : List Int} (h : ∀ z ∈ cells, InR z) {v : Env} (hv : EnvIn v) {n : Nat} {args : List Ex} (ha : ∀ e ∈ args, RsE n e) (i : Nat) : InR (argM n cells v args i) := by
  unfold argM
  split
  · exact ⟨by decide, by decide⟩
  · rename_i e he
    exact evM_in h hv n e (ha e (List.mem_of_getElem? he))
def ValOk (n : Nat) : Prop := ∀ (x : ExV) (t : Ex) (S Sc : Nat → Prop) (w : World) (A : Option Addr) (m c : Nat) (cells : List Int) (v : Env), ExOk n S w x t → RsE n t → Recs encZ Sc w (.slice A m c) cells → m ≤ 1000 → (∀ z ∈ cells, InR z) → EnvIn v →
  Calls Tryd.prog 85 #[.agg #[.int .i64 x.op, .int .i64 x.val, .string x.name, .int .i64 x.slot, .int .i64 x.size, .slice x.A x.n x.c], .slice A m c, .agg #[.int .i64 v.self, .int .i64 v.procs, .int .i64 v.frm, .int .i64 v.value]] w fun e w' => e = .returned (.int .i64 (evM n cells v t)) ∧ Below w.heap.size w w'
theorem boxEV (w : World) (x : ExV) (v : Env) : ∃ W, W = (w.alloc (.cells #[.int .i64 x.op, .int .i64 x.val, .string x.name, .int .i64 x.slot, .int .i64 x.size, .slice x.A x.n x.c] 145)).alloc (.cells #[.int .i64 v.self, .int .i64 v.procs, .int .i64 v.frm, .int .i64 v.value] 123) ∧ Below w.heap.size w W ∧ RowKit.Hid (W.heap.size = w.heap.size + 2) ∧
    RowKit.Hid (W.heap[w.heap.size]? = some (.cells #[.int .i64 x.op, .int .i64 x.val, .string x.name, .int .i64 x.slot, .int .i64 x.size, .slice x.A x.n x.c] 145 (0, 0))) ∧ RowKit.Hid (W.heap[w.heap.size + 1]? = some (.cells #[.int .i64 v.self, .int .i64 v.procs, .int .i64 v.frm, .int .i64 v.value] 123 (0, 0))) := by
  refine ⟨_, rfl, ((Below.refl _ w).alloc (Nat.le_refl _) _).alloc (by simp) _, Lib.hid (by simp), Lib.hid ?_, Lib.hid ?_⟩
  · exact (((Below.refl _ _).alloc (Nat.le_refl _) _).block w.heap.size (by simp)).trans (heap_alloc_new w _)
  · have := heap_alloc_new (w.alloc (.cells #[.int .i64 x.op, .int .i64 x.val, .string x.name, .int .i64 x.slot, .int .i64 x.size, .slice x.A x.n x.c] 145)) (.cells #[.int .i64 v.self, .int .i64 v.procs, .int .i64 v.frm, .int .i64 v.value] 123)
    rw [World.size_alloc] at this
    exact this
theorem ag_exs (w : World) : (isAgg 143).run Tryd.prog w = .ok false w := by simp [isAgg, run_underlying Tryd.underlying143]
theorem ld_ex {W w' : World} {b o : Nat} {y : ExV} (hw : Below W.heap.size W w') (hb : b < W.heap.size) (hc : ∀ i u, (encEx y)[i]? = some u → W.cell? ⟨b, o + i, none⟩ = some u) :
    (loadVar 145 ⟨b, o, none⟩).run Tryd.prog w' = .ok (.agg #[.int .i64 y.op, .int .i64 y.val, .string y.name, .int .i64 y.slot, .int .i64 y.size, .slice y.A y.n y.c]) w' := by
  have := run_loadVar_mid (P := Tryd.prog) w' b o 145 (encEx y) _ (fun j v hv => (hw.cell (p := ⟨b, o + j, none⟩) hb).trans (hc j v hv)) Tryd.underlying145 rfl (by kernel_rfl)
  exact this
set_option maxHeartbeats 2000000 in
theorem arg_step (n : Nat) (ih : ValOk n) (x : ExV) (args : List Ex) (i : Nat) (hi : i ≤ 1) (S Sc : Nat → Prop) (w : World) (A : Option Addr) (m c : Nat) (cells : List Int) (v : Env) (hx : LsOk encEx (ExOk n S w) S w (.slice x.A x.n x.c) args) (ha : ∀ e ∈ args, RsE n e) (hl : args.length ≤ 2) (hr : Recs encZ Sc w (.slice A m c) cells) (hm : m ≤ 1000) (hcin : ∀ z ∈ cells, InR z) (hv : EnvIn v) :
    Calls Tryd.prog 89 #[.agg #[.int .i64 x.op, .int .i64 x.val, .string x.name, .int .i64 x.slot, .int .i64 x.size, .slice x.A x.n x.c], .int .i64 (i : Int), .slice A m c, .agg #[.int .i64 v.self, .int .i64 v.procs, .int .i64 v.frm, .int .i64 v.value]] w fun e w' => e = .returned (.int .i64 (argM n cells v args i)) ∧ Below w.heap.size w w' := by
  have hlen := hx.len
  have HL := Lib.hid hlen.1
  have hlc := hlen.2
  have hxn : x.n ≤ 2 := by omega
  clear hlen
  by_cases h0 : i < x.n
  · obtain ⟨b, off, y, u, hA, hS, hb, hu, hok, hcy⟩ := hx.at_ encEx_len (j := i) h0 (by omega)
    obtain ⟨xo, xv, xm, xs, xz, xA, xn, xc⟩ := x
    dsimp only at hA h0 hxn hlc ⊢
    subst hA
    obtain ⟨W, hW, hbW, SW, R0, R1⟩ := boxEV w ⟨xo, xv, xm, xs, xz, some ⟨b, off, none⟩, xn, xc⟩ v
    dsimp only at hW R0
    have har : argM n cells v args i = evM n cells v u := by unfold argM; rw [hu]
    rw [har]
    have q5 : W.cell? ⟨w.heap.size, 5, none⟩ = some (.slice (some ⟨b, off, none⟩) xn xc) := row_cell R0.out 5 _ rfl
    have HU := Lib.hid (ha u (List.mem_of_getElem? hu))
    have HC := Lib.hid (fun k u' h => (hbW.cell (p := ⟨b, off + i * 6 + k, none⟩) hb).trans (hcy k u' h))
    have hbw : b < W.heap.size := by have := SW.out; omega
    have HCI := Lib.hid hcin
    clear hu hcy har ha hcin hx
    go_enter Tryd.func89, Tryd.ntmps89
    go_upto_region 1 with fail
    rw [← hW]
    clear hW
    go_upto_region 3 with fail
    go_wp2_with fail
    refine wp_region_lexL ((fun w' => Below W.heap.size W w')) (by kernel_rfl) (by kernel_rfl) ((Below.refl _ W).drew) ?_
    repeat (first | (refine lexL_q0 rfl ?_; go_big_quiet_step (fail); refine wpQuiet_nil ?_) | (refine lexL_skip0 rfl rfl ?_; simp only [Act.put, List.setIfInBounds_toArray, List.set_cons_succ, List.set_cons_zero]))
    refine lexL_ld (⟨w.heap.size, 5, none⟩) (.slice (some ⟨b, off, none⟩) xn xc) rfl rfl rfl (fun w' hw' => run_ld1 (ag_exs _) (row_cell ((hw'.block w.heap.size (by have := SW.out; omega)).trans R0.out) 5 _ rfl)) ?_
    simp only [Act.put, List.setIfInBounds_toArray, List.set_cons_succ, List.set_cons_zero]
    repeat (first | (refine lexL_q0 rfl ?_; go_big_quiet_step (fail); refine wpQuiet_nil ?_) | (refine lexL_skip0 rfl rfl ?_; simp only [Act.put, List.setIfInBounds_toArray, List.set_cons_succ, List.set_cons_zero]))
    refine lexL_ld (⟨b, off + i * 6, none⟩) (.agg #[.int .i64 y.op, .int .i64 y.val, .string y.name, .int .i64 y.slot, .int .i64 y.size, .slice y.A y.n y.c]) rfl rfl rfl (fun w' hw' => ld_ex hw' hbw HC.out) ?_
    simp only [Act.put, List.setIfInBounds_toArray, List.set_cons_succ, List.set_cons_zero]
    repeat (first | (refine lexL_q0 rfl ?_; go_big_quiet_step (fail); refine wpQuiet_nil ?_) | (refine lexL_skip0 rfl rfl ?_; simp only [Act.put, List.setIfInBounds_toArray, List.set_cons_succ, List.set_cons_zero]))
    refine lexL_ld (⟨w.heap.size + 1, 0, none⟩) (.agg #[.int .i64 v.self, .int .i64 v.procs, .int .i64 v.frm, .int .i64 v.value]) rfl rfl rfl (fun w' hw' => run_ld_block ((hw'.block (w.heap.size + 1) (by have := SW.out; omega)).trans R1.out) Tryd.underlying123 rfl (by kernel_rfl)) ?_
    simp only [Act.put, List.setIfInBounds_toArray, List.set_cons_succ, List.set_cons_zero]
    repeat (first | (refine lexL_q0 rfl ?_; go_big_quiet_step (fail); refine wpQuiet_nil ?_) | (refine lexL_skip0 rfl rfl ?_; simp only [Act.put, List.setIfInBounds_toArray, List.set_cons_succ, List.set_cons_zero]))
    refine lexL_e rfl ?_
    go_wp2_with fail
    refine (ih y u _ _ _ A m c cells v (ExOk.keep (Keep.of_below (Below.ext hbW (Below.refl _ W).drew)) _ _ _ hok) HU.out ((hr.ext hbW).ext (Below.refl _ W).drew) hm HCI.out hv).mono ?_
    rintro e w2 ⟨rfl, hb2⟩
    have y2 := Below.ext (Below.refl _ W).drew hb2
    go_wp2_with fail
    refine lexL_go (y2) ?_
    repeat (first | (refine lexL_q0 rfl ?_; go_big_quiet_step (fail); refine wpQuiet_nil ?_) | (refine lexL_skip0 rfl rfl ?_; simp only [Act.put, List.setIfInBounds_toArray, List.set_cons_succ, List.set_cons_zero]))
    refine lexL_nil ?_
    go_wp2_with fail
    go_ret
    exact ⟨rfl, Below.ext hbW y2⟩
  · have har : argM n cells v args i = 0 := by
      unfold argM
      rw [List.getElem?_eq_none (by have := HL.out; omega)]
    rw [har]
    clear har
    obtain ⟨W, hW, hbW, SW, R0, R1⟩ := boxEV w x v
    have q5 : W.cell? ⟨w.heap.size, 5, none⟩ = some (.slice x.A x.n x.c) := row_cell R0.out 5 _ rfl
    go_enter Tryd.func89, Tryd.ntmps89
    go_upto_region 1 with fail
    rw [← hW]
    clear hW
    go_wp2
    go_ret
    exact ⟨rfl, hbW⟩
theorem evM_mk (n : Nat) (cells : List Int) (v : Env) (op val : Int) (name : ByteArray) (slot size : Int) (args : List Ex) : evM (n + 1) cells v (.mk op val name slot size args) =
    if op = 1 then val else if op = 2 then cellM cells slot else if op = 3 then cellM cells (placeM slot size (argM n cells v args 0) cells) else if op = 4 then v.self else if op = 5 then v.procs
      else if op = 6 then v.frm else if op = 7 then v.value else if op < 8 ∨ 22 < op then 0 else aplM op (argM n cells v args 0) (argM n cells v args 1) := rfl
theorem placeM_in {slot size index : Int} {cells : List Int} (hs : 0 ≤ slot ∧ slot ≤ 1000) (hz : 0 ≤ size ∧ size ≤ 1000) : InR (placeM slot size index cells) := by
  unfold placeM
  split
  · exact ⟨by omega, by omega⟩
  · exact ⟨by decide, by decide⟩
set_option maxHeartbeats 8000000 in
theorem value_step (n : Nat) (ih : ValOk n) : ValOk (n + 1) := by
  intro x t S Sc w A m c cells v hok hrs hr hm hcin hv
  obtain ⟨op, val, name, slot, size, args⟩ := t
  obtain ⟨rfl, rfl, rfl, rfl, rfl, hargs⟩ := hok
  obtain ⟨hop, hval, hslot, hsize, hal, hall⟩ := hrs
  obtain ⟨W, hW, hbW, SW, R0, R1⟩ := boxEV w x v
  have HR := Lib.hid hr
  have HCI := Lib.hid hcin
  have HALL := Lib.hid hall
  have hargsW := fun (w' : World) (hw' : Below w.heap.size w w') => hargs.keep (Keep.of_below hw') (fun y u h => ExOk.keep (Keep.of_below hw') n y u h)
  have HAR := Lib.hid (fun (w' : World) (hw' : Below w.heap.size w w') (i : Nat) (hi : i ≤ 1) => arg_step n ih x args i hi S Sc w' A m c cells v (hargsW w' hw') hall hal (hr.ext hw') hm hcin hv)
  have hlc := hr.len
  have HLC := Lib.hid hlc.1
  clear hargs hargsW hr hcin hall hlc
  rw [evM_mk]
  have q0 : W.cell? ⟨w.heap.size, 0, none⟩ = some (.int .i64 x.op) := row_cell R0.out 0 _ rfl
  have q1 : W.cell? ⟨w.heap.size, 1, none⟩ = some (.int .i64 x.val) := row_cell R0.out 1 _ rfl
  have q3 : W.cell? ⟨w.heap.size, 3, none⟩ = some (.int .i64 x.slot) := row_cell R0.out 3 _ rfl
  have p0 : W.cell? ⟨w.heap.size + 1, 0, none⟩ = some (.int .i64 v.self) := row_cell R1.out 0 _ rfl
  have p1 : W.cell? ⟨w.heap.size + 1, 1, none⟩ = some (.int .i64 v.procs) := row_cell R1.out 1 _ rfl
  have p2 : W.cell? ⟨w.heap.size + 1, 2, none⟩ = some (.int .i64 v.frm) := row_cell R1.out 2 _ rfl
  have p3 : W.cell? ⟨w.heap.size + 1, 3, none⟩ = some (.int .i64 v.value) := row_cell R1.out 3 _ rfl
  have hxs : InR x.slot := ⟨by omega, by omega⟩
  have hxo : InR x.op := ⟨by omega, by omega⟩
  by_cases h1 : x.op = 1
  · have e1 : (x.op == 1) = true := by simpa using h1
    rw [if_pos h1]
    clear h1
    go_enter Tryd.func85, Tryd.ntmps85
    go_upto_region 1 with fail
    try rw [← hW]
    clear hW
    go_wp2
    go_ret
    exact ⟨rfl, hbW⟩
  have e1 : (x.op == 1) = false := by simpa using h1
  rw [if_neg h1]
  by_cases h2 : x.op = 2
  · have e2 : (x.op == 2) = true := by simpa using h2
    rw [if_pos h2]
    clear h2
    go_enter Tryd.func85, Tryd.ntmps85
    go_upto_region 1 with fail
    try rw [← hW]
    clear hW
    go_upto_region 5 with fail
    go_wp2_with fail
    refine (cell_any A m c cells x.slot _ W (HR.out.ext hbW) hxs).mono ?_
    rintro e w2 ⟨rfl, rfl⟩
    go_wp2
    go_ret
    exact ⟨rfl, hbW⟩
  have e2 : (x.op == 2) = false := by simpa using h2
  rw [if_neg h2]
  by_cases h3 : x.op = 3
  · have e3 : (x.op == 3) = true := by simpa using h3
    rw [if_pos h3]
    clear h3
    go_enter Tryd.func85, Tryd.ntmps85
    go_upto_region 1 with fail
    try rw [← hW]
    clear hW
    have K0 := Lib.hid (HAR.out W.drew (Below.ext hbW (Below.refl _ W).drew) 0 (by omega))
    go_upto_region 7 with fail
    go_wp2_with fail
    refine wp_region_lexL ((fun w' => Below W.heap.size W w')) (by kernel_rfl) (by kernel_rfl) ((Below.refl _ W).drew) ?_
    repeat (first | (refine lexL_q0 rfl ?_; go_big_quiet_step (fail); refine wpQuiet_nil ?_) | (refine lexL_skip0 rfl rfl ?_; simp only [Act.put, List.setIfInBounds_toArray, List.set_cons_succ, List.set_cons_zero]))
    refine lexL_ld (⟨w.heap.size, 3, none⟩) (.int .i64 x.slot) rfl rfl rfl (fun w' hw' => run_ld1 (ag_int _) (row_cell ((hw'.block w.heap.size (by have := SW.out; omega)).trans R0.out) 3 _ rfl)) ?_
    simp only [Act.put, List.setIfInBounds_toArray, List.set_cons_succ, List.set_cons_zero]
    repeat (first | (refine lexL_q0 rfl ?_; go_big_quiet_step (fail); refine wpQuiet_nil ?_) | (refine lexL_skip0 rfl rfl ?_; simp only [Act.put, List.setIfInBounds_toArray, List.set_cons_succ, List.set_cons_zero]))
    refine lexL_ld (⟨w.heap.size, 4, none⟩) (.int .i64 x.size) rfl rfl rfl (fun w' hw' => run_ld1 (ag_int _) (row_cell ((hw'.block w.heap.size (by have := SW.out; omega)).trans R0.out) 4 _ rfl)) ?_
    simp only [Act.put, List.setIfInBounds_toArray, List.set_cons_succ, List.set_cons_zero]
    repeat (first | (refine lexL_q0 rfl ?_; go_big_quiet_step (fail); refine wpQuiet_nil ?_) | (refine lexL_skip0 rfl rfl ?_; simp only [Act.put, List.setIfInBounds_toArray, List.set_cons_succ, List.set_cons_zero]))
    refine lexL_ld (⟨w.heap.size, 0, none⟩) (.agg #[.int .i64 x.op, .int .i64 x.val, .string x.name, .int .i64 x.slot, .int .i64 x.size, .slice x.A x.n x.c]) rfl rfl rfl (fun w' hw' => run_ld_block ((hw'.block w.heap.size (by have := SW.out; omega)).trans R0.out) Tryd.underlying145 rfl (by kernel_rfl)) ?_
    simp only [Act.put, List.setIfInBounds_toArray, List.set_cons_succ, List.set_cons_zero]
    repeat (first | (refine lexL_q0 rfl ?_; go_big_quiet_step (fail); refine wpQuiet_nil ?_) | (refine lexL_skip0 rfl rfl ?_; simp only [Act.put, List.setIfInBounds_toArray, List.set_cons_succ, List.set_cons_zero]))
    refine lexL_ld (⟨w.heap.size + 1, 0, none⟩) (.agg #[.int .i64 v.self, .int .i64 v.procs, .int .i64 v.frm, .int .i64 v.value]) rfl rfl rfl (fun w' hw' => run_ld_block ((hw'.block (w.heap.size + 1) (by have := SW.out; omega)).trans R1.out) Tryd.underlying123 rfl (by kernel_rfl)) ?_
    simp only [Act.put, List.setIfInBounds_toArray, List.set_cons_succ, List.set_cons_zero]
    repeat (first | (refine lexL_q0 rfl ?_; go_big_quiet_step (fail); refine wpQuiet_nil ?_) | (refine lexL_skip0 rfl rfl ?_; simp only [Act.put, List.setIfInBounds_toArray, List.set_cons_succ, List.set_cons_zero]))
    refine lexL_e rfl ?_
    go_wp2_with fail
    refine K0.out.mono ?_
    rintro e w2 ⟨rfl, hb2⟩
    have y2 := Below.ext (Below.refl _ W).drew hb2
    go_wp2_with fail
    refine lexL_go (y2) ?_
    repeat (first | (refine lexL_q0 rfl ?_; go_big_quiet_step (fail); refine wpQuiet_nil ?_) | (refine lexL_skip0 rfl rfl ?_; simp only [Act.put, List.setIfInBounds_toArray, List.set_cons_succ, List.set_cons_zero]))
    refine lexL_e rfl ?_
    go_wp2_with fail
    refine (place_any A m c cells x.slot x.size _ w2 HLC.out hm hslot hsize (argM_in HCI.out hv HALL.out 0)).mono ?_
    rintro e w3 ⟨rfl, rfl⟩
    go_wp2_with fail
    refine lexL_go (y2) ?_
    repeat (first | (refine lexL_q0 rfl ?_; go_big_quiet_step (fail); refine wpQuiet_nil ?_) | (refine lexL_skip0 rfl rfl ?_; simp only [Act.put, List.setIfInBounds_toArray, List.set_cons_succ, List.set_cons_zero]))
    refine lexL_e rfl ?_
    go_wp2_with fail
    refine (cell_any A m c cells _ _ w3 (HR.out.ext (Below.ext hbW y2)) (placeM_in hslot hsize)).mono ?_
    rintro e w4 ⟨rfl, rfl⟩
    go_wp2_with fail
    refine lexL_go (y2) ?_
    repeat (first | (refine lexL_q0 rfl ?_; go_big_quiet_step (fail); refine wpQuiet_nil ?_) | (refine lexL_skip0 rfl rfl ?_; simp only [Act.put, List.setIfInBounds_toArray, List.set_cons_succ, List.set_cons_zero]))
    refine lexL_nil ?_
    go_wp2_with fail
    go_ret
    exact ⟨rfl, Below.ext hbW y2⟩
  have e3 : (x.op == 3) = false := by simpa using h3
  rw [if_neg h3]
  by_cases h4 : x.op = 4
  · have e4 : (x.op == 4) = true := by simpa using h4
    rw [if_pos h4]
    clear h4
    go_enter Tryd.func85, Tryd.ntmps85
    go_upto_region 1 with fail
    try rw [← hW]
    clear hW
    go_wp2
    go_ret
    exact ⟨rfl, hbW⟩
  have e4 : (x.op == 4) = false := by simpa using h4
  rw [if_neg h4]
  by_cases h5 : x.op = 5
  · have e5 : (x.op == 5) = true := by simpa using h5
    rw [if_pos h5]
    clear h5
    go_enter Tryd.func85, Tryd.ntmps85
    go_upto_region 1 with fail
    try rw [← hW]
    clear hW
    go_wp2
    go_ret
    exact ⟨rfl, hbW⟩
  have e5 : (x.op == 5) = false := by simpa using h5
  rw [if_neg h5]
  by_cases h6 : x.op = 6
  · have e6 : (x.op == 6) = true := by simpa using h6
    rw [if_pos h6]
    clear h6
    go_enter Tryd.func85, Tryd.ntmps85
    go_upto_region 1 with fail
    try rw [← hW]
    clear hW
    go_wp2
    go_ret
    exact ⟨rfl, hbW⟩
  have e6 : (x.op == 6) = false := by simpa using h6
  rw [if_neg h6]
  by_cases h7 : x.op = 7
  · have e7 : (x.op == 7) = true := by simpa using h7
    rw [if_pos h7]
    clear h7
    go_enter Tryd.func85, Tryd.ntmps85
    go_upto_region 1 with fail
    try rw [← hW]
    clear hW
    go_wp2
    go_ret
    exact ⟨rfl, hbW⟩
  have e7 : (x.op == 7) = false := by simpa using h7
  rw [if_neg h7]
  by_cases h8 : x.op < 8
  · have e8 : decide (x.op < 8) = true := by simpa using h8
    rw [if_pos (.inl h8)]
    go_enter Tryd.func85, Tryd.ntmps85
    go_upto_region 1 with fail
    try rw [← hW]
    clear hW
    go_wp2
    go_ret
    exact ⟨rfl, hbW⟩
  · have e8 : decide (x.op < 8) = false := by simpa using h8
    have e22 : decide (22 < x.op) = false := by simp; omega
    rw [if_neg (by omega)]
    go_enter Tryd.func85, Tryd.ntmps85
    go_upto_region 1 with fail
    try rw [← hW]
    clear hW
    have K0 := Lib.hid (HAR.out W.drew (Below.ext hbW (Below.refl _ W).drew) 0 (by omega))
    go_upto_region 18 with fail
    go_wp2_with fail
    refine wp_region_lexL ((fun w' => Below W.heap.size W w')) (by kernel_rfl) (by kernel_rfl) ((Below.refl _ W).drew) ?_
    repeat (first | (refine lexL_q0 rfl ?_; go_big_quiet_step (fail); refine wpQuiet_nil ?_) | (refine lexL_skip0 rfl rfl ?_; simp only [Act.put, List.setIfInBounds_toArray, List.set_cons_succ, List.set_cons_zero]))
    refine lexL_ld (⟨w.heap.size, 0, none⟩) (.int .i64 x.op) rfl rfl rfl (fun w' hw' => run_ld1 (ag_int _) (row_cell ((hw'.block w.heap.size (by have := SW.out; omega)).trans R0.out) 0 _ rfl)) ?_
    simp only [Act.put, List.setIfInBounds_toArray, List.set_cons_succ, List.set_cons_zero]
    repeat (first | (refine lexL_q0 rfl ?_; go_big_quiet_step (fail); refine wpQuiet_nil ?_) | (refine lexL_skip0 rfl rfl ?_; simp only [Act.put, List.setIfInBounds_toArray, List.set_cons_succ, List.set_cons_zero]))
    refine lexL_ld (⟨w.heap.size, 0, none⟩) (.agg #[.int .i64 x.op, .int .i64 x.val, .string x.name, .int .i64 x.slot, .int .i64 x.size, .slice x.A x.n x.c]) rfl rfl rfl (fun w' hw' => run_ld_block ((hw'.block w.heap.size (by have := SW.out; omega)).trans R0.out) Tryd.underlying145 rfl (by kernel_rfl)) ?_
    simp only [Act.put, List.setIfInBounds_toArray, List.set_cons_succ, List.set_cons_zero]
    repeat (first | (refine lexL_q0 rfl ?_; go_big_quiet_step (fail); refine wpQuiet_nil ?_) | (refine lexL_skip0 rfl rfl ?_; simp only [Act.put, List.setIfInBounds_toArray, List.set_cons_succ, List.set_cons_zero]))
    refine lexL_ld (⟨w.heap.size + 1, 0, none⟩) (.agg #[.int .i64 v.self, .int .i64 v.procs, .int .i64 v.frm, .int .i64 v.value]) rfl rfl rfl (fun w' hw' => run_ld_block ((hw'.block (w.heap.size + 1) (by have := SW.out; omega)).trans R1.out) Tryd.underlying123 rfl (by kernel_rfl)) ?_
    simp only [Act.put, List.setIfInBounds_toArray, List.set_cons_succ, List.set_cons_zero]
    repeat (first | (refine lexL_q0 rfl ?_; go_big_quiet_step (fail); refine wpQuiet_nil ?_) | (refine lexL_skip0 rfl rfl ?_; simp only [Act.put, List.setIfInBounds_toArray, List.set_cons_succ, List.set_cons_zero]))
    refine lexL_e rfl ?_
    go_wp2_with fail
    refine K0.out.mono ?_
    rintro e w2 ⟨rfl, hb2⟩
    have y2 := Below.ext (Below.refl _ W).drew hb2
    have K1 := Lib.hid (HAR.out w2 (Below.ext hbW y2) 1 (by omega))
    go_wp2_with fail
    refine lexL_go (y2) ?_
    repeat (first | (refine lexL_q0 rfl ?_; go_big_quiet_step (fail); refine wpQuiet_nil ?_) | (refine lexL_skip0 rfl rfl ?_; simp only [Act.put, List.setIfInBounds_toArray, List.set_cons_succ, List.set_cons_zero]))
    refine lexL_ld (⟨w.heap.size, 0, none⟩) (.agg #[.int .i64 x.op, .int .i64 x.val, .string x.name, .int .i64 x.slot, .int .i64 x.size, .slice x.A x.n x.c]) rfl rfl rfl (fun w' hw' => run_ld_block ((hw'.block w.heap.size (by have := SW.out; omega)).trans R0.out) Tryd.underlying145 rfl (by kernel_rfl)) ?_
    simp only [Act.put, List.setIfInBounds_toArray, List.set_cons_succ, List.set_cons_zero]
    repeat (first | (refine lexL_q0 rfl ?_; go_big_quiet_step (fail); refine wpQuiet_nil ?_) | (refine lexL_skip0 rfl rfl ?_; simp only [Act.put, List.setIfInBounds_toArray, List.set_cons_succ, List.set_cons_zero]))
    refine lexL_ld (⟨w.heap.size + 1, 0, none⟩) (.agg #[.int .i64 v.self, .int .i64 v.procs, .int .i64 v.frm, .int .i64 v.value]) rfl rfl rfl (fun w' hw' => run_ld_block ((hw'.block (w.heap.size + 1) (by have := SW.out; omega)).trans R1.out) Tryd.underlying123 rfl (by kernel_rfl)) ?_
    simp only [Act.put, List.setIfInBounds_toArray, List.set_cons_succ, List.set_cons_zero]
    repeat (first | (refine lexL_q0 rfl ?_; go_big_quiet_step (fail); refine wpQuiet_nil ?_) | (refine lexL_skip0 rfl rfl ?_; simp only [Act.put, List.setIfInBounds_toArray, List.set_cons_succ, List.set_cons_zero]))
    refine lexL_e rfl ?_
    go_wp2_with fail
    refine K1.out.mono ?_
    rintro e w3 ⟨rfl, hb3⟩
    have y3 := Below.ext y2 hb3
    go_wp2_with fail
    refine lexL_go (y3) ?_
    repeat (first | (refine lexL_q0 rfl ?_; go_big_quiet_step (fail); refine wpQuiet_nil ?_) | (refine lexL_skip0 rfl rfl ?_; simp only [Act.put, List.setIfInBounds_toArray, List.set_cons_succ, List.set_cons_zero]))
    refine lexL_e rfl ?_
    go_wp2_with fail
    refine (apply_any x.op _ _ w3 hop (argM_in HCI.out hv HALL.out 0) (argM_in HCI.out hv HALL.out 1)).mono ?_
    rintro e w4 ⟨rfl, rfl⟩
    go_wp2_with fail
    refine lexL_go (y3) ?_
    repeat (first | (refine lexL_q0 rfl ?_; go_big_quiet_step (fail); refine wpQuiet_nil ?_) | (refine lexL_skip0 rfl rfl ?_; simp only [Act.put, List.setIfInBounds_toArray, List.set_cons_succ, List.set_cons_zero]))
    refine lexL_nil ?_
    go_wp2_with fail
    go_ret
    exact ⟨rfl, Below.ext hbW y3⟩
theorem value_any : ∀ (n : Nat), ValOk n
  | 0 => fun x t S Sc w A m c cells v h => h.elim
  | n + 1 => value_step n (value_any n)
end Go.Proofs.YtiblijmngokcgaaDoor
