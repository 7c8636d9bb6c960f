import Derived.Test.YtiblijmngokcgaaDoorRunLS
import Derived.Test.YtiblijmngokcgaaDoorFloatS
namespace Go.Proofs.YtiblijmngokcgaaDoor
open Go.RowKit
set_option maxRecDepth 100000
set_option linter.unusedVariables false
set_option linter.unusedSimpArgs false
theorem infoRu : (Tryd.prog.info? 155).map (fun i => (i.zero, i.size, i.bytes)) = some (some (.agg #[.slice none 0 0, .slice none 0 0, .int .i64 0, .int .i64 0, .int .i64 0, .int .i64 0, .int .i64 0]), 7, 88) := by kernel_rfl
theorem alloc_run (ρ : Operand → Value) (o : Oper) (w : World) (ho : o.op = .alloc 155) : (execOp ρ o).run Tryd.prog w = .ok (.value (.pointer (some ⟨w.heap.size, 0, none⟩))) (w.alloc (.cells #[.slice none 0 0, .slice none 0 0, .int .i64 0, .int .i64 0, .int .i64 0, .int .i64 0, .int .i64 0] 155)) := by
  obtain ⟨i, hi, hz, _⟩ := info_parts infoRu
  exact run_alloc_op hi hz ρ o w ho
theorem infoInt : (Tryd.prog.info? 3).map (fun i => (i.zero, i.size, i.bytes)) = some (some (.int .i64 0), 1, 8) := by kernel_rfl
set_option maxHeartbeats 4000000 in
theorem run_any (n : Nat) (w : World) (A : Option Addr) (m c : Nat) (ts : List Sm) (Ac : Option Addr) (nc cc : Nat) (cells : List Int) (Sc : Nat → Prop) (v : Env) (hL : LsOk encSm (SmOk n (· < w.heap.size) w) (· < w.heap.size) w (.slice A m c) ts) (hrs : ∀ s ∈ ts, RsS n s) (hc : Recs encZ Sc w (.slice Ac nc cc) cells) (hnc : nc ≤ 1000) (hci : ∀ z ∈ cells, InR z) (hv : EnvIn v) :
    Calls Tryd.prog 65 #[.slice A m c, .slice Ac nc cc, .agg #[.int .i64 v.self, .int .i64 v.procs, .int .i64 v.frm, .int .i64 v.value]] w fun e w' => ∃ A1 n1 c1 A2 n2 c2 r' ok, e = .returned (.tuple #[.slice A1 n1 c1, .slice A2 n2 c2, .int .i64 (r'.used : Int)]) ∧ RunL v ts ⟨cells, [], 0⟩ r' ok ∧ Recs encZ (w.heap.size ≤ ·) w' (.slice A1 n1 c1) r'.cells ∧ Recs encEf (w.heap.size ≤ ·) w' (.slice A2 n2 c2) r'.l ∧ n1 ≤ 1000 ∧ n2 ≤ 8 ∧ (∀ z ∈ r'.cells, InR z) ∧ (∀ e ∈ r'.l, (e.kind = 1 ∨ e.kind = 2) ∧ InR e.to ∧ InR e.value) ∧ Below w.heap.size w w' := by
  obtain ⟨W, hW, bW, kW, SW, R0⟩ := boxD w w #[.int .i64 v.self, .int .i64 v.procs, .int .i64 v.frm, .int .i64 v.value] 123 (Below.refl _ _)
  have hbE : w.heap.size < W.heap.size := by have := SW.out; omega
  have hcl := hc.len
  have HCL := Lib.hid hcl.1
  have hcc := hcl.2
  obtain ⟨base, hbs⟩ : ∃ b, b = W.heap.size := ⟨_, rfl⟩
  have HBS := Lib.hid hbs
  have HLW := Lib.hid (hL.keep (w' := W) (keepB bW) (fun y u h => SmOk.keep (keepB bW) n y u h))
  have hcW := hc.ext bW
  clear hcl hbs hL hc
  go_enter Tryd.func65, Tryd.ntmps65
  go_upto_region 1 with fail
  try rw [← hW]
  clear hW
  try (go_wp2_with fail)
  refine wp_region_float (fun w' => w'.heap[w.heap.size]? = some (.cells #[.int .i64 v.self, .int .i64 v.procs, .int .i64 v.frm, .int .i64 v.value] 123 (0, 0))) 4 9 155 (.cells #[.slice none 0 0, .slice none 0 0, .int .i64 0, .int .i64 0, .int .i64 0, .int .i64 0, .int .i64 0] 155) (by kernel_rfl) (by kernel_rfl) (alloc_run) (fun w' h => row_alloc h _) (R0.out) ?_
  repeat (first | (refine mgL_q0 rfl rfl ?_; go_big_quiet_step (fail); refine wpQuiet_nil ?_) | (refine mgL_skip0 rfl rfl rfl ?_; simp only [Act.put, List.setIfInBounds_toArray, List.set_cons_succ, List.set_cons_zero]))
  refine mgL_e rfl rfl (fun m1 v1 hE1 => ?_)
  have x1 := hE1.bx (Bx.none_ W.heap.size _ _) (Nat.le_refl _)
  have y1 : Below W.heap.size W v1 := Below.ext (Below.refl _ W).drew hE1.below
  have s1 := y1.size
  go_wp2_with (refine wpList_appR (o := ⟨some 11, _, _, _, _, _⟩) encZ_len encZ_one (.int .i64 0) 8 _ _ 26 3 base ([] : List Int) cells Ac nc cc (.slice none 0 0) nc rfl rfl Tryd.underlying26 infoInt rfl (by omega) rfl rfl (OwnR.nil_ _ _ _) (hcW.ext y1) (by simp) (by simp; omega) (by simp; omega) (by have := HBS.out; omega) ?_; intro A1 c1 v2 hO2 hgr2 hat2 hc11 hc12)
  rw [List.nil_append] at hO2
  have b12 : Below v1.heap.size v1 v2 := (Below.refl v1.heap.size v1).grown hgr2 (Nat.le_refl _) (fun k hk => by cases hk)
  have x2 := x1.ext b12
  have y2 := Below.ext y1 b12
  have KR2 := Lib.hid ((y2.block w.heap.size hbE).trans R0.out)
  have hown2 : ∀ b, (Value.slice A1 nc c1).ownBlock = some b → v1.heap.size ≤ b ∧ b < v2.heap.size := fun b e => ⟨by
    rcases hat2 with h | h
    · rw [h] at e; cases e
    · rw [h] at e; cases e; exact Nat.le_refl _, (World.ownsRow.lt hO2 b e).2⟩
  go_wp2_with fail
  refine mgL_go (KR2.out) ?_
  repeat (first | (refine mgL_q0 rfl rfl ?_; go_big_quiet_step (fail); refine wpQuiet_nil ?_) | (refine mgL_skip0 rfl rfl rfl ?_; simp only [Act.put, List.setIfInBounds_toArray, List.set_cons_succ, List.set_cons_zero]))
  refine mgL_ld (⟨w.heap.size, 0, none⟩) (.agg #[.int .i64 v.self, .int .i64 v.procs, .int .i64 v.frm, .int .i64 v.value]) rfl rfl rfl rfl (fun w' hw' => run_ld_block hw' Tryd.underlying123 rfl (by kernel_rfl)) ?_
  simp only [Act.put, List.setIfInBounds_toArray, List.set_cons_succ, List.set_cons_zero]
  repeat (first | (refine mgL_q0 rfl rfl ?_; go_big_quiet_step (fail); refine wpQuiet_nil ?_) | (refine mgL_skip0 rfl rfl rfl ?_; simp only [Act.put, List.setIfInBounds_toArray, List.set_cons_succ, List.set_cons_zero]))
  refine mgL_e rfl rfl (fun m3 v3 hE3 => ?_)
  go_wp2_with fail
  have x3 := hE3.bx x2 y2.size
  have y3 := Below.ext y2 hE3.below
  have KR3 := Lib.hid ((y3.block w.heap.size hbE).trans R0.out)
  have hO3 := hO2.ext hE3.below
  have s3 := hE3.below.size
  go_wp2_with fail
  refine mgL_go (KR3.out) ?_
  repeat (first | (refine mgL_q0 rfl rfl ?_; go_big_quiet_step (fail); refine wpQuiet_nil ?_) | (refine mgL_skip0 rfl rfl rfl ?_; simp only [Act.put, List.setIfInBounds_toArray, List.set_cons_succ, List.set_cons_zero]))
  refine mgL_x rfl (fun X v9 hE9 => ?_)
  simp only [Act.put, List.setIfInBounds_toArray, List.set_cons_succ, List.set_cons_zero]
  repeat (first | (refine mgL_q0 rfl rfl ?_; go_big_quiet_step (fail); refine wpQuiet_nil ?_) | (refine mgL_skip0 rfl rfl rfl ?_; simp only [Act.put, List.setIfInBounds_toArray, List.set_cons_succ, List.set_cons_zero]))
  have x9 := hE9.bx x3 y3.size
  have y9 := Below.ext y3 hE9.below
  have rowX := (x9 X rfl).2
  have hWX := (x9 X rfl).1
  have hO9 := hO3.ext hE9.below
  have hneX : (Value.slice A1 nc c1).ownBlock ≠ some X := fun e => by
    obtain ⟨h1, h2⟩ := hown2 X e
    exact hE9.ne (by omega) (hE3.ne h2 (x1.lt h1)) rfl
  refine mgL_d rfl rfl ?_
  refine wpList_store_row rfl 155 _ _ rfl X 155 _ _ rfl rfl rowX (by kernel_rfl) rfl (by simp [Value.oneCell']) ?_
  obtain ⟨V, hV⟩ : ∃ V, V = v9.setRow X #[.slice A1 nc c1, .slice none 0 0, .int .i64 v.self, .int .i64 v.procs, .int .i64 v.frm, .int .i64 v.value, .int .i64 0] := ⟨_, rfl⟩
  have gV : v9.grownBy V (some X) := by rw [hV]; exact grown_setRow _ _ _
  have yV : Below W.heap.size W V := by rw [hV]; exact Below.setRow y9 hWX _
  have KRV := Lib.hid ((yV.block w.heap.size hbE).trans R0.out)
  have hrowV : V.heap[X]? = some (.cells #[.slice A1 nc c1, .slice none 0 0, .int .i64 v.self, .int .i64 v.procs, .int .i64 v.frm, .int .i64 v.value, .int .i64 0] 155 (0, 0)) := by rw [hV]; exact setRow_heap _ _ _ _ _ _ rowX
  have hsV := yV.size
  have hMV : RunM V X base v ⟨cells, [], 0⟩ A1 nc c1 none 0 0 := ⟨hrowV, hO9.kept gV (.inr hneX), OwnR.nil_ _ _ _, by have := HBS.out; omega, hneX, (by intro e; cases e), (fun o ho e => by cases e), hnc, by omega, by show 0 ≤ 400; omega, hci, (by intro e he; cases he), by have := HBS.out; omega⟩
  have hbaseW : ∀ b, b < w.heap.size → b < base := fun b h => by have := HBS.out; omega
  have hLV := (HLW.out.keep (w' := V) (S := (· < w.heap.size)) (fun q hq h => yV.block q hq) (fun y u h => SmOk.keep (fun q hq h => yV.block q hq) n y u h)).mono (S' := (· < base)) (fun b _ h => hbaseW b h) (fun y u h => SmOk.mono (fun b _ h => hbaseW b h) n y u h)
  have hlist := list_any n V X base v ⟨cells, [], 0⟩ (fun _ => False) A m c ts ⟨_, _, _, _, _, _, hMV, fun q hq => hq.elim⟩ hv hLV hrs
  have Hlist := Lib.hid hlist
  rw [← hV]
  clear hV gV rowX hMV hrowV hlist hLV hO2 hO3 hO9 x1 x2 x3 x9 hE1 hE3 hE9 hneX hown2 hat2 y1 y2 y3 y9 KR2 KR3 b12 hgr2
  refine mgL_go KRV.out ?_
  simp only [Act.put]
  repeat (first | (refine mgL_q0 rfl rfl ?_; go_big_quiet_step (fail); refine wpQuiet_nil ?_) | (refine mgL_skip0 rfl rfl rfl ?_; simp only [Act.put, List.setIfInBounds_toArray, List.set_cons_succ, List.set_cons_zero]))
  refine mgL_nil ?_
  go_upto_region 2 with fail
  go_wp2_with fail
  refine Hlist.out.mono ?_
  rintro e v5 ⟨r', ok, rfl, hrun, ⟨Ac2, nc2, cc2, Al2, nl2, cl2, hM5, _⟩, hb5, _⟩
  have R5 := Lib.hid hM5.row
  go_upto_region 3 with fail
  go_wp2_with fail
  refine wp_region_lexL ((fun w' => w'.heap[X]? = some (.cells #[.slice Ac2 nc2 cc2, .slice Al2 nl2 cl2, .int .i64 v.self, .int .i64 v.procs, .int .i64 v.frm, .int .i64 v.value, .int .i64 (r'.used : Int)] 155 (0, 0)))) (by kernel_rfl) (by kernel_rfl) (R5.out) ?_
  repeat (first | (refine lexL_q0 rfl ?_; go_big_quiet_step (fail); refine wpQuiet_nil ?_) | (refine lexL_skip0 rfl rfl ?_; simp only [Act.put, List.setIfInBounds_toArray, List.set_cons_succ, List.set_cons_zero]))
  refine lexL_ld (⟨X, 0, none⟩) (.slice Ac2 nc2 cc2) rfl rfl rfl (fun w' hw' => run_ld1 (ag_ints _) (row_cell hw' 0 _ rfl)) ?_
  simp only [Act.put, List.setIfInBounds_toArray, List.set_cons_succ, List.set_cons_zero]
  repeat (first | (refine lexL_q0 rfl ?_; go_big_quiet_step (fail); refine wpQuiet_nil ?_) | (refine lexL_skip0 rfl rfl ?_; simp only [Act.put, List.setIfInBounds_toArray, List.set_cons_succ, List.set_cons_zero]))
  refine lexL_ld (⟨X, 1, none⟩) (.slice Al2 nl2 cl2) rfl rfl rfl (fun w' hw' => run_ld1 (ag_effs _) (row_cell hw' 1 _ rfl)) ?_
  simp only [Act.put, List.setIfInBounds_toArray, List.set_cons_succ, List.set_cons_zero]
  repeat (first | (refine lexL_q0 rfl ?_; go_big_quiet_step (fail); refine wpQuiet_nil ?_) | (refine lexL_skip0 rfl rfl ?_; simp only [Act.put, List.setIfInBounds_toArray, List.set_cons_succ, List.set_cons_zero]))
  refine lexL_ld (⟨X, 6, none⟩) (.int .i64 (r'.used : Int)) rfl rfl rfl (fun w' hw' => run_ld1 (ag_int _) (row_cell hw' 6 _ rfl)) ?_
  simp only [Act.put, List.setIfInBounds_toArray, List.set_cons_succ, List.set_cons_zero]
  repeat (first | (refine lexL_q0 rfl ?_; go_big_quiet_step (fail); refine wpQuiet_nil ?_) | (refine lexL_skip0 rfl rfl ?_; simp only [Act.put, List.setIfInBounds_toArray, List.set_cons_succ, List.set_cons_zero]))
  refine lexL_nil ?_
  go_wp2_with fail
  go_ret3
  refine ⟨_, _, _, _, _, _, r', ok, rfl, hrun, hM5.cel.recs.mono (fun b _ h => by have := HBS.out; omega), hM5.eff.recs.mono (fun b _ h => by have := HBS.out; omega), hM5.n1, hM5.n2, hM5.ci, hM5.ei, ?_⟩
  exact (bW.trans (yV.mono (by omega))).trans (hb5.mono (by have := HBS.out; omega)) |>.drew
end Go.Proofs.YtiblijmngokcgaaDoor
