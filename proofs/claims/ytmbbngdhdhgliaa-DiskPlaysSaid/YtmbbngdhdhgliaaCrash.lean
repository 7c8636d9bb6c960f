/-
  disk.Crash.
-/
import Derived.Test.YtmbbngdhdhgliaaSurv
import Derived.Test.YtmbbngdhdhgliaaDiskB
namespace Go.Proofs.Ytmbbngdhdhgliaa
open Go.RowKit
set_option maxRecDepth 100000
set_option linter.unusedVariables false

/-- a tear: how many pending bytes are kept, and a slice of lost sectors -/
structure TV where
  keep : Int
  A : Option Addr
  n : Nat
  c : Nat
def encT (x : TV) : List Value := [.int .i64 x.keep, .slice x.A x.n x.c]
theorem encT_len (x : TV) : (encT x).length = 2 := rfl
structure Tear where
  keep : Int
  lost : List Int
/-- the tears of a crash -/
def Trs (S : Nat → Prop) (w : World) (v : Value) (ts : List Tear) : Prop := ∃ xs, Recs encT S w v xs ∧ xs.length = ts.length ∧ ∀ (i : Nat) (x : TV) (t : Tear), xs[i]? = some x → ts[i]? = some t → x.keep = t.keep ∧ Recs encZ S w (.slice x.A x.n x.c) t.lost
theorem Trs.ext {S : Nat → Prop} {w w' : World} {v : Value} {ts : List Tear} (h : Trs S w v ts) (hb : Below w.heap.size w w') : Trs S w' v ts := by
  obtain ⟨xs, h1, h2, h3⟩ := h
  exact ⟨xs, h1.ext hb, h2, fun i x t hx ht => ⟨(h3 i x t hx ht).1, (h3 i x t hx ht).2.ext hb⟩⟩
theorem Trs.keep {S : Nat → Prop} {w w' : World} {v : Value} {ts : List Tear} (h : Trs S w v ts) (hk : Keep S w w') : Trs S w' v ts := by
  obtain ⟨xs, h1, h2, h3⟩ := h
  exact ⟨xs, h1.keep hk, h2, fun i x t hx ht => ⟨(h3 i x t hx ht).1, (h3 i x t hx ht).2.keep hk⟩⟩
theorem Trs.mono {S S' : Nat → Prop} {w : World} {v : Value} {ts : List Tear} (h : Trs S w v ts) (hs : ∀ b, b < w.heap.size → S b → S' b) : Trs S' w v ts := by
  obtain ⟨xs, h1, h2, h3⟩ := h
  exact ⟨xs, h1.mono hs, h2, fun i x t hx ht => ⟨(h3 i x t hx ht).1, (h3 i x t hx ht).2.mono hs⟩⟩
theorem Trs.len {S : Nat → Prop} {w : World} {A : Option Addr} {n c : Nat} {ts : List Tear} (h : Trs S w (.slice A n c) ts) : ts.length = n ∧ n ≤ c ∧ c ≤ 9223372036854775807 := by
  obtain ⟨xs, h1, h2, h3⟩ := h
  have := h1.len
  omega
theorem Trs.at_ {S : Nat → Prop} {w : World} {A : Option Addr} {n c k : Nat} {ts : List Tear} (h : Trs S w (.slice A n c) ts) (hk : k < n) :
    ∃ (b off : Nat) (x : TV) (t : Tear), A = some ⟨b, off, none⟩ ∧ b < w.heap.size ∧ ts[k]? = some t ∧ x.keep = t.keep ∧ Recs encZ S w (.slice x.A x.n x.c) t.lost ∧ w.cell? ⟨b, off + k * 2, none⟩ = some (.int .i64 x.keep) ∧ w.cell? ⟨b, off + k * 2 + 1, none⟩ = some (.slice x.A x.n x.c) := by
  have hl := h.len
  obtain ⟨xs, h1, h2, h3⟩ := h
  obtain ⟨b, off, x, rfl, _, hb, hx, hc⟩ := h1.at_ encT_len (j := k) (by omega) (by omega)
  have hf : ts[k]? = some ts[k] := List.getElem?_eq_getElem (by omega)
  exact ⟨b, off, x, _, rfl, hb, hf, (h3 k x _ hx hf).1, (h3 k x _ hx hf).2, hc 0 _ rfl, hc 1 _ rfl⟩
/-- the tear of a file; none: nothing is kept -/
def tearOf (ts : List Tear) (i : Nat) : Tear := ts[i]?.getD ⟨0, []⟩
def crashF (ts : List Tear) (i : Nat) (f : Fil) : Fil := ⟨f.s ++ tornL f.p (tearOf ts i).keep (tearOf ts i).lost, []⟩
def crashL (fs : List Fil) (ts : List Tear) : List Fil := fs.mapIdx (crashF ts)
/-- the first k files behind the crash, the others empty -/
def crashK (fs : List Fil) (ts : List Tear) (k : Nat) : List Fil := fs.mapIdx (fun i f => if i < k then crashF ts i f else zFil)
theorem crashK_zero (fs : List Fil) (ts : List Tear) : crashK fs ts 0 = List.replicate fs.length zFil := by
  apply List.ext_getElem?
  intro i
  simp only [crashK, List.getElem?_mapIdx, List.getElem?_replicate]
  by_cases h : i < fs.length
  · simp [h]
  · simp [h]
theorem crashK_all (fs : List Fil) (ts : List Tear) : crashK fs ts fs.length = crashL fs ts := by
  apply List.ext_getElem?
  intro i
  simp only [crashK, crashL, List.getElem?_mapIdx]
  by_cases h : i < fs.length
  · simp [h]
  · simp [h]
theorem crashK_len (fs : List Fil) (ts : List Tear) (k : Nat) : (crashK fs ts k).length = fs.length := by simp [crashK]
theorem crashK_succ (fs : List Fil) (ts : List Tear) (k : Nat) (f : Fil) (hf : fs[k]? = some f) : crashK fs ts (k + 1) = (crashK fs ts k).set k (crashF ts k f) := by
  apply List.ext_getElem?
  intro i
  simp only [crashK, List.getElem?_set, List.getElem?_mapIdx, List.length_mapIdx]
  by_cases h : k = i
  · subst h
    obtain ⟨this, rfl⟩ := List.getElem?_eq_some_iff.1 hf
    simp [this]
  · by_cases hi : i < fs.length
    · rw [if_neg h]
      have : (i < k + 1) = (i < k) := by simp; omega
      simp [this]
    · simp [hi, h]
theorem grown_refl' (a : World) (row : Option Nat) : a.grownBy a row := ⟨rfl, rfl, rfl, Nat.le_refl _, fun _ _ _ => rfl⟩
theorem grown_trans' {a b c : World} {row : Option Nat} (h : a.grownBy b row) (k : b.grownBy c row) : a.grownBy c row :=
  ⟨k.os.trans h.os, k.tape.trans h.tape, k.output.trans h.output, Nat.le_trans h.size k.size, fun i hi hne => (k.block i (Nat.lt_of_lt_of_le hi h.size) hne).trans (h.block i hi hne)⟩
theorem grown_of_below' {a b : World} {row : Option Nat} (h : Below a.heap.size a b) : a.grownBy b row := ⟨h.os, h.tape, h.output, h.size, fun i hi _ => h.block i hi⟩
/-- the first slice of one element is stored -/
theorem flat_set0 (xs : List FV) (k : Nat) (x y : FV) (hk : xs[k]? = some y) (h2 : x.A2 = y.A2 ∧ x.n2 = y.n2 ∧ x.c2 = y.c2) : (xs.set k x).flatMap encF = (xs.flatMap encF).set (k * 2) (.slice x.A1 x.n1 x.c1) := by
  have hlt := (List.getElem?_eq_some_iff.1 hk).1
  rw [flat_set xs k x hlt, List.set_comm _ _ (by omega)]
  congr 1
  have h3 := flat_at encF_len xs k 1 y hk (by omega)
  have h4 : (xs.flatMap encF)[k * 2 + 1]? = some (.slice x.A2 x.n2 x.c2) := by rw [h3, h2.1, h2.2.1, h2.2.2]; rfl
  obtain ⟨h5, h6⟩ := List.getElem?_eq_some_iff.1 h4
  rw [← h6]
  exact List.set_getElem_self h5
set_option maxHeartbeats 4000000 in
theorem crash_any (A : Option Addr) (n c : Nat) (fs : List Fil) (S : Nat → Prop) (w : World) (hD : Dsk S w (.slice A n c) fs) (hn : n ≤ 1000) (At : Option Addr) (nt ct : Nat) (ts : List Tear) (St : Nat → Prop) (hT : Trs St w (.slice At nt ct) ts) (hlen : ∀ f ∈ fs, f.s.length + f.p.length ≤ 3000000) :
    Calls Try.prog 11 #[.agg #[.slice A n c], .slice At nt ct] w fun e w' => ∃ A' c', e = .returned (.agg #[.slice A' n c']) ∧ Dsk (w.heap.size ≤ ·) w' (.slice A' n c') (crashL fs ts) ∧ Below w.heap.size w w' := by
  have hD0 := hD.lo
  obtain ⟨hd1, hd2, hd3⟩ := hD.len
  obtain ⟨ht1, ht2, ht3⟩ := hT.len
  have HD1 := Lib.hid hd1
  have HT0 := Lib.hid ht1
  have HLen := Lib.hid hlen
  clear hd1 ht1 hlen
  obtain ⟨W, hW, hbW, hsW, hw0, hw1⟩ := two_boxes w (.slice A n c)
  have hmk := mkFiles n (by omega)
  have hownW := mkOwn n (by omega) W
  have haW : Below W.heap.size W (W.alloc (.cells (madeCells (encF zFV).toArray (n * 2)) 48)) := (Below.refl _ _).alloc (Nat.le_refl _) _
  have q0 : W.cell? ⟨w.heap.size, 0, none⟩ = some (.slice A n c) := by rw [cell_of_row _ _ _ _ _ _ hw0]; rfl
  go_enter Try.func11, Try.ntmps11
  go_wp2_with fail
  clear hmk
  have hWeq : (w.alloc (.cells #[.slice A n c] 24)).alloc (.cells #[.slice none 0 0] 24) = W := hW.symm
  obtain ⟨g, hg⟩ : ∃ g, g = w.heap.size + 1 + 1 := ⟨_, rfl⟩
  have hgW : W.heap.size = g := by omega
  rw [hgW] at hownW haW
  rw [hWeq, ← hg]
  clear hW hWeq
  have hgg : w.heap.size + 1 < g := by omega
  clear hg
  have hw1' := (haW.block _ (by omega)).trans hw1
  have q0W := (haW.cell (p := ⟨w.heap.size, 0, none⟩) (by show w.heap.size < g; omega)).trans q0
  have hb0 : Below w.heap.size w (W.alloc (.cells (madeCells (encF zFV).toArray (n * 2)) 48)) := hbW.trans (haW.mono (by omega))
  have hszW : (W.alloc (.cells (madeCells (encF zFV).toArray (n * 2)) 48)).heap.size = g + 1 := by rw [World.size_alloc]; omega
  generalize W.alloc (.cells (madeCells (encF zFV).toArray (n * 2)) 48) = W1 at *
  have ag30 : ∀ w : World, (isAgg 30).run Try.prog w = .ok false w := fun w => by simp [isAgg, run_underlying Try.underlying30]
  have A30 := Lib.hid ag30
  have HQ := Lib.hid q0W
  have HszW := Lib.hid hszW
  clear ag30 hw0 hw1 q0 q0W hsW hgW haW hbW hszW
  go_loopw [15] (fun v wr => ∃ (j : Nat), v = .int .i64 j ∧ j ≤ n ∧ ∃ xs : List FV, OwnR encF 2 wr g 48 (.slice (some ⟨g, 0, none⟩) n n) xs ∧ (∀ i : Nat, j ≤ i → i < n → xs[i]? = some zFV) ∧ (∀ (i : Nat) (y : FV) (h : Fil), xs[i]? = some y → (crashK fs ts j)[i]? = some h → FOk (fun b => b ≠ g ∧ b ≠ w.heap.size + 1 ∧ w.heap.size ≤ b) wr y h) ∧ (Below w.heap.size w wr ∧ W1.grownBy wr (some g)) ∧ wr.heap[w.heap.size + 1]? = some (.cells #[.slice none 0 0] 24 (0, 0))) (fun v _ => n - (intOf v).toNat)
  case atStart =>
    refine ⟨0, rfl, by omega, List.replicate n zFV, hownW, ?_, ?_, ⟨hb0, grown_refl' _ _⟩, hw1'⟩
    · intro i _ hi
      rw [List.getElem?_replicate, if_pos hi]
    · intro i y h hy hh
      rw [crashK_zero, List.getElem?_replicate] at hh
      rw [List.getElem?_replicate] at hy
      split at hy
      · cases hy
        split at hh
        · cases hh
          exact ⟨Recs.nil_ _ _, Recs.nil_ _ _⟩
        · cases hh
      · cases hy
  case round =>
    obtain ⟨j, rfl, hj, xs, hown, hzs, hxs, ⟨hbr, hgr⟩, hR⟩ := hrel
    have Hz := Lib.hid hzs
    have HXS := Lib.hid hxs
    have HR := Lib.hid hR
    clear hzs hxs hR hownW
    have q0' : wr.cell? ⟨w.heap.size, 0, none⟩ = some (.slice A n c) := (World.cell?_of_block (hgr.block w.heap.size (by have := HszW.out; omega) (by simp; omega))).trans HQ.out
    have hglt : g < wr.heap.size := Nat.lt_of_lt_of_le (by have := HszW.out; omega) hgr.size
    by_cases hlt : j < n
    · obtain ⟨b, off, x, f, rfl, hbl, hff, hx, c0, c1⟩ := hD0.at_ hlt
      have HF := Lib.hid hff
      have Hp := Lib.hid hx.p.len.1
      have hpn : x.n1 + x.n2 ≤ 3000000 := by have h1 := HLen.out f (List.mem_of_getElem? hff); have := hx.s.len.1; have := hx.p.len.1; omega
      have c0' := (hbr.cell (p := ⟨b, off + j * 2, none⟩) hbl).trans c0
      have c1' := (hbr.cell (p := ⟨b, off + j * 2 + 1, none⟩) hbl).trans c1
      have hbl' := block_lt_of_cell c0'
      have hwlt : w.heap.size < wr.heap.size := by omega
      clear hff c0 c1
      by_cases hjt : j < nt
      · have dt : decide (j < nt) = true := by simpa using hjt
        obtain ⟨bt, ot, yt, tt, rfl, hbt, htt, hky, hlo, e0, e1⟩ := hT.at_ hjt
        have e0' := (hbr.cell (p := ⟨bt, ot + j * 2, none⟩) hbt).trans e0
        have e1' := (hbr.cell (p := ⟨bt, ot + j * 2 + 1, none⟩) hbt).trans e1
        have hbt' := block_lt_of_cell e0'
        have hto : tearOf ts j = tt := by unfold tearOf; rw [htt]; rfl
        have HT1 : (tearOf ts j).keep = yt.keep := by rw [hto, hky]
        have HT2 : (tearOf ts j).lost = tt.lost := by rw [hto]
        have HHT1 := Lib.hid HT1
        have HHT2 := Lib.hid HT2
        clear htt hky hto e0 e1 HT1 HT2
        go_wp2_with fail
        obtain ⟨W3, hW3⟩ : ∃ W3, W3 = (wr.alloc (.cells #[.int .i64 yt.keep, .slice yt.A yt.n yt.c] 39)).alloc (.cells #[.slice x.A1 x.n1 x.c1, .slice x.A2 x.n2 x.c2] 48) := ⟨_, rfl⟩
        have hbW3 : Below wr.heap.size wr W3 := by rw [hW3]; exact ((Below.refl _ _).alloc (Nat.le_refl _) _).alloc (by simp) _
        have hsW3 : W3.heap.size = wr.heap.size + 2 := by rw [hW3]; simp
        have hrT : W3.heap[wr.heap.size]? = some (.cells #[.int .i64 yt.keep, .slice yt.A yt.n yt.c] 39 (0, 0)) := by rw [hW3]; exact (((Below.refl _ _).alloc (Nat.le_refl _) _).block wr.heap.size (by simp)).trans (heap_alloc_new wr _)
        have hrF : W3.heap[wr.heap.size + 1]? = some (.cells #[.slice x.A1 x.n1 x.c1, .slice x.A2 x.n2 x.c2] 48 (0, 0)) := by
          rw [hW3]
          have := heap_alloc_new (wr.alloc (.cells #[.int .i64 yt.keep, .slice yt.A yt.n yt.c] 39)) (.cells #[.slice x.A1 x.n1 x.c1, .slice x.A2 x.n2 x.c2] 48)
          rw [World.size_alloc] at this
          exact this
        have f0 : W3.cell? ⟨wr.heap.size + 1, 0, none⟩ = some (.slice x.A1 x.n1 x.c1) := by rw [cell_of_row _ _ _ _ _ _ hrF]; rfl
        have f1 : W3.cell? ⟨wr.heap.size + 1, 1, none⟩ = some (.slice x.A2 x.n2 x.c2) := by rw [cell_of_row _ _ _ _ _ _ hrF]; rfl
        rw [← hW3]
        have HsW3 := Lib.hid hsW3
        have HrT := Lib.hid hrT
        have F0 := Lib.hid f0
        have F1 := Lib.hid f1
        clear hW3 hsW3 hrT hrF f0 f1 q0' c0' c1'
        have bw3 := Below.ext hbr hbW3
        have hcl : ∀ (w' : World) (o : Nat), Keep (· ≠ g) W3 w' → w'.cell? ⟨wr.heap.size + 1, o, none⟩ = W3.cell? ⟨wr.heap.size + 1, o, none⟩ := fun w' o hS => World.cell?_of_block (hS (wr.heap.size + 1) (by have := HsW3.out; omega) (by omega))
        have HC := Lib.hid hcl
        clear hcl
        refine wp_region_lexL (fun w' => Below w.heap.size w w' ∧ Keep (· ≠ g) W3 w') (by kernel_rfl) (by kernel_rfl) (⟨bw3.drew, fun _ _ _ => rfl⟩) ?_
        repeat (first | (refine lexL_q0 rfl ?_; go_big_quiet_step (fail); refine wpQuiet_nil ?_) | (refine lexL_skip0 rfl rfl ?_; simp only [Act.put, List.setIfInBounds_toArray, List.set_cons_succ, List.set_cons_zero]))
        refine lexL_ld (⟨wr.heap.size + 1, 0, none⟩) (.slice x.A1 x.n1 x.c1) rfl rfl rfl (fun w' hS => run_ld1 (A30.out _) ((HC.out w' 0 hS.2).trans F0.out)) ?_
        simp only [Act.put, List.setIfInBounds_toArray, List.set_cons_succ, List.set_cons_zero]
        repeat (first | (refine lexL_q0 rfl ?_; go_big_quiet_step (fail); refine wpQuiet_nil ?_) | (refine lexL_skip0 rfl rfl ?_; simp only [Act.put, List.setIfInBounds_toArray, List.set_cons_succ, List.set_cons_zero]))
        refine lexL_ld (⟨wr.heap.size + 1, 1, none⟩) (.slice x.A2 x.n2 x.c2) rfl rfl rfl (fun w' hS => run_ld1 (A30.out _) ((HC.out w' 1 hS.2).trans F1.out)) ?_
        simp only [Act.put, List.setIfInBounds_toArray, List.set_cons_succ, List.set_cons_zero]
        repeat (first | (refine lexL_q0 rfl ?_; go_big_quiet_step (fail); refine wpQuiet_nil ?_) | (refine lexL_skip0 rfl rfl ?_; simp only [Act.put, List.setIfInBounds_toArray, List.set_cons_succ, List.set_cons_zero]))
        refine lexL_ld (⟨wr.heap.size, 0, none⟩) (.agg #[.int .i64 yt.keep, .slice yt.A yt.n yt.c]) rfl rfl rfl (fun w' hS => run_ld_block ((hS.2 _ (by have := HsW3.out; omega) (by omega)).trans HrT.out) Try.underlying39 rfl (by kernel_rfl)) ?_
        simp only [Act.put, List.setIfInBounds_toArray, List.set_cons_succ, List.set_cons_zero]
        repeat (first | (refine lexL_q0 rfl ?_; go_big_quiet_step (fail); refine wpQuiet_nil ?_) | (refine lexL_skip0 rfl rfl ?_; simp only [Act.put, List.setIfInBounds_toArray, List.set_cons_succ, List.set_cons_zero]))
        refine lexL_e rfl ?_
        go_wp2_with fail
        refine (survivors_any x.A2 x.n2 x.c2 f.p _ yt.keep yt.A yt.n yt.c tt.lost _ _ ((hx.p.ext bw3).ext (Below.refl _ _).drew) ((hlo.ext bw3).ext (Below.refl _ _).drew) (by omega)).mono ?_
        rintro e w4 ⟨A4, c4, rfl, hown4, hb4⟩
        have b4 : Below W3.heap.size W3 w4 := Below.ext (Below.refl _ _).drew hb4
        go_wp2_with fail
        refine lexL_go (⟨Below.ext bw3 b4, fun j hj _ => b4.block j hj⟩) ?_
        repeat (first | (refine lexL_q0 rfl ?_; go_big_quiet_step (fail); refine wpQuiet_nil ?_) | (refine lexL_skip0 rfl rfl ?_; simp only [Act.put, List.setIfInBounds_toArray, List.set_cons_succ, List.set_cons_zero]))
        have hkp := keepN_le f.p yt.keep
        have hpl := Hp.out
        have hW5 : Below w4.heap.size w4 (w4.alloc (.cells #[.slice x.A1 x.n1 x.c1, .slice A4 (keepN f.p yt.keep) c4] 30)) := (Below.refl _ _).alloc (Nat.le_refl _) _
        have b5 := Below.ext b4 hW5
        refine lexL_e rfl ?_
        go_wp2_with fail
        refine lexL_go ⟨Below.ext bw3 b5, fun j hj _ => b5.block j hj⟩ ?_
        repeat (first | (refine lexL_q0 rfl ?_; go_big_quiet_step (fail); refine wpQuiet_nil ?_) | (refine lexL_skip0 rfl rfl ?_; simp only [Act.put, List.setIfInBounds_toArray, List.set_cons_succ, List.set_cons_zero]))
        refine lexL_e rfl ?_
        go_wp2_with fail
        refine (concatB w4.heap.size x.A1 A4 x.n1 x.c1 (keepN f.p yt.keep) c4 f.s (tornL f.p yt.keep tt.lost) _ _ _ (by go_simp) (by go_simp) ((hx.s.ext bw3).ext b5) (hown4.ext hW5).recs (by omega)).mono ?_
        rintro e w6 ⟨A6, c6, rfl, hown6, hb6⟩
        have b6 := Below.ext b5 hb6
        go_wp2_with fail
        refine lexL_go (⟨Below.ext bw3 b6, fun j hj _ => b6.block j hj⟩) ?_
        repeat (first | (refine lexL_q0 rfl ?_; go_big_quiet_step (fail); refine wpQuiet_nil ?_) | (refine lexL_skip0 rfl rfl ?_; simp only [Act.put, List.setIfInBounds_toArray, List.set_cons_succ, List.set_cons_zero]))
        have b6r := Below.ext hbW3 b6
        have hog := hown.ext b6r
        obtain ⟨⟨u0, hu0⟩, hf0⟩ := hog.cellF hlt 0 (by omega)
        rw [Nat.add_zero] at hu0 hf0
        have hgs : w6.grownBy (w6.setCell ⟨g, j * 2, none⟩ (.slice A6 (x.n1 + keepN f.p yt.keep) c6)) (some g) := grown_set ⟨rfl, rfl, rfl, Nat.le_refl _, fun _ _ _ => rfl⟩
        refine lexL_e rfl ?_
        go_wp2_with fail
        refine lexL_go ⟨Below.grow (Below.ext bw3 b6) hgs (by omega), fun i hi hne => (hgs.block i (Nat.lt_of_lt_of_le hi b6.size) (by simpa using hne)).trans (b6.block i hi)⟩ ?_
        repeat (first | (refine lexL_q0 rfl ?_; go_big_quiet_step (fail); refine wpQuiet_nil ?_) | (refine lexL_skip0 rfl rfl ?_; simp only [Act.put, List.setIfInBounds_toArray, List.set_cons_succ, List.set_cons_zero]))
        refine lexL_nil ?_
        go_wp2_with fail
        have hoz : OwnR encF 2 (w6.setCell ⟨g, j * 2, none⟩ (.slice A6 (x.n1 + keepN f.p yt.keep) c6)) g 48 (.slice (some ⟨g, 0, none⟩) n n) (xs.set j ⟨A6, x.n1 + keepN f.p yt.keep, c6, none, 0, 0⟩) := by
          have h1 := hog.len.1
          unfold OwnR at hog ⊢
          rw [List.length_set, flat_set0 xs j ⟨A6, x.n1 + keepN f.p yt.keep, c6, none, 0, 0⟩ zFV (Hz.out j (Nat.le_refl _) hlt) ⟨rfl, rfl, rfl⟩]
          rw [h1] at hog ⊢
          exact (World.ownsRow.stored hog _ _).1
        have hsz6 := b6r.size
        have hfin : ∀ (i : Nat) (y : FV) (h : Fil), (xs.set j ⟨A6, x.n1 + keepN f.p yt.keep, c6, none, 0, 0⟩)[i]? = some y → (crashK fs ts (j + 1))[i]? = some h → FOk (fun b => b ≠ g ∧ b ≠ w.heap.size + 1 ∧ w.heap.size ≤ b) (w6.setCell ⟨g, j * 2, none⟩ (.slice A6 (x.n1 + keepN f.p yt.keep) c6)) y h := by
          intro i y h hy hh
          have hkg : Keep (fun b => b ≠ g ∧ b ≠ w.heap.size + 1 ∧ w.heap.size ≤ b) w6 (w6.setCell ⟨g, j * 2, none⟩ (.slice A6 (x.n1 + keepN f.p yt.keep) c6)) := fun b hb hs => hgs.block b hb (by simpa using hs.1)
          rw [crashK_succ fs ts j f HF.out] at hh
          by_cases hij : j = i
          · subst hij
            have hxl := hog.len
            rw [List.getElem?_set_self (by omega)] at hy
            rw [List.getElem?_set_self (by rw [crashK_len]; have := (List.getElem?_eq_some_iff.1 HF.out).1; omega)] at hh
            cases hy
            cases hh
            refine ⟨Recs.keep ?_ hkg, Recs.nil_ _ _⟩
            rw [show (crashF ts j f).s = f.s ++ tornL f.p yt.keep tt.lost by unfold crashF; rw [HHT1.out, HHT2.out]]
            refine hown6.recs.mono (fun b _ h => ?_)
            have h7 := h.1
            rw [World.size_alloc] at h7
            have h8 := b4.size
            have := HsW3.out
            exact ⟨by omega, by omega, by omega⟩
          · rw [List.getElem?_set_ne hij] at hy hh
            exact ((HXS.out i y h hy hh).ext b6r).keep hkg
        have HFin := Lib.hid hfin
        clear hfin
        go_wp2
        go_roundw
        case rel =>
          refine ⟨j + 1, by go_num, by omega, _, hoz, ?_, HFin.out, ⟨Below.grow (Below.ext bw3 b6) hgs (by omega), grown_trans' (grown_trans' hgr (grown_of_below' b6r)) hgs⟩, ?_⟩
          · intro i h1 h2
            rw [List.getElem?_set_ne (by omega)]
            exact Hz.out i (by omega) h2
          · exact ((hgs.block (w.heap.size + 1) (by omega) (by simp; omega)).trans (b6r.block _ (by omega))).trans HR.out
        case measure => simp [intOf]; omega
      · have dt : decide (j < nt) = false := by simpa using hjt
        have hto : tearOf ts j = ⟨0, []⟩ := by unfold tearOf; rw [List.getElem?_eq_none (by have := HT0.out; omega)]; rfl
        have HT1 : (tearOf ts j).keep = 0 := by rw [hto]
        have HT2 : (tearOf ts j).lost = [] := by rw [hto]
        have HHT1 := Lib.hid HT1
        have HHT2 := Lib.hid HT2
        clear hto HT1 HT2
        go_wp2_with fail
        obtain ⟨W3, hW3⟩ : ∃ W3, W3 = (wr.alloc (.cells #[.int .i64 0, .slice none 0 0] 39)).alloc (.cells #[.slice x.A1 x.n1 x.c1, .slice x.A2 x.n2 x.c2] 48) := ⟨_, rfl⟩
        have hbW3 : Below wr.heap.size wr W3 := by rw [hW3]; exact ((Below.refl _ _).alloc (Nat.le_refl _) _).alloc (by simp) _
        have hsW3 : W3.heap.size = wr.heap.size + 2 := by rw [hW3]; simp
        have hrT : W3.heap[wr.heap.size]? = some (.cells #[.int .i64 0, .slice none 0 0] 39 (0, 0)) := by rw [hW3]; exact (((Below.refl _ _).alloc (Nat.le_refl _) _).block wr.heap.size (by simp)).trans (heap_alloc_new wr _)
        have hrF : W3.heap[wr.heap.size + 1]? = some (.cells #[.slice x.A1 x.n1 x.c1, .slice x.A2 x.n2 x.c2] 48 (0, 0)) := by
          rw [hW3]
          have := heap_alloc_new (wr.alloc (.cells #[.int .i64 0, .slice none 0 0] 39)) (.cells #[.slice x.A1 x.n1 x.c1, .slice x.A2 x.n2 x.c2] 48)
          rw [World.size_alloc] at this
          exact this
        have f0 : W3.cell? ⟨wr.heap.size + 1, 0, none⟩ = some (.slice x.A1 x.n1 x.c1) := by rw [cell_of_row _ _ _ _ _ _ hrF]; rfl
        have f1 : W3.cell? ⟨wr.heap.size + 1, 1, none⟩ = some (.slice x.A2 x.n2 x.c2) := by rw [cell_of_row _ _ _ _ _ _ hrF]; rfl
        rw [← hW3]
        have HsW3 := Lib.hid hsW3
        have HrT := Lib.hid hrT
        have F0 := Lib.hid f0
        have F1 := Lib.hid f1
        clear hW3 hsW3 hrT hrF f0 f1 q0' c0' c1'
        have bw3 := Below.ext hbr hbW3
        have hcl : ∀ (w' : World) (o : Nat), Keep (· ≠ g) W3 w' → w'.cell? ⟨wr.heap.size + 1, o, none⟩ = W3.cell? ⟨wr.heap.size + 1, o, none⟩ := fun w' o hS => World.cell?_of_block (hS (wr.heap.size + 1) (by have := HsW3.out; omega) (by omega))
        have HC := Lib.hid hcl
        clear hcl
        refine wp_region_lexL (fun w' => Below w.heap.size w w' ∧ Keep (· ≠ g) W3 w') (by kernel_rfl) (by kernel_rfl) (⟨bw3.drew, fun _ _ _ => rfl⟩) ?_
        repeat (first | (refine lexL_q0 rfl ?_; go_big_quiet_step (fail); refine wpQuiet_nil ?_) | (refine lexL_skip0 rfl rfl ?_; simp only [Act.put, List.setIfInBounds_toArray, List.set_cons_succ, List.set_cons_zero]))
        refine lexL_ld (⟨wr.heap.size + 1, 0, none⟩) (.slice x.A1 x.n1 x.c1) rfl rfl rfl (fun w' hS => run_ld1 (A30.out _) ((HC.out w' 0 hS.2).trans F0.out)) ?_
        simp only [Act.put, List.setIfInBounds_toArray, List.set_cons_succ, List.set_cons_zero]
        repeat (first | (refine lexL_q0 rfl ?_; go_big_quiet_step (fail); refine wpQuiet_nil ?_) | (refine lexL_skip0 rfl rfl ?_; simp only [Act.put, List.setIfInBounds_toArray, List.set_cons_succ, List.set_cons_zero]))
        refine lexL_ld (⟨wr.heap.size + 1, 1, none⟩) (.slice x.A2 x.n2 x.c2) rfl rfl rfl (fun w' hS => run_ld1 (A30.out _) ((HC.out w' 1 hS.2).trans F1.out)) ?_
        simp only [Act.put, List.setIfInBounds_toArray, List.set_cons_succ, List.set_cons_zero]
        repeat (first | (refine lexL_q0 rfl ?_; go_big_quiet_step (fail); refine wpQuiet_nil ?_) | (refine lexL_skip0 rfl rfl ?_; simp only [Act.put, List.setIfInBounds_toArray, List.set_cons_succ, List.set_cons_zero]))
        refine lexL_ld (⟨wr.heap.size, 0, none⟩) (.agg #[.int .i64 0, .slice none 0 0]) rfl rfl rfl (fun w' hS => run_ld_block ((hS.2 _ (by have := HsW3.out; omega) (by omega)).trans HrT.out) Try.underlying39 rfl (by kernel_rfl)) ?_
        simp only [Act.put, List.setIfInBounds_toArray, List.set_cons_succ, List.set_cons_zero]
        repeat (first | (refine lexL_q0 rfl ?_; go_big_quiet_step (fail); refine wpQuiet_nil ?_) | (refine lexL_skip0 rfl rfl ?_; simp only [Act.put, List.setIfInBounds_toArray, List.set_cons_succ, List.set_cons_zero]))
        refine lexL_e rfl ?_
        go_wp2_with fail
        refine (survivors_any x.A2 x.n2 x.c2 f.p _ 0 none 0 0 [] _ _ ((hx.p.ext bw3).ext (Below.refl _ _).drew) (Recs.nil_ (fun _ => True) _) (by omega)).mono ?_
        rintro e w4 ⟨A4, c4, rfl, hown4, hb4⟩
        have b4 : Below W3.heap.size W3 w4 := Below.ext (Below.refl _ _).drew hb4
        go_wp2_with fail
        refine lexL_go (⟨Below.ext bw3 b4, fun j hj _ => b4.block j hj⟩) ?_
        repeat (first | (refine lexL_q0 rfl ?_; go_big_quiet_step (fail); refine wpQuiet_nil ?_) | (refine lexL_skip0 rfl rfl ?_; simp only [Act.put, List.setIfInBounds_toArray, List.set_cons_succ, List.set_cons_zero]))
        have hkp := keepN_le f.p 0
        have hpl := Hp.out
        have hW5 : Below w4.heap.size w4 (w4.alloc (.cells #[.slice x.A1 x.n1 x.c1, .slice A4 (keepN f.p 0) c4] 30)) := (Below.refl _ _).alloc (Nat.le_refl _) _
        have b5 := Below.ext b4 hW5
        refine lexL_e rfl ?_
        go_wp2_with fail
        refine lexL_go ⟨Below.ext bw3 b5, fun j hj _ => b5.block j hj⟩ ?_
        repeat (first | (refine lexL_q0 rfl ?_; go_big_quiet_step (fail); refine wpQuiet_nil ?_) | (refine lexL_skip0 rfl rfl ?_; simp only [Act.put, List.setIfInBounds_toArray, List.set_cons_succ, List.set_cons_zero]))
        refine lexL_e rfl ?_
        go_wp2_with fail
        refine (concatB w4.heap.size x.A1 A4 x.n1 x.c1 (keepN f.p 0) c4 f.s (tornL f.p 0 []) _ _ _ (by go_simp) (by go_simp) ((hx.s.ext bw3).ext b5) (hown4.ext hW5).recs (by omega)).mono ?_
        rintro e w6 ⟨A6, c6, rfl, hown6, hb6⟩
        have b6 := Below.ext b5 hb6
        go_wp2_with fail
        refine lexL_go (⟨Below.ext bw3 b6, fun j hj _ => b6.block j hj⟩) ?_
        repeat (first | (refine lexL_q0 rfl ?_; go_big_quiet_step (fail); refine wpQuiet_nil ?_) | (refine lexL_skip0 rfl rfl ?_; simp only [Act.put, List.setIfInBounds_toArray, List.set_cons_succ, List.set_cons_zero]))
        have b6r := Below.ext hbW3 b6
        have hog := hown.ext b6r
        obtain ⟨⟨u0, hu0⟩, hf0⟩ := hog.cellF hlt 0 (by omega)
        rw [Nat.add_zero] at hu0 hf0
        have hgs : w6.grownBy (w6.setCell ⟨g, j * 2, none⟩ (.slice A6 (x.n1 + keepN f.p 0) c6)) (some g) := grown_set ⟨rfl, rfl, rfl, Nat.le_refl _, fun _ _ _ => rfl⟩
        refine lexL_e rfl ?_
        go_wp2_with fail
        refine lexL_go ⟨Below.grow (Below.ext bw3 b6) hgs (by omega), fun i hi hne => (hgs.block i (Nat.lt_of_lt_of_le hi b6.size) (by simpa using hne)).trans (b6.block i hi)⟩ ?_
        repeat (first | (refine lexL_q0 rfl ?_; go_big_quiet_step (fail); refine wpQuiet_nil ?_) | (refine lexL_skip0 rfl rfl ?_; simp only [Act.put, List.setIfInBounds_toArray, List.set_cons_succ, List.set_cons_zero]))
        refine lexL_nil ?_
        go_wp2_with fail
        have hoz : OwnR encF 2 (w6.setCell ⟨g, j * 2, none⟩ (.slice A6 (x.n1 + keepN f.p 0) c6)) g 48 (.slice (some ⟨g, 0, none⟩) n n) (xs.set j ⟨A6, x.n1 + keepN f.p 0, c6, none, 0, 0⟩) := by
          have h1 := hog.len.1
          unfold OwnR at hog ⊢
          rw [List.length_set, flat_set0 xs j ⟨A6, x.n1 + keepN f.p 0, c6, none, 0, 0⟩ zFV (Hz.out j (Nat.le_refl _) hlt) ⟨rfl, rfl, rfl⟩]
          rw [h1] at hog ⊢
          exact (World.ownsRow.stored hog _ _).1
        have hsz6 := b6r.size
        have hfin : ∀ (i : Nat) (y : FV) (h : Fil), (xs.set j ⟨A6, x.n1 + keepN f.p 0, c6, none, 0, 0⟩)[i]? = some y → (crashK fs ts (j + 1))[i]? = some h → FOk (fun b => b ≠ g ∧ b ≠ w.heap.size + 1 ∧ w.heap.size ≤ b) (w6.setCell ⟨g, j * 2, none⟩ (.slice A6 (x.n1 + keepN f.p 0) c6)) y h := by
          intro i y h hy hh
          have hkg : Keep (fun b => b ≠ g ∧ b ≠ w.heap.size + 1 ∧ w.heap.size ≤ b) w6 (w6.setCell ⟨g, j * 2, none⟩ (.slice A6 (x.n1 + keepN f.p 0) c6)) := fun b hb hs => hgs.block b hb (by simpa using hs.1)
          rw [crashK_succ fs ts j f HF.out] at hh
          by_cases hij : j = i
          · subst hij
            have hxl := hog.len
            rw [List.getElem?_set_self (by omega)] at hy
            rw [List.getElem?_set_self (by rw [crashK_len]; have := (List.getElem?_eq_some_iff.1 HF.out).1; omega)] at hh
            cases hy
            cases hh
            refine ⟨Recs.keep ?_ hkg, Recs.nil_ _ _⟩
            rw [show (crashF ts j f).s = f.s ++ tornL f.p 0 [] by unfold crashF; rw [HHT1.out, HHT2.out]]
            refine hown6.recs.mono (fun b _ h => ?_)
            have h7 := h.1
            rw [World.size_alloc] at h7
            have h8 := b4.size
            have := HsW3.out
            exact ⟨by omega, by omega, by omega⟩
          · rw [List.getElem?_set_ne hij] at hy hh
            exact ((HXS.out i y h hy hh).ext b6r).keep hkg
        have HFin := Lib.hid hfin
        clear hfin
        go_wp2
        go_roundw
        case rel =>
          refine ⟨j + 1, by go_num, by omega, _, hoz, ?_, HFin.out, ⟨Below.grow (Below.ext bw3 b6) hgs (by omega), grown_trans' (grown_trans' hgr (grown_of_below' b6r)) hgs⟩, ?_⟩
          · intro i h1 h2
            rw [List.getElem?_set_ne (by omega)]
            exact Hz.out i (by omega) h2
          · exact ((hgs.block (w.heap.size + 1) (by omega) (by simp; omega)).trans (b6r.block _ (by omega))).trans HR.out
        case measure => simp [intOf]; omega
    · obtain rfl : j = n := by omega
      have Z5 := HR
      clear q0'
      go_wp2_with (refine wpList_store_row rfl 24 _ _ rfl (w.heap.size + 1) 24 _ _ rfl rfl Z5.out (by kernel_rfl) rfl (by simp [Value.oneCell']) ?_)
      refine bodyPost_ret (results_c rfl rfl (run_ld_block (setRow_heap _ _ _ _ _ _ Z5.out) Try.underlying24 rfl (by kernel_rfl))) rfl ?_
      have hks : Keep (· ≠ w.heap.size + 1) wr (wr.setRow (w.heap.size + 1) #[.slice (some ⟨g, 0, none⟩) j j]) := Keep.of_grown (grown_setRow _ _ _)
      have hlo := hown.len.1
      refine ⟨_, _, rfl, ⟨xs, (Recs.keep (hown.recs.mono (S' := fun b => b ≠ w.heap.size + 1 ∧ w.heap.size ≤ b) (fun b _ h => by have := h.1; omega)) (fun b hb hs => hks b hb hs.1)).mono (fun _ _ h => h.2), by rw [hlo]; unfold crashL; simp [HD1.out], fun i y h hy hh => ?_⟩, Below.setRow hbr (by omega) _⟩
      rw [← crashK_all, HD1.out] at hh
      exact (((HXS.out i y h hy hh).mono (S' := fun b => b ≠ w.heap.size + 1 ∧ w.heap.size ≤ b) (fun _ _ h => h.2)).keep (fun b hb hs => hks b hb hs.1)).mono (fun _ _ h => h.2)
end Go.Proofs.Ytmbbngdhdhgliaa
