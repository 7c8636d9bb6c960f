import Derived.Test.YtiblijmngokcgaaDoorDrES
namespace Go.Proofs.YtiblijmngokcgaaDoor
open Go.RowKit
set_option maxRecDepth 100000
set_option linter.unusedVariables false
set_option linter.unusedSimpArgs false
theorem DrE.up : ∀ (n : Nat) (t : Ex), DrE n t → DrE (n + 1) t
  | 0, _, h => h.elim
  | n + 1, .mk .., ⟨h1, h2, h3, h4⟩ => ⟨h1, h2, fun e he => DrE.up n e (h3 e he), h4⟩
theorem DrE.to3 {n : Nat} {t : Ex} (hn : n ≤ 3) (h : DrE n t) : DrE 3 t := by
  match n, hn with
  | 0, _ => exact h.elim
  | 1, _ => exact DrE.up _ _ (DrE.up _ _ h)
  | 2, _ => exact DrE.up _ _ h
  | 3, _ => exact h
theorem ExOk.to3 {n : Nat} {S : Nat → Prop} {w : World} {x : ExV} {t : Ex} (hn : n ≤ 3) (h : ExOk n S w x t) : ExOk 3 S w x t := by
  match n, hn with
  | 0, _ => exact h.elim
  | 1, _ => exact ExOk.up _ _ _ (ExOk.up _ _ _ h)
  | 2, _ => exact ExOk.up _ _ _ h
  | 3, _ => exact h
def DrS : Nat → Sm → Prop
  | 0, _ => False
  | n + 1, .mk kind name slot size place value body els => slot = 0 ∧ size = 0 ∧ DrE 3 value ∧ (∀ s ∈ body, DrS n s) ∧ (∀ s ∈ els, DrS n s) ∧
    ((kind = 1 ∧ isScal name ∧ place = zEx ∧ body = [] ∧ els = []) ∨ (kind = 2 ∧ isArr name ∧ DrE 3 place ∧ body = [] ∧ els = []) ∨ (kind = 5 ∧ name = ByteArray.mk #[] ∧ DrE 3 place ∧ body = [] ∧ els = []) ∨
      (kind = 6 ∧ name = ByteArray.mk #[] ∧ place = zEx ∧ body = [] ∧ els = []) ∨ (kind = 3 ∧ name = ByteArray.mk #[] ∧ place = zEx ∧ body.length ≤ 10 ∧ els.length ≤ 10) ∨ (kind = 4 ∧ name = ByteArray.mk #[] ∧ place = zEx ∧ els = [] ∧ body.length ≤ 10))
theorem fr_g {V T : Type} {P : (Nat → Prop) → World → V → T → Prop} (hF : Fram P) {g b0 : Nat} {w w' : World} {x : V} {t : T} (hg : w.grownBy w' (some g)) (hl : g < b0) (h : P (b0 ≤ ·) w x t) : P (b0 ≤ ·) w' x t :=
  hF.keep _ _ _ _ _ (fun b hb h => hg.block b hb (by simp; omega)) h
theorem framLs {V T : Type} {enc : V → List Value} {P : (Nat → Prop) → World → V → T → Prop} (hF : Fram P) : Fram (fun S w (v : Value) (ts : List T) => LsOk enc (P S w) S w v ts) :=
  ⟨fun S w w' v ts hk h => h.keep hk (fun x t => hF.keep _ _ _ x t hk), fun S S' w v ts hs h => h.mono hs (fun x t => hF.mono _ _ _ x t hs)⟩
theorem sm_one {S : Nat → Prop} {w : World} {X : Nat} {x : SmV} (hr : w.heap[X]? = some (.cells (encSm x).toArray 147 (0, 0))) (hS : S X) : Recs encSm S w (.slice (some ⟨X, 0, none⟩) 1 1) [x] :=
  ⟨_, 1, rfl, by simp, by simp [maxLen], fun _ => ⟨X, 0, rfl, hS, fun k u hu => by
    rw [cell_of_row _ _ _ _ _ _ hr, Nat.zero_add]
    simpa using hu⟩⟩
set_option maxHeartbeats 16000000 in
theorem codstmts_step (n : Nat) (hn2 : n ≤ 2) (ih : 0 < n → ∀ (most : Nat) (B g : Nat) (w : World), most ≤ 10 → Cod B w g → Glb B w → Calls Tryd.prog 64 #[.pointer (some ⟨g, 0, none⟩), .int .i64 (most : Int), .int .i64 (n : Int)] w fun e w' => ∃ A c m ts, e = .returned (.slice A m c) ∧ m ≤ most ∧ (∀ s ∈ ts, DrS n s) ∧ OwLs encSm 18 (fun S w => SmOk n S w) w' w.heap.size 147 (.slice A m c) ts ∧ Cod B w' g ∧ w.grownBy w' (some g)) (most : Nat) (hm : most ≤ 10) (B g : Nat) (w : World) (h : Cod B w g) (hG : Glb B w) :
    Calls Tryd.prog 64 #[.pointer (some ⟨g, 0, none⟩), .int .i64 (most : Int), .int .i64 ((n : Int) + 1)] w fun e w' => ∃ A c m ts, e = .returned (.slice A m c) ∧ m ≤ most ∧ (∀ s ∈ ts, DrS (n + 1) s) ∧ OwLs encSm 18 (fun S w => SmOk (n + 1) S w) w' w.heap.size 147 (.slice A m c) ts ∧ Cod B w' g ∧ w.grownBy w' (some g) := by
  have hglt := h.lt
  have hBg := h.1
  go_enter Tryd.func64, Tryd.ntmps64
  go_wp2_with fail
  refine (codnext_any B g (most + 1) w h (by omega) (by omega)).mono ?_
  rintro e w1 ⟨N, rfl, hN, hC1, hg1⟩
  clear h
  go_wp2
  go_loopw [7, 8] (fun v i wr => ∃ (j : Nat) (A : Option Addr) (c m : Nat) (ts : List Sm), i = .int .i64 (j : Int) ∧ v = .slice A m c ∧ m + j = N ∧ (∀ s ∈ ts, DrS (n + 1) s) ∧ OwLs encSm 18 (fun S w => SmOk (n + 1) S w) wr w.heap.size 147 (.slice A m c) ts ∧ Cod B wr g ∧ w.grownBy wr (some g)) (fun _ i _ => (intOf i).toNat)
  case atStart => exact ⟨N, none, 0, 0, [], rfl, rfl, by omega, by simp, OwLs.nil_ _ _ _ _ _ _, hC1, hg1⟩
  case round =>
    obtain ⟨j, A, c, m, ts, rfl, rfl, hmj, hdr, hO, hC, hgr⟩ := hrel
    have HDR := Lib.hid hdr
    have hlen := hO.len
    clear hdr
    by_cases hlt : 0 < j
    · have hcx := codnext_any B g 10 wr hC (by omega) (by omega)
      rw [show ((10 : Nat) : Int) = 10 from rfl] at hcx
      have Hcx := Lib.hid hcx
      clear hcx
      have dj : decide ((0 : Int) < (j : Int)) = true := by simp; omega
      go_wp2_with fail
      refine Hcx.out.mono ?_
      rintro e w2 ⟨x, rfl, hx, hC2, hg2⟩
      have hgr2 := grown_trans hgr hg2
      have G2 := hG.grown hgr2 hBg
      have hs1 := hgr.size
      have hs2 := hg2.size
      have hOwn : ∀ o, (Value.slice A m c).ownBlock = some o → w.heap.size ≤ o ∧ o < wr.heap.size := fun o e => by
        obtain ⟨xs, ho, _, _⟩ := hO
        exact World.ownsRow.lt ho o e
      have hO2 : OwLs encSm 18 (fun S w => SmOk (n + 1) S w) w2 w.heap.size 147 (.slice A m c) ts := hO.keepR (framSm (n + 1)) (fun b hb hbb => grown_lt hg2 hb (by omega))
      obtain ⟨hl1, hl2, hl3⟩ := hlen
      have HL1 := Lib.hid hl1
      clear hg2 hO hC Hcx hl1
      by_cases hc : n = 0 ∧ 7 ≤ x
      · obtain ⟨hn0', hx7⟩ := hc
        have e1 : decide ((n : Int) + 1 ≤ 1) = true := by simp; omega
        have e2 : decide ((7 : Int) ≤ (x : Int)) = true := by simp; omega
        obtain ⟨y, rfl⟩ : ∃ y, x = y + 7 := ⟨x - 7, by omega⟩
        have e3 : (((y + 7 : Nat) : Int) - 7) = (y : Int) := by omega
        have hy : y < 3 := by omega
        clear hn0'
        · skip
          have hcx3 := codnext_any B g 3 w2.drew hC2.drew (by omega) (by omega)
          rw [show ((3 : Nat) : Int) = 3 from rfl] at hcx3
          have Hcx3 := Lib.hid hcx3
          clear hcx3
          go_upto_region 10 with fail
          go_wp2_with fail
          refine wp_region_lexL ((fun w' => Glb B w')) (by kernel_rfl) (by kernel_rfl) (G2.drew) ?_
          repeat (first | (refine lexL_q0 rfl ?_; go_big_quiet_step (fail); refine wpQuiet_nil ?_) | (refine lexL_skip0 rfl rfl ?_; simp only [Act.put, List.setIfInBounds_toArray, List.set_cons_succ, List.set_cons_zero]))
          refine lexL_e rfl ?_
          go_wp2_with fail
          refine Hcx3.out.mono ?_
          rintro e w3 ⟨z3, rfl, hz3, hC3, hq3⟩
          have hg3 : w2.grownBy w3 (some g) := grown_trans (grown_of_below (Below.refl _ w2).drew _) hq3
          have hs3 := hg3.size
          have G3 := G2.grown hg3 hBg
          have Hcx4 := Lib.hid (codexpr_any 3 (by omega) B g w3 (by omega) (hC3) (G3))
          go_wp2_with fail
          refine lexL_go (G3) ?_
          repeat (first | (refine lexL_q0 rfl ?_; go_big_quiet_step (fail); refine wpQuiet_nil ?_) | (refine lexL_skip0 rfl rfl ?_; simp only [Act.put, List.setIfInBounds_toArray, List.set_cons_succ, List.set_cons_zero]))
          refine lexL_ld (⟨0, z3, none⟩) (.string (scalS z3)) rfl rfl rfl (fun w' hw' => run_ld1 (ag_str _) (hw'.scal hz3)) ?_
          simp only [Act.put, List.setIfInBounds_toArray, List.set_cons_succ, List.set_cons_zero]
          repeat (first | (refine lexL_q0 rfl ?_; go_big_quiet_step (fail); refine wpQuiet_nil ?_) | (refine lexL_skip0 rfl rfl ?_; simp only [Act.put, List.setIfInBounds_toArray, List.set_cons_succ, List.set_cons_zero]))
          refine lexL_e rfl ?_
          go_wp2_with fail
          refine Hcx4.out.mono ?_
          rintro e w4 ⟨x4, t4, rfl, hdr4, hok4, hC4, hq4⟩
          have hg4 : w3.grownBy w4 (some g) := hq4
          have hs4 := hg4.size
          have G4 := G3.grown hg4 hBg
          unfold exV
          have ha : Below w4.heap.size w4 (w4.alloc (.cells #[.int .i64 1, .string (scalS z3), .int .i64 0, .int .i64 0, .int .i64 0, .int .i64 0, .string (ByteArray.mk #[]), .int .i64 0, .int .i64 0, .slice none 0 0, .int .i64 x4.op, .int .i64 x4.val, .string x4.name, .int .i64 x4.slot, .int .i64 x4.size, .slice x4.A x4.n x4.c, .slice none 0 0, .slice none 0 0] 147)) := (Below.refl _ _).alloc (Nat.le_refl _) _
          have hgre : w.grownBy w4 (some g) := grown_trans (grown_trans (hgr2) hg3) hg4
          have hOe : OwLs encSm 18 (fun S w => SmOk (n + 1) S w) w4 w.heap.size 147 (.slice A m c) ts := hO2.keepR (framSm (n + 1)) (fun b hb hbb => (grown_lt hg4 (by omega) (by omega)).trans (grown_lt hg3 (by omega) (by omega)))
          obtain ⟨xs, ho, hxl, hxs⟩ := hOe.ext (framSm (n + 1)) ha
          have hlx := Lib.hid ho.len.1
          have hCe := hC4.ext ha
          have hgra : w.grownBy (w4.alloc (.cells #[.int .i64 1, .string (scalS z3), .int .i64 0, .int .i64 0, .int .i64 0, .int .i64 0, .string (ByteArray.mk #[]), .int .i64 0, .int .i64 0, .slice none 0 0, .int .i64 x4.op, .int .i64 x4.val, .string x4.name, .int .i64 x4.slot, .int .i64 x4.size, .slice x4.A x4.n x4.c, .slice none 0 0, .slice none 0 0] 147)) (some g) := grown_trans hgre (grown_of_below ha _)
          have hasz := ha.size
          have CLS : ∀ b, w2.heap.size ≤ b → w.heap.size ≤ b ∧ (Value.slice A m c).ownBlock ≠ some b := fun b hb => ⟨by omega, fun e => by have := hOwn b e; omega⟩
          have hok : SmOk (n + 1) (fun b => w.heap.size ≤ b ∧ (Value.slice A m c).ownBlock ≠ some b) (w4.alloc (.cells #[.int .i64 1, .string (scalS z3), .int .i64 0, .int .i64 0, .int .i64 0, .int .i64 0, .string (ByteArray.mk #[]), .int .i64 0, .int .i64 0, .slice none 0 0, .int .i64 x4.op, .int .i64 x4.val, .string x4.name, .int .i64 x4.slot, .int .i64 x4.size, .slice x4.A x4.n x4.c, .slice none 0 0, .slice none 0 0] 147)) ⟨1, (scalS z3), 0, 0, zExV, x4, none, 0, 0, none, 0, 0⟩ (.mk 1 (scalS z3) 0 0 zEx t4 [] []) := ⟨rfl, rfl, rfl, rfl, zEx_ok 2 _ _, ExOk.mono (w := (w4.alloc (.cells #[.int .i64 1, .string (scalS z3), .int .i64 0, .int .i64 0, .int .i64 0, .int .i64 0, .string (ByteArray.mk #[]), .int .i64 0, .int .i64 0, .slice none 0 0, .int .i64 x4.op, .int .i64 x4.val, .string x4.name, .int .i64 x4.slot, .int .i64 x4.size, .slice x4.A x4.n x4.c, .slice none 0 0, .slice none 0 0] 147))) (fun b _ h => CLS b (Nat.le_trans (by omega) h)) _ _ _ (ExOk.keep (Keep.of_below ha) _ _ _ (ExOk.to3 (by omega) (hok4))), LsOk.nil_ _ _ _ _, LsOk.nil_ _ _ _ _⟩
          have hone : Recs encSm (fun _ => True) (w4.alloc (.cells #[.int .i64 1, .string (scalS z3), .int .i64 0, .int .i64 0, .int .i64 0, .int .i64 0, .string (ByteArray.mk #[]), .int .i64 0, .int .i64 0, .slice none 0 0, .int .i64 x4.op, .int .i64 x4.val, .string x4.name, .int .i64 x4.slot, .int .i64 x4.size, .slice x4.A x4.n x4.c, .slice none 0 0, .slice none 0 0] 147)) (.slice (some ⟨w4.heap.size, 0, none⟩) 1 1) [⟨1, (scalS z3), 0, 0, zExV, x4, none, 0, 0, none, 0, 0⟩] := sm_one (heap_alloc_new _ _) trivial
          have hblk : ∀ o, (Value.slice A m c).ownBlock = some o → w.heap.size ≤ o := fun o e => (World.ownsRow.lt ho o e).1
          have hd : DrS (n + 1) (.mk 1 (scalS z3) 0 0 zEx t4 [] []) := ⟨rfl, rfl, DrE.to3 (by omega) hdr4, (by simp), (by simp), .inl ⟨rfl, scalS_is _, rfl, rfl, rfl⟩⟩
          go_wp2_with fail
          refine lexL_go (G4) ?_
          repeat (first | (refine lexL_q0 rfl ?_; go_big_quiet_step (fail); refine wpQuiet_nil ?_) | (refine lexL_skip0 rfl rfl ?_; simp only [Act.put, List.setIfInBounds_toArray, List.set_cons_succ, List.set_cons_zero]))
          refine lexL_e rfl ?_
          go_wp2_with fail
          refine lexL_go G4 ?_
          repeat (first | (refine lexL_q0 rfl ?_; go_big_quiet_step (fail); refine wpQuiet_nil ?_) | (refine lexL_skip0 rfl rfl ?_; simp only [Act.put, List.setIfInBounds_toArray, List.set_cons_succ, List.set_cons_zero]))
          refine lexL_e rfl ?_
          go_wp2_with fail
          refine lexL_go (G4.ext ha) ?_
          repeat (first | (refine lexL_q0 rfl ?_; go_big_quiet_step (fail); refine wpQuiet_nil ?_) | (refine lexL_skip0 rfl rfl ?_; simp only [Act.put, List.setIfInBounds_toArray, List.set_cons_succ, List.set_cons_zero]))
          refine lexL_e rfl ?_
          go_wp2_with (refine wpList_appR (o := ⟨some 50, _, _, _, _, _⟩) encSm_len encSm_one (.agg #[.int .i64 0, .string (ByteArray.mk #[]), .int .i64 0, .int .i64 0, .int .i64 0, .int .i64 0, .string (ByteArray.mk #[]), .int .i64 0, .int .i64 0, .slice none 0 0, .int .i64 0, .int .i64 0, .string (ByteArray.mk #[]), .int .i64 0, .int .i64 0, .slice none 0 0, .slice none 0 0, .slice none 0 0]) 232 _ _ 66 147 w.heap.size xs [⟨1, (scalS z3), 0, 0, zExV, x4, none, 0, 0, none, 0, 0⟩] (some ⟨w4.heap.size, 0, none⟩) 1 1 (.slice A m c) (m + 1) rfl rfl Tryd.underlying66 infoSm rfl (by omega) rfl rfl ho hone (by rw [hlx.out]) (by rw [hlx.out]; omega) (by rw [hlx.out]; omega) (by omega) ?_; intro Az cz wz hownz hgrz hatz hcz1 hcz2)
          have hgf : w.grownBy wz (some g) := grown_new hgra hgrz (fun q hq => .inl (hblk q hq))
          have hCf := hCe.grown hgrz (fun q hq => by have := hblk q hq; constructor <;> omega)
          refine lexL_go (hG.grown hgf hBg) ?_
          repeat (first | (refine lexL_q0 rfl ?_; go_big_quiet_step (fail); refine wpQuiet_nil ?_) | (refine lexL_skip0 rfl rfl ?_; simp only [Act.put, List.setIfInBounds_toArray, List.set_cons_succ, List.set_cons_zero]))
          refine lexL_nil ?_
          go_wp2_with fail
          go_roundw
          case rel => exact ⟨j - 1, Az, cz, m + 1, ts ++ [.mk 1 (scalS z3) 0 0 zEx t4 [] []], by congr 1; omega, rfl, by omega, fun s hs => by
            rcases List.mem_append.1 hs with hs | hs
            · exact HDR.out s hs
            · rw [List.mem_singleton] at hs; subst hs; exact hd, OwLs.push (framSm (n + 1)) ⟨hxl, hxs⟩ _ _ hok hownz hgrz hatz, hCf, hgf⟩
          case measure => simp [intOf]; omega
      · by_cases hn0' : n = 0
        · have hx7 : x < 7 := by omega
          have e1 : decide ((n : Int) + 1 ≤ 1) = true := by simp; omega
          have e2 : decide ((7 : Int) ≤ (x : Int)) = false := by simp; omega
          clear hc hn0'
          by_cases h3 : x < 3
          · skip
            have hcx3 := codnext_any B g 3 w2.drew hC2.drew (by omega) (by omega)
            rw [show ((3 : Nat) : Int) = 3 from rfl] at hcx3
            have Hcx3 := Lib.hid hcx3
            clear hcx3
            go_upto_region 10 with fail
            go_wp2_with fail
            refine wp_region_lexL ((fun w' => Glb B w')) (by kernel_rfl) (by kernel_rfl) (G2.drew) ?_
            repeat (first | (refine lexL_q0 rfl ?_; go_big_quiet_step (fail); refine wpQuiet_nil ?_) | (refine lexL_skip0 rfl rfl ?_; simp only [Act.put, List.setIfInBounds_toArray, List.set_cons_succ, List.set_cons_zero]))
            refine lexL_e rfl ?_
            go_wp2_with fail
            refine Hcx3.out.mono ?_
            rintro e w3 ⟨z3, rfl, hz3, hC3, hq3⟩
            have hg3 : w2.grownBy w3 (some g) := grown_trans (grown_of_below (Below.refl _ w2).drew _) hq3
            have hs3 := hg3.size
            have G3 := G2.grown hg3 hBg
            have Hcx4 := Lib.hid (codexpr_any 3 (by omega) B g w3 (by omega) (hC3) (G3))
            go_wp2_with fail
            refine lexL_go (G3) ?_
            repeat (first | (refine lexL_q0 rfl ?_; go_big_quiet_step (fail); refine wpQuiet_nil ?_) | (refine lexL_skip0 rfl rfl ?_; simp only [Act.put, List.setIfInBounds_toArray, List.set_cons_succ, List.set_cons_zero]))
            refine lexL_ld (⟨0, z3, none⟩) (.string (scalS z3)) rfl rfl rfl (fun w' hw' => run_ld1 (ag_str _) (hw'.scal hz3)) ?_
            simp only [Act.put, List.setIfInBounds_toArray, List.set_cons_succ, List.set_cons_zero]
            repeat (first | (refine lexL_q0 rfl ?_; go_big_quiet_step (fail); refine wpQuiet_nil ?_) | (refine lexL_skip0 rfl rfl ?_; simp only [Act.put, List.setIfInBounds_toArray, List.set_cons_succ, List.set_cons_zero]))
            refine lexL_e rfl ?_
            go_wp2_with fail
            refine Hcx4.out.mono ?_
            rintro e w4 ⟨x4, t4, rfl, hdr4, hok4, hC4, hq4⟩
            have hg4 : w3.grownBy w4 (some g) := hq4
            have hs4 := hg4.size
            have G4 := G3.grown hg4 hBg
            unfold exV
            have ha : Below w4.heap.size w4 (w4.alloc (.cells #[.int .i64 1, .string (scalS z3), .int .i64 0, .int .i64 0, .int .i64 0, .int .i64 0, .string (ByteArray.mk #[]), .int .i64 0, .int .i64 0, .slice none 0 0, .int .i64 x4.op, .int .i64 x4.val, .string x4.name, .int .i64 x4.slot, .int .i64 x4.size, .slice x4.A x4.n x4.c, .slice none 0 0, .slice none 0 0] 147)) := (Below.refl _ _).alloc (Nat.le_refl _) _
            have hgre : w.grownBy w4 (some g) := grown_trans (grown_trans (hgr2) hg3) hg4
            have hOe : OwLs encSm 18 (fun S w => SmOk (n + 1) S w) w4 w.heap.size 147 (.slice A m c) ts := hO2.keepR (framSm (n + 1)) (fun b hb hbb => (grown_lt hg4 (by omega) (by omega)).trans (grown_lt hg3 (by omega) (by omega)))
            obtain ⟨xs, ho, hxl, hxs⟩ := hOe.ext (framSm (n + 1)) ha
            have hlx := Lib.hid ho.len.1
            have hCe := hC4.ext ha
            have hgra : w.grownBy (w4.alloc (.cells #[.int .i64 1, .string (scalS z3), .int .i64 0, .int .i64 0, .int .i64 0, .int .i64 0, .string (ByteArray.mk #[]), .int .i64 0, .int .i64 0, .slice none 0 0, .int .i64 x4.op, .int .i64 x4.val, .string x4.name, .int .i64 x4.slot, .int .i64 x4.size, .slice x4.A x4.n x4.c, .slice none 0 0, .slice none 0 0] 147)) (some g) := grown_trans hgre (grown_of_below ha _)
            have hasz := ha.size
            have CLS : ∀ b, w2.heap.size ≤ b → w.heap.size ≤ b ∧ (Value.slice A m c).ownBlock ≠ some b := fun b hb => ⟨by omega, fun e => by have := hOwn b e; omega⟩
            have hok : SmOk (n + 1) (fun b => w.heap.size ≤ b ∧ (Value.slice A m c).ownBlock ≠ some b) (w4.alloc (.cells #[.int .i64 1, .string (scalS z3), .int .i64 0, .int .i64 0, .int .i64 0, .int .i64 0, .string (ByteArray.mk #[]), .int .i64 0, .int .i64 0, .slice none 0 0, .int .i64 x4.op, .int .i64 x4.val, .string x4.name, .int .i64 x4.slot, .int .i64 x4.size, .slice x4.A x4.n x4.c, .slice none 0 0, .slice none 0 0] 147)) ⟨1, (scalS z3), 0, 0, zExV, x4, none, 0, 0, none, 0, 0⟩ (.mk 1 (scalS z3) 0 0 zEx t4 [] []) := ⟨rfl, rfl, rfl, rfl, zEx_ok 2 _ _, ExOk.mono (w := (w4.alloc (.cells #[.int .i64 1, .string (scalS z3), .int .i64 0, .int .i64 0, .int .i64 0, .int .i64 0, .string (ByteArray.mk #[]), .int .i64 0, .int .i64 0, .slice none 0 0, .int .i64 x4.op, .int .i64 x4.val, .string x4.name, .int .i64 x4.slot, .int .i64 x4.size, .slice x4.A x4.n x4.c, .slice none 0 0, .slice none 0 0] 147))) (fun b _ h => CLS b (Nat.le_trans (by omega) h)) _ _ _ (ExOk.keep (Keep.of_below ha) _ _ _ (ExOk.to3 (by omega) (hok4))), LsOk.nil_ _ _ _ _, LsOk.nil_ _ _ _ _⟩
            have hone : Recs encSm (fun _ => True) (w4.alloc (.cells #[.int .i64 1, .string (scalS z3), .int .i64 0, .int .i64 0, .int .i64 0, .int .i64 0, .string (ByteArray.mk #[]), .int .i64 0, .int .i64 0, .slice none 0 0, .int .i64 x4.op, .int .i64 x4.val, .string x4.name, .int .i64 x4.slot, .int .i64 x4.size, .slice x4.A x4.n x4.c, .slice none 0 0, .slice none 0 0] 147)) (.slice (some ⟨w4.heap.size, 0, none⟩) 1 1) [⟨1, (scalS z3), 0, 0, zExV, x4, none, 0, 0, none, 0, 0⟩] := sm_one (heap_alloc_new _ _) trivial
            have hblk : ∀ o, (Value.slice A m c).ownBlock = some o → w.heap.size ≤ o := fun o e => (World.ownsRow.lt ho o e).1
            have hd : DrS (n + 1) (.mk 1 (scalS z3) 0 0 zEx t4 [] []) := ⟨rfl, rfl, DrE.to3 (by omega) hdr4, (by simp), (by simp), .inl ⟨rfl, scalS_is _, rfl, rfl, rfl⟩⟩
            go_wp2_with fail
            refine lexL_go (G4) ?_
            repeat (first | (refine lexL_q0 rfl ?_; go_big_quiet_step (fail); refine wpQuiet_nil ?_) | (refine lexL_skip0 rfl rfl ?_; simp only [Act.put, List.setIfInBounds_toArray, List.set_cons_succ, List.set_cons_zero]))
            refine lexL_e rfl ?_
            go_wp2_with fail
            refine lexL_go G4 ?_
            repeat (first | (refine lexL_q0 rfl ?_; go_big_quiet_step (fail); refine wpQuiet_nil ?_) | (refine lexL_skip0 rfl rfl ?_; simp only [Act.put, List.setIfInBounds_toArray, List.set_cons_succ, List.set_cons_zero]))
            refine lexL_e rfl ?_
            go_wp2_with fail
            refine lexL_go (G4.ext ha) ?_
            repeat (first | (refine lexL_q0 rfl ?_; go_big_quiet_step (fail); refine wpQuiet_nil ?_) | (refine lexL_skip0 rfl rfl ?_; simp only [Act.put, List.setIfInBounds_toArray, List.set_cons_succ, List.set_cons_zero]))
            refine lexL_e rfl ?_
            go_wp2_with (refine wpList_appR (o := ⟨some 50, _, _, _, _, _⟩) encSm_len encSm_one (.agg #[.int .i64 0, .string (ByteArray.mk #[]), .int .i64 0, .int .i64 0, .int .i64 0, .int .i64 0, .string (ByteArray.mk #[]), .int .i64 0, .int .i64 0, .slice none 0 0, .int .i64 0, .int .i64 0, .string (ByteArray.mk #[]), .int .i64 0, .int .i64 0, .slice none 0 0, .slice none 0 0, .slice none 0 0]) 232 _ _ 66 147 w.heap.size xs [⟨1, (scalS z3), 0, 0, zExV, x4, none, 0, 0, none, 0, 0⟩] (some ⟨w4.heap.size, 0, none⟩) 1 1 (.slice A m c) (m + 1) rfl rfl Tryd.underlying66 infoSm rfl (by omega) rfl rfl ho hone (by rw [hlx.out]) (by rw [hlx.out]; omega) (by rw [hlx.out]; omega) (by omega) ?_; intro Az cz wz hownz hgrz hatz hcz1 hcz2)
            have hgf : w.grownBy wz (some g) := grown_new hgra hgrz (fun q hq => .inl (hblk q hq))
            have hCf := hCe.grown hgrz (fun q hq => by have := hblk q hq; constructor <;> omega)
            refine lexL_go (hG.grown hgf hBg) ?_
            repeat (first | (refine lexL_q0 rfl ?_; go_big_quiet_step (fail); refine wpQuiet_nil ?_) | (refine lexL_skip0 rfl rfl ?_; simp only [Act.put, List.setIfInBounds_toArray, List.set_cons_succ, List.set_cons_zero]))
            refine lexL_nil ?_
            go_wp2_with fail
            go_roundw
            case rel => exact ⟨j - 1, Az, cz, m + 1, ts ++ [.mk 1 (scalS z3) 0 0 zEx t4 [] []], by congr 1; omega, rfl, by omega, fun s hs => by
              rcases List.mem_append.1 hs with hs | hs
              · exact HDR.out s hs
              · rw [List.mem_singleton] at hs; subst hs; exact hd, OwLs.push (framSm (n + 1)) ⟨hxl, hxs⟩ _ _ hok hownz hgrz hatz, hCf, hgf⟩
            case measure => simp [intOf]; omega
          by_cases h4 : x = 3
          · subst h4
            have hcx3 := codnext_any B g 2 w2.drew hC2.drew (by omega) (by omega)
            rw [show ((2 : Nat) : Int) = 2 from rfl] at hcx3
            have Hcx3 := Lib.hid hcx3
            clear hcx3
            go_upto_region 12 with fail
            go_wp2_with fail
            refine wp_region_lexL ((fun w' => Glb B w')) (by kernel_rfl) (by kernel_rfl) (G2.drew) ?_
            repeat (first | (refine lexL_q0 rfl ?_; go_big_quiet_step (fail); refine wpQuiet_nil ?_) | (refine lexL_skip0 rfl rfl ?_; simp only [Act.put, List.setIfInBounds_toArray, List.set_cons_succ, List.set_cons_zero]))
            refine lexL_e rfl ?_
            go_wp2_with fail
            refine Hcx3.out.mono ?_
            rintro e w3 ⟨z3, rfl, hz3, hC3, hq3⟩
            have hg3 : w2.grownBy w3 (some g) := grown_trans (grown_of_below (Below.refl _ w2).drew _) hq3
            have hs3 := hg3.size
            have G3 := G2.grown hg3 hBg
            have Hcx4 := Lib.hid (codexpr_any 2 (by omega) B g w3 (by omega) (hC3) (G3))
            go_wp2_with fail
            refine lexL_go (G3) ?_
            repeat (first | (refine lexL_q0 rfl ?_; go_big_quiet_step (fail); refine wpQuiet_nil ?_) | (refine lexL_skip0 rfl rfl ?_; simp only [Act.put, List.setIfInBounds_toArray, List.set_cons_succ, List.set_cons_zero]))
            refine lexL_ld (⟨1, z3, none⟩) (.string (arrS z3)) rfl rfl rfl (fun w' hw' => run_ld1 (ag_str _) (hw'.arr hz3)) ?_
            simp only [Act.put, List.setIfInBounds_toArray, List.set_cons_succ, List.set_cons_zero]
            repeat (first | (refine lexL_q0 rfl ?_; go_big_quiet_step (fail); refine wpQuiet_nil ?_) | (refine lexL_skip0 rfl rfl ?_; simp only [Act.put, List.setIfInBounds_toArray, List.set_cons_succ, List.set_cons_zero]))
            refine lexL_e rfl ?_
            go_wp2_with fail
            refine Hcx4.out.mono ?_
            rintro e w4 ⟨x4, t4, rfl, hdr4, hok4, hC4, hq4⟩
            have hg4 : w3.grownBy w4 (some g) := hq4
            have hs4 := hg4.size
            have G4 := G3.grown hg4 hBg
            unfold exV
            have Hcx5 := Lib.hid (codexpr_any 2 (by omega) B g w4 (by omega) (hC4) (G4))
            go_wp2_with fail
            refine lexL_go (G4) ?_
            repeat (first | (refine lexL_q0 rfl ?_; go_big_quiet_step (fail); refine wpQuiet_nil ?_) | (refine lexL_skip0 rfl rfl ?_; simp only [Act.put, List.setIfInBounds_toArray, List.set_cons_succ, List.set_cons_zero]))
            refine lexL_e rfl ?_
            go_wp2_with fail
            refine Hcx5.out.mono ?_
            rintro e w5 ⟨x5, t5, rfl, hdr5, hok5, hC5, hq5⟩
            have hg5 : w4.grownBy w5 (some g) := hq5
            have hs5 := hg5.size
            have G5 := G4.grown hg5 hBg
            unfold exV
            have ha : Below w5.heap.size w5 (w5.alloc (.cells #[.int .i64 2, .string (arrS z3), .int .i64 0, .int .i64 0, .int .i64 x4.op, .int .i64 x4.val, .string x4.name, .int .i64 x4.slot, .int .i64 x4.size, .slice x4.A x4.n x4.c, .int .i64 x5.op, .int .i64 x5.val, .string x5.name, .int .i64 x5.slot, .int .i64 x5.size, .slice x5.A x5.n x5.c, .slice none 0 0, .slice none 0 0] 147)) := (Below.refl _ _).alloc (Nat.le_refl _) _
            have hgre : w.grownBy w5 (some g) := grown_trans (grown_trans (grown_trans (hgr2) hg3) hg4) hg5
            have hOe : OwLs encSm 18 (fun S w => SmOk (n + 1) S w) w5 w.heap.size 147 (.slice A m c) ts := hO2.keepR (framSm (n + 1)) (fun b hb hbb => (grown_lt hg5 (by omega) (by omega)).trans ((grown_lt hg4 (by omega) (by omega)).trans (grown_lt hg3 (by omega) (by omega))))
            obtain ⟨xs, ho, hxl, hxs⟩ := hOe.ext (framSm (n + 1)) ha
            have hlx := Lib.hid ho.len.1
            have hCe := hC5.ext ha
            have hgra : w.grownBy (w5.alloc (.cells #[.int .i64 2, .string (arrS z3), .int .i64 0, .int .i64 0, .int .i64 x4.op, .int .i64 x4.val, .string x4.name, .int .i64 x4.slot, .int .i64 x4.size, .slice x4.A x4.n x4.c, .int .i64 x5.op, .int .i64 x5.val, .string x5.name, .int .i64 x5.slot, .int .i64 x5.size, .slice x5.A x5.n x5.c, .slice none 0 0, .slice none 0 0] 147)) (some g) := grown_trans hgre (grown_of_below ha _)
            have hasz := ha.size
            have CLS : ∀ b, w2.heap.size ≤ b → w.heap.size ≤ b ∧ (Value.slice A m c).ownBlock ≠ some b := fun b hb => ⟨by omega, fun e => by have := hOwn b e; omega⟩
            have hok : SmOk (n + 1) (fun b => w.heap.size ≤ b ∧ (Value.slice A m c).ownBlock ≠ some b) (w5.alloc (.cells #[.int .i64 2, .string (arrS z3), .int .i64 0, .int .i64 0, .int .i64 x4.op, .int .i64 x4.val, .string x4.name, .int .i64 x4.slot, .int .i64 x4.size, .slice x4.A x4.n x4.c, .int .i64 x5.op, .int .i64 x5.val, .string x5.name, .int .i64 x5.slot, .int .i64 x5.size, .slice x5.A x5.n x5.c, .slice none 0 0, .slice none 0 0] 147)) ⟨2, (arrS z3), 0, 0, x4, x5, none, 0, 0, none, 0, 0⟩ (.mk 2 (arrS z3) 0 0 t4 t5 [] []) := ⟨rfl, rfl, rfl, rfl, ExOk.mono (w := (w5.alloc (.cells #[.int .i64 2, .string (arrS z3), .int .i64 0, .int .i64 0, .int .i64 x4.op, .int .i64 x4.val, .string x4.name, .int .i64 x4.slot, .int .i64 x4.size, .slice x4.A x4.n x4.c, .int .i64 x5.op, .int .i64 x5.val, .string x5.name, .int .i64 x5.slot, .int .i64 x5.size, .slice x5.A x5.n x5.c, .slice none 0 0, .slice none 0 0] 147))) (fun b _ h => CLS b (Nat.le_trans (by omega) h)) _ _ _ (ExOk.keep (Keep.of_below ha) _ _ _ (ExOk.to3 (by omega) (fr_g (framEx _) hg5 (by omega) (hok4)))), ExOk.mono (w := (w5.alloc (.cells #[.int .i64 2, .string (arrS z3), .int .i64 0, .int .i64 0, .int .i64 x4.op, .int .i64 x4.val, .string x4.name, .int .i64 x4.slot, .int .i64 x4.size, .slice x4.A x4.n x4.c, .int .i64 x5.op, .int .i64 x5.val, .string x5.name, .int .i64 x5.slot, .int .i64 x5.size, .slice x5.A x5.n x5.c, .slice none 0 0, .slice none 0 0] 147))) (fun b _ h => CLS b (Nat.le_trans (by omega) h)) _ _ _ (ExOk.keep (Keep.of_below ha) _ _ _ (ExOk.to3 (by omega) (hok5))), LsOk.nil_ _ _ _ _, LsOk.nil_ _ _ _ _⟩
            have hone : Recs encSm (fun _ => True) (w5.alloc (.cells #[.int .i64 2, .string (arrS z3), .int .i64 0, .int .i64 0, .int .i64 x4.op, .int .i64 x4.val, .string x4.name, .int .i64 x4.slot, .int .i64 x4.size, .slice x4.A x4.n x4.c, .int .i64 x5.op, .int .i64 x5.val, .string x5.name, .int .i64 x5.slot, .int .i64 x5.size, .slice x5.A x5.n x5.c, .slice none 0 0, .slice none 0 0] 147)) (.slice (some ⟨w5.heap.size, 0, none⟩) 1 1) [⟨2, (arrS z3), 0, 0, x4, x5, none, 0, 0, none, 0, 0⟩] := sm_one (heap_alloc_new _ _) trivial
            have hblk : ∀ o, (Value.slice A m c).ownBlock = some o → w.heap.size ≤ o := fun o e => (World.ownsRow.lt ho o e).1
            have hd : DrS (n + 1) (.mk 2 (arrS z3) 0 0 t4 t5 [] []) := ⟨rfl, rfl, DrE.to3 (by omega) hdr5, (by simp), (by simp), .inr (.inl ⟨rfl, arrS_is _, DrE.to3 (by omega) hdr4, rfl, rfl⟩)⟩
            go_wp2_with fail
            refine lexL_go (G5) ?_
            repeat (first | (refine lexL_q0 rfl ?_; go_big_quiet_step (fail); refine wpQuiet_nil ?_) | (refine lexL_skip0 rfl rfl ?_; simp only [Act.put, List.setIfInBounds_toArray, List.set_cons_succ, List.set_cons_zero]))
            refine lexL_e rfl ?_
            go_wp2_with fail
            refine lexL_go G5 ?_
            repeat (first | (refine lexL_q0 rfl ?_; go_big_quiet_step (fail); refine wpQuiet_nil ?_) | (refine lexL_skip0 rfl rfl ?_; simp only [Act.put, List.setIfInBounds_toArray, List.set_cons_succ, List.set_cons_zero]))
            refine lexL_e rfl ?_
            go_wp2_with fail
            refine lexL_go (G5.ext ha) ?_
            repeat (first | (refine lexL_q0 rfl ?_; go_big_quiet_step (fail); refine wpQuiet_nil ?_) | (refine lexL_skip0 rfl rfl ?_; simp only [Act.put, List.setIfInBounds_toArray, List.set_cons_succ, List.set_cons_zero]))
            refine lexL_e rfl ?_
            go_wp2_with (refine wpList_appR (o := ⟨some 65, _, _, _, _, _⟩) encSm_len encSm_one (.agg #[.int .i64 0, .string (ByteArray.mk #[]), .int .i64 0, .int .i64 0, .int .i64 0, .int .i64 0, .string (ByteArray.mk #[]), .int .i64 0, .int .i64 0, .slice none 0 0, .int .i64 0, .int .i64 0, .string (ByteArray.mk #[]), .int .i64 0, .int .i64 0, .slice none 0 0, .slice none 0 0, .slice none 0 0]) 232 _ _ 66 147 w.heap.size xs [⟨2, (arrS z3), 0, 0, x4, x5, none, 0, 0, none, 0, 0⟩] (some ⟨w5.heap.size, 0, none⟩) 1 1 (.slice A m c) (m + 1) rfl rfl Tryd.underlying66 infoSm rfl (by omega) rfl rfl ho hone (by rw [hlx.out]) (by rw [hlx.out]; omega) (by rw [hlx.out]; omega) (by omega) ?_; intro Az cz wz hownz hgrz hatz hcz1 hcz2)
            have hgf : w.grownBy wz (some g) := grown_new hgra hgrz (fun q hq => .inl (hblk q hq))
            have hCf := hCe.grown hgrz (fun q hq => by have := hblk q hq; constructor <;> omega)
            refine lexL_go (hG.grown hgf hBg) ?_
            repeat (first | (refine lexL_q0 rfl ?_; go_big_quiet_step (fail); refine wpQuiet_nil ?_) | (refine lexL_skip0 rfl rfl ?_; simp only [Act.put, List.setIfInBounds_toArray, List.set_cons_succ, List.set_cons_zero]))
            refine lexL_nil ?_
            go_wp2_with fail
            go_roundw
            case rel => exact ⟨j - 1, Az, cz, m + 1, ts ++ [.mk 2 (arrS z3) 0 0 t4 t5 [] []], by congr 1; omega, rfl, by omega, fun s hs => by
              rcases List.mem_append.1 hs with hs | hs
              · exact HDR.out s hs
              · rw [List.mem_singleton] at hs; subst hs; exact hd, OwLs.push (framSm (n + 1)) ⟨hxl, hxs⟩ _ _ hok hownz hgrz hatz, hCf, hgf⟩
            case measure => simp [intOf]; omega
          by_cases h6 : x < 6
          · skip
            have Hcx3 := Lib.hid (codexpr_any 2 (by omega) B g w2 (by omega) (hC2) (G2))
            go_upto_region 14 with fail
            go_wp2_with fail
            refine Hcx3.out.mono ?_
            rintro e w3 ⟨x3, t3, rfl, hdr3, hok3, hC3, hq3⟩
            have hg3 : w2.grownBy w3 (some g) := hq3
            have hs3 := hg3.size
            have G3 := G2.grown hg3 hBg
            unfold exV
            have Hcx4 := Lib.hid (codexpr_any 2 (by omega) B g w3 (by omega) (hC3) (G3))
            go_wp2_with fail
            refine Hcx4.out.mono ?_
            rintro e w4 ⟨x4, t4, rfl, hdr4, hok4, hC4, hq4⟩
            have hg4 : w3.grownBy w4 (some g) := hq4
            have hs4 := hg4.size
            have G4 := G3.grown hg4 hBg
            unfold exV
            have ha : Below w4.heap.size w4 (w4.alloc (.cells #[.int .i64 5, .string (ByteArray.mk #[]), .int .i64 0, .int .i64 0, .int .i64 x3.op, .int .i64 x3.val, .string x3.name, .int .i64 x3.slot, .int .i64 x3.size, .slice x3.A x3.n x3.c, .int .i64 x4.op, .int .i64 x4.val, .string x4.name, .int .i64 x4.slot, .int .i64 x4.size, .slice x4.A x4.n x4.c, .slice none 0 0, .slice none 0 0] 147)) := (Below.refl _ _).alloc (Nat.le_refl _) _
            have hgre : w.grownBy w4 (some g) := grown_trans (grown_trans (hgr2) hg3) hg4
            have hOe : OwLs encSm 18 (fun S w => SmOk (n + 1) S w) w4 w.heap.size 147 (.slice A m c) ts := hO2.keepR (framSm (n + 1)) (fun b hb hbb => (grown_lt hg4 (by omega) (by omega)).trans (grown_lt hg3 (by omega) (by omega)))
            obtain ⟨xs, ho, hxl, hxs⟩ := hOe.ext (framSm (n + 1)) ha
            have hlx := Lib.hid ho.len.1
            have hCe := hC4.ext ha
            have hgra : w.grownBy (w4.alloc (.cells #[.int .i64 5, .string (ByteArray.mk #[]), .int .i64 0, .int .i64 0, .int .i64 x3.op, .int .i64 x3.val, .string x3.name, .int .i64 x3.slot, .int .i64 x3.size, .slice x3.A x3.n x3.c, .int .i64 x4.op, .int .i64 x4.val, .string x4.name, .int .i64 x4.slot, .int .i64 x4.size, .slice x4.A x4.n x4.c, .slice none 0 0, .slice none 0 0] 147)) (some g) := grown_trans hgre (grown_of_below ha _)
            have hasz := ha.size
            have CLS : ∀ b, w2.heap.size ≤ b → w.heap.size ≤ b ∧ (Value.slice A m c).ownBlock ≠ some b := fun b hb => ⟨by omega, fun e => by have := hOwn b e; omega⟩
            have hok : SmOk (n + 1) (fun b => w.heap.size ≤ b ∧ (Value.slice A m c).ownBlock ≠ some b) (w4.alloc (.cells #[.int .i64 5, .string (ByteArray.mk #[]), .int .i64 0, .int .i64 0, .int .i64 x3.op, .int .i64 x3.val, .string x3.name, .int .i64 x3.slot, .int .i64 x3.size, .slice x3.A x3.n x3.c, .int .i64 x4.op, .int .i64 x4.val, .string x4.name, .int .i64 x4.slot, .int .i64 x4.size, .slice x4.A x4.n x4.c, .slice none 0 0, .slice none 0 0] 147)) ⟨5, (ByteArray.mk #[]), 0, 0, x3, x4, none, 0, 0, none, 0, 0⟩ (.mk 5 (ByteArray.mk #[]) 0 0 t3 t4 [] []) := ⟨rfl, rfl, rfl, rfl, ExOk.mono (w := (w4.alloc (.cells #[.int .i64 5, .string (ByteArray.mk #[]), .int .i64 0, .int .i64 0, .int .i64 x3.op, .int .i64 x3.val, .string x3.name, .int .i64 x3.slot, .int .i64 x3.size, .slice x3.A x3.n x3.c, .int .i64 x4.op, .int .i64 x4.val, .string x4.name, .int .i64 x4.slot, .int .i64 x4.size, .slice x4.A x4.n x4.c, .slice none 0 0, .slice none 0 0] 147))) (fun b _ h => CLS b (Nat.le_trans (by omega) h)) _ _ _ (ExOk.keep (Keep.of_below ha) _ _ _ (ExOk.to3 (by omega) (fr_g (framEx _) hg4 (by omega) (hok3)))), ExOk.mono (w := (w4.alloc (.cells #[.int .i64 5, .string (ByteArray.mk #[]), .int .i64 0, .int .i64 0, .int .i64 x3.op, .int .i64 x3.val, .string x3.name, .int .i64 x3.slot, .int .i64 x3.size, .slice x3.A x3.n x3.c, .int .i64 x4.op, .int .i64 x4.val, .string x4.name, .int .i64 x4.slot, .int .i64 x4.size, .slice x4.A x4.n x4.c, .slice none 0 0, .slice none 0 0] 147))) (fun b _ h => CLS b (Nat.le_trans (by omega) h)) _ _ _ (ExOk.keep (Keep.of_below ha) _ _ _ (ExOk.to3 (by omega) (hok4))), LsOk.nil_ _ _ _ _, LsOk.nil_ _ _ _ _⟩
            have hone : Recs encSm (fun _ => True) (w4.alloc (.cells #[.int .i64 5, .string (ByteArray.mk #[]), .int .i64 0, .int .i64 0, .int .i64 x3.op, .int .i64 x3.val, .string x3.name, .int .i64 x3.slot, .int .i64 x3.size, .slice x3.A x3.n x3.c, .int .i64 x4.op, .int .i64 x4.val, .string x4.name, .int .i64 x4.slot, .int .i64 x4.size, .slice x4.A x4.n x4.c, .slice none 0 0, .slice none 0 0] 147)) (.slice (some ⟨w4.heap.size, 0, none⟩) 1 1) [⟨5, (ByteArray.mk #[]), 0, 0, x3, x4, none, 0, 0, none, 0, 0⟩] := sm_one (heap_alloc_new _ _) trivial
            have hblk : ∀ o, (Value.slice A m c).ownBlock = some o → w.heap.size ≤ o := fun o e => (World.ownsRow.lt ho o e).1
            have hd : DrS (n + 1) (.mk 5 (ByteArray.mk #[]) 0 0 t3 t4 [] []) := ⟨rfl, rfl, DrE.to3 (by omega) hdr4, (by simp), (by simp), .inr (.inr (.inl ⟨rfl, rfl, DrE.to3 (by omega) hdr3, rfl, rfl⟩))⟩
            go_wp2_with (refine wpList_appR (o := ⟨some 76, _, _, _, _, _⟩) encSm_len encSm_one (.agg #[.int .i64 0, .string (ByteArray.mk #[]), .int .i64 0, .int .i64 0, .int .i64 0, .int .i64 0, .string (ByteArray.mk #[]), .int .i64 0, .int .i64 0, .slice none 0 0, .int .i64 0, .int .i64 0, .string (ByteArray.mk #[]), .int .i64 0, .int .i64 0, .slice none 0 0, .slice none 0 0, .slice none 0 0]) 232 _ _ 66 147 w.heap.size xs [⟨5, (ByteArray.mk #[]), 0, 0, x3, x4, none, 0, 0, none, 0, 0⟩] (some ⟨w4.heap.size, 0, none⟩) 1 1 (.slice A m c) (m + 1) rfl rfl Tryd.underlying66 infoSm rfl (by omega) rfl rfl ho hone (by rw [hlx.out]) (by rw [hlx.out]; omega) (by rw [hlx.out]; omega) (by omega) ?_; intro Az cz wz hownz hgrz hatz hcz1 hcz2)
            have hgf : w.grownBy wz (some g) := grown_new hgra hgrz (fun q hq => .inl (hblk q hq))
            have hCf := hCe.grown hgrz (fun q hq => by have := hblk q hq; constructor <;> omega)
            go_roundw
            case rel => exact ⟨j - 1, Az, cz, m + 1, ts ++ [.mk 5 (ByteArray.mk #[]) 0 0 t3 t4 [] []], by congr 1; omega, rfl, by omega, fun s hs => by
              rcases List.mem_append.1 hs with hs | hs
              · exact HDR.out s hs
              · rw [List.mem_singleton] at hs; subst hs; exact hd, OwLs.push (framSm (n + 1)) ⟨hxl, hxs⟩ _ _ hok hownz hgrz hatz, hCf, hgf⟩
            case measure => simp [intOf]; omega
          · obtain rfl : x = 6 := by omega
            have Hcx3 := Lib.hid (codexpr_any 2 (by omega) B g w2 (by omega) (hC2) (G2))
            go_upto_region 16 with fail
            go_wp2_with fail
            refine Hcx3.out.mono ?_
            rintro e w3 ⟨x3, t3, rfl, hdr3, hok3, hC3, hq3⟩
            have hg3 : w2.grownBy w3 (some g) := hq3
            have hs3 := hg3.size
            have G3 := G2.grown hg3 hBg
            unfold exV
            have ha : Below w3.heap.size w3 (w3.alloc (.cells #[.int .i64 6, .string (ByteArray.mk #[]), .int .i64 0, .int .i64 0, .int .i64 0, .int .i64 0, .string (ByteArray.mk #[]), .int .i64 0, .int .i64 0, .slice none 0 0, .int .i64 x3.op, .int .i64 x3.val, .string x3.name, .int .i64 x3.slot, .int .i64 x3.size, .slice x3.A x3.n x3.c, .slice none 0 0, .slice none 0 0] 147)) := (Below.refl _ _).alloc (Nat.le_refl _) _
            have hgre : w.grownBy w3 (some g) := grown_trans (hgr2) hg3
            have hOe : OwLs encSm 18 (fun S w => SmOk (n + 1) S w) w3 w.heap.size 147 (.slice A m c) ts := hO2.keepR (framSm (n + 1)) (fun b hb hbb => grown_lt hg3 (by omega) (by omega))
            obtain ⟨xs, ho, hxl, hxs⟩ := hOe.ext (framSm (n + 1)) ha
            have hlx := Lib.hid ho.len.1
            have hCe := hC3.ext ha
            have hgra : w.grownBy (w3.alloc (.cells #[.int .i64 6, .string (ByteArray.mk #[]), .int .i64 0, .int .i64 0, .int .i64 0, .int .i64 0, .string (ByteArray.mk #[]), .int .i64 0, .int .i64 0, .slice none 0 0, .int .i64 x3.op, .int .i64 x3.val, .string x3.name, .int .i64 x3.slot, .int .i64 x3.size, .slice x3.A x3.n x3.c, .slice none 0 0, .slice none 0 0] 147)) (some g) := grown_trans hgre (grown_of_below ha _)
            have hasz := ha.size
            have CLS : ∀ b, w2.heap.size ≤ b → w.heap.size ≤ b ∧ (Value.slice A m c).ownBlock ≠ some b := fun b hb => ⟨by omega, fun e => by have := hOwn b e; omega⟩
            have hok : SmOk (n + 1) (fun b => w.heap.size ≤ b ∧ (Value.slice A m c).ownBlock ≠ some b) (w3.alloc (.cells #[.int .i64 6, .string (ByteArray.mk #[]), .int .i64 0, .int .i64 0, .int .i64 0, .int .i64 0, .string (ByteArray.mk #[]), .int .i64 0, .int .i64 0, .slice none 0 0, .int .i64 x3.op, .int .i64 x3.val, .string x3.name, .int .i64 x3.slot, .int .i64 x3.size, .slice x3.A x3.n x3.c, .slice none 0 0, .slice none 0 0] 147)) ⟨6, (ByteArray.mk #[]), 0, 0, zExV, x3, none, 0, 0, none, 0, 0⟩ (.mk 6 (ByteArray.mk #[]) 0 0 zEx t3 [] []) := ⟨rfl, rfl, rfl, rfl, zEx_ok 2 _ _, ExOk.mono (w := (w3.alloc (.cells #[.int .i64 6, .string (ByteArray.mk #[]), .int .i64 0, .int .i64 0, .int .i64 0, .int .i64 0, .string (ByteArray.mk #[]), .int .i64 0, .int .i64 0, .slice none 0 0, .int .i64 x3.op, .int .i64 x3.val, .string x3.name, .int .i64 x3.slot, .int .i64 x3.size, .slice x3.A x3.n x3.c, .slice none 0 0, .slice none 0 0] 147))) (fun b _ h => CLS b (Nat.le_trans (by omega) h)) _ _ _ (ExOk.keep (Keep.of_below ha) _ _ _ (ExOk.to3 (by omega) (hok3))), LsOk.nil_ _ _ _ _, LsOk.nil_ _ _ _ _⟩
            have hone : Recs encSm (fun _ => True) (w3.alloc (.cells #[.int .i64 6, .string (ByteArray.mk #[]), .int .i64 0, .int .i64 0, .int .i64 0, .int .i64 0, .string (ByteArray.mk #[]), .int .i64 0, .int .i64 0, .slice none 0 0, .int .i64 x3.op, .int .i64 x3.val, .string x3.name, .int .i64 x3.slot, .int .i64 x3.size, .slice x3.A x3.n x3.c, .slice none 0 0, .slice none 0 0] 147)) (.slice (some ⟨w3.heap.size, 0, none⟩) 1 1) [⟨6, (ByteArray.mk #[]), 0, 0, zExV, x3, none, 0, 0, none, 0, 0⟩] := sm_one (heap_alloc_new _ _) trivial
            have hblk : ∀ o, (Value.slice A m c).ownBlock = some o → w.heap.size ≤ o := fun o e => (World.ownsRow.lt ho o e).1
            have hd : DrS (n + 1) (.mk 6 (ByteArray.mk #[]) 0 0 zEx t3 [] []) := ⟨rfl, rfl, DrE.to3 (by omega) hdr3, (by simp), (by simp), .inr (.inr (.inr (.inl ⟨rfl, rfl, rfl, rfl, rfl⟩)))⟩
            go_wp2_with (refine wpList_appR (o := ⟨some 85, _, _, _, _, _⟩) encSm_len encSm_one (.agg #[.int .i64 0, .string (ByteArray.mk #[]), .int .i64 0, .int .i64 0, .int .i64 0, .int .i64 0, .string (ByteArray.mk #[]), .int .i64 0, .int .i64 0, .slice none 0 0, .int .i64 0, .int .i64 0, .string (ByteArray.mk #[]), .int .i64 0, .int .i64 0, .slice none 0 0, .slice none 0 0, .slice none 0 0]) 232 _ _ 66 147 w.heap.size xs [⟨6, (ByteArray.mk #[]), 0, 0, zExV, x3, none, 0, 0, none, 0, 0⟩] (some ⟨w3.heap.size, 0, none⟩) 1 1 (.slice A m c) (m + 1) rfl rfl Tryd.underlying66 infoSm rfl (by omega) rfl rfl ho hone (by rw [hlx.out]) (by rw [hlx.out]; omega) (by rw [hlx.out]; omega) (by omega) ?_; intro Az cz wz hownz hgrz hatz hcz1 hcz2)
            have hgf : w.grownBy wz (some g) := grown_new hgra hgrz (fun q hq => .inl (hblk q hq))
            have hCf := hCe.grown hgrz (fun q hq => by have := hblk q hq; constructor <;> omega)
            go_roundw
            case rel => exact ⟨j - 1, Az, cz, m + 1, ts ++ [.mk 6 (ByteArray.mk #[]) 0 0 zEx t3 [] []], by congr 1; omega, rfl, by omega, fun s hs => by
              rcases List.mem_append.1 hs with hs | hs
              · exact HDR.out s hs
              · rw [List.mem_singleton] at hs; subst hs; exact hd, OwLs.push (framSm (n + 1)) ⟨hxl, hxs⟩ _ _ hok hownz hgrz hatz, hCf, hgf⟩
            case measure => simp [intOf]; omega
        · have hn0 : 0 < n := by omega
          have e1 : decide ((n : Int) + 1 ≤ 1) = false := by simp; omega
          clear hc hn0'
          by_cases h3 : x < 3
          · skip
            have hcx3 := codnext_any B g 3 w2.drew hC2.drew (by omega) (by omega)
            rw [show ((3 : Nat) : Int) = 3 from rfl] at hcx3
            have Hcx3 := Lib.hid hcx3
            clear hcx3
            go_upto_region 10 with fail
            go_wp2_with fail
            refine wp_region_lexL ((fun w' => Glb B w')) (by kernel_rfl) (by kernel_rfl) (G2.drew) ?_
            repeat (first | (refine lexL_q0 rfl ?_; go_big_quiet_step (fail); refine wpQuiet_nil ?_) | (refine lexL_skip0 rfl rfl ?_; simp only [Act.put, List.setIfInBounds_toArray, List.set_cons_succ, List.set_cons_zero]))
            refine lexL_e rfl ?_
            go_wp2_with fail
            refine Hcx3.out.mono ?_
            rintro e w3 ⟨z3, rfl, hz3, hC3, hq3⟩
            have hg3 : w2.grownBy w3 (some g) := grown_trans (grown_of_below (Below.refl _ w2).drew _) hq3
            have hs3 := hg3.size
            have G3 := G2.grown hg3 hBg
            have Hcx4 := Lib.hid (codexpr_any 3 (by omega) B g w3 (by omega) (hC3) (G3))
            go_wp2_with fail
            refine lexL_go (G3) ?_
            repeat (first | (refine lexL_q0 rfl ?_; go_big_quiet_step (fail); refine wpQuiet_nil ?_) | (refine lexL_skip0 rfl rfl ?_; simp only [Act.put, List.setIfInBounds_toArray, List.set_cons_succ, List.set_cons_zero]))
            refine lexL_ld (⟨0, z3, none⟩) (.string (scalS z3)) rfl rfl rfl (fun w' hw' => run_ld1 (ag_str _) (hw'.scal hz3)) ?_
            simp only [Act.put, List.setIfInBounds_toArray, List.set_cons_succ, List.set_cons_zero]
            repeat (first | (refine lexL_q0 rfl ?_; go_big_quiet_step (fail); refine wpQuiet_nil ?_) | (refine lexL_skip0 rfl rfl ?_; simp only [Act.put, List.setIfInBounds_toArray, List.set_cons_succ, List.set_cons_zero]))
            refine lexL_e rfl ?_
            go_wp2_with fail
            refine Hcx4.out.mono ?_
            rintro e w4 ⟨x4, t4, rfl, hdr4, hok4, hC4, hq4⟩
            have hg4 : w3.grownBy w4 (some g) := hq4
            have hs4 := hg4.size
            have G4 := G3.grown hg4 hBg
            unfold exV
            have ha : Below w4.heap.size w4 (w4.alloc (.cells #[.int .i64 1, .string (scalS z3), .int .i64 0, .int .i64 0, .int .i64 0, .int .i64 0, .string (ByteArray.mk #[]), .int .i64 0, .int .i64 0, .slice none 0 0, .int .i64 x4.op, .int .i64 x4.val, .string x4.name, .int .i64 x4.slot, .int .i64 x4.size, .slice x4.A x4.n x4.c, .slice none 0 0, .slice none 0 0] 147)) := (Below.refl _ _).alloc (Nat.le_refl _) _
            have hgre : w.grownBy w4 (some g) := grown_trans (grown_trans (hgr2) hg3) hg4
            have hOe : OwLs encSm 18 (fun S w => SmOk (n + 1) S w) w4 w.heap.size 147 (.slice A m c) ts := hO2.keepR (framSm (n + 1)) (fun b hb hbb => (grown_lt hg4 (by omega) (by omega)).trans (grown_lt hg3 (by omega) (by omega)))
            obtain ⟨xs, ho, hxl, hxs⟩ := hOe.ext (framSm (n + 1)) ha
            have hlx := Lib.hid ho.len.1
            have hCe := hC4.ext ha
            have hgra : w.grownBy (w4.alloc (.cells #[.int .i64 1, .string (scalS z3), .int .i64 0, .int .i64 0, .int .i64 0, .int .i64 0, .string (ByteArray.mk #[]), .int .i64 0, .int .i64 0, .slice none 0 0, .int .i64 x4.op, .int .i64 x4.val, .string x4.name, .int .i64 x4.slot, .int .i64 x4.size, .slice x4.A x4.n x4.c, .slice none 0 0, .slice none 0 0] 147)) (some g) := grown_trans hgre (grown_of_below ha _)
            have hasz := ha.size
            have CLS : ∀ b, w2.heap.size ≤ b → w.heap.size ≤ b ∧ (Value.slice A m c).ownBlock ≠ some b := fun b hb => ⟨by omega, fun e => by have := hOwn b e; omega⟩
            have hok : SmOk (n + 1) (fun b => w.heap.size ≤ b ∧ (Value.slice A m c).ownBlock ≠ some b) (w4.alloc (.cells #[.int .i64 1, .string (scalS z3), .int .i64 0, .int .i64 0, .int .i64 0, .int .i64 0, .string (ByteArray.mk #[]), .int .i64 0, .int .i64 0, .slice none 0 0, .int .i64 x4.op, .int .i64 x4.val, .string x4.name, .int .i64 x4.slot, .int .i64 x4.size, .slice x4.A x4.n x4.c, .slice none 0 0, .slice none 0 0] 147)) ⟨1, (scalS z3), 0, 0, zExV, x4, none, 0, 0, none, 0, 0⟩ (.mk 1 (scalS z3) 0 0 zEx t4 [] []) := ⟨rfl, rfl, rfl, rfl, zEx_ok 2 _ _, ExOk.mono (w := (w4.alloc (.cells #[.int .i64 1, .string (scalS z3), .int .i64 0, .int .i64 0, .int .i64 0, .int .i64 0, .string (ByteArray.mk #[]), .int .i64 0, .int .i64 0, .slice none 0 0, .int .i64 x4.op, .int .i64 x4.val, .string x4.name, .int .i64 x4.slot, .int .i64 x4.size, .slice x4.A x4.n x4.c, .slice none 0 0, .slice none 0 0] 147))) (fun b _ h => CLS b (Nat.le_trans (by omega) h)) _ _ _ (ExOk.keep (Keep.of_below ha) _ _ _ (ExOk.to3 (by omega) (hok4))), LsOk.nil_ _ _ _ _, LsOk.nil_ _ _ _ _⟩
            have hone : Recs encSm (fun _ => True) (w4.alloc (.cells #[.int .i64 1, .string (scalS z3), .int .i64 0, .int .i64 0, .int .i64 0, .int .i64 0, .string (ByteArray.mk #[]), .int .i64 0, .int .i64 0, .slice none 0 0, .int .i64 x4.op, .int .i64 x4.val, .string x4.name, .int .i64 x4.slot, .int .i64 x4.size, .slice x4.A x4.n x4.c, .slice none 0 0, .slice none 0 0] 147)) (.slice (some ⟨w4.heap.size, 0, none⟩) 1 1) [⟨1, (scalS z3), 0, 0, zExV, x4, none, 0, 0, none, 0, 0⟩] := sm_one (heap_alloc_new _ _) trivial
            have hblk : ∀ o, (Value.slice A m c).ownBlock = some o → w.heap.size ≤ o := fun o e => (World.ownsRow.lt ho o e).1
            have hd : DrS (n + 1) (.mk 1 (scalS z3) 0 0 zEx t4 [] []) := ⟨rfl, rfl, DrE.to3 (by omega) hdr4, (by simp), (by simp), .inl ⟨rfl, scalS_is _, rfl, rfl, rfl⟩⟩
            go_wp2_with fail
            refine lexL_go (G4) ?_
            repeat (first | (refine lexL_q0 rfl ?_; go_big_quiet_step (fail); refine wpQuiet_nil ?_) | (refine lexL_skip0 rfl rfl ?_; simp only [Act.put, List.setIfInBounds_toArray, List.set_cons_succ, List.set_cons_zero]))
            refine lexL_e rfl ?_
            go_wp2_with fail
            refine lexL_go G4 ?_
            repeat (first | (refine lexL_q0 rfl ?_; go_big_quiet_step (fail); refine wpQuiet_nil ?_) | (refine lexL_skip0 rfl rfl ?_; simp only [Act.put, List.setIfInBounds_toArray, List.set_cons_succ, List.set_cons_zero]))
            refine lexL_e rfl ?_
            go_wp2_with fail
            refine lexL_go (G4.ext ha) ?_
            repeat (first | (refine lexL_q0 rfl ?_; go_big_quiet_step (fail); refine wpQuiet_nil ?_) | (refine lexL_skip0 rfl rfl ?_; simp only [Act.put, List.setIfInBounds_toArray, List.set_cons_succ, List.set_cons_zero]))
            refine lexL_e rfl ?_
            go_wp2_with (refine wpList_appR (o := ⟨some 50, _, _, _, _, _⟩) encSm_len encSm_one (.agg #[.int .i64 0, .string (ByteArray.mk #[]), .int .i64 0, .int .i64 0, .int .i64 0, .int .i64 0, .string (ByteArray.mk #[]), .int .i64 0, .int .i64 0, .slice none 0 0, .int .i64 0, .int .i64 0, .string (ByteArray.mk #[]), .int .i64 0, .int .i64 0, .slice none 0 0, .slice none 0 0, .slice none 0 0]) 232 _ _ 66 147 w.heap.size xs [⟨1, (scalS z3), 0, 0, zExV, x4, none, 0, 0, none, 0, 0⟩] (some ⟨w4.heap.size, 0, none⟩) 1 1 (.slice A m c) (m + 1) rfl rfl Tryd.underlying66 infoSm rfl (by omega) rfl rfl ho hone (by rw [hlx.out]) (by rw [hlx.out]; omega) (by rw [hlx.out]; omega) (by omega) ?_; intro Az cz wz hownz hgrz hatz hcz1 hcz2)
            have hgf : w.grownBy wz (some g) := grown_new hgra hgrz (fun q hq => .inl (hblk q hq))
            have hCf := hCe.grown hgrz (fun q hq => by have := hblk q hq; constructor <;> omega)
            refine lexL_go (hG.grown hgf hBg) ?_
            repeat (first | (refine lexL_q0 rfl ?_; go_big_quiet_step (fail); refine wpQuiet_nil ?_) | (refine lexL_skip0 rfl rfl ?_; simp only [Act.put, List.setIfInBounds_toArray, List.set_cons_succ, List.set_cons_zero]))
            refine lexL_nil ?_
            go_wp2_with fail
            go_roundw
            case rel => exact ⟨j - 1, Az, cz, m + 1, ts ++ [.mk 1 (scalS z3) 0 0 zEx t4 [] []], by congr 1; omega, rfl, by omega, fun s hs => by
              rcases List.mem_append.1 hs with hs | hs
              · exact HDR.out s hs
              · rw [List.mem_singleton] at hs; subst hs; exact hd, OwLs.push (framSm (n + 1)) ⟨hxl, hxs⟩ _ _ hok hownz hgrz hatz, hCf, hgf⟩
            case measure => simp [intOf]; omega
          by_cases h4 : x = 3
          · subst h4
            have hcx3 := codnext_any B g 2 w2.drew hC2.drew (by omega) (by omega)
            rw [show ((2 : Nat) : Int) = 2 from rfl] at hcx3
            have Hcx3 := Lib.hid hcx3
            clear hcx3
            go_upto_region 12 with fail
            go_wp2_with fail
            refine wp_region_lexL ((fun w' => Glb B w')) (by kernel_rfl) (by kernel_rfl) (G2.drew) ?_
            repeat (first | (refine lexL_q0 rfl ?_; go_big_quiet_step (fail); refine wpQuiet_nil ?_) | (refine lexL_skip0 rfl rfl ?_; simp only [Act.put, List.setIfInBounds_toArray, List.set_cons_succ, List.set_cons_zero]))
            refine lexL_e rfl ?_
            go_wp2_with fail
            refine Hcx3.out.mono ?_
            rintro e w3 ⟨z3, rfl, hz3, hC3, hq3⟩
            have hg3 : w2.grownBy w3 (some g) := grown_trans (grown_of_below (Below.refl _ w2).drew _) hq3
            have hs3 := hg3.size
            have G3 := G2.grown hg3 hBg
            have Hcx4 := Lib.hid (codexpr_any 2 (by omega) B g w3 (by omega) (hC3) (G3))
            go_wp2_with fail
            refine lexL_go (G3) ?_
            repeat (first | (refine lexL_q0 rfl ?_; go_big_quiet_step (fail); refine wpQuiet_nil ?_) | (refine lexL_skip0 rfl rfl ?_; simp only [Act.put, List.setIfInBounds_toArray, List.set_cons_succ, List.set_cons_zero]))
            refine lexL_ld (⟨1, z3, none⟩) (.string (arrS z3)) rfl rfl rfl (fun w' hw' => run_ld1 (ag_str _) (hw'.arr hz3)) ?_
            simp only [Act.put, List.setIfInBounds_toArray, List.set_cons_succ, List.set_cons_zero]
            repeat (first | (refine lexL_q0 rfl ?_; go_big_quiet_step (fail); refine wpQuiet_nil ?_) | (refine lexL_skip0 rfl rfl ?_; simp only [Act.put, List.setIfInBounds_toArray, List.set_cons_succ, List.set_cons_zero]))
            refine lexL_e rfl ?_
            go_wp2_with fail
            refine Hcx4.out.mono ?_
            rintro e w4 ⟨x4, t4, rfl, hdr4, hok4, hC4, hq4⟩
            have hg4 : w3.grownBy w4 (some g) := hq4
            have hs4 := hg4.size
            have G4 := G3.grown hg4 hBg
            unfold exV
            have Hcx5 := Lib.hid (codexpr_any 2 (by omega) B g w4 (by omega) (hC4) (G4))
            go_wp2_with fail
            refine lexL_go (G4) ?_
            repeat (first | (refine lexL_q0 rfl ?_; go_big_quiet_step (fail); refine wpQuiet_nil ?_) | (refine lexL_skip0 rfl rfl ?_; simp only [Act.put, List.setIfInBounds_toArray, List.set_cons_succ, List.set_cons_zero]))
            refine lexL_e rfl ?_
            go_wp2_with fail
            refine Hcx5.out.mono ?_
            rintro e w5 ⟨x5, t5, rfl, hdr5, hok5, hC5, hq5⟩
            have hg5 : w4.grownBy w5 (some g) := hq5
            have hs5 := hg5.size
            have G5 := G4.grown hg5 hBg
            unfold exV
            have ha : Below w5.heap.size w5 (w5.alloc (.cells #[.int .i64 2, .string (arrS z3), .int .i64 0, .int .i64 0, .int .i64 x4.op, .int .i64 x4.val, .string x4.name, .int .i64 x4.slot, .int .i64 x4.size, .slice x4.A x4.n x4.c, .int .i64 x5.op, .int .i64 x5.val, .string x5.name, .int .i64 x5.slot, .int .i64 x5.size, .slice x5.A x5.n x5.c, .slice none 0 0, .slice none 0 0] 147)) := (Below.refl _ _).alloc (Nat.le_refl _) _
            have hgre : w.grownBy w5 (some g) := grown_trans (grown_trans (grown_trans (hgr2) hg3) hg4) hg5
            have hOe : OwLs encSm 18 (fun S w => SmOk (n + 1) S w) w5 w.heap.size 147 (.slice A m c) ts := hO2.keepR (framSm (n + 1)) (fun b hb hbb => (grown_lt hg5 (by omega) (by omega)).trans ((grown_lt hg4 (by omega) (by omega)).trans (grown_lt hg3 (by omega) (by omega))))
            obtain ⟨xs, ho, hxl, hxs⟩ := hOe.ext (framSm (n + 1)) ha
            have hlx := Lib.hid ho.len.1
            have hCe := hC5.ext ha
            have hgra : w.grownBy (w5.alloc (.cells #[.int .i64 2, .string (arrS z3), .int .i64 0, .int .i64 0, .int .i64 x4.op, .int .i64 x4.val, .string x4.name, .int .i64 x4.slot, .int .i64 x4.size, .slice x4.A x4.n x4.c, .int .i64 x5.op, .int .i64 x5.val, .string x5.name, .int .i64 x5.slot, .int .i64 x5.size, .slice x5.A x5.n x5.c, .slice none 0 0, .slice none 0 0] 147)) (some g) := grown_trans hgre (grown_of_below ha _)
            have hasz := ha.size
            have CLS : ∀ b, w2.heap.size ≤ b → w.heap.size ≤ b ∧ (Value.slice A m c).ownBlock ≠ some b := fun b hb => ⟨by omega, fun e => by have := hOwn b e; omega⟩
            have hok : SmOk (n + 1) (fun b => w.heap.size ≤ b ∧ (Value.slice A m c).ownBlock ≠ some b) (w5.alloc (.cells #[.int .i64 2, .string (arrS z3), .int .i64 0, .int .i64 0, .int .i64 x4.op, .int .i64 x4.val, .string x4.name, .int .i64 x4.slot, .int .i64 x4.size, .slice x4.A x4.n x4.c, .int .i64 x5.op, .int .i64 x5.val, .string x5.name, .int .i64 x5.slot, .int .i64 x5.size, .slice x5.A x5.n x5.c, .slice none 0 0, .slice none 0 0] 147)) ⟨2, (arrS z3), 0, 0, x4, x5, none, 0, 0, none, 0, 0⟩ (.mk 2 (arrS z3) 0 0 t4 t5 [] []) := ⟨rfl, rfl, rfl, rfl, ExOk.mono (w := (w5.alloc (.cells #[.int .i64 2, .string (arrS z3), .int .i64 0, .int .i64 0, .int .i64 x4.op, .int .i64 x4.val, .string x4.name, .int .i64 x4.slot, .int .i64 x4.size, .slice x4.A x4.n x4.c, .int .i64 x5.op, .int .i64 x5.val, .string x5.name, .int .i64 x5.slot, .int .i64 x5.size, .slice x5.A x5.n x5.c, .slice none 0 0, .slice none 0 0] 147))) (fun b _ h => CLS b (Nat.le_trans (by omega) h)) _ _ _ (ExOk.keep (Keep.of_below ha) _ _ _ (ExOk.to3 (by omega) (fr_g (framEx _) hg5 (by omega) (hok4)))), ExOk.mono (w := (w5.alloc (.cells #[.int .i64 2, .string (arrS z3), .int .i64 0, .int .i64 0, .int .i64 x4.op, .int .i64 x4.val, .string x4.name, .int .i64 x4.slot, .int .i64 x4.size, .slice x4.A x4.n x4.c, .int .i64 x5.op, .int .i64 x5.val, .string x5.name, .int .i64 x5.slot, .int .i64 x5.size, .slice x5.A x5.n x5.c, .slice none 0 0, .slice none 0 0] 147))) (fun b _ h => CLS b (Nat.le_trans (by omega) h)) _ _ _ (ExOk.keep (Keep.of_below ha) _ _ _ (ExOk.to3 (by omega) (hok5))), LsOk.nil_ _ _ _ _, LsOk.nil_ _ _ _ _⟩
            have hone : Recs encSm (fun _ => True) (w5.alloc (.cells #[.int .i64 2, .string (arrS z3), .int .i64 0, .int .i64 0, .int .i64 x4.op, .int .i64 x4.val, .string x4.name, .int .i64 x4.slot, .int .i64 x4.size, .slice x4.A x4.n x4.c, .int .i64 x5.op, .int .i64 x5.val, .string x5.name, .int .i64 x5.slot, .int .i64 x5.size, .slice x5.A x5.n x5.c, .slice none 0 0, .slice none 0 0] 147)) (.slice (some ⟨w5.heap.size, 0, none⟩) 1 1) [⟨2, (arrS z3), 0, 0, x4, x5, none, 0, 0, none, 0, 0⟩] := sm_one (heap_alloc_new _ _) trivial
            have hblk : ∀ o, (Value.slice A m c).ownBlock = some o → w.heap.size ≤ o := fun o e => (World.ownsRow.lt ho o e).1
            have hd : DrS (n + 1) (.mk 2 (arrS z3) 0 0 t4 t5 [] []) := ⟨rfl, rfl, DrE.to3 (by omega) hdr5, (by simp), (by simp), .inr (.inl ⟨rfl, arrS_is _, DrE.to3 (by omega) hdr4, rfl, rfl⟩)⟩
            go_wp2_with fail
            refine lexL_go (G5) ?_
            repeat (first | (refine lexL_q0 rfl ?_; go_big_quiet_step (fail); refine wpQuiet_nil ?_) | (refine lexL_skip0 rfl rfl ?_; simp only [Act.put, List.setIfInBounds_toArray, List.set_cons_succ, List.set_cons_zero]))
            refine lexL_e rfl ?_
            go_wp2_with fail
            refine lexL_go G5 ?_
            repeat (first | (refine lexL_q0 rfl ?_; go_big_quiet_step (fail); refine wpQuiet_nil ?_) | (refine lexL_skip0 rfl rfl ?_; simp only [Act.put, List.setIfInBounds_toArray, List.set_cons_succ, List.set_cons_zero]))
            refine lexL_e rfl ?_
            go_wp2_with fail
            refine lexL_go (G5.ext ha) ?_
            repeat (first | (refine lexL_q0 rfl ?_; go_big_quiet_step (fail); refine wpQuiet_nil ?_) | (refine lexL_skip0 rfl rfl ?_; simp only [Act.put, List.setIfInBounds_toArray, List.set_cons_succ, List.set_cons_zero]))
            refine lexL_e rfl ?_
            go_wp2_with (refine wpList_appR (o := ⟨some 65, _, _, _, _, _⟩) encSm_len encSm_one (.agg #[.int .i64 0, .string (ByteArray.mk #[]), .int .i64 0, .int .i64 0, .int .i64 0, .int .i64 0, .string (ByteArray.mk #[]), .int .i64 0, .int .i64 0, .slice none 0 0, .int .i64 0, .int .i64 0, .string (ByteArray.mk #[]), .int .i64 0, .int .i64 0, .slice none 0 0, .slice none 0 0, .slice none 0 0]) 232 _ _ 66 147 w.heap.size xs [⟨2, (arrS z3), 0, 0, x4, x5, none, 0, 0, none, 0, 0⟩] (some ⟨w5.heap.size, 0, none⟩) 1 1 (.slice A m c) (m + 1) rfl rfl Tryd.underlying66 infoSm rfl (by omega) rfl rfl ho hone (by rw [hlx.out]) (by rw [hlx.out]; omega) (by rw [hlx.out]; omega) (by omega) ?_; intro Az cz wz hownz hgrz hatz hcz1 hcz2)
            have hgf : w.grownBy wz (some g) := grown_new hgra hgrz (fun q hq => .inl (hblk q hq))
            have hCf := hCe.grown hgrz (fun q hq => by have := hblk q hq; constructor <;> omega)
            refine lexL_go (hG.grown hgf hBg) ?_
            repeat (first | (refine lexL_q0 rfl ?_; go_big_quiet_step (fail); refine wpQuiet_nil ?_) | (refine lexL_skip0 rfl rfl ?_; simp only [Act.put, List.setIfInBounds_toArray, List.set_cons_succ, List.set_cons_zero]))
            refine lexL_nil ?_
            go_wp2_with fail
            go_roundw
            case rel => exact ⟨j - 1, Az, cz, m + 1, ts ++ [.mk 2 (arrS z3) 0 0 t4 t5 [] []], by congr 1; omega, rfl, by omega, fun s hs => by
              rcases List.mem_append.1 hs with hs | hs
              · exact HDR.out s hs
              · rw [List.mem_singleton] at hs; subst hs; exact hd, OwLs.push (framSm (n + 1)) ⟨hxl, hxs⟩ _ _ hok hownz hgrz hatz, hCf, hgf⟩
            case measure => simp [intOf]; omega
          by_cases h6 : x < 6
          · skip
            have Hcx3 := Lib.hid (codexpr_any 2 (by omega) B g w2 (by omega) (hC2) (G2))
            go_upto_region 14 with fail
            go_wp2_with fail
            refine Hcx3.out.mono ?_
            rintro e w3 ⟨x3, t3, rfl, hdr3, hok3, hC3, hq3⟩
            have hg3 : w2.grownBy w3 (some g) := hq3
            have hs3 := hg3.size
            have G3 := G2.grown hg3 hBg
            unfold exV
            have Hcx4 := Lib.hid (codexpr_any 2 (by omega) B g w3 (by omega) (hC3) (G3))
            go_wp2_with fail
            refine Hcx4.out.mono ?_
            rintro e w4 ⟨x4, t4, rfl, hdr4, hok4, hC4, hq4⟩
            have hg4 : w3.grownBy w4 (some g) := hq4
            have hs4 := hg4.size
            have G4 := G3.grown hg4 hBg
            unfold exV
            have ha : Below w4.heap.size w4 (w4.alloc (.cells #[.int .i64 5, .string (ByteArray.mk #[]), .int .i64 0, .int .i64 0, .int .i64 x3.op, .int .i64 x3.val, .string x3.name, .int .i64 x3.slot, .int .i64 x3.size, .slice x3.A x3.n x3.c, .int .i64 x4.op, .int .i64 x4.val, .string x4.name, .int .i64 x4.slot, .int .i64 x4.size, .slice x4.A x4.n x4.c, .slice none 0 0, .slice none 0 0] 147)) := (Below.refl _ _).alloc (Nat.le_refl _) _
            have hgre : w.grownBy w4 (some g) := grown_trans (grown_trans (hgr2) hg3) hg4
            have hOe : OwLs encSm 18 (fun S w => SmOk (n + 1) S w) w4 w.heap.size 147 (.slice A m c) ts := hO2.keepR (framSm (n + 1)) (fun b hb hbb => (grown_lt hg4 (by omega) (by omega)).trans (grown_lt hg3 (by omega) (by omega)))
            obtain ⟨xs, ho, hxl, hxs⟩ := hOe.ext (framSm (n + 1)) ha
            have hlx := Lib.hid ho.len.1
            have hCe := hC4.ext ha
            have hgra : w.grownBy (w4.alloc (.cells #[.int .i64 5, .string (ByteArray.mk #[]), .int .i64 0, .int .i64 0, .int .i64 x3.op, .int .i64 x3.val, .string x3.name, .int .i64 x3.slot, .int .i64 x3.size, .slice x3.A x3.n x3.c, .int .i64 x4.op, .int .i64 x4.val, .string x4.name, .int .i64 x4.slot, .int .i64 x4.size, .slice x4.A x4.n x4.c, .slice none 0 0, .slice none 0 0] 147)) (some g) := grown_trans hgre (grown_of_below ha _)
            have hasz := ha.size
            have CLS : ∀ b, w2.heap.size ≤ b → w.heap.size ≤ b ∧ (Value.slice A m c).ownBlock ≠ some b := fun b hb => ⟨by omega, fun e => by have := hOwn b e; omega⟩
            have hok : SmOk (n + 1) (fun b => w.heap.size ≤ b ∧ (Value.slice A m c).ownBlock ≠ some b) (w4.alloc (.cells #[.int .i64 5, .string (ByteArray.mk #[]), .int .i64 0, .int .i64 0, .int .i64 x3.op, .int .i64 x3.val, .string x3.name, .int .i64 x3.slot, .int .i64 x3.size, .slice x3.A x3.n x3.c, .int .i64 x4.op, .int .i64 x4.val, .string x4.name, .int .i64 x4.slot, .int .i64 x4.size, .slice x4.A x4.n x4.c, .slice none 0 0, .slice none 0 0] 147)) ⟨5, (ByteArray.mk #[]), 0, 0, x3, x4, none, 0, 0, none, 0, 0⟩ (.mk 5 (ByteArray.mk #[]) 0 0 t3 t4 [] []) := ⟨rfl, rfl, rfl, rfl, ExOk.mono (w := (w4.alloc (.cells #[.int .i64 5, .string (ByteArray.mk #[]), .int .i64 0, .int .i64 0, .int .i64 x3.op, .int .i64 x3.val, .string x3.name, .int .i64 x3.slot, .int .i64 x3.size, .slice x3.A x3.n x3.c, .int .i64 x4.op, .int .i64 x4.val, .string x4.name, .int .i64 x4.slot, .int .i64 x4.size, .slice x4.A x4.n x4.c, .slice none 0 0, .slice none 0 0] 147))) (fun b _ h => CLS b (Nat.le_trans (by omega) h)) _ _ _ (ExOk.keep (Keep.of_below ha) _ _ _ (ExOk.to3 (by omega) (fr_g (framEx _) hg4 (by omega) (hok3)))), ExOk.mono (w := (w4.alloc (.cells #[.int .i64 5, .string (ByteArray.mk #[]), .int .i64 0, .int .i64 0, .int .i64 x3.op, .int .i64 x3.val, .string x3.name, .int .i64 x3.slot, .int .i64 x3.size, .slice x3.A x3.n x3.c, .int .i64 x4.op, .int .i64 x4.val, .string x4.name, .int .i64 x4.slot, .int .i64 x4.size, .slice x4.A x4.n x4.c, .slice none 0 0, .slice none 0 0] 147))) (fun b _ h => CLS b (Nat.le_trans (by omega) h)) _ _ _ (ExOk.keep (Keep.of_below ha) _ _ _ (ExOk.to3 (by omega) (hok4))), LsOk.nil_ _ _ _ _, LsOk.nil_ _ _ _ _⟩
            have hone : Recs encSm (fun _ => True) (w4.alloc (.cells #[.int .i64 5, .string (ByteArray.mk #[]), .int .i64 0, .int .i64 0, .int .i64 x3.op, .int .i64 x3.val, .string x3.name, .int .i64 x3.slot, .int .i64 x3.size, .slice x3.A x3.n x3.c, .int .i64 x4.op, .int .i64 x4.val, .string x4.name, .int .i64 x4.slot, .int .i64 x4.size, .slice x4.A x4.n x4.c, .slice none 0 0, .slice none 0 0] 147)) (.slice (some ⟨w4.heap.size, 0, none⟩) 1 1) [⟨5, (ByteArray.mk #[]), 0, 0, x3, x4, none, 0, 0, none, 0, 0⟩] := sm_one (heap_alloc_new _ _) trivial
            have hblk : ∀ o, (Value.slice A m c).ownBlock = some o → w.heap.size ≤ o := fun o e => (World.ownsRow.lt ho o e).1
            have hd : DrS (n + 1) (.mk 5 (ByteArray.mk #[]) 0 0 t3 t4 [] []) := ⟨rfl, rfl, DrE.to3 (by omega) hdr4, (by simp), (by simp), .inr (.inr (.inl ⟨rfl, rfl, DrE.to3 (by omega) hdr3, rfl, rfl⟩))⟩
            go_wp2_with (refine wpList_appR (o := ⟨some 76, _, _, _, _, _⟩) encSm_len encSm_one (.agg #[.int .i64 0, .string (ByteArray.mk #[]), .int .i64 0, .int .i64 0, .int .i64 0, .int .i64 0, .string (ByteArray.mk #[]), .int .i64 0, .int .i64 0, .slice none 0 0, .int .i64 0, .int .i64 0, .string (ByteArray.mk #[]), .int .i64 0, .int .i64 0, .slice none 0 0, .slice none 0 0, .slice none 0 0]) 232 _ _ 66 147 w.heap.size xs [⟨5, (ByteArray.mk #[]), 0, 0, x3, x4, none, 0, 0, none, 0, 0⟩] (some ⟨w4.heap.size, 0, none⟩) 1 1 (.slice A m c) (m + 1) rfl rfl Tryd.underlying66 infoSm rfl (by omega) rfl rfl ho hone (by rw [hlx.out]) (by rw [hlx.out]; omega) (by rw [hlx.out]; omega) (by omega) ?_; intro Az cz wz hownz hgrz hatz hcz1 hcz2)
            have hgf : w.grownBy wz (some g) := grown_new hgra hgrz (fun q hq => .inl (hblk q hq))
            have hCf := hCe.grown hgrz (fun q hq => by have := hblk q hq; constructor <;> omega)
            go_roundw
            case rel => exact ⟨j - 1, Az, cz, m + 1, ts ++ [.mk 5 (ByteArray.mk #[]) 0 0 t3 t4 [] []], by congr 1; omega, rfl, by omega, fun s hs => by
              rcases List.mem_append.1 hs with hs | hs
              · exact HDR.out s hs
              · rw [List.mem_singleton] at hs; subst hs; exact hd, OwLs.push (framSm (n + 1)) ⟨hxl, hxs⟩ _ _ hok hownz hgrz hatz, hCf, hgf⟩
            case measure => simp [intOf]; omega
          by_cases h7 : x = 6
          · subst h7
            have Hcx3 := Lib.hid (codexpr_any 2 (by omega) B g w2 (by omega) (hC2) (G2))
            go_upto_region 16 with fail
            go_wp2_with fail
            refine Hcx3.out.mono ?_
            rintro e w3 ⟨x3, t3, rfl, hdr3, hok3, hC3, hq3⟩
            have hg3 : w2.grownBy w3 (some g) := hq3
            have hs3 := hg3.size
            have G3 := G2.grown hg3 hBg
            unfold exV
            have ha : Below w3.heap.size w3 (w3.alloc (.cells #[.int .i64 6, .string (ByteArray.mk #[]), .int .i64 0, .int .i64 0, .int .i64 0, .int .i64 0, .string (ByteArray.mk #[]), .int .i64 0, .int .i64 0, .slice none 0 0, .int .i64 x3.op, .int .i64 x3.val, .string x3.name, .int .i64 x3.slot, .int .i64 x3.size, .slice x3.A x3.n x3.c, .slice none 0 0, .slice none 0 0] 147)) := (Below.refl _ _).alloc (Nat.le_refl _) _
            have hgre : w.grownBy w3 (some g) := grown_trans (hgr2) hg3
            have hOe : OwLs encSm 18 (fun S w => SmOk (n + 1) S w) w3 w.heap.size 147 (.slice A m c) ts := hO2.keepR (framSm (n + 1)) (fun b hb hbb => grown_lt hg3 (by omega) (by omega))
            obtain ⟨xs, ho, hxl, hxs⟩ := hOe.ext (framSm (n + 1)) ha
            have hlx := Lib.hid ho.len.1
            have hCe := hC3.ext ha
            have hgra : w.grownBy (w3.alloc (.cells #[.int .i64 6, .string (ByteArray.mk #[]), .int .i64 0, .int .i64 0, .int .i64 0, .int .i64 0, .string (ByteArray.mk #[]), .int .i64 0, .int .i64 0, .slice none 0 0, .int .i64 x3.op, .int .i64 x3.val, .string x3.name, .int .i64 x3.slot, .int .i64 x3.size, .slice x3.A x3.n x3.c, .slice none 0 0, .slice none 0 0] 147)) (some g) := grown_trans hgre (grown_of_below ha _)
            have hasz := ha.size
            have CLS : ∀ b, w2.heap.size ≤ b → w.heap.size ≤ b ∧ (Value.slice A m c).ownBlock ≠ some b := fun b hb => ⟨by omega, fun e => by have := hOwn b e; omega⟩
            have hok : SmOk (n + 1) (fun b => w.heap.size ≤ b ∧ (Value.slice A m c).ownBlock ≠ some b) (w3.alloc (.cells #[.int .i64 6, .string (ByteArray.mk #[]), .int .i64 0, .int .i64 0, .int .i64 0, .int .i64 0, .string (ByteArray.mk #[]), .int .i64 0, .int .i64 0, .slice none 0 0, .int .i64 x3.op, .int .i64 x3.val, .string x3.name, .int .i64 x3.slot, .int .i64 x3.size, .slice x3.A x3.n x3.c, .slice none 0 0, .slice none 0 0] 147)) ⟨6, (ByteArray.mk #[]), 0, 0, zExV, x3, none, 0, 0, none, 0, 0⟩ (.mk 6 (ByteArray.mk #[]) 0 0 zEx t3 [] []) := ⟨rfl, rfl, rfl, rfl, zEx_ok 2 _ _, ExOk.mono (w := (w3.alloc (.cells #[.int .i64 6, .string (ByteArray.mk #[]), .int .i64 0, .int .i64 0, .int .i64 0, .int .i64 0, .string (ByteArray.mk #[]), .int .i64 0, .int .i64 0, .slice none 0 0, .int .i64 x3.op, .int .i64 x3.val, .string x3.name, .int .i64 x3.slot, .int .i64 x3.size, .slice x3.A x3.n x3.c, .slice none 0 0, .slice none 0 0] 147))) (fun b _ h => CLS b (Nat.le_trans (by omega) h)) _ _ _ (ExOk.keep (Keep.of_below ha) _ _ _ (ExOk.to3 (by omega) (hok3))), LsOk.nil_ _ _ _ _, LsOk.nil_ _ _ _ _⟩
            have hone : Recs encSm (fun _ => True) (w3.alloc (.cells #[.int .i64 6, .string (ByteArray.mk #[]), .int .i64 0, .int .i64 0, .int .i64 0, .int .i64 0, .string (ByteArray.mk #[]), .int .i64 0, .int .i64 0, .slice none 0 0, .int .i64 x3.op, .int .i64 x3.val, .string x3.name, .int .i64 x3.slot, .int .i64 x3.size, .slice x3.A x3.n x3.c, .slice none 0 0, .slice none 0 0] 147)) (.slice (some ⟨w3.heap.size, 0, none⟩) 1 1) [⟨6, (ByteArray.mk #[]), 0, 0, zExV, x3, none, 0, 0, none, 0, 0⟩] := sm_one (heap_alloc_new _ _) trivial
            have hblk : ∀ o, (Value.slice A m c).ownBlock = some o → w.heap.size ≤ o := fun o e => (World.ownsRow.lt ho o e).1
            have hd : DrS (n + 1) (.mk 6 (ByteArray.mk #[]) 0 0 zEx t3 [] []) := ⟨rfl, rfl, DrE.to3 (by omega) hdr3, (by simp), (by simp), .inr (.inr (.inr (.inl ⟨rfl, rfl, rfl, rfl, rfl⟩)))⟩
            go_wp2_with (refine wpList_appR (o := ⟨some 85, _, _, _, _, _⟩) encSm_len encSm_one (.agg #[.int .i64 0, .string (ByteArray.mk #[]), .int .i64 0, .int .i64 0, .int .i64 0, .int .i64 0, .string (ByteArray.mk #[]), .int .i64 0, .int .i64 0, .slice none 0 0, .int .i64 0, .int .i64 0, .string (ByteArray.mk #[]), .int .i64 0, .int .i64 0, .slice none 0 0, .slice none 0 0, .slice none 0 0]) 232 _ _ 66 147 w.heap.size xs [⟨6, (ByteArray.mk #[]), 0, 0, zExV, x3, none, 0, 0, none, 0, 0⟩] (some ⟨w3.heap.size, 0, none⟩) 1 1 (.slice A m c) (m + 1) rfl rfl Tryd.underlying66 infoSm rfl (by omega) rfl rfl ho hone (by rw [hlx.out]) (by rw [hlx.out]; omega) (by rw [hlx.out]; omega) (by omega) ?_; intro Az cz wz hownz hgrz hatz hcz1 hcz2)
            have hgf : w.grownBy wz (some g) := grown_new hgra hgrz (fun q hq => .inl (hblk q hq))
            have hCf := hCe.grown hgrz (fun q hq => by have := hblk q hq; constructor <;> omega)
            go_roundw
            case rel => exact ⟨j - 1, Az, cz, m + 1, ts ++ [.mk 6 (ByteArray.mk #[]) 0 0 zEx t3 [] []], by congr 1; omega, rfl, by omega, fun s hs => by
              rcases List.mem_append.1 hs with hs | hs
              · exact HDR.out s hs
              · rw [List.mem_singleton] at hs; subst hs; exact hd, OwLs.push (framSm (n + 1)) ⟨hxl, hxs⟩ _ _ hok hownz hgrz hatz, hCf, hgf⟩
            case measure => simp [intOf]; omega
          by_cases h9 : x < 9
          · skip
            have Hcx3 := Lib.hid (codexpr_any 2 (by omega) B g w2 (by omega) (hC2) (G2))
            go_upto_region 18 with fail
            go_wp2_with fail
            refine Hcx3.out.mono ?_
            rintro e w3 ⟨x3, t3, rfl, hdr3, hok3, hC3, hq3⟩
            have hg3 : w2.grownBy w3 (some g) := hq3
            have hs3 := hg3.size
            have G3 := G2.grown hg3 hBg
            unfold exV
            have Hcx4 := Lib.hid (ih hn0 2 B g w3 (by omega) (hC3) (G3))
            go_wp2_with fail
            refine Hcx4.out.mono ?_
            rintro e w4 ⟨A4, c4, m4, ts4, rfl, hm4, hdr4, hok4, hC4, hq4⟩
            have hg4 : w3.grownBy w4 (some g) := hq4
            have hs4 := hg4.size
            have G4 := G3.grown hg4 hBg
            have Hcx5 := Lib.hid (ih hn0 1 B g w4 (by omega) (hC4) (G4))
            go_wp2_with fail
            refine Hcx5.out.mono ?_
            rintro e w5 ⟨A5, c5, m5, ts5, rfl, hm5, hdr5, hok5, hC5, hq5⟩
            have hg5 : w4.grownBy w5 (some g) := hq5
            have hs5 := hg5.size
            have G5 := G4.grown hg5 hBg
            have ha : Below w5.heap.size w5 (w5.alloc (.cells #[.int .i64 3, .string (ByteArray.mk #[]), .int .i64 0, .int .i64 0, .int .i64 0, .int .i64 0, .string (ByteArray.mk #[]), .int .i64 0, .int .i64 0, .slice none 0 0, .int .i64 x3.op, .int .i64 x3.val, .string x3.name, .int .i64 x3.slot, .int .i64 x3.size, .slice x3.A x3.n x3.c, .slice A4 m4 c4, .slice A5 m5 c5] 147)) := (Below.refl _ _).alloc (Nat.le_refl _) _
            have hgre : w.grownBy w5 (some g) := grown_trans (grown_trans (grown_trans (hgr2) hg3) hg4) hg5
            have hOe : OwLs encSm 18 (fun S w => SmOk (n + 1) S w) w5 w.heap.size 147 (.slice A m c) ts := hO2.keepR (framSm (n + 1)) (fun b hb hbb => (grown_lt hg5 (by omega) (by omega)).trans ((grown_lt hg4 (by omega) (by omega)).trans (grown_lt hg3 (by omega) (by omega))))
            obtain ⟨xs, ho, hxl, hxs⟩ := hOe.ext (framSm (n + 1)) ha
            have hlx := Lib.hid ho.len.1
            have hCe := hC5.ext ha
            have hgra : w.grownBy (w5.alloc (.cells #[.int .i64 3, .string (ByteArray.mk #[]), .int .i64 0, .int .i64 0, .int .i64 0, .int .i64 0, .string (ByteArray.mk #[]), .int .i64 0, .int .i64 0, .slice none 0 0, .int .i64 x3.op, .int .i64 x3.val, .string x3.name, .int .i64 x3.slot, .int .i64 x3.size, .slice x3.A x3.n x3.c, .slice A4 m4 c4, .slice A5 m5 c5] 147)) (some g) := grown_trans hgre (grown_of_below ha _)
            have hasz := ha.size
            have CLS : ∀ b, w2.heap.size ≤ b → w.heap.size ≤ b ∧ (Value.slice A m c).ownBlock ≠ some b := fun b hb => ⟨by omega, fun e => by have := hOwn b e; omega⟩
            have hok : SmOk (n + 1) (fun b => w.heap.size ≤ b ∧ (Value.slice A m c).ownBlock ≠ some b) (w5.alloc (.cells #[.int .i64 3, .string (ByteArray.mk #[]), .int .i64 0, .int .i64 0, .int .i64 0, .int .i64 0, .string (ByteArray.mk #[]), .int .i64 0, .int .i64 0, .slice none 0 0, .int .i64 x3.op, .int .i64 x3.val, .string x3.name, .int .i64 x3.slot, .int .i64 x3.size, .slice x3.A x3.n x3.c, .slice A4 m4 c4, .slice A5 m5 c5] 147)) ⟨3, (ByteArray.mk #[]), 0, 0, zExV, x3, A4, m4, c4, A5, m5, c5⟩ (.mk 3 (ByteArray.mk #[]) 0 0 zEx t3 ts4 ts5) := ⟨rfl, rfl, rfl, rfl, zEx_ok 2 _ _, ExOk.mono (w := (w5.alloc (.cells #[.int .i64 3, .string (ByteArray.mk #[]), .int .i64 0, .int .i64 0, .int .i64 0, .int .i64 0, .string (ByteArray.mk #[]), .int .i64 0, .int .i64 0, .slice none 0 0, .int .i64 x3.op, .int .i64 x3.val, .string x3.name, .int .i64 x3.slot, .int .i64 x3.size, .slice x3.A x3.n x3.c, .slice A4 m4 c4, .slice A5 m5 c5] 147))) (fun b _ h => CLS b (Nat.le_trans (by omega) h)) _ _ _ (ExOk.keep (Keep.of_below ha) _ _ _ (ExOk.to3 (by omega) (fr_g (framEx _) hg5 (by omega) (fr_g (framEx _) hg4 (by omega) (hok3))))), (framLs (framSm n)).mono _ _ (w5.alloc (.cells #[.int .i64 3, .string (ByteArray.mk #[]), .int .i64 0, .int .i64 0, .int .i64 0, .int .i64 0, .string (ByteArray.mk #[]), .int .i64 0, .int .i64 0, .slice none 0 0, .int .i64 x3.op, .int .i64 x3.val, .string x3.name, .int .i64 x3.slot, .int .i64 x3.size, .slice x3.A x3.n x3.c, .slice A4 m4 c4, .slice A5 m5 c5] 147)) _ _ (fun b _ h => CLS b (Nat.le_trans (by omega) h)) ((framLs (framSm n)).keep _ _ _ _ _ (Keep.of_below ha) (fr_g (framLs (framSm n)) hg5 (by omega) (hok4.ls (framSm n)))), (framLs (framSm n)).mono _ _ (w5.alloc (.cells #[.int .i64 3, .string (ByteArray.mk #[]), .int .i64 0, .int .i64 0, .int .i64 0, .int .i64 0, .string (ByteArray.mk #[]), .int .i64 0, .int .i64 0, .slice none 0 0, .int .i64 x3.op, .int .i64 x3.val, .string x3.name, .int .i64 x3.slot, .int .i64 x3.size, .slice x3.A x3.n x3.c, .slice A4 m4 c4, .slice A5 m5 c5] 147)) _ _ (fun b _ h => CLS b (Nat.le_trans (by omega) h)) ((framLs (framSm n)).keep _ _ _ _ _ (Keep.of_below ha) (hok5.ls (framSm n)))⟩
            have hone : Recs encSm (fun _ => True) (w5.alloc (.cells #[.int .i64 3, .string (ByteArray.mk #[]), .int .i64 0, .int .i64 0, .int .i64 0, .int .i64 0, .string (ByteArray.mk #[]), .int .i64 0, .int .i64 0, .slice none 0 0, .int .i64 x3.op, .int .i64 x3.val, .string x3.name, .int .i64 x3.slot, .int .i64 x3.size, .slice x3.A x3.n x3.c, .slice A4 m4 c4, .slice A5 m5 c5] 147)) (.slice (some ⟨w5.heap.size, 0, none⟩) 1 1) [⟨3, (ByteArray.mk #[]), 0, 0, zExV, x3, A4, m4, c4, A5, m5, c5⟩] := sm_one (heap_alloc_new _ _) trivial
            have hblk : ∀ o, (Value.slice A m c).ownBlock = some o → w.heap.size ≤ o := fun o e => (World.ownsRow.lt ho o e).1
            have hd : DrS (n + 1) (.mk 3 (ByteArray.mk #[]) 0 0 zEx t3 ts4 ts5) := ⟨rfl, rfl, DrE.to3 (by omega) hdr3, hdr4, hdr5, .inr (.inr (.inr (.inr (.inl ⟨rfl, rfl, rfl, by have := hok4.len.1; omega, by have := hok5.len.1; omega⟩))))⟩
            go_wp2_with (refine wpList_appR (o := ⟨some 102, _, _, _, _, _⟩) encSm_len encSm_one (.agg #[.int .i64 0, .string (ByteArray.mk #[]), .int .i64 0, .int .i64 0, .int .i64 0, .int .i64 0, .string (ByteArray.mk #[]), .int .i64 0, .int .i64 0, .slice none 0 0, .int .i64 0, .int .i64 0, .string (ByteArray.mk #[]), .int .i64 0, .int .i64 0, .slice none 0 0, .slice none 0 0, .slice none 0 0]) 232 _ _ 66 147 w.heap.size xs [⟨3, (ByteArray.mk #[]), 0, 0, zExV, x3, A4, m4, c4, A5, m5, c5⟩] (some ⟨w5.heap.size, 0, none⟩) 1 1 (.slice A m c) (m + 1) rfl rfl Tryd.underlying66 infoSm rfl (by omega) rfl rfl ho hone (by rw [hlx.out]) (by rw [hlx.out]; omega) (by rw [hlx.out]; omega) (by omega) ?_; intro Az cz wz hownz hgrz hatz hcz1 hcz2)
            have hgf : w.grownBy wz (some g) := grown_new hgra hgrz (fun q hq => .inl (hblk q hq))
            have hCf := hCe.grown hgrz (fun q hq => by have := hblk q hq; constructor <;> omega)
            go_roundw
            case rel => exact ⟨j - 1, Az, cz, m + 1, ts ++ [.mk 3 (ByteArray.mk #[]) 0 0 zEx t3 ts4 ts5], by congr 1; omega, rfl, by omega, fun s hs => by
              rcases List.mem_append.1 hs with hs | hs
              · exact HDR.out s hs
              · rw [List.mem_singleton] at hs; subst hs; exact hd, OwLs.push (framSm (n + 1)) ⟨hxl, hxs⟩ _ _ hok hownz hgrz hatz, hCf, hgf⟩
            case measure => simp [intOf]; omega
          · obtain rfl : x = 9 := by omega
            have Hcx3 := Lib.hid (codexpr_any 2 (by omega) B g w2 (by omega) (hC2) (G2))
            go_upto_region 8 with fail
            go_wp2_with fail
            refine Hcx3.out.mono ?_
            rintro e w3 ⟨x3, t3, rfl, hdr3, hok3, hC3, hq3⟩
            have hg3 : w2.grownBy w3 (some g) := hq3
            have hs3 := hg3.size
            have G3 := G2.grown hg3 hBg
            unfold exV
            have Hcx4 := Lib.hid (ih hn0 2 B g w3 (by omega) (hC3) (G3))
            go_wp2_with fail
            refine Hcx4.out.mono ?_
            rintro e w4 ⟨A4, c4, m4, ts4, rfl, hm4, hdr4, hok4, hC4, hq4⟩
            have hg4 : w3.grownBy w4 (some g) := hq4
            have hs4 := hg4.size
            have G4 := G3.grown hg4 hBg
            have ha : Below w4.heap.size w4 (w4.alloc (.cells #[.int .i64 4, .string (ByteArray.mk #[]), .int .i64 0, .int .i64 0, .int .i64 0, .int .i64 0, .string (ByteArray.mk #[]), .int .i64 0, .int .i64 0, .slice none 0 0, .int .i64 x3.op, .int .i64 x3.val, .string x3.name, .int .i64 x3.slot, .int .i64 x3.size, .slice x3.A x3.n x3.c, .slice A4 m4 c4, .slice none 0 0] 147)) := (Below.refl _ _).alloc (Nat.le_refl _) _
            have hgre : w.grownBy w4 (some g) := grown_trans (grown_trans (hgr2) hg3) hg4
            have hOe : OwLs encSm 18 (fun S w => SmOk (n + 1) S w) w4 w.heap.size 147 (.slice A m c) ts := hO2.keepR (framSm (n + 1)) (fun b hb hbb => (grown_lt hg4 (by omega) (by omega)).trans (grown_lt hg3 (by omega) (by omega)))
            obtain ⟨xs, ho, hxl, hxs⟩ := hOe.ext (framSm (n + 1)) ha
            have hlx := Lib.hid ho.len.1
            have hCe := hC4.ext ha
            have hgra : w.grownBy (w4.alloc (.cells #[.int .i64 4, .string (ByteArray.mk #[]), .int .i64 0, .int .i64 0, .int .i64 0, .int .i64 0, .string (ByteArray.mk #[]), .int .i64 0, .int .i64 0, .slice none 0 0, .int .i64 x3.op, .int .i64 x3.val, .string x3.name, .int .i64 x3.slot, .int .i64 x3.size, .slice x3.A x3.n x3.c, .slice A4 m4 c4, .slice none 0 0] 147)) (some g) := grown_trans hgre (grown_of_below ha _)
            have hasz := ha.size
            have CLS : ∀ b, w2.heap.size ≤ b → w.heap.size ≤ b ∧ (Value.slice A m c).ownBlock ≠ some b := fun b hb => ⟨by omega, fun e => by have := hOwn b e; omega⟩
            have hok : SmOk (n + 1) (fun b => w.heap.size ≤ b ∧ (Value.slice A m c).ownBlock ≠ some b) (w4.alloc (.cells #[.int .i64 4, .string (ByteArray.mk #[]), .int .i64 0, .int .i64 0, .int .i64 0, .int .i64 0, .string (ByteArray.mk #[]), .int .i64 0, .int .i64 0, .slice none 0 0, .int .i64 x3.op, .int .i64 x3.val, .string x3.name, .int .i64 x3.slot, .int .i64 x3.size, .slice x3.A x3.n x3.c, .slice A4 m4 c4, .slice none 0 0] 147)) ⟨4, (ByteArray.mk #[]), 0, 0, zExV, x3, A4, m4, c4, none, 0, 0⟩ (.mk 4 (ByteArray.mk #[]) 0 0 zEx t3 ts4 []) := ⟨rfl, rfl, rfl, rfl, zEx_ok 2 _ _, ExOk.mono (w := (w4.alloc (.cells #[.int .i64 4, .string (ByteArray.mk #[]), .int .i64 0, .int .i64 0, .int .i64 0, .int .i64 0, .string (ByteArray.mk #[]), .int .i64 0, .int .i64 0, .slice none 0 0, .int .i64 x3.op, .int .i64 x3.val, .string x3.name, .int .i64 x3.slot, .int .i64 x3.size, .slice x3.A x3.n x3.c, .slice A4 m4 c4, .slice none 0 0] 147))) (fun b _ h => CLS b (Nat.le_trans (by omega) h)) _ _ _ (ExOk.keep (Keep.of_below ha) _ _ _ (ExOk.to3 (by omega) (fr_g (framEx _) hg4 (by omega) (hok3)))), (framLs (framSm n)).mono _ _ (w4.alloc (.cells #[.int .i64 4, .string (ByteArray.mk #[]), .int .i64 0, .int .i64 0, .int .i64 0, .int .i64 0, .string (ByteArray.mk #[]), .int .i64 0, .int .i64 0, .slice none 0 0, .int .i64 x3.op, .int .i64 x3.val, .string x3.name, .int .i64 x3.slot, .int .i64 x3.size, .slice x3.A x3.n x3.c, .slice A4 m4 c4, .slice none 0 0] 147)) _ _ (fun b _ h => CLS b (Nat.le_trans (by omega) h)) ((framLs (framSm n)).keep _ _ _ _ _ (Keep.of_below ha) (hok4.ls (framSm n))), LsOk.nil_ _ _ _ _⟩
            have hone : Recs encSm (fun _ => True) (w4.alloc (.cells #[.int .i64 4, .string (ByteArray.mk #[]), .int .i64 0, .int .i64 0, .int .i64 0, .int .i64 0, .string (ByteArray.mk #[]), .int .i64 0, .int .i64 0, .slice none 0 0, .int .i64 x3.op, .int .i64 x3.val, .string x3.name, .int .i64 x3.slot, .int .i64 x3.size, .slice x3.A x3.n x3.c, .slice A4 m4 c4, .slice none 0 0] 147)) (.slice (some ⟨w4.heap.size, 0, none⟩) 1 1) [⟨4, (ByteArray.mk #[]), 0, 0, zExV, x3, A4, m4, c4, none, 0, 0⟩] := sm_one (heap_alloc_new _ _) trivial
            have hblk : ∀ o, (Value.slice A m c).ownBlock = some o → w.heap.size ≤ o := fun o e => (World.ownsRow.lt ho o e).1
            have hd : DrS (n + 1) (.mk 4 (ByteArray.mk #[]) 0 0 zEx t3 ts4 []) := ⟨rfl, rfl, DrE.to3 (by omega) hdr3, hdr4, (by simp), .inr (.inr (.inr (.inr (.inr ⟨rfl, rfl, rfl, rfl, by have := hok4.len.1; omega⟩))))⟩
            go_wp2_with (refine wpList_appR (o := ⟨some 37, _, _, _, _, _⟩) encSm_len encSm_one (.agg #[.int .i64 0, .string (ByteArray.mk #[]), .int .i64 0, .int .i64 0, .int .i64 0, .int .i64 0, .string (ByteArray.mk #[]), .int .i64 0, .int .i64 0, .slice none 0 0, .int .i64 0, .int .i64 0, .string (ByteArray.mk #[]), .int .i64 0, .int .i64 0, .slice none 0 0, .slice none 0 0, .slice none 0 0]) 232 _ _ 66 147 w.heap.size xs [⟨4, (ByteArray.mk #[]), 0, 0, zExV, x3, A4, m4, c4, none, 0, 0⟩] (some ⟨w4.heap.size, 0, none⟩) 1 1 (.slice A m c) (m + 1) rfl rfl Tryd.underlying66 infoSm rfl (by omega) rfl rfl ho hone (by rw [hlx.out]) (by rw [hlx.out]; omega) (by rw [hlx.out]; omega) (by omega) ?_; intro Az cz wz hownz hgrz hatz hcz1 hcz2)
            have hgf : w.grownBy wz (some g) := grown_new hgra hgrz (fun q hq => .inl (hblk q hq))
            have hCf := hCe.grown hgrz (fun q hq => by have := hblk q hq; constructor <;> omega)
            go_roundw
            case rel => exact ⟨j - 1, Az, cz, m + 1, ts ++ [.mk 4 (ByteArray.mk #[]) 0 0 zEx t3 ts4 []], by congr 1; omega, rfl, by omega, fun s hs => by
              rcases List.mem_append.1 hs with hs | hs
              · exact HDR.out s hs
              · rw [List.mem_singleton] at hs; subst hs; exact hd, OwLs.push (framSm (n + 1)) ⟨hxl, hxs⟩ _ _ hok hownz hgrz hatz, hCf, hgf⟩
            case measure => simp [intOf]; omega
    · obtain rfl : j = 0 := by omega
      go_wp2
      go_ret
      exact ⟨A, c, m, ts, rfl, by omega, HDR.out, hO, hC, hgr⟩
theorem codstmts_any : ∀ (n : Nat), n ≤ 3 → ∀ (most : Nat) (B g : Nat) (w : World), 0 < n → most ≤ 10 → Cod B w g → Glb B w → Calls Tryd.prog 64 #[.pointer (some ⟨g, 0, none⟩), .int .i64 (most : Int), .int .i64 (n : Int)] w fun e w' => ∃ A c m ts, e = .returned (.slice A m c) ∧ m ≤ most ∧ (∀ s ∈ ts, DrS n s) ∧ OwLs encSm 18 (fun S w => SmOk n S w) w' w.heap.size 147 (.slice A m c) ts ∧ Cod B w' g ∧ w.grownBy w' (some g)
  | 0, _, _, _, _, _, h0, _, _, _ => by omega
  | n + 1, hn, most, B, g, w, _, hm, h, hG => by
    have := codstmts_step n (by omega) (fun h0 most B g w hm h hG => codstmts_any n (by omega) most B g w h0 hm h hG) most hm B g w h hG
    rw [show ((n + 1 : Nat) : Int) = (n : Int) + 1 by omega]
    exact this
end Go.Proofs.YtiblijmngokcgaaDoor
