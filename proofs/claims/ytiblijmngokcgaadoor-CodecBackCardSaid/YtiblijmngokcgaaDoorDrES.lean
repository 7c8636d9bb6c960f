import Derived.Test.YtiblijmngokcgaaDoorDrawBS
import Derived.Test.YtiblijmngokcgaaDoorTreeS
import Derived.Test.YtiblijmngokcgaaDoorKitS
namespace Go.Proofs.YtiblijmngokcgaaDoor
open Go.RowKit
set_option maxRecDepth 100000
set_option linter.unusedVariables false
set_option linter.unusedSimpArgs false
def nm (c : UInt8) : ByteArray := ⟨#[c]⟩
def isScal (s : ByteArray) : Prop := s = nm 120 ∨ s = nm 121 ∨ s = nm 122
def isArr (s : ByteArray) : Prop := s = nm 97 ∨ s = nm 98
structure Glb (B : Nat) (w : World) : Prop where
  lt : 2 ≤ B
  le : B ≤ w.heap.size
  s0 : w.cell? ⟨0, 0, none⟩ = some (.string (nm 120))
  s1 : w.cell? ⟨0, 1, none⟩ = some (.string (nm 121))
  s2 : w.cell? ⟨0, 2, none⟩ = some (.string (nm 122))
  a0 : w.cell? ⟨1, 0, none⟩ = some (.string (nm 97))
  a1 : w.cell? ⟨1, 1, none⟩ = some (.string (nm 98))
theorem Glb.keep {B : Nat} {w w' : World} (h : Glb B w) (hs : w.heap.size ≤ w'.heap.size) (hk : ∀ b, b < B → w'.heap[b]? = w.heap[b]?) : Glb B w' := by
  have hl := h.lt
  have hle := h.le
  have c : ∀ (b o : Nat) (v : Value), b < B → w.cell? ⟨b, o, none⟩ = some v → w'.cell? ⟨b, o, none⟩ = some v := fun b o v hb hv =>
    Keep.cell (S := (· < B)) (fun q _ hq => hk q hq) hb hv
  exact ⟨hl, by omega, c _ _ _ (by omega) h.s0, c _ _ _ (by omega) h.s1, c _ _ _ (by omega) h.s2, c _ _ _ (by omega) h.a0, c _ _ _ (by omega) h.a1⟩
theorem Glb.grown {B g : Nat} {w w' : World} (h : Glb B w) (hg : w.grownBy w' (some g)) (hB : B ≤ g) : Glb B w' := h.keep hg.size (fun b hb => hg.block b (by have := h.le; omega) (by simp; omega))
theorem Glb.ext {B : Nat} {w w' : World} (h : Glb B w) (hb : Below w.heap.size w w') : Glb B w' := h.keep hb.size (fun b hb' => hb.block b (by have := h.le; omega))
theorem Glb.drew {B : Nat} {w : World} (h : Glb B w) : Glb B w.drew := h.keep (Nat.le_refl _) (fun _ _ => rfl)
def scalS : Nat → ByteArray
  | 0 => nm 120
  | 1 => nm 121
  | _ => nm 122
def arrS : Nat → ByteArray
  | 0 => nm 97
  | _ => nm 98
theorem scalS_is (z : Nat) : isScal (scalS z) := by
  unfold scalS
  split
  · exact .inl rfl
  · exact .inr (.inl rfl)
  · exact .inr (.inr rfl)
theorem arrS_is (z : Nat) : isArr (arrS z) := by
  unfold arrS
  split
  · exact .inl rfl
  · exact .inr rfl
theorem Glb.scal {B x : Nat} {w : World} (h : Glb B w) (hx : x < 3) : w.cell? ⟨0, x, none⟩ = some (.string (scalS x)) := by
  match x, hx with
  | 0, _ => exact h.s0
  | 1, _ => exact h.s1
  | 2, _ => exact h.s2
theorem Glb.arr {B x : Nat} {w : World} (h : Glb B w) (hx : x < 2) : w.cell? ⟨1, x, none⟩ = some (.string (arrS x)) := by
  match x, hx with
  | 0, _ => exact h.a0
  | 1, _ => exact h.a1
theorem Glb.row {B b4 : Nat} {w : World} (h : Glb B w) (hb : B ≤ b4) (cs : Array Value) : Glb B (w.setRow b4 cs) := h.keep (grown_setRow w b4 cs).size (fun b hb' => (grown_setRow w b4 cs).block b (by have := h.le; omega) (by simp; omega))
theorem ag_str (w : World) : (isAgg 9).run Tryd.prog w = .ok false w := by simp [isAgg, run_underlying Tryd.underlying9]
def DrE : Nat → Ex → Prop
  | 0, _ => False
  | n + 1, .mk op val name slot size args => slot = 0 ∧ size = 0 ∧ (∀ e ∈ args, DrE n e) ∧
    ((op = 1 ∧ 0 ≤ val ∧ val ≤ 200 ∧ name = (ByteArray.mk #[]) ∧ args = []) ∨ (op = 2 ∧ val = 0 ∧ isScal name ∧ args = []) ∨ (4 ≤ op ∧ op ≤ 7 ∧ val = 0 ∧ name = (ByteArray.mk #[]) ∧ args = []) ∨
      (op = 3 ∧ val = 0 ∧ isArr name ∧ args.length = 1) ∨ (8 ≤ op ∧ op ≤ 9 ∧ val = 0 ∧ name = (ByteArray.mk #[]) ∧ args.length = 1) ∨ (10 ≤ op ∧ op ≤ 22 ∧ val = 0 ∧ name = (ByteArray.mk #[]) ∧ args.length = 2))
def exV (x : ExV) : Value := .agg #[.int .i64 x.op, .int .i64 x.val, .string x.name, .int .i64 x.slot, .int .i64 x.size, .slice x.A x.n x.c]
theorem ex_one {n : Nat} {S : Nat → Prop} {w : World} {X : Nat} {x : ExV} {t : Ex} (hr : w.heap[X]? = some (.cells #[.int .i64 x.op, .int .i64 x.val, .string x.name, .int .i64 x.slot, .int .i64 x.size, .slice x.A x.n x.c] 145 (0, 0))) (hS : S X) (h : ExOk n S w x t) :
    LsOk encEx (ExOk n S w) S w (.slice (some ⟨X, 0, none⟩) 1 1) [t] := by
  refine ⟨[x], ⟨_, 1, rfl, by simp, by simp [maxLen], fun _ => ⟨X, 0, rfl, hS, fun k u hu => ?_⟩⟩, rfl, fun i y s hy hs => ?_⟩
  · rw [cell_of_row _ _ _ _ _ _ hr, Nat.zero_add]
    simpa [encEx] using hu
  · match i with
    | 0 => cases hy; cases hs; exact h
    | i + 1 => simp at hy
theorem ex_two {n : Nat} {S : Nat → Prop} {w : World} {X : Nat} {x y : ExV} {t u : Ex} (hr : w.heap[X]? = some (.cells #[.int .i64 x.op, .int .i64 x.val, .string x.name, .int .i64 x.slot, .int .i64 x.size, .slice x.A x.n x.c, .int .i64 y.op, .int .i64 y.val, .string y.name, .int .i64 y.slot, .int .i64 y.size, .slice y.A y.n y.c] 145 (0, 0))) (hS : S X) (h : ExOk n S w x t) (h' : ExOk n S w y u) :
    LsOk encEx (ExOk n S w) S w (.slice (some ⟨X, 0, none⟩) 2 2) [t, u] := by
  refine ⟨[x, y], ⟨_, 2, rfl, by simp, by simp [maxLen], fun _ => ⟨X, 0, rfl, hS, fun k v hv => ?_⟩⟩, rfl, fun i z s hz hs => ?_⟩
  · rw [cell_of_row _ _ _ _ _ _ hr, Nat.zero_add]
    simpa [encEx] using hv
  · match i with
    | 0 => cases hz; cases hs; exact h
    | 1 => cases hz; cases hs; exact h'
    | i + 2 => simp at hz
theorem dr_fin {V T : Type} {P : (Nat → Prop) → World → V → T → Prop} (hF : Fram P) {B g b4 : Nat} {w w2 : World} (hb : b4 = w.heap.size) (hC : Cod B w2 g) (hgl : g < w.heap.size) (hgr : w.grownBy w2 (some g)) {xv : V} {t : T} (hok : P (w.heap.size < ·) w2 xv t) (cs : Array Value) :
    P (w.heap.size ≤ ·) (w2.setRow b4 cs) xv t ∧ Cod B (w2.setRow b4 cs) g ∧ w.grownBy (w2.setRow b4 cs) (some g) := by
  have hg := grown_setRow w2 b4 cs
  refine ⟨hF.mono _ _ _ _ _ (fun b _ h => by omega) (hF.keep _ _ _ _ _ (fun b hb' h => hg.block b hb' (by simp; omega)) hok), hC.grown hg (fun m hm => by cases hm; have := hC.1; constructor <;> omega), grown_new hgr hg (fun m hm => by cases hm; exact .inl (by omega))⟩
set_option maxHeartbeats 8000000 in
theorem codexpr_step (n : Nat) (hn2 : n ≤ 2) (ih : 0 < n → ∀ (B g : Nat) (w : World), Cod B w g → Glb B w → Calls Tryd.prog 72 #[.pointer (some ⟨g, 0, none⟩), .int .i64 (n : Int)] w fun e w' => ∃ x t, e = .returned (exV x) ∧ DrE n t ∧ ExOk n (w.heap.size ≤ ·) w' x t ∧ Cod B w' g ∧ w.grownBy w' (some g)) (B g : Nat) (w : World) (h : Cod B w g) (hG : Glb B w) :
    Calls Tryd.prog 72 #[.pointer (some ⟨g, 0, none⟩), .int .i64 ((n : Int) + 1)] w fun e w' => ∃ x t, e = .returned (exV x) ∧ DrE (n + 1) t ∧ ExOk (n + 1) (w.heap.size ≤ ·) w' x t ∧ Cod B w' g ∧ w.grownBy w' (some g) := by
  have hglt := h.lt
  have hBg := h.1
  obtain ⟨W, hW, bW, sW, rW⟩ := newD w #[.int .i64 0, .int .i64 0, .string (ByteArray.mk #[]), .int .i64 0, .int .i64 0, .slice none 0 0] 145
  have SW := Lib.hid sW
  have RW := Lib.hid rW
  clear sW rW
  go_enter Tryd.func72, Tryd.ntmps72
  go_upto_region 1 with fail
  rw [← hW]
  clear hW
  obtain ⟨b4, hb4⟩ : ∃ b, b = w.heap.size := ⟨_, rfl⟩
  rw [← hb4] at RW ⊢
  have hgb : b4 ≠ g := by omega
  have HB4 := Lib.hid hb4
  have hbW : b4 < W.heap.size := by have := SW.out; omega
  clear hb4
  have hCW := h.ext bW
  have hcx1 := codnext_any B g 12 W hCW (by omega) (by omega)
  rw [show ((12 : Nat) : Int) = 12 from rfl] at hcx1
  have Hcx1 := Lib.hid hcx1
  clear hcx1
  go_wp2_with fail
  refine Hcx1.out.mono ?_
  rintro e w1 ⟨x, rfl, hx, hC1, hg1⟩
  have hgw1 : w.grownBy w1 (some g) := grown_trans (grown_of_below bW _) hg1
  have R1 := Lib.hid ((grown_lt hg1 hbW hgb).trans RW.out)
  have hb1 : b4 < w1.heap.size := by have := hg1.size; omega
  have G1 := hG.grown hgw1 hBg
  clear hg1 hCW h bW RW SW hbW
  by_cases hc : n = 0 ∧ 8 ≤ x
  · obtain ⟨hn0, hx8⟩ := hc
    have e1 : decide ((n : Int) + 1 ≤ 1) = true := by simp; omega
    have e2 : decide ((8 : Int) ≤ (x : Int)) = true := by simp; omega
    obtain ⟨y, rfl⟩ : ∃ y, x = y + 8 := ⟨x - 8, by omega⟩
    have e3 : (((y + 8 : Nat) : Int) - 8) = (y : Int) := by omega
    by_cases h2 : y < 2
    · skip
      have hcx2 := codnext_any B g 5 w1 hC1 (by omega) (by omega)
      rw [show ((5 : Nat) : Int) = 5 from rfl] at hcx2
      have Hcx2 := Lib.hid hcx2
      clear hcx2
      go_upto_region 5 with fail
      go_wp2_with fail
      refine Hcx2.out.mono ?_
      rintro e w2 ⟨z, rfl, hz, hC2, hg2⟩
      have R2 := Lib.hid ((grown_lt hg2 hb1 hgb).trans R1.out)
      have hgw2 := grown_trans hgw1 hg2
      have hfin := dr_fin (framEx (n + 1)) (xv := ⟨1, (z : Int), (ByteArray.mk #[]), 0, 0, none, 0, 0⟩) (t := .mk (1) ((z : Int)) (ByteArray.mk #[]) 0 0 []) HB4.out hC2 hglt hgw2 ⟨rfl, rfl, rfl, rfl, rfl, LsOk.nil_ _ _ _ _⟩ #[.int .i64 1, .int .i64 (z : Int), .string (ByteArray.mk #[]), .int .i64 0, .int .i64 0, .slice none 0 0]
      go_wp2_with (refine wpList_store_row rfl 145 _ _ rfl b4 145 _ _ rfl rfl R2.out (by kernel_rfl) rfl (by simp [Value.oneCell']) ?_)
      refine bodyPost_ret (results_c rfl rfl (run_ld_block (setRow_heap _ _ _ _ _ _ R2.out) Tryd.underlying145 rfl (by kernel_rfl))) rfl ?_
      exact ⟨⟨1, (z : Int), (ByteArray.mk #[]), 0, 0, none, 0, 0⟩, .mk (1) ((z : Int)) (ByteArray.mk #[]) 0 0 [], rfl, ⟨rfl, rfl, by simp, .inl ⟨rfl, by omega, by omega, rfl, rfl⟩⟩, hfin.1, hfin.2.1, hfin.2.2⟩
    · skip
      have hcx2 := codnext_any B g 3 w1 hC1 (by omega) (by omega)
      rw [show ((3 : Nat) : Int) = 3 from rfl] at hcx2
      have Hcx2 := Lib.hid hcx2
      clear hcx2
      go_upto_region 7 with fail
      go_wp2_with fail
      refine Hcx2.out.mono ?_
      rintro e w2 ⟨z, rfl, hz, hC2, hg2⟩
      have R2 := Lib.hid ((grown_lt hg2 hb1 hgb).trans R1.out)
      have hgw2 := grown_trans hgw1 hg2
      have q2 : w2.cell? ⟨0, z, none⟩ = some (.string (scalS z)) := (G1.grown hg2 hBg).scal hz
      have hfin := dr_fin (framEx (n + 1)) (xv := ⟨2, 0, scalS z, 0, 0, none, 0, 0⟩) (t := .mk 2 0 (scalS z) 0 0 []) HB4.out hC2 hglt hgw2 (⟨rfl, rfl, rfl, rfl, rfl, LsOk.nil_ _ _ _ _⟩) #[.int .i64 2, .int .i64 0, .string (scalS z), .int .i64 0, .int .i64 0, .slice none 0 0]
      go_wp2_with (refine wpList_store_row rfl 145 _ _ rfl b4 145 _ _ rfl rfl R2.out (by kernel_rfl) rfl (by simp [Value.oneCell']) ?_)
      refine bodyPost_ret (results_c rfl rfl (run_ld_block (setRow_heap _ _ _ _ _ _ R2.out) Tryd.underlying145 rfl (by kernel_rfl))) rfl ?_
      exact ⟨⟨2, 0, scalS z, 0, 0, none, 0, 0⟩, .mk 2 0 (scalS z) 0 0 [], rfl, ⟨rfl, rfl, (by simp), .inr (.inl ⟨rfl, rfl, scalS_is z, rfl⟩)⟩, hfin.1, hfin.2.1, hfin.2.2⟩
  · by_cases hn0' : n = 0
    · have hx8 : x < 8 := by omega
      have e1 : decide ((n : Int) + 1 ≤ 1) = true := by simp; omega
      have e2 : decide ((8 : Int) ≤ (x : Int)) = false := by simp; omega
      clear hc
      by_cases h2 : x < 2
      · skip
        have hcx2 := codnext_any B g 5 w1 hC1 (by omega) (by omega)
        rw [show ((5 : Nat) : Int) = 5 from rfl] at hcx2
        have Hcx2 := Lib.hid hcx2
        clear hcx2
        go_upto_region 5 with fail
        go_wp2_with fail
        refine Hcx2.out.mono ?_
        rintro e w2 ⟨z, rfl, hz, hC2, hg2⟩
        have R2 := Lib.hid ((grown_lt hg2 hb1 hgb).trans R1.out)
        have hgw2 := grown_trans hgw1 hg2
        have hfin := dr_fin (framEx (n + 1)) (xv := ⟨1, (z : Int), (ByteArray.mk #[]), 0, 0, none, 0, 0⟩) (t := .mk (1) ((z : Int)) (ByteArray.mk #[]) 0 0 []) HB4.out hC2 hglt hgw2 ⟨rfl, rfl, rfl, rfl, rfl, LsOk.nil_ _ _ _ _⟩ #[.int .i64 1, .int .i64 (z : Int), .string (ByteArray.mk #[]), .int .i64 0, .int .i64 0, .slice none 0 0]
        go_wp2_with (refine wpList_store_row rfl 145 _ _ rfl b4 145 _ _ rfl rfl R2.out (by kernel_rfl) rfl (by simp [Value.oneCell']) ?_)
        refine bodyPost_ret (results_c rfl rfl (run_ld_block (setRow_heap _ _ _ _ _ _ R2.out) Tryd.underlying145 rfl (by kernel_rfl))) rfl ?_
        exact ⟨⟨1, (z : Int), (ByteArray.mk #[]), 0, 0, none, 0, 0⟩, .mk (1) ((z : Int)) (ByteArray.mk #[]) 0 0 [], rfl, ⟨rfl, rfl, by simp, .inl ⟨rfl, by omega, by omega, rfl, rfl⟩⟩, hfin.1, hfin.2.1, hfin.2.2⟩
      by_cases h4 : x < 4
      · skip
        have hcx2 := codnext_any B g 3 w1 hC1 (by omega) (by omega)
        rw [show ((3 : Nat) : Int) = 3 from rfl] at hcx2
        have Hcx2 := Lib.hid hcx2
        clear hcx2
        go_upto_region 7 with fail
        go_wp2_with fail
        refine Hcx2.out.mono ?_
        rintro e w2 ⟨z, rfl, hz, hC2, hg2⟩
        have R2 := Lib.hid ((grown_lt hg2 hb1 hgb).trans R1.out)
        have hgw2 := grown_trans hgw1 hg2
        have q2 : w2.cell? ⟨0, z, none⟩ = some (.string (scalS z)) := (G1.grown hg2 hBg).scal hz
        have hfin := dr_fin (framEx (n + 1)) (xv := ⟨2, 0, scalS z, 0, 0, none, 0, 0⟩) (t := .mk 2 0 (scalS z) 0 0 []) HB4.out hC2 hglt hgw2 (⟨rfl, rfl, rfl, rfl, rfl, LsOk.nil_ _ _ _ _⟩) #[.int .i64 2, .int .i64 0, .string (scalS z), .int .i64 0, .int .i64 0, .slice none 0 0]
        go_wp2_with (refine wpList_store_row rfl 145 _ _ rfl b4 145 _ _ rfl rfl R2.out (by kernel_rfl) rfl (by simp [Value.oneCell']) ?_)
        refine bodyPost_ret (results_c rfl rfl (run_ld_block (setRow_heap _ _ _ _ _ _ R2.out) Tryd.underlying145 rfl (by kernel_rfl))) rfl ?_
        exact ⟨⟨2, 0, scalS z, 0, 0, none, 0, 0⟩, .mk 2 0 (scalS z) 0 0 [], rfl, ⟨rfl, rfl, (by simp), .inr (.inl ⟨rfl, rfl, scalS_is z, rfl⟩)⟩, hfin.1, hfin.2.1, hfin.2.2⟩
      by_cases h5 : x = 4
      · subst h5
        go_upto_region 9 with fail
        have hfin := dr_fin (framEx (n + 1)) (xv := ⟨7, 0, (ByteArray.mk #[]), 0, 0, none, 0, 0⟩) (t := .mk 7 0 (ByteArray.mk #[]) 0 0 []) HB4.out hC1 hglt hgw1 ⟨rfl, rfl, rfl, rfl, rfl, LsOk.nil_ _ _ _ _⟩ #[.int .i64 7, .int .i64 0, .string (ByteArray.mk #[]), .int .i64 0, .int .i64 0, .slice none 0 0]
        go_wp2_with (refine wpList_store_row rfl 145 _ _ rfl b4 145 _ _ rfl rfl R1.out (by kernel_rfl) rfl (by simp [Value.oneCell']) ?_)
        refine bodyPost_ret (results_c rfl rfl (run_ld_block (setRow_heap _ _ _ _ _ _ R1.out) Tryd.underlying145 rfl (by kernel_rfl))) rfl ?_
        exact ⟨⟨7, 0, (ByteArray.mk #[]), 0, 0, none, 0, 0⟩, .mk 7 0 (ByteArray.mk #[]) 0 0 [], rfl, ⟨rfl, rfl, by simp, .inr (.inr (.inl ⟨by omega, by omega, rfl, rfl, rfl⟩))⟩, hfin.1, hfin.2.1, hfin.2.2⟩
      by_cases h6 : x = 5
      · subst h6
        obtain ⟨W5, hW5, b5, s5, r5⟩ := newD w1 #[.int .i64 4, .int .i64 5, .int .i64 6] 3
        have S5 := Lib.hid s5
        have R5 := Lib.hid r5
        have hC5 := hC1.ext b5
        clear s5 r5
        have hcx2 := codnext_any B g 3 W5 hC5 (by omega) (by omega)
        rw [show ((3 : Nat) : Int) = 3 from rfl] at hcx2
        have Hcx2 := Lib.hid hcx2
        clear hcx2
        go_upto_region 11 with fail
        go_wp2_with fail
        rw [← hW5]
        clear hW5
        refine Hcx2.out.mono ?_
        rintro e w2 ⟨z, rfl, hz, hC2, hg2⟩
        have R2 := Lib.hid ((grown_lt hg2 (by have := S5.out; omega) hgb).trans ((b5.block b4 hb1).trans R1.out))
        have hgw2 := grown_trans (grown_trans hgw1 (grown_of_below b5 _)) hg2
        have hg1lt := hC1.lt
        have r2 := (grown_lt hg2 (show w1.heap.size < W5.heap.size by have := S5.out; omega) (by omega)).trans R5.out
        have q2 : w2.cell? ⟨w1.heap.size, z, none⟩ = some (.int .i64 (4 + (z : Int))) := by
          rw [cell_of_row _ _ _ _ _ _ r2]
          match z, hz with
          | 0, _ => rfl
          | 1, _ => rfl
          | 2, _ => rfl
        clear r2
        have hfin := dr_fin (framEx (n + 1)) (xv := ⟨4 + (z : Int), 0, (ByteArray.mk #[]), 0, 0, none, 0, 0⟩) (t := .mk (4 + (z : Int)) 0 (ByteArray.mk #[]) 0 0 []) HB4.out hC2 hglt hgw2 (⟨rfl, rfl, rfl, rfl, rfl, LsOk.nil_ _ _ _ _⟩) #[.int .i64 (4 + (z : Int)), .int .i64 0, .string (ByteArray.mk #[]), .int .i64 0, .int .i64 0, .slice none 0 0]
        go_wp2_with (refine wpList_store_row rfl 145 _ _ rfl b4 145 _ _ rfl rfl R2.out (by kernel_rfl) rfl (by simp [Value.oneCell']) ?_)
        refine bodyPost_ret (results_c rfl rfl (run_ld_block (setRow_heap _ _ _ _ _ _ R2.out) Tryd.underlying145 rfl (by kernel_rfl))) rfl ?_
        exact ⟨⟨4 + (z : Int), 0, (ByteArray.mk #[]), 0, 0, none, 0, 0⟩, .mk (4 + (z : Int)) 0 (ByteArray.mk #[]) 0 0 [], rfl, ⟨rfl, rfl, (by simp), .inr (.inr (.inl ⟨by omega, by omega, rfl, rfl, rfl⟩))⟩, hfin.1, hfin.2.1, hfin.2.2⟩
      by_cases h7 : x = 6
      · subst h7
        have hcx2 := codnext_any B g 200 w1 hC1 (by omega) (by omega)
        rw [show ((200 : Nat) : Int) = 200 from rfl] at hcx2
        have Hcx2 := Lib.hid hcx2
        clear hcx2
        go_upto_region 13 with fail
        go_wp2_with fail
        refine Hcx2.out.mono ?_
        rintro e w2 ⟨z, rfl, hz, hC2, hg2⟩
        have R2 := Lib.hid ((grown_lt hg2 hb1 hgb).trans R1.out)
        have hgw2 := grown_trans hgw1 hg2
        have hfin := dr_fin (framEx (n + 1)) (xv := ⟨1, 1 + (z : Int), (ByteArray.mk #[]), 0, 0, none, 0, 0⟩) (t := .mk (1) (1 + (z : Int)) (ByteArray.mk #[]) 0 0 []) HB4.out hC2 hglt hgw2 ⟨rfl, rfl, rfl, rfl, rfl, LsOk.nil_ _ _ _ _⟩ #[.int .i64 1, .int .i64 (1 + (z : Int)), .string (ByteArray.mk #[]), .int .i64 0, .int .i64 0, .slice none 0 0]
        go_wp2_with (refine wpList_store_row rfl 145 _ _ rfl b4 145 _ _ rfl rfl R2.out (by kernel_rfl) rfl (by simp [Value.oneCell']) ?_)
        refine bodyPost_ret (results_c rfl rfl (run_ld_block (setRow_heap _ _ _ _ _ _ R2.out) Tryd.underlying145 rfl (by kernel_rfl))) rfl ?_
        exact ⟨⟨1, 1 + (z : Int), (ByteArray.mk #[]), 0, 0, none, 0, 0⟩, .mk (1) (1 + (z : Int)) (ByteArray.mk #[]) 0 0 [], rfl, ⟨rfl, rfl, by simp, .inl ⟨rfl, by omega, by omega, rfl, rfl⟩⟩, hfin.1, hfin.2.1, hfin.2.2⟩
      obtain rfl : x = 7 := by omega
      · skip
        have hcx2 := codnext_any B g 200 w1 hC1 (by omega) (by omega)
        rw [show ((200 : Nat) : Int) = 200 from rfl] at hcx2
        have Hcx2 := Lib.hid hcx2
        clear hcx2
        go_upto_region 13 with fail
        go_wp2_with fail
        refine Hcx2.out.mono ?_
        rintro e w2 ⟨z, rfl, hz, hC2, hg2⟩
        have R2 := Lib.hid ((grown_lt hg2 hb1 hgb).trans R1.out)
        have hgw2 := grown_trans hgw1 hg2
        have hfin := dr_fin (framEx (n + 1)) (xv := ⟨1, 1 + (z : Int), (ByteArray.mk #[]), 0, 0, none, 0, 0⟩) (t := .mk (1) (1 + (z : Int)) (ByteArray.mk #[]) 0 0 []) HB4.out hC2 hglt hgw2 ⟨rfl, rfl, rfl, rfl, rfl, LsOk.nil_ _ _ _ _⟩ #[.int .i64 1, .int .i64 (1 + (z : Int)), .string (ByteArray.mk #[]), .int .i64 0, .int .i64 0, .slice none 0 0]
        go_wp2_with (refine wpList_store_row rfl 145 _ _ rfl b4 145 _ _ rfl rfl R2.out (by kernel_rfl) rfl (by simp [Value.oneCell']) ?_)
        refine bodyPost_ret (results_c rfl rfl (run_ld_block (setRow_heap _ _ _ _ _ _ R2.out) Tryd.underlying145 rfl (by kernel_rfl))) rfl ?_
        exact ⟨⟨1, 1 + (z : Int), (ByteArray.mk #[]), 0, 0, none, 0, 0⟩, .mk (1) (1 + (z : Int)) (ByteArray.mk #[]) 0 0 [], rfl, ⟨rfl, rfl, by simp, .inl ⟨rfl, by omega, by omega, rfl, rfl⟩⟩, hfin.1, hfin.2.1, hfin.2.2⟩
    · have hn0 : 0 < n := by omega
      have e1 : decide ((n : Int) + 1 ≤ 1) = false := by simp; omega
      clear hc hn0'
      by_cases h2 : x < 2
      · skip
        have hcx2 := codnext_any B g 5 w1 hC1 (by omega) (by omega)
        rw [show ((5 : Nat) : Int) = 5 from rfl] at hcx2
        have Hcx2 := Lib.hid hcx2
        clear hcx2
        go_upto_region 5 with fail
        go_wp2_with fail
        refine Hcx2.out.mono ?_
        rintro e w2 ⟨z, rfl, hz, hC2, hg2⟩
        have R2 := Lib.hid ((grown_lt hg2 hb1 hgb).trans R1.out)
        have hgw2 := grown_trans hgw1 hg2
        have hfin := dr_fin (framEx (n + 1)) (xv := ⟨1, (z : Int), (ByteArray.mk #[]), 0, 0, none, 0, 0⟩) (t := .mk (1) ((z : Int)) (ByteArray.mk #[]) 0 0 []) HB4.out hC2 hglt hgw2 ⟨rfl, rfl, rfl, rfl, rfl, LsOk.nil_ _ _ _ _⟩ #[.int .i64 1, .int .i64 (z : Int), .string (ByteArray.mk #[]), .int .i64 0, .int .i64 0, .slice none 0 0]
        go_wp2_with (refine wpList_store_row rfl 145 _ _ rfl b4 145 _ _ rfl rfl R2.out (by kernel_rfl) rfl (by simp [Value.oneCell']) ?_)
        refine bodyPost_ret (results_c rfl rfl (run_ld_block (setRow_heap _ _ _ _ _ _ R2.out) Tryd.underlying145 rfl (by kernel_rfl))) rfl ?_
        exact ⟨⟨1, (z : Int), (ByteArray.mk #[]), 0, 0, none, 0, 0⟩, .mk (1) ((z : Int)) (ByteArray.mk #[]) 0 0 [], rfl, ⟨rfl, rfl, by simp, .inl ⟨rfl, by omega, by omega, rfl, rfl⟩⟩, hfin.1, hfin.2.1, hfin.2.2⟩
      by_cases h4 : x < 4
      · skip
        have hcx2 := codnext_any B g 3 w1 hC1 (by omega) (by omega)
        rw [show ((3 : Nat) : Int) = 3 from rfl] at hcx2
        have Hcx2 := Lib.hid hcx2
        clear hcx2
        go_upto_region 7 with fail
        go_wp2_with fail
        refine Hcx2.out.mono ?_
        rintro e w2 ⟨z, rfl, hz, hC2, hg2⟩
        have R2 := Lib.hid ((grown_lt hg2 hb1 hgb).trans R1.out)
        have hgw2 := grown_trans hgw1 hg2
        have q2 : w2.cell? ⟨0, z, none⟩ = some (.string (scalS z)) := (G1.grown hg2 hBg).scal hz
        have hfin := dr_fin (framEx (n + 1)) (xv := ⟨2, 0, scalS z, 0, 0, none, 0, 0⟩) (t := .mk 2 0 (scalS z) 0 0 []) HB4.out hC2 hglt hgw2 (⟨rfl, rfl, rfl, rfl, rfl, LsOk.nil_ _ _ _ _⟩) #[.int .i64 2, .int .i64 0, .string (scalS z), .int .i64 0, .int .i64 0, .slice none 0 0]
        go_wp2_with (refine wpList_store_row rfl 145 _ _ rfl b4 145 _ _ rfl rfl R2.out (by kernel_rfl) rfl (by simp [Value.oneCell']) ?_)
        refine bodyPost_ret (results_c rfl rfl (run_ld_block (setRow_heap _ _ _ _ _ _ R2.out) Tryd.underlying145 rfl (by kernel_rfl))) rfl ?_
        exact ⟨⟨2, 0, scalS z, 0, 0, none, 0, 0⟩, .mk 2 0 (scalS z) 0 0 [], rfl, ⟨rfl, rfl, (by simp), .inr (.inl ⟨rfl, rfl, scalS_is z, rfl⟩)⟩, hfin.1, hfin.2.1, hfin.2.2⟩
      by_cases h5 : x = 4
      · subst h5
        go_upto_region 9 with fail
        have hfin := dr_fin (framEx (n + 1)) (xv := ⟨7, 0, (ByteArray.mk #[]), 0, 0, none, 0, 0⟩) (t := .mk 7 0 (ByteArray.mk #[]) 0 0 []) HB4.out hC1 hglt hgw1 ⟨rfl, rfl, rfl, rfl, rfl, LsOk.nil_ _ _ _ _⟩ #[.int .i64 7, .int .i64 0, .string (ByteArray.mk #[]), .int .i64 0, .int .i64 0, .slice none 0 0]
        go_wp2_with (refine wpList_store_row rfl 145 _ _ rfl b4 145 _ _ rfl rfl R1.out (by kernel_rfl) rfl (by simp [Value.oneCell']) ?_)
        refine bodyPost_ret (results_c rfl rfl (run_ld_block (setRow_heap _ _ _ _ _ _ R1.out) Tryd.underlying145 rfl (by kernel_rfl))) rfl ?_
        exact ⟨⟨7, 0, (ByteArray.mk #[]), 0, 0, none, 0, 0⟩, .mk 7 0 (ByteArray.mk #[]) 0 0 [], rfl, ⟨rfl, rfl, by simp, .inr (.inr (.inl ⟨by omega, by omega, rfl, rfl, rfl⟩))⟩, hfin.1, hfin.2.1, hfin.2.2⟩
      by_cases h6 : x = 5
      · subst h6
        obtain ⟨W5, hW5, b5, s5, r5⟩ := newD w1 #[.int .i64 4, .int .i64 5, .int .i64 6] 3
        have S5 := Lib.hid s5
        have R5 := Lib.hid r5
        have hC5 := hC1.ext b5
        clear s5 r5
        have hcx2 := codnext_any B g 3 W5 hC5 (by omega) (by omega)
        rw [show ((3 : Nat) : Int) = 3 from rfl] at hcx2
        have Hcx2 := Lib.hid hcx2
        clear hcx2
        go_upto_region 11 with fail
        go_wp2_with fail
        rw [← hW5]
        clear hW5
        refine Hcx2.out.mono ?_
        rintro e w2 ⟨z, rfl, hz, hC2, hg2⟩
        have R2 := Lib.hid ((grown_lt hg2 (by have := S5.out; omega) hgb).trans ((b5.block b4 hb1).trans R1.out))
        have hgw2 := grown_trans (grown_trans hgw1 (grown_of_below b5 _)) hg2
        have hg1lt := hC1.lt
        have r2 := (grown_lt hg2 (show w1.heap.size < W5.heap.size by have := S5.out; omega) (by omega)).trans R5.out
        have q2 : w2.cell? ⟨w1.heap.size, z, none⟩ = some (.int .i64 (4 + (z : Int))) := by
          rw [cell_of_row _ _ _ _ _ _ r2]
          match z, hz with
          | 0, _ => rfl
          | 1, _ => rfl
          | 2, _ => rfl
        clear r2
        have hfin := dr_fin (framEx (n + 1)) (xv := ⟨4 + (z : Int), 0, (ByteArray.mk #[]), 0, 0, none, 0, 0⟩) (t := .mk (4 + (z : Int)) 0 (ByteArray.mk #[]) 0 0 []) HB4.out hC2 hglt hgw2 (⟨rfl, rfl, rfl, rfl, rfl, LsOk.nil_ _ _ _ _⟩) #[.int .i64 (4 + (z : Int)), .int .i64 0, .string (ByteArray.mk #[]), .int .i64 0, .int .i64 0, .slice none 0 0]
        go_wp2_with (refine wpList_store_row rfl 145 _ _ rfl b4 145 _ _ rfl rfl R2.out (by kernel_rfl) rfl (by simp [Value.oneCell']) ?_)
        refine bodyPost_ret (results_c rfl rfl (run_ld_block (setRow_heap _ _ _ _ _ _ R2.out) Tryd.underlying145 rfl (by kernel_rfl))) rfl ?_
        exact ⟨⟨4 + (z : Int), 0, (ByteArray.mk #[]), 0, 0, none, 0, 0⟩, .mk (4 + (z : Int)) 0 (ByteArray.mk #[]) 0 0 [], rfl, ⟨rfl, rfl, (by simp), .inr (.inr (.inl ⟨by omega, by omega, rfl, rfl, rfl⟩))⟩, hfin.1, hfin.2.1, hfin.2.2⟩
      by_cases h7 : x = 6
      · subst h7
        have hcx2 := codnext_any B g 200 w1 hC1 (by omega) (by omega)
        rw [show ((200 : Nat) : Int) = 200 from rfl] at hcx2
        have Hcx2 := Lib.hid hcx2
        clear hcx2
        go_upto_region 13 with fail
        go_wp2_with fail
        refine Hcx2.out.mono ?_
        rintro e w2 ⟨z, rfl, hz, hC2, hg2⟩
        have R2 := Lib.hid ((grown_lt hg2 hb1 hgb).trans R1.out)
        have hgw2 := grown_trans hgw1 hg2
        have hfin := dr_fin (framEx (n + 1)) (xv := ⟨1, 1 + (z : Int), (ByteArray.mk #[]), 0, 0, none, 0, 0⟩) (t := .mk (1) (1 + (z : Int)) (ByteArray.mk #[]) 0 0 []) HB4.out hC2 hglt hgw2 ⟨rfl, rfl, rfl, rfl, rfl, LsOk.nil_ _ _ _ _⟩ #[.int .i64 1, .int .i64 (1 + (z : Int)), .string (ByteArray.mk #[]), .int .i64 0, .int .i64 0, .slice none 0 0]
        go_wp2_with (refine wpList_store_row rfl 145 _ _ rfl b4 145 _ _ rfl rfl R2.out (by kernel_rfl) rfl (by simp [Value.oneCell']) ?_)
        refine bodyPost_ret (results_c rfl rfl (run_ld_block (setRow_heap _ _ _ _ _ _ R2.out) Tryd.underlying145 rfl (by kernel_rfl))) rfl ?_
        exact ⟨⟨1, 1 + (z : Int), (ByteArray.mk #[]), 0, 0, none, 0, 0⟩, .mk (1) (1 + (z : Int)) (ByteArray.mk #[]) 0 0 [], rfl, ⟨rfl, rfl, by simp, .inl ⟨rfl, by omega, by omega, rfl, rfl⟩⟩, hfin.1, hfin.2.1, hfin.2.2⟩
      by_cases h8 : x = 7
      · subst h8
        have hcx2 := codnext_any B g 2 w1.drew hC1.drew (by omega) (by omega)
        rw [show ((2 : Nat) : Int) = 2 from rfl] at hcx2
        have Hcx2 := Lib.hid hcx2
        clear hcx2
        go_upto_region 15 with fail
        go_wp2_with fail
        refine wp_region_lexL ((fun w' => Glb B w')) (by kernel_rfl) (by kernel_rfl) (G1.drew) ?_
        repeat (first | (refine lexL_q0 rfl ?_; go_big_quiet_step (fail); refine wpQuiet_nil ?_) | (refine lexL_skip0 rfl rfl ?_; simp only [Act.put, List.setIfInBounds_toArray, List.set_cons_succ, List.set_cons_zero]))
        refine lexL_e rfl ?_
        go_wp2_with fail
        refine Hcx2.out.mono ?_
        rintro e w2 ⟨z, rfl, hz, hC2, hg2⟩
        have hg12 : w1.grownBy w2 (some g) := grown_trans (grown_of_below (Below.refl _ w1).drew _) hg2
        have R2 := Lib.hid ((grown_lt hg12 hb1 hgb).trans R1.out)
        have hgw2 := grown_trans hgw1 hg12
        have hs2 := hg12.size
        have G2 := G1.grown hg12 hBg
        go_wp2_with fail
        refine lexL_go (G2) ?_
        repeat (first | (refine lexL_q0 rfl ?_; go_big_quiet_step (fail); refine wpQuiet_nil ?_) | (refine lexL_skip0 rfl rfl ?_; simp only [Act.put, List.setIfInBounds_toArray, List.set_cons_succ, List.set_cons_zero]))
        refine lexL_ld (⟨1, z, none⟩) (.string (arrS z)) rfl rfl rfl (fun w' hw' => run_ld1 (ag_str _) (hw'.arr hz)) ?_
        simp only [Act.put, List.setIfInBounds_toArray, List.set_cons_succ, List.set_cons_zero]
        repeat (first | (refine lexL_q0 rfl ?_; go_big_quiet_step (fail); refine wpQuiet_nil ?_) | (refine lexL_skip0 rfl rfl ?_; simp only [Act.put, List.setIfInBounds_toArray, List.set_cons_succ, List.set_cons_zero]))
        refine lexL_e rfl ?_
        go_wp2_with fail
        refine (ih hn0 B g w2 hC2 G2).mono ?_
        rintro e w3 ⟨x1, t1, rfl, hdr, hok, hC3, hg3⟩
        have hs3 := hg3.size
        have G3 := G2.grown hg3 hBg
        have ha : Below w3.heap.size w3 (w3.alloc (.cells #[.int .i64 x1.op, .int .i64 x1.val, .string x1.name, .int .i64 x1.slot, .int .i64 x1.size, .slice x1.A x1.n x1.c] 145)) := (Below.refl _ _).alloc (Nat.le_refl _) _
        have R4 := Lib.hid ((ha.block b4 (by omega)).trans ((grown_lt hg3 (by omega) hgb).trans R2.out))
        have r4 := heap_alloc_new w3 (.cells #[.int .i64 x1.op, .int .i64 x1.val, .string x1.name, .int .i64 x1.slot, .int .i64 x1.size, .slice x1.A x1.n x1.c] 145)
        have hC4 := hC3.ext ha
        have hgw4 := grown_trans (grown_trans hgw2 hg3) (grown_of_below ha _)
        have hok4 := ExOk.mono (S' := fun b => w.heap.size < b) (fun b _ h => by have := HB4.out; omega) _ _ _ (ExOk.keep (Keep.of_below ha) _ _ _ hok)
        have G4 := G3.ext ha
        unfold exV
        go_wp2_with fail
        refine lexL_go (G3) ?_
        repeat (first | (refine lexL_q0 rfl ?_; go_big_quiet_step (fail); refine wpQuiet_nil ?_) | (refine lexL_skip0 rfl rfl ?_; simp only [Act.put, List.setIfInBounds_toArray, List.set_cons_succ, List.set_cons_zero]))
        refine lexL_e rfl ?_
        go_wp2_with fail
        refine lexL_go G4 ?_
        repeat (first | (refine lexL_q0 rfl ?_; go_big_quiet_step (fail); refine wpQuiet_nil ?_) | (refine lexL_skip0 rfl rfl ?_; simp only [Act.put, List.setIfInBounds_toArray, List.set_cons_succ, List.set_cons_zero]))
        refine lexL_e rfl ?_
        go_wp2_with fail
        refine lexL_go G4 ?_
        repeat (first | (refine lexL_q0 rfl ?_; go_big_quiet_step (fail); refine wpQuiet_nil ?_) | (refine lexL_skip0 rfl rfl ?_; simp only [Act.put, List.setIfInBounds_toArray, List.set_cons_succ, List.set_cons_zero]))
        refine lexL_e rfl ?_
        have hfin := dr_fin (framEx (n + 1)) (xv := ⟨3, 0, arrS z, 0, 0, some ⟨w3.heap.size, 0, none⟩, 1, 1⟩) (t := .mk 3 0 (arrS z) 0 0 [t1]) HB4.out hC4 hglt hgw4 (⟨rfl, rfl, rfl, rfl, rfl, ex_one r4 (by have := HB4.out; show w.heap.size < w3.heap.size; omega) hok4⟩) #[.int .i64 3, .int .i64 0, .string (arrS z), .int .i64 0, .int .i64 0, .slice (some ⟨w3.heap.size, 0, none⟩) 1 1]
        go_wp2_with (refine wpList_store_row rfl 145 _ _ rfl b4 145 _ _ rfl rfl R4.out (by kernel_rfl) rfl (by simp [Value.oneCell']) ?_)
        refine lexL_go (G4.row (by have := HB4.out; have := hG.le; omega) _) ?_
        repeat (first | (refine lexL_q0 rfl ?_; go_big_quiet_step (fail); refine wpQuiet_nil ?_) | (refine lexL_skip0 rfl rfl ?_; simp only [Act.put, List.setIfInBounds_toArray, List.set_cons_succ, List.set_cons_zero]))
        refine lexL_nil ?_
        go_wp2_with fail
        refine bodyPost_ret (results_c rfl rfl (run_ld_block (setRow_heap _ _ _ _ _ _ R4.out) Tryd.underlying145 rfl (by kernel_rfl))) rfl ?_
        exact ⟨⟨3, 0, arrS z, 0, 0, some ⟨w3.heap.size, 0, none⟩, 1, 1⟩, .mk 3 0 (arrS z) 0 0 [t1], rfl, ⟨rfl, rfl, (by intro e he; simp at he; subst he; exact hdr), .inr (.inr (.inr (.inl ⟨rfl, rfl, arrS_is z, rfl⟩)))⟩, hfin.1, hfin.2.1, hfin.2.2⟩
      by_cases h9 : x = 8
      · subst h9
        have hcx2 := codnext_any B g 2 w1 hC1 (by omega) (by omega)
        rw [show ((2 : Nat) : Int) = 2 from rfl] at hcx2
        have Hcx2 := Lib.hid hcx2
        clear hcx2
        go_upto_region 17 with fail
        go_wp2_with fail
        refine Hcx2.out.mono ?_
        rintro e w2 ⟨z, rfl, hz, hC2, hg2⟩
        have R2 := Lib.hid ((grown_lt hg2 hb1 hgb).trans R1.out)
        have hgw2 := grown_trans hgw1 hg2
        have hs2 := hg2.size
        go_wp2_with fail
        refine (ih hn0 B g w2 hC2 (G1.grown hg2 hBg)).mono ?_
        rintro e w3 ⟨x1, t1, rfl, hdr, hok, hC3, hg3⟩
        have hs3 := hg3.size
        have ha : Below w3.heap.size w3 (w3.alloc (.cells #[.int .i64 x1.op, .int .i64 x1.val, .string x1.name, .int .i64 x1.slot, .int .i64 x1.size, .slice x1.A x1.n x1.c] 145)) := (Below.refl _ _).alloc (Nat.le_refl _) _
        have R4 := Lib.hid ((ha.block b4 (by omega)).trans ((grown_lt hg3 (by omega) hgb).trans R2.out))
        have r4 := heap_alloc_new w3 (.cells #[.int .i64 x1.op, .int .i64 x1.val, .string x1.name, .int .i64 x1.slot, .int .i64 x1.size, .slice x1.A x1.n x1.c] 145)
        have hC4 := hC3.ext ha
        have hgw4 := grown_trans (grown_trans hgw2 hg3) (grown_of_below ha _)
        have hok4 := ExOk.mono (S' := fun b => w.heap.size < b) (fun b _ h => by have := HB4.out; omega) _ _ _ (ExOk.keep (Keep.of_below ha) _ _ _ hok)
        unfold exV
        have hfin := dr_fin (framEx (n + 1)) (xv := ⟨8 + (z : Int), 0, (ByteArray.mk #[]), 0, 0, some ⟨w3.heap.size, 0, none⟩, 1, 1⟩) (t := .mk (8 + (z : Int)) 0 (ByteArray.mk #[]) 0 0 [t1]) HB4.out hC4 hglt hgw4 (⟨rfl, rfl, rfl, rfl, rfl, ex_one r4 (by have := HB4.out; show w.heap.size < w3.heap.size; omega) hok4⟩) #[.int .i64 (8 + (z : Int)), .int .i64 0, .string (ByteArray.mk #[]), .int .i64 0, .int .i64 0, .slice (some ⟨w3.heap.size, 0, none⟩) 1 1]
        go_wp2_with (refine wpList_store_row rfl 145 _ _ rfl b4 145 _ _ rfl rfl R4.out (by kernel_rfl) rfl (by simp [Value.oneCell']) ?_)
        refine bodyPost_ret (results_c rfl rfl (run_ld_block (setRow_heap _ _ _ _ _ _ R4.out) Tryd.underlying145 rfl (by kernel_rfl))) rfl ?_
        exact ⟨⟨8 + (z : Int), 0, (ByteArray.mk #[]), 0, 0, some ⟨w3.heap.size, 0, none⟩, 1, 1⟩, .mk (8 + (z : Int)) 0 (ByteArray.mk #[]) 0 0 [t1], rfl, ⟨rfl, rfl, (by intro e he; simp at he; subst he; exact hdr), .inr (.inr (.inr (.inr (.inl ⟨by omega, by omega, rfl, rfl, rfl⟩))))⟩, hfin.1, hfin.2.1, hfin.2.2⟩
      · skip
        go_upto_region 18 with fail
        go_wp2_with fail
        refine (ih hn0 B g w1 hC1 G1).mono ?_
        rintro e w2 ⟨x1, t1, rfl, hdr1, hok1, hC2, hg2⟩
        have hs2 := hg2.size
        obtain ⟨W3, hW3, b3, s3, r3⟩ := newD w2 #[.int .i64 x1.op, .int .i64 x1.val, .string x1.name, .int .i64 x1.slot, .int .i64 x1.size, .slice x1.A x1.n x1.c] 145
        have S3 := Lib.hid s3
        have RA := Lib.hid r3
        obtain ⟨b6, hb6⟩ : ∃ b, b = w2.heap.size := ⟨_, rfl⟩
        have hb6W : b6 < W3.heap.size := by omega
        have hb6g : b6 ≠ g := by have := hC2.lt; omega
        have HB6 := Lib.hid hb6
        have hC3 := hC2.ext b3
        have hgw3 := grown_trans (grown_trans hgw1 hg2) (grown_of_below b3 _)
        have R3 := Lib.hid ((b3.block b4 (by omega)).trans ((grown_lt hg2 hb1 hgb).trans R1.out))
        have G3 := (G1.grown hg2 hBg).ext b3
        have hs3 := b3.size
        clear s3 r3
        unfold exV
        go_upto_region 19 with (refine wpList_store_new rfl 145 _ _ rfl 145 _ #[.int .i64 x1.op, .int .i64 x1.val, .string x1.name, .int .i64 x1.slot, .int .i64 x1.size, .slice x1.A x1.n x1.c] rfl rfl (by kernel_rfl) rfl (by simp [Value.oneCell']) ?_)
        rw [← hW3]
        clear hW3
        rw [← hb6] at RA ⊢
        clear hb6
        simp only [Act.put]
        have hcx4 := codnext_any B g 13 W3.drew hC3.drew (by omega) (by omega)
        rw [show ((13 : Nat) : Int) = 13 from rfl] at hcx4
        have Hcx4 := Lib.hid hcx4
        clear hcx4
        go_wp2_with fail
        refine wp_region_lexL ((fun w' => w'.heap[b6]? = some (.cells #[.int .i64 x1.op, .int .i64 x1.val, .string x1.name, .int .i64 x1.slot, .int .i64 x1.size, .slice x1.A x1.n x1.c] 145 (0, 0)))) (by kernel_rfl) (by kernel_rfl) (RA.out) ?_
        repeat (first | (refine lexL_q0 rfl ?_; go_big_quiet_step (fail); refine wpQuiet_nil ?_) | (refine lexL_skip0 rfl rfl ?_; simp only [Act.put, List.setIfInBounds_toArray, List.set_cons_succ, List.set_cons_zero]))
        refine lexL_e rfl ?_
        go_wp2_with fail
        refine Hcx4.out.mono ?_
        rintro e w4 ⟨z, rfl, hz, hC4, hg4⟩
        have hg34 : W3.grownBy w4 (some g) := grown_trans (grown_of_below (Below.refl _ W3).drew _) hg4
        have RA4 := Lib.hid ((grown_lt hg34 hb6W hb6g).trans RA.out)
        have R4 := Lib.hid ((grown_lt hg34 (by omega) hgb).trans R3.out)
        have hs4 := hg34.size
        go_wp2_with fail
        refine lexL_go (RA4.out) ?_
        repeat (first | (refine lexL_q0 rfl ?_; go_big_quiet_step (fail); refine wpQuiet_nil ?_) | (refine lexL_skip0 rfl rfl ?_; simp only [Act.put, List.setIfInBounds_toArray, List.set_cons_succ, List.set_cons_zero]))
        refine lexL_ld (⟨b6, 0, none⟩) (.agg #[.int .i64 x1.op, .int .i64 x1.val, .string x1.name, .int .i64 x1.slot, .int .i64 x1.size, .slice x1.A x1.n x1.c]) rfl rfl rfl (fun w' hw' => run_ld_block hw' Tryd.underlying145 rfl (by kernel_rfl)) ?_
        simp only [Act.put, List.setIfInBounds_toArray, List.set_cons_succ, List.set_cons_zero]
        repeat (first | (refine lexL_q0 rfl ?_; go_big_quiet_step (fail); refine wpQuiet_nil ?_) | (refine lexL_skip0 rfl rfl ?_; simp only [Act.put, List.setIfInBounds_toArray, List.set_cons_succ, List.set_cons_zero]))
        refine lexL_e rfl ?_
        go_wp2_with fail
        refine (ih hn0 B g w4 hC4 (G3.grown hg34 hBg)).mono ?_
        rintro e w5 ⟨x2, t2, rfl, hdr2, hok2, hC5, hg5⟩
        have RA5 := Lib.hid ((grown_lt hg5 (by omega) hb6g).trans RA4.out)
        have hs5 := hg5.size
        have ha : Below w5.heap.size w5 (w5.alloc (.cells #[.int .i64 x1.op, .int .i64 x1.val, .string x1.name, .int .i64 x1.slot, .int .i64 x1.size, .slice x1.A x1.n x1.c, .int .i64 x2.op, .int .i64 x2.val, .string x2.name, .int .i64 x2.slot, .int .i64 x2.size, .slice x2.A x2.n x2.c] 145)) := (Below.refl _ _).alloc (Nat.le_refl _) _
        have R6 := Lib.hid ((ha.block b4 (by omega)).trans ((grown_lt hg5 (by omega) hgb).trans R4.out))
        have RA6 := Lib.hid ((ha.block b6 (by omega)).trans RA5.out)
        have r6 := heap_alloc_new w5 (.cells #[.int .i64 x1.op, .int .i64 x1.val, .string x1.name, .int .i64 x1.slot, .int .i64 x1.size, .slice x1.A x1.n x1.c, .int .i64 x2.op, .int .i64 x2.val, .string x2.name, .int .i64 x2.slot, .int .i64 x2.size, .slice x2.A x2.n x2.c] 145)
        have hC6 := hC5.ext ha
        have hgw6 := grown_trans (grown_trans (grown_trans hgw3 hg34) hg5) (grown_of_below ha _)
        have k2 : Keep (w1.heap.size ≤ ·) w2 (w5.alloc (.cells #[.int .i64 x1.op, .int .i64 x1.val, .string x1.name, .int .i64 x1.slot, .int .i64 x1.size, .slice x1.A x1.n x1.c, .int .i64 x2.op, .int .i64 x2.val, .string x2.name, .int .i64 x2.slot, .int .i64 x2.size, .slice x2.A x2.n x2.c] 145)) := fun b hb h => by
          have hgl := hC1.lt
          exact (ha.block b (by omega)).trans ((grown_lt hg5 (by omega) (by omega)).trans ((grown_lt hg34 (by omega) (by omega)).trans (b3.block b hb)))
        have okA := ExOk.mono (S' := fun b => w.heap.size < b) (fun b _ h => by have := HB4.out; omega) _ _ _ (ExOk.keep k2 _ _ _ hok1)
        have okB := ExOk.mono (S' := fun b => w.heap.size < b) (fun b _ h => by have := HB4.out; omega) _ _ _ (ExOk.keep (Keep.of_below ha) _ _ _ hok2)
        unfold exV
        go_wp2_with fail
        refine lexL_go (RA5.out) ?_
        repeat (first | (refine lexL_q0 rfl ?_; go_big_quiet_step (fail); refine wpQuiet_nil ?_) | (refine lexL_skip0 rfl rfl ?_; simp only [Act.put, List.setIfInBounds_toArray, List.set_cons_succ, List.set_cons_zero]))
        refine lexL_e rfl ?_
        go_wp2_with fail
        refine lexL_go RA6.out ?_
        repeat (first | (refine lexL_q0 rfl ?_; go_big_quiet_step (fail); refine wpQuiet_nil ?_) | (refine lexL_skip0 rfl rfl ?_; simp only [Act.put, List.setIfInBounds_toArray, List.set_cons_succ, List.set_cons_zero]))
        refine lexL_e rfl ?_
        go_wp2_with fail
        refine lexL_go RA6.out ?_
        repeat (first | (refine lexL_q0 rfl ?_; go_big_quiet_step (fail); refine wpQuiet_nil ?_) | (refine lexL_skip0 rfl rfl ?_; simp only [Act.put, List.setIfInBounds_toArray, List.set_cons_succ, List.set_cons_zero]))
        refine lexL_e rfl ?_
        have hfin := dr_fin (framEx (n + 1)) (xv := ⟨10 + (z : Int), 0, (ByteArray.mk #[]), 0, 0, some ⟨w5.heap.size, 0, none⟩, 2, 2⟩) (t := .mk (10 + (z : Int)) 0 (ByteArray.mk #[]) 0 0 [t1, t2]) HB4.out hC6 hglt hgw6 (⟨rfl, rfl, rfl, rfl, rfl, ex_two r6 (by have := HB4.out; show w.heap.size < w5.heap.size; omega) okA okB⟩) #[.int .i64 (10 + (z : Int)), .int .i64 0, .string (ByteArray.mk #[]), .int .i64 0, .int .i64 0, .slice (some ⟨w5.heap.size, 0, none⟩) 2 2]
        go_wp2_with (refine wpList_store_row rfl 145 _ _ rfl b4 145 _ _ rfl rfl R6.out (by kernel_rfl) rfl (by simp [Value.oneCell']) ?_)
        refine lexL_go ((setRow_other _ _ _ _ (by have := HB4.out; have := HB6.out; omega)).trans RA6.out) ?_
        repeat (first | (refine lexL_q0 rfl ?_; go_big_quiet_step (fail); refine wpQuiet_nil ?_) | (refine lexL_skip0 rfl rfl ?_; simp only [Act.put, List.setIfInBounds_toArray, List.set_cons_succ, List.set_cons_zero]))
        refine lexL_nil ?_
        go_wp2_with fail
        refine bodyPost_ret (results_c rfl rfl (run_ld_block (setRow_heap _ _ _ _ _ _ R6.out) Tryd.underlying145 rfl (by kernel_rfl))) rfl ?_
        exact ⟨⟨10 + (z : Int), 0, (ByteArray.mk #[]), 0, 0, some ⟨w5.heap.size, 0, none⟩, 2, 2⟩, .mk (10 + (z : Int)) 0 (ByteArray.mk #[]) 0 0 [t1, t2], rfl, ⟨rfl, rfl, (by intro e he; simp at he; rcases he with he | he <;> subst he <;> assumption), .inr (.inr (.inr (.inr (.inr ⟨by omega, by omega, rfl, rfl, rfl⟩))))⟩, hfin.1, hfin.2.1, hfin.2.2⟩
theorem codexpr_any : ∀ (n : Nat), n ≤ 3 → ∀ (B g : Nat) (w : World), 0 < n → Cod B w g → Glb B w → Calls Tryd.prog 72 #[.pointer (some ⟨g, 0, none⟩), .int .i64 (n : Int)] w fun e w' => ∃ x t, e = .returned (exV x) ∧ DrE n t ∧ ExOk n (w.heap.size ≤ ·) w' x t ∧ Cod B w' g ∧ w.grownBy w' (some g)
  | 0, _, _, _, _, h0, _, _ => by omega
  | n + 1, hn, B, g, w, _, h, hG => by
    have := codexpr_step n (by omega) (fun h0 B g w h hG => codexpr_any n (by omega) B g w h0 h hG) B g w h hG
    rw [show ((n + 1 : Nat) : Int) = (n : Int) + 1 by omega]
    exact this
end Go.Proofs.YtiblijmngokcgaaDoor
