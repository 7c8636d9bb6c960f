import Derived.Test.YtiblijmngokcgaaDoorCkKS
import Derived.Test.YtiblijmngokcgaaDoorRplS
import Derived.Test.YtiblijmngokcgaaDoorStIS
namespace Go.Proofs.YtiblijmngokcgaaDoor
open Go.RowKit
set_option maxRecDepth 100000
set_option linter.unusedVariables false
set_option linter.unusedSimpArgs false
theorem CdM.kept {S S' : Nat → Prop} {w w' : World} {c : Cd} {I1 : Option Addr} {in1 ic1 : Nat} {Q1 : Option Addr} {k1 d1 : Nat} {Q2 : Option Addr} {k2 d2 : Nat} {Q3 : Option Addr} {k3 d3 : Nat} {Q4 : Option Addr} {k4 d4 : Nat} (h : CdM S w c I1 in1 ic1 Q1 k1 d1 Q2 k2 d2 Q3 k3 d3 Q4 k4 d4) (hk : Keep S w w') (hs : ∀ b, S b → S' b) : CdM S' w' c I1 in1 ic1 Q1 k1 d1 Q2 k2 d2 Q3 k3 d3 Q4 k4 d4 := by
  have f : ∀ {v ts}, LsOk encSm (SmOk 3 S w) S w v ts → LsOk encSm (SmOk 3 S' w') S' w' v ts := fun {v ts} h => (h.keep hk (fun y u h => SmOk.keep hk 3 y u h)).mono (fun b _ h => hs b h) (fun y u h => SmOk.mono (fun b _ h => hs b h) 3 y u h)
  exact ⟨(h.1.keep hk).mono (fun b _ h => hs b h), f h.2, f h.3, f h.4, f h.5⟩
theorem StM.kept {S S' : Nat → Prop} {w w' : World} {s : Stt} {E1 : Option Addr} {p1 q1 : Nat} {E2 : Option Addr} {p2 q2 : Nat} {E3 : Option Addr} {p3 q3 : Nat} {E4 : Option Addr} {p4 q4 : Nat} (h : StM S w s E1 p1 q1 E2 p2 q2 E3 p3 q3 E4 p4 q4) (hk : Keep S w w') (hs : ∀ b, S b → S' b) : StM S' w' s E1 p1 q1 E2 p2 q2 E3 p3 q3 E4 p4 q4 :=
  ⟨(h.1.keep hk).mono (fun b _ h => hs b h), (h.2.keep hk).mono (fun b _ h => hs b h), (h.3.keep hk).mono (fun b _ h => hs b h), (h.4.keep hk).mono (fun b _ h => hs b h)⟩
set_option maxHeartbeats 4000000 in
theorem code_any (B g : Nat) (w : World) (h : Cod B w g) (hG : Glb B w) :
    Calls Tryd.prog 23 #[.pointer (some ⟨g, 0, none⟩)] w fun e w' => ∃ (c : Cd) (I1 : Option Addr) (in1 ic1 : Nat) (Q1 : Option Addr) (k1 d1 : Nat) (Q2 : Option Addr) (k2 d2 : Nat) (Q3 : Option Addr) (k3 d3 : Nat) (Q4 : Option Addr) (k4 d4 : Nat), e = .returned (.agg #[.slice I1 in1 ic1, .slice Q1 k1 d1, .slice Q2 k2 d2, .slice Q3 k3 d3, .slice Q4 k4 d4]) ∧ CdM (w.heap.size ≤ ·) w' c I1 in1 ic1 Q1 k1 d1 Q2 k2 d2 Q3 k3 d3 Q4 k4 d4 ∧ CdIn c ∧ 5 ≤ c.init.length ∧ Cod B w' g ∧ w.grownBy w' (some g) := by
  have hgl := h.lt
  have hBg := h.1
  obtain ⟨W, hW, bW, kW, SW, R2⟩ := boxD w w #[.slice none 0 0, .slice none 0 0, .slice none 0 0, .slice none 0 0, .slice none 0 0] 68 (Below.refl _ _)
  have sW := SW.out
  have Hp := Lib.hid (codprogram_any B g W (h.ext kW) (hG.ext kW))
  have SWH := Lib.hid sW
  have sWl : w.heap.size < W.heap.size := by omega
  clear sW h hG
  go_enter Tryd.func23, Tryd.ntmps23
  go_upto_region 1 with fail
  rw [← hW]
  clear hW
  go_wp2_with fail
  refine Hp.out.mono ?_
  rintro e w1 ⟨v, p, rfl, hpi, hpo, hC1, g1⟩
  obtain ⟨V, A1, m1, c1, A2, m2, c2, A3, m3, c3, A4, m4, c4, rfl, hPm⟩ := PrM.of hpo
  have Hr := Lib.hid (resolve_any w1 p V A1 m1 c1 A2 m2 c2 A3 m3 c3 A4 m4 c4 hPm hpi)
  clear hpo hPm
  go_wp2_with fail
  refine Hr.out.mono ?_
  rintro e w2 ⟨c, I1, in1, ic1, Q1, k1, d1, Q2, k2, d2, Q3, k3, d3, Q4, k4, d4, rfl, hcm, hci, hc5, b2⟩
  obtain ⟨W3, hW3, _, k3_, S3, R3⟩ := boxD w2 w2 #[.slice I1 in1 ic1, .slice Q1 k1 d1, .slice Q2 k2 d2, .slice Q3 k3 d3, .slice Q4 k4 d4] 68 (Below.refl _ _)
  obtain ⟨bx, hbx⟩ : ∃ b, b = w2.heap.size := ⟨_, rfl⟩
  rw [← hbx] at R3
  have HBX := Lib.hid hbx
  have s1 := g1.size
  have s2 := b2.size
  have R21 := Lib.hid ((k3_.block w.heap.size (by omega)).trans ((b2.block w.heap.size (by omega)).trans ((g1.block w.heap.size (by omega) (by simp; omega)).trans R2.out)))
  clear hbx R2
  go_upto_region 2 with (refine wpList_store_new rfl 68 _ _ rfl 68 _ #[.slice I1 in1 ic1, .slice Q1 k1 d1, .slice Q2 k2 d2, .slice Q3 k3 d3, .slice Q4 k4 d4] rfl rfl (by kernel_rfl) rfl (by simp [Value.oneCell']) ?_)
  try dsimp only
  rw [← hW3, ← HBX.out]
  clear hW3
  try simp only [Act.put]
  go_wp2_with (first | (refine wpList_ldv (t := 68) (A := ⟨bx, 0, none⟩) rfl rfl rfl (run_ld_block R3.out Tryd.underlying68 rfl (by kernel_rfl)) ?_) | (refine wpList_store_row rfl 68 _ _ rfl (w.heap.size) 68 _ _ rfl rfl R21.out (by kernel_rfl) rfl (by simp [Value.oneCell']) ?_))
  refine bodyPost_ret (results_c rfl rfl (run_ld_block (setRow_heap _ _ _ _ _ _ R21.out) Tryd.underlying68 rfl (by kernel_rfl))) rfl ?_
  have gE := grown_setRow W3 w.heap.size #[.slice I1 in1 ic1, .slice Q1 k1 d1, .slice Q2 k2 d2, .slice Q3 k3 d3, .slice Q4 k4 d4]
  have hcm3 := hcm.ext k3_
  have kE : Keep (fun b => w1.heap.size ≤ b) W3 (W3.setRow w.heap.size #[.slice I1 in1 ic1, .slice Q1 k1 d1, .slice Q2 k2 d2, .slice Q3 k3 d3, .slice Q4 k4 d4]) := fun b hb hs => gE.block b hb (by simp; omega)
  have hC3 := ((hC1.ext b2).ext k3_).grown gE (fun m hm => by cases hm; omega)
  have gr := grown_new (grown_trans (grown_trans (grown_of_below kW (some g)) g1) (grown_of_below (Below.ext b2 k3_) (some g))) gE (fun m hm => by cases hm; exact .inl (Nat.le_refl _))
  exact ⟨c, I1, in1, ic1, Q1, k1, d1, Q2, k2, d2, Q3, k3, d3, Q4, k4, d4, rfl, hcm3.kept kE (fun b h => by omega), hci, hc5, hC3, gr⟩
set_option maxHeartbeats 4000000 in
theorem state_any (B g most : Nat) (hm : most ≤ 60) (w : World) (h : Cod B w g) (hG : Glb B w) :
    Calls Tryd.prog 6 #[.pointer (some ⟨g, 0, none⟩), .int .i64 (most : Int)] w fun e w' => ∃ (c : Cd) (self : Int) (evs : List Ev) (s : Stt) (E1 : Option Addr) (p1 q1 : Nat) (E2 : Option Addr) (p2 q2 : Nat) (E3 : Option Addr) (p3 q3 : Nat) (E4 : Option Addr) (p4 q4 : Nat), e = .returned (.agg #[.slice E1 p1 q1, .slice E2 p2 q2, .slice E3 p3 q3, .slice E4 p4 q4]) ∧ ReplayR c self 3 evs s ∧ CdIn c ∧ evs.length ≤ most ∧ StM (w.heap.size ≤ ·) w' s E1 p1 q1 E2 p2 q2 E3 p3 q3 E4 p4 q4 ∧ SttIn s ∧ StI evs.length (8 * (evs.length + 1)) s ∧ s.evs = evs ∧ s.cells.length = c.init.length ∧ 5 ≤ c.init.length ∧ Cod B w' g ∧ w.grownBy w' (some g) := by
  have hgl := h.lt
  have hBg := h.1
  obtain ⟨W, hW, bW, kW, SW, R2⟩ := boxD w w #[.slice none 0 0, .slice none 0 0, .slice none 0 0, .slice none 0 0] 31 (Below.refl _ _)
  have sWl : w.heap.size < W.heap.size := by have := SW.out; omega
  have Hp := Lib.hid (code_any B g W (h.ext kW) (hG.ext kW))
  clear h hG
  go_enter Tryd.func6, Tryd.ntmps6
  go_upto_region 1 with fail
  rw [← hW]
  clear hW
  go_wp2_with fail
  refine Hp.out.mono ?_
  rintro e w1 ⟨c, I1, in1, ic1, Q1, k1, d1, Q2, k2, d2, Q3, k3, d3, Q4, k4, d4, rfl, hcm, hci, hc5, hC1, g1⟩
  have Hn := Lib.hid (codnext_any B g 3 _ hC1 (by omega) (by omega))
  go_wp2_with fail
  refine Hn.out.mono ?_
  rintro e w2 ⟨z, rfl, hz, hC2, g2⟩
  have He := Lib.hid (codevents_any B g most w2 hC2 (by omega))
  go_wp2_with fail
  refine He.out.mono ?_
  rintro e w3 ⟨L, lc, evs, rfl, hle, hev, hO, hC3, g3⟩
  have s1 := g1.size
  have s2 := g2.size
  have s3 := g3.size
  have g12 : w1.grownBy w3 (some g) := grown_trans g2 g3
  have kE : Keep (fun b => W.heap.size ≤ b) w1 w3 := fun b hb hs => g12.block b hb (by simp; omega)
  have hcm3 := hcm.kept (S' := fun b => W.heap.size ≤ b) kE (fun b h => h)
  have Hr := Lib.hid (replay_any w3 _ c I1 in1 ic1 Q1 k1 d1 Q2 k2 d2 Q3 k3 d3 Q4 k4 d4 hcm3 hci (z : Int) 3 ⟨by omega, by omega⟩ ⟨by decide, by decide⟩ L evs.length lc evs _ hO.recs (by omega) hev)
  have gw3 := grown_trans (grown_trans (grown_of_below kW (some g)) g1) g12
  have R23 := Lib.hid ((g12.block w.heap.size (by omega) (by simp; omega)).trans ((g1.block w.heap.size (by omega) (by simp; omega)).trans R2.out))
  have HEV := Lib.hid hev
  clear hcm hcm3 kE g1 g2 g3 g12 hO hev R2
  go_wp2_with fail
  refine Hr.out.mono ?_
  rintro e w4 ⟨s, E1, p1, q1, E2, p2, q2, E3, p3, q3, E4, p4, q4, rfl, hR, hM, hin, hsn, hou, b4⟩
  have R24 := Lib.hid ((b4.block w.heap.size (by omega)).trans R23.out)
  go_wp2_with (refine wpList_store_row rfl 31 _ _ rfl (w.heap.size) 31 _ _ rfl rfl R24.out (by kernel_rfl) rfl (by simp [Value.oneCell']) ?_)
  refine bodyPost_ret (results_c rfl rfl (run_ld_block (setRow_heap _ _ _ _ _ _ R24.out) Tryd.underlying31 rfl (by kernel_rfl))) rfl ?_
  have gE := grown_setRow w4 w.heap.size #[.slice E1 p1 q1, .slice E2 p2 q2, .slice E3 p3 q3, .slice E4 p4 q4]
  have kE : Keep (fun b => w3.heap.size ≤ b) w4 (w4.setRow w.heap.size #[.slice E1 p1 q1, .slice E2 p2 q2, .slice E3 p3 q3, .slice E4 p4 q4]) := fun b hb hs => gE.block b hb (by simp; omega)
  have s4 := b4.size
  have hI := ReplayR.in_ hR hci ⟨by omega, by omega⟩ ⟨by decide, by decide⟩ HEV.out (by omega)
  refine ⟨c, z, evs, s, E1, p1, q1, E2, p2, q2, E3, p3, q3, E4, p4, q4, rfl, hR, hci, hle, hM.kept kE (fun b h => by omega), hin, hI.1, hI.2.1, hI.2.2, hc5, (hC3.ext b4).grown gE (fun m hm => by cases hm; omega), grown_new (grown_trans gw3 (grown_of_below b4 (some g))) gE (fun m hm => by cases hm; exact .inl (Nat.le_refl _))⟩
end Go.Proofs.YtiblijmngokcgaaDoor
