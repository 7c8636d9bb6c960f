import Derived.Test.YtiblijmngokcgaaDoorDrSS
namespace Go.Proofs.YtiblijmngokcgaaDoor
open Go.RowKit
set_option maxRecDepth 100000
set_option linter.unusedVariables false
set_option linter.unusedSimpArgs false
theorem DrS.up : ∀ (n : Nat) (t : Sm), DrS n t → DrS (n + 1) t
  | 0, _, h => h.elim
  | n + 1, .mk .., ⟨h1, h2, h3, h4, h5, h6⟩ => ⟨h1, h2, h3, fun s hs => DrS.up n s (h4 s hs), fun s hs => DrS.up n s (h5 s hs), h6⟩
def varCells (i s k : Int) : Array Value := #[.string (nm 120), .int .i64 0, .int .i64 i, .string (nm 97), .int .i64 s, .int .i64 0, .string (nm 121), .int .i64 0, .int .i64 0, .string (nm 122), .int .i64 0, .int .i64 k, .string (nm 98), .int .i64 2, .int .i64 0]
structure Prg where
  i : Int
  s : Int
  k : Int
  st : List Sm
  me : List Sm
  ti : List Sm
  inp : List Sm
def SmsOk (S : Nat → Prop) (w : World) (v : Value) (ts : List Sm) : Prop := LsOk encSm (SmOk 3 S w) S w v ts
theorem framSms : Fram SmsOk := framLs (framSm 3)
structure PrgIn (p : Prg) : Prop where
  i1 : -2 ≤ p.i
  i2 : p.i ≤ 4
  s1 : 1 ≤ p.s
  s2 : p.s ≤ 5
  k1 : 0 ≤ p.k
  k2 : p.k ≤ 2
  st : ∀ s ∈ p.st, DrS 3 s
  me : ∀ s ∈ p.me, DrS 3 s
  ti : ∀ s ∈ p.ti, DrS 3 s
  inp : ∀ s ∈ p.inp, DrS 3 s
  l1 : p.st.length ≤ 10
  l2 : p.me.length ≤ 10
  l3 : p.ti.length ≤ 10
  l4 : p.inp.length ≤ 10
def PrgOk (S : Nat → Prop) (w : World) (v : Value) (p : Prg) : Prop := ∃ V A1 m1 c1 A2 m2 c2 A3 m3 c3 A4 m4 c4, v = .agg #[.slice (some ⟨V, 0, none⟩) 5 5, .slice A1 m1 c1, .slice A2 m2 c2, .slice A3 m3 c3, .slice A4 m4 c4] ∧ S V ∧ w.heap[V]? = some (.cells (varCells p.i p.s p.k) 126 (0, 0)) ∧
  SmsOk S w (.slice A1 m1 c1) p.st ∧ SmsOk S w (.slice A2 m2 c2) p.me ∧ SmsOk S w (.slice A3 m3 c3) p.ti ∧ SmsOk S w (.slice A4 m4 c4) p.inp
theorem sms_of {n base : Nat} {w : World} {v : Value} {ts : List Sm} (hn : n ≤ 3) (h : OwLs encSm 18 (fun S w => SmOk n S w) w base 147 v ts) : SmsOk (base ≤ ·) w v ts := by
  have := h.ls (framSm n)
  refine this.mono (fun _ _ h => h) (fun x t h => ?_)
  match n, hn with
  | 0, _ => exact h.elim
  | 1, _ => exact SmOk.up _ _ _ (SmOk.up _ _ _ h)
  | 2, _ => exact SmOk.up _ _ _ h
  | 3, _ => exact h
theorem drs_of {n : Nat} (hn : n ≤ 3) {t : Sm} (h : DrS n t) : DrS 3 t := by
  match n, hn with
  | 0, _ => exact h.elim
  | 1, _ => exact DrS.up _ _ (DrS.up _ _ h)
  | 2, _ => exact DrS.up _ _ h
  | 3, _ => exact h
set_option maxHeartbeats 8000000 in
theorem codprogram_any (B g : Nat) (w : World) (h : Cod B w g) (hG : Glb B w) :
    Calls Tryd.prog 44 #[.pointer (some ⟨g, 0, none⟩)] w fun e w' => ∃ v p, e = .returned v ∧ PrgIn p ∧ PrgOk (w.heap.size ≤ ·) w' v p ∧ Cod B w' g ∧ w.grownBy w' (some g) := by
  have hglt := h.lt
  have hBg := h.1
  obtain ⟨W, hW, bW, sW, rW⟩ := newD w #[.slice none 0 0, .slice none 0 0, .slice none 0 0, .slice none 0 0, .slice none 0 0] 100
  have SW := Lib.hid sW
  have RW := Lib.hid rW
  clear sW rW
  go_enter Tryd.func44, Tryd.ntmps44
  go_upto_region 1 with fail
  rw [← hW]
  clear hW
  obtain ⟨b2, hb2⟩ : ∃ b, b = w.heap.size := ⟨_, rfl⟩
  rw [← hb2] at RW ⊢
  have HB2 := Lib.hid hb2
  have hbW : b2 < W.heap.size := by have := SW.out; omega
  have hb2g : g < b2 := by omega
  clear hb2
  have hC0 := h.ext bW
  have hgw0 := grown_of_below bW (some g)
  have hcx1 := codnext_any B g 7 W hC0 (by omega) (by omega)
  rw [show ((7 : Nat) : Int) = 7 from rfl] at hcx1
  have Hcx1 := Lib.hid hcx1
  clear hcx1
  go_wp2_with fail
  refine Hcx1.out.mono ?_
  rintro e w1 ⟨z1, rfl, hz1, hC1, hg1⟩
  have hcx2 := codnext_any B g 5 w1 hC1 (by omega) (by omega)
  rw [show ((5 : Nat) : Int) = 5 from rfl] at hcx2
  have Hcx2 := Lib.hid hcx2
  clear hcx2
  go_wp2_with fail
  refine Hcx2.out.mono ?_
  rintro e w2 ⟨z2, rfl, hz2, hC2, hg2⟩
  have hcx3 := codnext_any B g 3 w2 hC2 (by omega) (by omega)
  rw [show ((3 : Nat) : Int) = 3 from rfl] at hcx3
  have Hcx3 := Lib.hid hcx3
  clear hcx3
  go_wp2_with fail
  refine Hcx3.out.mono ?_
  rintro e w3 ⟨z3, rfl, hz3, hC3, hg3⟩
  have hg03 := grown_trans (grown_trans hg1 hg2) hg3
  have hgw3 := grown_trans hgw0 hg03
  have hs3 := hg03.size
  have R3 := Lib.hid ((grown_lt hg03 hbW (by omega)).trans RW.out)
  obtain ⟨W4, hW4, b4, s4, r4⟩ := newD w3 #[.string (ByteArray.mk #[120]), .int .i64 0, .int .i64 ((z1 : Int) - 2), .string (ByteArray.mk #[97]), .int .i64 (1 + (z2 : Int)), .int .i64 0, .string (ByteArray.mk #[121]), .int .i64 0, .int .i64 0, .string (ByteArray.mk #[122]), .int .i64 0, .int .i64 (z3 : Int), .string (ByteArray.mk #[98]), .int .i64 2, .int .i64 0] (126 : Nat)
  obtain ⟨V, hV⟩ : ∃ b, b = w3.heap.size := ⟨_, rfl⟩
  rw [← hV] at r4 s4
  obtain ⟨W5, hW5, b5, s5, r5⟩ := newD W4 #[.slice (some ⟨V, 0, none⟩) 5 5, .slice none 0 0, .slice none 0 0, .slice none 0 0, .slice none 0 0] (100 : Nat)
  obtain ⟨b3, hb3⟩ : ∃ b, b = W4.heap.size := ⟨_, rfl⟩
  rw [← hb3] at r5 s5
  have hVb : V < b3 := by omega
  have hb2V : b2 < V := by omega
  have hbW5 : b3 < W5.heap.size := by omega
  have RV5 := Lib.hid ((b5.block V (by omega)).trans r4)
  have R5 := Lib.hid ((b5.block b2 (by omega)).trans ((b4.block b2 (by omega)).trans R3.out))
  have RB5 := Lib.hid r5
  have hC5 := (hC3.ext b4).ext b5
  have hgw5 := grown_trans (grown_trans hgw3 (grown_of_below b4 _)) (grown_of_below b5 _)
  have G5 := hG.grown hgw5 hBg
  have H4 := Lib.hid hW4
  have H5 := Lib.hid hW5
  have HV := Lib.hid hV
  have HB3 := Lib.hid hb3
  have hsz5 : W5.heap.size = b3 + 1 := s5
  have HS5 := Lib.hid hsz5
  clear r4 s4 r5 s5 hW4 hW5 hV hb3 hC0 hC1 hC2 hC3 hsz5 Hcx1 Hcx2 Hcx3
  have HW5e : W5 = (w3.alloc (.cells #[.string (ByteArray.mk #[120]), .int .i64 0, .int .i64 ((z1 : Int) - 2), .string (ByteArray.mk #[97]), .int .i64 (1 + (z2 : Int)), .int .i64 0, .string (ByteArray.mk #[121]), .int .i64 0, .int .i64 0, .string (ByteArray.mk #[122]), .int .i64 0, .int .i64 (z3 : Int), .string (ByteArray.mk #[98]), .int .i64 2, .int .i64 0] (126 : Nat))).alloc (.cells #[.slice (some ⟨w3.heap.size, 0, none⟩) 5 5, .slice none 0 0, .slice none 0 0, .slice none 0 0, .slice none 0 0] (100 : Nat)) := by rw [H5.out, H4.out, HV.out]
  have HB3e : b3 = w3.heap.size + 1 := by rw [HB3.out, H4.out]; simp
  have E1 := Lib.hid HW5e
  have E2 := Lib.hid HB3e
  clear HW5e HB3e
  go_upto_region 2 with (refine wpList_store_new rfl 100 _ _ rfl 100 _ #[.slice (some ⟨w3.heap.size, 0, none⟩) 5 5, .slice none 0 0, .slice none 0 0, .slice none 0 0, .slice none 0 0] rfl rfl (by kernel_rfl) rfl (by simp [Value.oneCell']) ?_)
  rw [← E1.out, ← E2.out, ← HV.out]
  clear E1 E2 H4 H5
  try simp only [Act.put]
  have Hst6 := codstmts_any 2 (by omega) 3 B g W5 (by omega) (by omega) hC5 G5
  rw [show ((3 : Nat) : Int) = 3 from rfl] at Hst6
  try rw [show ((2 : Nat) : Int) = 2 from rfl] at Hst6
  have HST6 := Lib.hid Hst6
  clear Hst6
  go_wp2_with fail
  refine HST6.out.mono ?_
  rintro e w6 ⟨A6, c6, m6, ts6, rfl, hm6, hdr6, hO6, hCq6, hq6⟩
  have hsq6 := hq6.size
  have hss6 : b3 < W5.heap.size := by have := HS5.out; omega
  have RB6 := (grown_lt hq6 hss6 (by omega)).trans RB5.out
  have q6 : w6.cell? ⟨b3, 1, none⟩ = some (.slice none 0 0) := row_cell RB6 1 _ rfl
  have f6 : w6.frozen? ⟨b3, 1, none⟩ = false := frozen_of_row _ _ _ _ _ RB6
  obtain ⟨W6, hW6⟩ : ∃ W6, W6 = w6.setCell ⟨b3, 1, none⟩ (.slice A6 m6 c6) := ⟨_, rfl⟩
  have gs6 : w6.grownBy W6 (some b3) := by rw [hW6]; exact grown_set (grown_refl _ _)
  have RS6 := Lib.hid (show W6.heap[b3]? = some (.cells #[.slice (some ⟨V, 0, none⟩) 5 5, .slice A6 m6 c6, .slice none 0 0, .slice none 0 0, .slice none 0 0] 100 (0, 0)) by rw [hW6]; exact heap_setCell_same _ _ _ _ _ _ RB6)
  have hss26 := gs6.size
  have RV6 := Lib.hid ((grown_lt gs6 (by omega) (by omega)).trans ((grown_lt hq6 (by omega) (by omega)).trans RV5.out))
  have R6 := Lib.hid ((grown_lt gs6 (by omega) (by omega)).trans ((grown_lt hq6 (by omega) (by omega)).trans R5.out))
  have hC6 := hCq6.grown gs6 (fun m hm => by cases hm; constructor <;> omega)
  have hgw6 := grown_new (grown_trans hgw5 hq6) gs6 (fun m hm => by cases hm; have := HB2.out; exact .inl (by omega))
  have G6 := hG.grown hgw6 hBg
  have hL6 : SmsOk (b3 < ·) W6 (.slice A6 m6 c6) ts6 := framSms.keep _ _ _ _ _ (fun b hb h => grown_lt gs6 hb (by omega)) (framSms.mono _ _ _ _ _ (fun b _ h => by omega) (sms_of (by omega) hO6))
  clear hO6 hCq6
  go_upto_region 3 with fail
  rw [← hW6]
  clear hW6 q6 f6 gs6 hq6 RB6
  try simp only [Act.put]
  have RB6' := RS6
  have RB6 := RS6
  have Hst7 := codstmts_any 3 (by omega) 4 B g W6 (by omega) (by omega) hC6 G6
  rw [show ((4 : Nat) : Int) = 4 from rfl] at Hst7
  try rw [show ((3 : Nat) : Int) = 3 from rfl] at Hst7
  have HST7 := Lib.hid Hst7
  clear Hst7
  go_wp2_with fail
  refine HST7.out.mono ?_
  rintro e w7 ⟨A7, c7, m7, ts7, rfl, hm7, hdr7, hO7, hCq7, hq7⟩
  have hsq7 := hq7.size
  have hss7 : b3 < W6.heap.size := by have := HS5.out; omega
  have RB7 := (grown_lt hq7 hss7 (by omega)).trans RB6.out
  have q7 : w7.cell? ⟨b3, 2, none⟩ = some (.slice none 0 0) := row_cell RB7 2 _ rfl
  have f7 : w7.frozen? ⟨b3, 2, none⟩ = false := frozen_of_row _ _ _ _ _ RB7
  obtain ⟨W7, hW7⟩ : ∃ W7, W7 = w7.setCell ⟨b3, 2, none⟩ (.slice A7 m7 c7) := ⟨_, rfl⟩
  have gs7 : w7.grownBy W7 (some b3) := by rw [hW7]; exact grown_set (grown_refl _ _)
  have RS7 := Lib.hid (show W7.heap[b3]? = some (.cells #[.slice (some ⟨V, 0, none⟩) 5 5, .slice A6 m6 c6, .slice A7 m7 c7, .slice none 0 0, .slice none 0 0] 100 (0, 0)) by rw [hW7]; exact heap_setCell_same _ _ _ _ _ _ RB7)
  have hss27 := gs7.size
  have RV7 := Lib.hid ((grown_lt gs7 (by omega) (by omega)).trans ((grown_lt hq7 (by omega) (by omega)).trans RV6.out))
  have R7 := Lib.hid ((grown_lt gs7 (by omega) (by omega)).trans ((grown_lt hq7 (by omega) (by omega)).trans R6.out))
  have hC7 := hCq7.grown gs7 (fun m hm => by cases hm; constructor <;> omega)
  have hgw7 := grown_new (grown_trans hgw6 hq7) gs7 (fun m hm => by cases hm; have := HB2.out; exact .inl (by omega))
  have G7 := hG.grown hgw7 hBg
  have hL7 : SmsOk (b3 < ·) W7 (.slice A7 m7 c7) ts7 := framSms.keep _ _ _ _ _ (fun b hb h => grown_lt gs7 hb (by omega)) (framSms.mono _ _ _ _ _ (fun b _ h => by omega) (sms_of (by omega) hO7))
  clear hO7 hCq7
  have hL6_7 : SmsOk (b3 < ·) W7 (.slice A6 m6 c6) ts6 := framSms.keep _ _ _ _ _ (fun b hb h => grown_lt gs7 (by omega) (by omega)) (framSms.keep _ _ _ _ _ (fun b hb h => grown_lt hq7 hb (by omega)) hL6)
  go_upto_region 4 with fail
  rw [← hW7]
  clear hW7 q7 f7 gs7 hq7 RB7
  try simp only [Act.put]
  have RB7' := RS7
  have RB7 := RS7
  have Hst8 := codstmts_any 2 (by omega) 3 B g W7 (by omega) (by omega) hC7 G7
  rw [show ((3 : Nat) : Int) = 3 from rfl] at Hst8
  try rw [show ((2 : Nat) : Int) = 2 from rfl] at Hst8
  have HST8 := Lib.hid Hst8
  clear Hst8
  go_wp2_with fail
  refine HST8.out.mono ?_
  rintro e w8 ⟨A8, c8, m8, ts8, rfl, hm8, hdr8, hO8, hCq8, hq8⟩
  have hsq8 := hq8.size
  have hss8 : b3 < W7.heap.size := by have := HS5.out; omega
  have RB8 := (grown_lt hq8 hss8 (by omega)).trans RB7.out
  have q8 : w8.cell? ⟨b3, 3, none⟩ = some (.slice none 0 0) := row_cell RB8 3 _ rfl
  have f8 : w8.frozen? ⟨b3, 3, none⟩ = false := frozen_of_row _ _ _ _ _ RB8
  obtain ⟨W8, hW8⟩ : ∃ W8, W8 = w8.setCell ⟨b3, 3, none⟩ (.slice A8 m8 c8) := ⟨_, rfl⟩
  have gs8 : w8.grownBy W8 (some b3) := by rw [hW8]; exact grown_set (grown_refl _ _)
  have RS8 := Lib.hid (show W8.heap[b3]? = some (.cells #[.slice (some ⟨V, 0, none⟩) 5 5, .slice A6 m6 c6, .slice A7 m7 c7, .slice A8 m8 c8, .slice none 0 0] 100 (0, 0)) by rw [hW8]; exact heap_setCell_same _ _ _ _ _ _ RB8)
  have hss28 := gs8.size
  have RV8 := Lib.hid ((grown_lt gs8 (by omega) (by omega)).trans ((grown_lt hq8 (by omega) (by omega)).trans RV7.out))
  have R8 := Lib.hid ((grown_lt gs8 (by omega) (by omega)).trans ((grown_lt hq8 (by omega) (by omega)).trans R7.out))
  have hC8 := hCq8.grown gs8 (fun m hm => by cases hm; constructor <;> omega)
  have hgw8 := grown_new (grown_trans hgw7 hq8) gs8 (fun m hm => by cases hm; have := HB2.out; exact .inl (by omega))
  have G8 := hG.grown hgw8 hBg
  have hL8 : SmsOk (b3 < ·) W8 (.slice A8 m8 c8) ts8 := framSms.keep _ _ _ _ _ (fun b hb h => grown_lt gs8 hb (by omega)) (framSms.mono _ _ _ _ _ (fun b _ h => by omega) (sms_of (by omega) hO8))
  clear hO8 hCq8
  have hL6_8 : SmsOk (b3 < ·) W8 (.slice A6 m6 c6) ts6 := framSms.keep _ _ _ _ _ (fun b hb h => grown_lt gs8 (by omega) (by omega)) (framSms.keep _ _ _ _ _ (fun b hb h => grown_lt hq8 hb (by omega)) hL6_7)
  have hL7_8 : SmsOk (b3 < ·) W8 (.slice A7 m7 c7) ts7 := framSms.keep _ _ _ _ _ (fun b hb h => grown_lt gs8 (by omega) (by omega)) (framSms.keep _ _ _ _ _ (fun b hb h => grown_lt hq8 hb (by omega)) hL7)
  go_upto_region 5 with fail
  rw [← hW8]
  clear hW8 q8 f8 gs8 hq8 RB8
  try simp only [Act.put]
  have RB8' := RS8
  have RB8 := RS8
  have Hst9 := codstmts_any 2 (by omega) 2 B g W8 (by omega) (by omega) hC8 G8
  rw [show ((2 : Nat) : Int) = 2 from rfl] at Hst9
  try rw [show ((2 : Nat) : Int) = 2 from rfl] at Hst9
  have HST9 := Lib.hid Hst9
  clear Hst9
  go_wp2_with fail
  refine HST9.out.mono ?_
  rintro e w9 ⟨A9, c9, m9, ts9, rfl, hm9, hdr9, hO9, hCq9, hq9⟩
  have hsq9 := hq9.size
  have hss9 : b3 < W8.heap.size := by have := HS5.out; omega
  have RB9 := (grown_lt hq9 hss9 (by omega)).trans RB8.out
  have q9 : w9.cell? ⟨b3, 4, none⟩ = some (.slice none 0 0) := row_cell RB9 4 _ rfl
  have f9 : w9.frozen? ⟨b3, 4, none⟩ = false := frozen_of_row _ _ _ _ _ RB9
  obtain ⟨W9, hW9⟩ : ∃ W9, W9 = w9.setCell ⟨b3, 4, none⟩ (.slice A9 m9 c9) := ⟨_, rfl⟩
  have gs9 : w9.grownBy W9 (some b3) := by rw [hW9]; exact grown_set (grown_refl _ _)
  have RS9 := Lib.hid (show W9.heap[b3]? = some (.cells #[.slice (some ⟨V, 0, none⟩) 5 5, .slice A6 m6 c6, .slice A7 m7 c7, .slice A8 m8 c8, .slice A9 m9 c9] 100 (0, 0)) by rw [hW9]; exact heap_setCell_same _ _ _ _ _ _ RB9)
  have hss29 := gs9.size
  have RV9 := Lib.hid ((grown_lt gs9 (by omega) (by omega)).trans ((grown_lt hq9 (by omega) (by omega)).trans RV8.out))
  have R9 := Lib.hid ((grown_lt gs9 (by omega) (by omega)).trans ((grown_lt hq9 (by omega) (by omega)).trans R8.out))
  have hC9 := hCq9.grown gs9 (fun m hm => by cases hm; constructor <;> omega)
  have hgw9 := grown_new (grown_trans hgw8 hq9) gs9 (fun m hm => by cases hm; have := HB2.out; exact .inl (by omega))
  have G9 := hG.grown hgw9 hBg
  have hL9 : SmsOk (b3 < ·) W9 (.slice A9 m9 c9) ts9 := framSms.keep _ _ _ _ _ (fun b hb h => grown_lt gs9 hb (by omega)) (framSms.mono _ _ _ _ _ (fun b _ h => by omega) (sms_of (by omega) hO9))
  clear hO9 hCq9
  have hL6_9 : SmsOk (b3 < ·) W9 (.slice A6 m6 c6) ts6 := framSms.keep _ _ _ _ _ (fun b hb h => grown_lt gs9 (by omega) (by omega)) (framSms.keep _ _ _ _ _ (fun b hb h => grown_lt hq9 hb (by omega)) hL6_8)
  have hL7_9 : SmsOk (b3 < ·) W9 (.slice A7 m7 c7) ts7 := framSms.keep _ _ _ _ _ (fun b hb h => grown_lt gs9 (by omega) (by omega)) (framSms.keep _ _ _ _ _ (fun b hb h => grown_lt hq9 hb (by omega)) hL7_8)
  have hL8_9 : SmsOk (b3 < ·) W9 (.slice A8 m8 c8) ts8 := framSms.keep _ _ _ _ _ (fun b hb h => grown_lt gs9 (by omega) (by omega)) (framSms.keep _ _ _ _ _ (fun b hb h => grown_lt hq9 hb (by omega)) hL8)
  go_upto_region 6 with fail
  rw [← hW9]
  clear hW9 q9 f9 gs9 hq9 RB9
  try simp only [Act.put]
  have RB9' := RS9
  have RB9 := RS9
  go_wp2_with (first | (refine wpList_load_row rfl 100 _ rfl _ rfl 100 _ (0,0) _ RB9.out Tryd.underlying100 rfl (by kernel_rfl) ?_) | (refine wpList_store_row rfl 100 _ _ rfl b2 100 _ _ rfl rfl R9.out (by kernel_rfl) rfl (by simp [Value.oneCell']) ?_))
  refine bodyPost_ret (results_c rfl rfl (run_ld_block (setRow_heap _ _ _ _ _ _ R9.out) Tryd.underlying100 rfl (by kernel_rfl))) rfl ?_
  have gz := grown_setRow W9 b2 #[.slice (some ⟨V, 0, none⟩) 5 5, .slice A6 m6 c6, .slice A7 m7 c7, .slice A8 m8 c8, .slice A9 m9 c9]
  have hCz := hC9.grown gz (fun m hm => by cases hm; constructor <;> omega)
  have hgz := grown_new hgw9 gz (fun m hm => by cases hm; have := HB2.out; exact .inl (by omega))
  have up : ∀ (v : Value) (ts : List Sm), SmsOk (b3 < ·) W9 v ts → SmsOk (w.heap.size ≤ ·) (W9.setRow b2 #[.slice (some ⟨V, 0, none⟩) 5 5, .slice A6 m6 c6, .slice A7 m7 c7, .slice A8 m8 c8, .slice A9 m9 c9]) v ts := fun v ts h => framSms.mono _ _ _ _ _ (fun b _ h => by have := HB2.out; omega) (framSms.keep _ _ _ _ _ (fun b hb h => grown_lt gz hb (by omega)) h)
  refine ⟨_, ⟨(z1 : Int) - 2, 1 + (z2 : Int), z3, ts6, ts7, ts8, ts9⟩, rfl, ⟨by show -2 ≤ (z1 : Int) - 2; omega, by show (z1 : Int) - 2 ≤ 4; omega, by show 1 ≤ 1 + (z2 : Int); omega, by show 1 + (z2 : Int) ≤ 5; omega, by show 0 ≤ (z3 : Int); omega, by show (z3 : Int) ≤ 2; omega, fun s hs => drs_of (by omega) (hdr6 s hs), fun s hs => drs_of (by omega) (hdr7 s hs), fun s hs => drs_of (by omega) (hdr8 s hs), fun s hs => drs_of (by omega) (hdr9 s hs), by have := hL6_9.len.1; show ts6.length ≤ 10; omega, by have := hL7_9.len.1; show ts7.length ≤ 10; omega, by have := hL8_9.len.1; show ts8.length ≤ 10; omega, by have := hL9.len.1; show ts9.length ≤ 10; omega⟩, ?_, hCz, hgz⟩
  exact ⟨V, A6, m6, c6, A7, m7, c7, A8, m8, c8, A9, m9, c9, rfl, by have := HB2.out; show w.heap.size ≤ V; omega, (grown_lt gz (by have := HS5.out; omega) (by omega)).trans RV9.out, up _ _ hL6_9, up _ _ hL7_9, up _ _ hL8_9, up _ _ hL9⟩
end Go.Proofs.YtiblijmngokcgaaDoor
