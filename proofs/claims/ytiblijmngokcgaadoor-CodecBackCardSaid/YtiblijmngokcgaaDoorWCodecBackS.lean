import Derived.Test.YtiblijmngokcgaaDoorCkLS
import Derived.Test.YtiblijmngokcgaaDoorIntsS
import Derived.Test.YtiblijmngokcgaaDoorRtrS
import Derived.Test.YtiblijmngokcgaaDoorCodecES
import Derived.WalkKit
import Derived.ProofKit
import Derived.OpenShut
import Derived.ShutString
import Derived.Below
namespace Go.Proofs.YtiblijmngokcgaaDoor.codecBack
open Go.ChangeShapes Go.WideShapes Go.ChangeAt Go.RowKit
open Go.ChangeMaps (open_string shut_string)
set_option maxRecDepth 100000
set_option linter.unusedVariables false
set_option linter.unusedSimpArgs false
theorem glb_up {w x : World} {B : Nat} (h : Glb 2 w) (hb : Below w.heap.size w x) (h1 : w.heap.size ≤ B) (h2 : B ≤ x.heap.size) : Glb B x := by
  have hl := h.le
  have g := h.ext hb
  exact ⟨by omega, h2, g.s0, g.s1, g.s2, g.a0, g.a1⟩
theorem flat_kS {α : Type} (l : List α) (b : α → List Int) (k : Nat) (h : ∀ a, (b a).length = k) : (l.flatMap b).length = l.length * k := by
  induction l with
  | nil => simp
  | cons a l ih => rw [List.flatMap_cons, List.length_append, ih, h, List.length_cons]; rw [Nat.add_mul]; omega
theorem flat_leS {α : Type} (l : List α) (b : α → List Int) (k : Nat) (h : ∀ a ∈ l, (b a).length ≤ k) : (l.flatMap b).length ≤ l.length * k := by
  induction l with
  | nil => simp
  | cons a l ih =>
    have h1 := ih (fun x hx => h x (List.mem_cons_of_mem _ hx))
    have h2 := h a (List.mem_cons_self ..)
    rw [List.flatMap_cons, List.length_append, List.length_cons, Nat.add_mul]
    omega
theorem pgok_lS {p : Pg} (h : PgOk p) : ∀ z ∈ p.l, InR z := by
  intro z hz
  have h3 := h.2.2
  simp only [Pg.l, List.mem_append, List.mem_cons, List.not_mem_nil, or_false] at hz
  rcases hz with (hz | hz) | hz
  · rw [hz]; exact h.1
  · rw [hz]; exact ⟨by omega, by omega⟩
  · exact h.2.1 z hz
theorem pgs_lt {S : Nat → Prop} {w : World} {v : Value} {ps : List Pg} (h : Pgs S w v ps) : Pgs (· < w.heap.size) w v ps := by
  obtain ⟨xs, h1, h2, h3⟩ := h
  exact ⟨xs, h1.mono (fun b hb _ => hb), h2, fun i x p hx hp => ⟨(h3 i x p hx hp).1, (h3 i x p hx hp).2.mono (fun b hb _ => hb)⟩⟩
theorem stv_of {S : Nat → Prop} {w : World} {s : Stt} {E1 : Option Addr} {p1 q1 : Nat} {E2 : Option Addr} {p2 q2 : Nat} {E3 : Option Addr} {p3 q3 : Nat} {E4 : Option Addr} {p4 q4 : Nat} (h : StM S w s E1 p1 q1 E2 p2 q2 E3 p3 q3 E4 p4 q4) : StV (fun _ => True) w (.agg #[.slice E1 p1 q1, .slice E2 p2 q2, .slice E3 p3 q3, .slice E4 p4 q4]) s := by
  have h1 := h.1.len.1
  have h2 := h.2.len.1
  have h3 := h.3.len.1
  have h4 := h.4.len.1
  subst h1 h2 h3 h4
  exact ⟨E1, q1, E2, q2, E3, q3, E4, q4, rfl, h.1.mono (fun _ _ _ => trivial), h.2.mono (fun _ _ _ => trivial), h.3.mono (fun _ _ _ => trivial), h.4.mono (fun _ _ _ => trivial)⟩
theorem drop_mid (M e P : List UInt8) : (([] ++ (M ++ e)) ++ P).drop M.length = e ++ P := by simp
theorem rdAt_in {α : Type} (f : List UInt8 → Nat → Except Nat (α × Nat)) (L : List UInt8) (k : Nat) (h : k ≤ L.length) : rdAt f L (k : Int) = f L k := by
  unfold rdAt
  rw [if_neg (by omega), Int.toNat_natCast]
set_option maxHeartbeats 16000000 in
theorem walk (a0 : Option Addr) (len0 cap0 : Nat) (z0 : List Int) (a1 : Option Addr) (len1 cap1 : Nat) (z1_ : List Int) (a2 : Int) (w : World) (w0 : IsRow .u8 w a0 len0 cap0 z0) (w1 : IsRow .u8 w a1 len1 cap1 z1_) (w2 : (Lit.int .i64 a2).wf = true) (hG : Glb 2 w) :
    Calls Tryd.prog 3 #[.slice a0 len0 cap0, .slice a1 len1 cap1, .int .i64 a2] w fun e w' => e = .returned (.bool true) ∧ Below w.heap.size w w' := by
  have h2 := wf_i64 w2
  obtain ⟨L, hk1, hk2, hk3, hkB⟩ := IsRow.bytes w0
  obtain ⟨M, hM1, hM2, hM3, hMB⟩ := IsRow.bytes w1
  have HML := Lib.hid hM1
  have HG := Lib.hid hG
  have HYM := Lib.hid (fun (w' : World) (h : Below w.heap.size w w') => hMB.ext h)
  clear w0 w1 w2 hk1 hM1 hG hMB
  go_enter Tryd.func3, Tryd.ntmps3
  go_wp2_with fail
  refine (awakeC_any _).mono ?_
  rintro e x1 ⟨rfl, b1⟩
  by_cases hlen : len1 ≤ 100
  case neg =>
    have dl : decide (100 < len1) = true := by simp; omega
    go_wp2
    go_ret
    exact ⟨rfl, b1⟩
  have dl : decide (100 < len1) = false := by simp; omega
  have Hn := Lib.hid (codnew_any _ L _ x1 240 (by omega) (hkB.ext b1))
  go_wp2_with fail
  refine Hn.out.mono ?_
  rintro e x2 ⟨g, rfl, hC, b2⟩
  have s1 := b1.size
  have s2 := b2.size
  have hb2 := Below.ext b1 b2
  have Hs := Lib.hid (state_any x1.heap.size g 5 (by omega) x2 hC (glb_up HG.out hb2 s1 s2))
  have hgB := hC.1
  have hgl := hC.lt
  clear hC hkB dl
  go_wp2_with fail
  refine Hs.out.mono ?_
  rintro e x3 ⟨c, self, evs, s, E1, p1, q1, E2, p2, q2, E3, p3, q3, E4, p4, q4, rfl, hR, hci, hle, hM, hin, hsi, hse, hcl9, hc59, hC3, g3⟩
  have hse2 : s.evs.length ≤ 5 := by rw [hse]; exact hle
  clear hR hci hse hcl9 hc59
  have s3 := g3.size
  have H4 := Lib.hid (codint_any x1.heap.size g x3 hC3)
  go_wp2_with fail
  refine H4.out.mono ?_
  rintro e x4 ⟨z, rfl, hz, hC4, g4⟩
  have s4 := g4.size
  have H5 := Lib.hid (codints_any x1.heap.size g 4 x4 hC4 (by omega))
  go_wp2_with fail
  refine H5.out.mono ?_
  rintro e x5 ⟨I, ic, zs, rfl, hzl, hzs, hI, hC5, g5⟩
  have s5 := g5.size
  have H6 := Lib.hid (codnext_any x1.heap.size g 9 x5 hC5 (by omega) (by omega))
  go_wp2_with fail
  refine H6.out.mono ?_
  rintro e x6 ⟨y, rfl, hy, hC6, g6⟩
  have s6 := g6.size
  obtain ⟨WP, hWP, _, kP, SP, RP⟩ := boxD x6 x6 #[.int .i64 z, .slice I zs.length ic, .int .i64 (y : Int), .slice none 0 0] 36 (Below.refl _ _)
  obtain ⟨WS, hWS, _, kS, SS, RS⟩ := boxD WP WP #[.slice E1 p1 q1, .slice E2 p2 q2, .slice E3 p3 q3, .slice E4 p4 q4] 31 (Below.refl _ _)
  obtain ⟨bp, hbp⟩ : ∃ b, b = x6.heap.size := ⟨_, rfl⟩
  obtain ⟨b8, hb8⟩ : ∃ b, b = WP.heap.size := ⟨_, rfl⟩
  rw [← hbp] at RP
  rw [← hb8] at RS
  have HBP := Lib.hid hbp
  have HB8 := Lib.hid hb8
  have HE8 := Lib.hid (show bp + 1 = b8 by have := SP.out; omega)
  have lP : bp < WP.heap.size := by have := SP.out; omega
  have l8 : b8 < WS.heap.size := by have := SS.out; omega
  have lP8 : x6.heap.size ≤ bp ∧ bp < b8 := by omega
  have k68 := Below.ext kP kS
  have RPS := Lib.hid ((kS.block bp lP).trans RP.out)
  have hC8 := hC6.ext k68
  have g36 := grown_trans g4 (grown_trans g5 g6)
  have K3S : Keep (fun b => x2.heap.size ≤ b) x3 WS := fun b hb hs => (k68.block b (by omega)).trans (g36.block b hb (by simp; omega))
  have hMS := hM.kept (S' := fun b => x2.heap.size ≤ b) K3S (fun b h => h)
  have K5S : Keep (fun b => x4.heap.size ≤ b) x5 WS := fun b hb hs => (k68.block b (by omega)).trans (g6.block b hb (by simp; omega))
  have hIS : Recs encZ (fun b => x4.heap.size ≤ b) WS (.slice I zs.length ic) zs := (hI.recs.mono (fun b _ h => h.1)).keep K5S
  have gWS : x2.grownBy WS (some g) := grown_trans (grown_trans g3 g36) (grown_of_below k68 (some g))
  have sk8 := k68.size
  clear hbp hb8 hM hI K3S K5S RP hC3 hC4 hC5 hC6
  go_upto_region 7 with (refine wpList_store_new rfl 31 _ _ rfl 31 _ #[.slice E1 p1 q1, .slice E2 p2 q2, .slice E3 p3 q3, .slice E4 p4 q4] rfl rfl (by kernel_rfl) rfl (by simp [Value.oneCell']) ?_)
  try dsimp only
  rw [← hWP, ← HBP.out, HE8.out, ← hWS]
  clear hWP hWS
  try simp only [Act.put]
  have H7 := Lib.hid (codint_any x1.heap.size g WS hC8)
  go_wp2_with fail
  refine H7.out.mono ?_
  rintro e x7 ⟨z1, rfl, hz1, hC7, g7⟩
  have H8 := Lib.hid (codint_any x1.heap.size g x7 hC7)
  go_wp2_with fail
  refine H8.out.mono ?_
  rintro e x8 ⟨z2, rfl, hz2, hC8', g8⟩
  have H9 := Lib.hid (codraw_any x1.heap.size g x8 hC8')
  go_wp2_with fail
  refine H9.out.mono ?_
  rintro e x9 ⟨a, rfl, ha, _, g9⟩
  unfold evV
  obtain ⟨WD, hWD, _, kD, SD, RD⟩ := boxD x9 x9 #[.int .i64 z1, .int .i64 z2, .int .i64 a.k0, .int .i64 a.k1, .int .i64 a.k2, .int .i64 a.k3, .int .i64 a.k4, .int .i64 a.k5, .int .i64 a.k6] 45 (Below.refl _ _)
  obtain ⟨b10, hb10⟩ : ∃ b, b = x9.heap.size := ⟨_, rfl⟩
  rw [← hb10] at RD
  have HB10 := Lib.hid hb10
  have s7 := g7.size
  have s8 := g8.size
  have s9 := g9.size
  have lD : b10 < WD.heap.size := by have := SD.out; omega
  have g79 := grown_trans g7 (grown_trans g8 g9)
  have KSD : Keep (fun b => x2.heap.size ≤ b) WS WD := fun b hb hs => (kD.block b (by omega)).trans (g79.block b hb (by simp; omega))
  have hMD := hMS.kept (S' := fun b => x2.heap.size ≤ b) KSD (fun b h => h)
  have hID := (hIS.mono (S' := fun b => x2.heap.size ≤ b) (fun b _ h => by omega)).keep KSD
  have RPD := Lib.hid ((KSD bp (by omega) (by omega)).trans RPS.out)
  have R8D := Lib.hid ((KSD b8 l8 (by omega)).trans RS.out)
  have gWD : x2.grownBy WD (some g) := grown_trans (grown_trans gWS g79) (grown_of_below kD (some g))
  have hbD : Below w.heap.size w WD := hb2.grown gWD hb2.size (fun o e => by cases e; omega)
  have ldD : b8 < WD.heap.size := by omega
  have lPD : bp < WD.heap.size := by omega
  obtain ⟨d, hd⟩ : ∃ d : Dt, d = ⟨z1, z2, a⟩ := ⟨_, rfl⟩
  have hdz : ∀ q ∈ d.l, InR q := by
    rw [hd]
    intro q hq
    simp only [Dt.l, List.mem_append, List.mem_cons, List.not_mem_nil, or_false] at hq
    rcases hq with (rfl | rfl) | hq
    · exact hz1
    · exact hz2
    · exact ha q hq
  have RDD := Lib.hid (show WD.heap[b10]? = some (.cells #[.int .i64 d.proc, .int .i64 d.index, .int .i64 d.ev.k0, .int .i64 d.ev.k1, .int .i64 d.ev.k2, .int .i64 d.ev.k3, .int .i64 d.ev.k4, .int .i64 d.ev.k5, .int .i64 d.ev.k6] 45 (0, 0)) by rw [hd]; exact RD.out)
  have HDZ := Lib.hid hdz
  clear hb10 hMS hIS KSD RPS RS RD hdz hz1 hz2 ha hC7 hC8 hC8' hd
  go_upto_region 8 with (refine wpList_store_new rfl 45 _ _ rfl 45 _ #[.int .i64 z1, .int .i64 z2, .int .i64 a.k0, .int .i64 a.k1, .int .i64 a.k2, .int .i64 a.k3, .int .i64 a.k4, .int .i64 a.k5, .int .i64 a.k6] rfl rfl (by kernel_rfl) rfl (by simp [Value.oneCell']) ?_)
  try dsimp only
  rw [← HB10.out, ← hWD]
  clear hWD
  try simp only [Act.put]
  have m : ∀ b, b < WD.heap.size → x2.heap.size ≤ b → b < WD.heap.size := fun b h _ => h
  have l1 := hMD.1.len.1
  have l2 := hMD.2.len.1
  have l3 := hMD.3.len.1
  have l4 := hMD.4.len.1
  have hsl := hin.len
  have hsn := hsi.n
  have hok : SttOk s := hsi.ok (by omega)
  have hinr := stt_inrS hok (by omega) (by omega) (by omega)
  have HINR := Lib.hid hinr
  have HIN := Lib.hid (show s.cells.length ≤ 1000000 ∧ s.evs.length ≤ 1000000 ∧ s.sent.length ≤ 1000000 ∧ s.outs.length ≤ 1000000 from ⟨by omega, by omega, by omega, by omega⟩)
  have Hp := Lib.hid (putState_any a1 len1 cap1 M _ WD (HYM.out WD hbD) s E1 E2 E3 E4 p1 q1 p2 q2 p3 q3 p4 q4 (hMD.1.mono m) (hMD.2.mono m) (hMD.3.mono m) (hMD.4.mono m) hok (by omega) (by omega) (by omega) (by omega))
  have hD1 := encs_ge s.l
  have hD2 := encs_len s.l hinr
  have hD3 : 4 ≤ s.l.length ∧ s.l.length ≤ 3000000 := by
    have f1 := flat_kS s.evs Ev.l 7 (fun _ => rfl)
    have f2 := flat_kS s.sent Snd.l 4 (fun _ => rfl)
    have f3 := flat_kS s.outs Ou.l 2 (fun _ => rfl)
    simp only [Stt.l, List.length_append, List.length_cons, List.length_nil]
    omega
  obtain ⟨ns, hns⟩ : ∃ n, n = (encs s.l).length := ⟨_, rfl⟩
  have HNS := Lib.hid hns
  have hns1 : 4 ≤ ns := by omega
  have hns2 : ns ≤ 90000000 := by omega
  have HMD := Lib.hid hMD
  have HID := Lib.hid hID
  clear hns hD1 hD2 hD3 hsl hsn hse2 l1 l2 l3 l4 m hok hinr hin hsi hMD hID
  go_wp2_with (refine wpList_ldv (t := 31) (A := ⟨b8, 0, none⟩) rfl rfl rfl (run_ld_block R8D.out Tryd.underlying31 rfl (by kernel_rfl)) ?_)
  refine Hp.out.mono ?_
  rintro e y1 ⟨vb, rfl, hyb, bp1⟩
  obtain ⟨B1, cb1, rfl⟩ := byt_slice hyb
  obtain ⟨D, hD⟩ : ∃ D, D = M ++ encs s.l := ⟨_, rfl⟩
  rw [← hD] at hyb ⊢
  obtain ⟨nb1, hnb1⟩ : ∃ n, n = D.length := ⟨_, rfl⟩
  rw [← hnb1] at hyb ⊢
  have HD := Lib.hid hD
  have HN1 := Lib.hid hnb1
  have hnb : nb1 = len1 + ns := by rw [hnb1, hD, List.length_append, ← HNS.out]; have := HML.out; omega
  obtain ⟨n21, hn21⟩ : ∃ n, n = nb1 + len1 := ⟨_, rfl⟩
  have HN21 := Lib.hid hn21
  have hy1 := hyb
  have bM1 := Below.ext hbD bp1
  have hcc := hyb.len
  have hnbl : nb1 ≤ 90000100 := by omega
  have HNB := Lib.hid hnb
  clear hD hnb1 hn21 hnb
  go_wp2_with (first | (refine wpList_appB (o := ⟨some 51, _, _, _, _, _⟩) _ _ 22 5 y1.heap.size [] D B1 nb1 cb1 (.slice none 0 0) nb1 rfl rfl Tryd.underlying22 infoB rfl rfl (OwnB.nil_ _ _ _) hy1 (by simp) (by simp; omega) (Nat.le_refl _) ?_; intro P1 pc1 u1 ho1 hg1 hat1 hc11 hc21; have bu1 : Below y1.heap.size y1 u1 := ⟨hg1.os, hg1.tape, hg1.output, hg1.size, fun b hb => hg1.block b hb (by simp [Value.ownBlock])⟩; have hyM1 := (HYM.out _ (Below.ext bM1 bu1)); have hsu1 := bu1.size) | (refine wpList_appB (o := ⟨some 53, _, _, _, _, _⟩) _ _ 22 5 y1.heap.size ([] ++ D) M a1 len1 cap1 (.slice P1 nb1 pc1) n21 rfl rfl Tryd.underlying22 infoB rfl rfl ho1 hyM1 (by have := HN1.out; have := HN21.out; have := HML.out; simp; omega) (by have := HN1.out; have := HML.out; simp; omega) hsu1 ?_; intro R1 rc1 v1 ho21 hg21 hat21 hc31 hc41; have bv1 : Below y1.heap.size y1 v1 := bu1.grown hg21 hsu1 (fun o e => (World.ownsRow.lt ho1 o e).1)))
  have hrd1 : rdAt rdSt (([] ++ D) ++ M) (len1 : Int) = .ok (s, nb1) := by
    have e1 := HIN.out
    have h := rdSt_enc (L := ([] ++ D) ++ M) (p := M.length) (post := M) HINR.out e1.1 e1.2.1 e1.2.2.1 e1.2.2.2 (by rw [HD.out]; exact drop_mid M _ M)
    rw [show ((len1 : Nat) : Int) = ((M.length : Nat) : Int) by rw [HML.out], rdAt_in _ _ _ (by simp), h]
    have := HNB.out
    have := HNS.out
    have := HML.out
    congr 2
    omega
  have Hst1 := Lib.hid (codecState_any R1 n21 rc1 (len1 : Int) (([] ++ D) ++ M) _ v1 (by have h := ho21.bytes; exact h) (by have := HN21.out; omega))
  rw [hrd1] at Hst1
  have BV1 := Lib.hid bv1
  clear hrd1 ho1 hg1 hat1 ho21 hg21 hat21 hyM1 bu1 bv1 hsu1
  go_wp2_with fail
  refine Hst1.out.mono ?_
  rintro e y2 ⟨⟨vs, rfl, hStO⟩, by2⟩
  obtain ⟨F1, r1, F2, r2, F3, r3, F4, r4, rfl, o1, o2, o3, o4⟩ := hStO
  obtain ⟨W12, hW12, _, k12, S12, R12⟩ := boxD y2 y2 #[.slice F1 s.cells.length r1, .slice F2 s.evs.length r2, .slice F3 s.sent.length r3, .slice F4 s.outs.length r4] 31 (Below.refl _ _)
  obtain ⟨b12, hb12⟩ : ∃ b, b = y2.heap.size := ⟨_, rfl⟩
  rw [← hb12] at R12
  have HB12 := Lib.hid hb12
  have yy1 := BV1.out
  have yD2 : Below WD.heap.size WD W12 := Below.ext (Below.ext bp1 yy1) (Below.ext by2 k12)
  have hyb2 := hyb.ext (Below.ext yy1 (Below.ext by2 k12))
  have R812 := Lib.hid ((yD2.block b8 ldD).trans R8D.out)
  have lt12 : b12 < W12.heap.size := by have := S12.out; omega
  have hMD2 := HMD.out.ext yD2
  have hss := Lib.hid (fun (w' : World) (h : Below W12.heap.size W12 w') => samestate_eq (.agg #[.slice E1 p1 q1, .slice E2 p2 q2, .slice E3 p3 q3, .slice E4 p4 q4]) (.agg #[.slice F1 s.cells.length r1, .slice F2 s.evs.length r2, .slice F3 s.sent.length r3, .slice F4 s.outs.length r4]) s (fun _ => True) (fun _ => True) w' (stv_of (hMD2.ext h)) ⟨F1, r1, F2, r2, F3, r3, F4, r4, rfl, ((o1.recs.mono (fun _ _ _ => trivial)).ext k12).ext h, ((o2.recs.mono (fun _ _ _ => trivial)).ext k12).ext h, ((o3.recs.mono (fun _ _ _ => trivial)).ext k12).ext h, ((o4.recs.mono (fun _ _ _ => trivial)).ext k12).ext h⟩)
  have dle : decide (nb1 ≤ len1) = false := by have := HNB.out; simp; omega
  have hbW12 := Below.ext hbD yD2
  clear hb12 o1 o2 o3 o4 hMD2 hy1 yy1 by2 k12 BV1
  go_upto_region 10 with (refine wpList_store_new rfl 31 _ _ rfl 31 _ #[.slice F1 s.cells.length r1, .slice F2 s.evs.length r2, .slice F3 s.sent.length r3, .slice F4 s.outs.length r4] rfl rfl (by kernel_rfl) rfl (by simp [Value.oneCell']) ?_)
  try dsimp only
  rw [← hW12, ← HB12.out]
  clear hW12
  try simp only [Act.put]
  go_wp2_with (first | (refine wpList_ldv (t := 31) (A := ⟨b8, 0, none⟩) rfl rfl rfl (run_ld_block R812.out Tryd.underlying31 rfl (by kernel_rfl)) ?_) | (refine wpList_ldv (t := 31) (A := ⟨b12, 0, none⟩) rfl rfl rfl (run_ld_block R12.out Tryd.underlying31 rfl (by kernel_rfl)) ?_))
  refine (hss.out W12 (Below.refl _ _)).mono ?_
  rintro e y3 ⟨rfl, by3⟩
  have hyb3 := hyb2.ext by3
  have yD3 := Below.ext yD2 by3
  have hnsI : (nb1 : Int) - (len1 : Int) = (ns : Int) := by have := HNB.out; omega
  have Hmod := Lib.hid (modC_any a2 (ns : Int) y3 (by omega) (by omega) h2.1 h2.2)
  have hm1 := Int.emod_nonneg a2 (b := (ns : Int)) (by omega)
  have hm2 := Int.emod_lt_of_pos a2 (b := (ns : Int)) (by omega)
  obtain ⟨kk, hkk⟩ := Int.eq_ofNat_of_zero_le hm1
  rw [hkk] at Hmod hm2
  rw [← hnsI] at Hmod
  have hkn : kk < ns := by omega
  clear hm1 hm2 hkk hss hyb hyb2 R12 hnsI
  go_wp2_with fail
  refine Hmod.out.mono ?_
  rintro e y3' ⟨rfl, rfl⟩
  obtain ⟨k, hk⟩ : ∃ k, k = len1 + kk := ⟨_, rfl⟩
  have HK := Lib.hid hk
  have hkI : (len1 : Int) + (kk : Int) = (k : Int) := by omega
  have hk1 : k ≤ nb1 := by have := HNB.out; omega
  have hkc : k ≤ cb1 := by omega
  have hcut : ∃ er, rdSt (D.take k) len1 = .error er ∧ (er = 8 ∨ er = 9) := by
    refine rdSt_cut (s := s) ?_ (by omega) (by rw [← HN1.out]; have := HNB.out; omega)
    have e1 := HIN.out
    have h := rdSt_enc (L := D) (p := M.length) (post := []) HINR.out e1.1 e1.2.1 e1.2.2.1 e1.2.2.2 (by rw [HD.out]; simp)
    rw [show len1 = M.length from HML.out.symm, h]
    have := HNB.out
    have := HNS.out
    have := HML.out
    have := HN1.out
    congr 2
    omega
  obtain ⟨er, hcut1, hcut2⟩ := hcut
  have hrd2 : rdAt rdSt (D.take k) (len1 : Int) = .error er := by
    rw [rdAt_in _ _ _ (by rw [List.length_take, ← HN1.out]; omega)]
    exact hcut1
  have Hst2 := Lib.hid (codecState_any B1 k cb1 (len1 : Int) (D.take k) _ y3' (hyb3.take_ hk1) (by omega))
  rw [hrd2] at Hst2
  unfold RdOut at Hst2
  dsimp only at Hst2
  clear hk hcut1 hrd2
  go_upto_region 13 with fail
  try rw [hkI]
  clear hkI
  go_wp2_with fail
  refine Hst2.out.mono ?_
  rintro e y4 ⟨rfl, by4⟩
  have yD4 := Below.ext yD3 by4
  obtain ⟨W16, hW16, _, k16, S16, R16⟩ := boxD y4 y4 #[.slice none 0 0, .slice none 0 0, .slice none 0 0, .slice none 0 0] 31 (Below.refl _ _)
  have yD16 := Below.ext yD4 k16
  have hb16 := Below.ext hbD yD16
  obtain ⟨ps, hps⟩ : ∃ ps : List Pg, ps = [⟨z, zs⟩, ⟨(y : Int), []⟩] := ⟨_, rfl⟩
  have hpl : ps.length = 2 := by rw [hps]; rfl
  have hpok : ∀ p ∈ ps, PgOk p := by
    rw [hps]
    intro p hp
    simp only [List.mem_cons, List.not_mem_nil, or_false] at hp
    rcases hp with rfl | rfl
    · exact ⟨hz, hzs, by show zs.length ≤ _; omega⟩
    · exact ⟨⟨by show _ ≤ (y : Int); omega, by show (y : Int) ≤ _; omega⟩, fun z hz => by simp at hz, by simp⟩
  have hPg : Pgs (fun _ => True) W16 (.slice (some ⟨bp, 0, none⟩) 2 2) ps := by
    rw [hps]
    refine ⟨[⟨z, I, zs.length, ic⟩, ⟨(y : Int), none, 0, 0⟩], ⟨_, 2, rfl, by simp, by simp [maxLen], fun _ => ⟨bp, 0, rfl, trivial, fun j u hu => ?_⟩⟩, rfl, fun i x p hx hp => ?_⟩
    · rw [cell_of_row _ _ _ _ _ _ ((yD16.block bp lPD).trans RPD.out), Nat.zero_add]
      simpa [encPg] using hu
    · match i with
      | 0 => cases hx; cases hp; exact ⟨rfl, (HID.out.mono (fun _ _ _ => trivial)).ext yD16⟩
      | 1 => cases hx; cases hp; exact ⟨rfl, Recs.nil_ _ _⟩
      | i + 2 => simp at hx
  have HPS := Lib.hid hpl
  have HPOK := Lib.hid hpok
  have HPE := Lib.hid (show ∀ e ∈ ps, e.cells.length ≤ 1000000 by rw [hps]; intro p hp; simp only [List.mem_cons, List.not_mem_nil, or_false] at hp; rcases hp with rfl | rfl <;> simp <;> omega)
  have HPG := Lib.hid hPg
  clear hps hpl hpok hPg hz hzs
  have Hpp := Lib.hid (putPages_any a1 len1 cap1 M _ W16 (HYM.out W16 hb16) (some ⟨bp, 0, none⟩) 2 2 ps (pgs_lt HPG.out) HPOK.out (by omega) (by omega))
  have hpi : ∀ q ∈ pgL ps, InR q := by
    intro q hq
    have := HPS.out
    simp only [pgL, List.mem_append, List.mem_singleton, List.mem_flatMap] at hq
    rcases hq with rfl | ⟨p, hp, hq⟩
    · exact ⟨by omega, by omega⟩
    · exact pgok_lS (HPOK.out p hp) q hq
  have hpe := encs_len _ hpi
  have hpn : (pgL ps).length ≤ 5000000 := by
    have f := flat_leS ps Pg.l 2000002 (fun p hp => by have := (HPOK.out p hp).2.2; simp [Pg.l]; omega)
    have := HPS.out
    simp only [pgL, List.length_append, List.length_singleton]
    omega
  have HPI := Lib.hid hpi
  have Z16 := Lib.hid yD16
  clear hpi R16 S16 hyb3 by3 by4 yD2 yD3 yD4
  rcases hcut2 with rfl | rfl
  all_goals
    go_upto_region 16 with (refine wpList_store_new rfl 31 _ _ rfl 31 _ #[.slice none 0 0, .slice none 0 0, .slice none 0 0, .slice none 0 0] rfl rfl (by kernel_rfl) rfl (by simp [Value.oneCell']) ?_)
    try dsimp only
    rw [← hW16]
    clear hW16
    try simp only [Act.put]
    go_wp2_with fail
    refine Hpp.out.mono ?_
    rintro e y5 ⟨vb2, rfl, hyb5, bp5⟩
    obtain ⟨B2, cb2, rfl⟩ := byt_slice hyb5
    obtain ⟨D2, hD2⟩ : ∃ D, D = M ++ encs (pgL ps) := ⟨_, rfl⟩
    rw [← hD2] at hyb5 ⊢
    obtain ⟨nb2, hnb2⟩ : ∃ n, n = D2.length := ⟨_, rfl⟩
    rw [← hnb2] at hyb5 ⊢
    have HD2 := Lib.hid hD2
    have HN2 := Lib.hid hnb2
    have hnbl2 : nb2 ≤ 60000000 := by rw [hnb2, hD2, List.length_append]; have := HML.out; omega
    obtain ⟨n22, hn22⟩ : ∃ n, n = nb2 + len1 := ⟨_, rfl⟩
    have HN22 := Lib.hid hn22
    have hy2 := hyb5
    have yD5 := Below.ext Z16.out bp5
    have bM2 := Below.ext hbD yD5
    have hcc2 := hyb5.len
    clear hD2 hnb2 hn22
    go_wp2_with (first | (refine wpList_appB (o := ⟨some 111, _, _, _, _, _⟩) _ _ 22 5 y5.heap.size [] D2 B2 nb2 cb2 (.slice none 0 0) nb2 rfl rfl Tryd.underlying22 infoB rfl rfl (OwnB.nil_ _ _ _) hy2 (by simp) (by simp; omega) (Nat.le_refl _) ?_; intro P2 pc2 u2 ho2 hg2 hat2 hc12 hc22; have bu2 : Below y5.heap.size y5 u2 := ⟨hg2.os, hg2.tape, hg2.output, hg2.size, fun b hb => hg2.block b hb (by simp [Value.ownBlock])⟩; have hyM2 := (HYM.out _ (Below.ext bM2 bu2)); have hsu2 := bu2.size) | (refine wpList_appB (o := ⟨some 113, _, _, _, _, _⟩) _ _ 22 5 y5.heap.size ([] ++ D2) M a1 len1 cap1 (.slice P2 nb2 pc2) n22 rfl rfl Tryd.underlying22 infoB rfl rfl ho2 hyM2 (by have := HN2.out; have := HN22.out; have := HML.out; simp; omega) (by have := HN2.out; have := HML.out; simp; omega) hsu2 ?_; intro R2 rc2 v2 ho22 hg22 hat22 hc32 hc42; have bv2 : Below y5.heap.size y5 v2 := bu2.grown hg22 hsu2 (fun o e => (World.ownsRow.lt ho2 o e).1)))
    have hrd3 : rdAt rdPgs (([] ++ D2) ++ M) (len1 : Int) = .ok (ps, nb2) := by
      have h := rdPgs_enc (L := ([] ++ D2) ++ M) (p := M.length) (post := M) (ps := ps) (fun e he => ⟨pgok_lS (HPOK.out e he), by have := HPE.out e he; omega⟩) (by have := HPS.out; omega) (by rw [HD2.out]; exact drop_mid M _ M)
      rw [show ((len1 : Nat) : Int) = ((M.length : Nat) : Int) by rw [HML.out], rdAt_in _ _ _ (by simp), h]
      have := HN2.out
      rw [HD2.out, List.length_append] at this
      congr 2
      omega
    have Hst3 := Lib.hid (codecPages_any R2 n22 rc2 (len1 : Int) (([] ++ D2) ++ M) _ v2 (by have h := ho22.bytes; exact h) (by have := HN22.out; omega))
    rw [hrd3] at Hst3
    have BV2 := Lib.hid bv2
    clear hrd3 ho2 hg2 hat2 ho22 hg22 hat22 hyM2 bu2 bv2 hsu2
    go_wp2_with fail
    refine Hst3.out.mono ?_
    rintro e y6 ⟨⟨vp, rfl, Q, qc, rfl, hPO⟩, by6⟩
    rw [HPS.out] at hPO ⊢
    have yD6 := Below.ext yD5 (Below.ext BV2.out by6)
    have hsp := Lib.hid (samepages_eq (some ⟨bp, 0, none⟩) Q 2 2 qc ps (fun _ => True) _ y6 (HPG.out.ext (Below.ext bp5 (Below.ext BV2.out by6))) hPO.pgs)
    go_wp2_with fail
    refine hsp.out.mono ?_
    rintro e y7 ⟨rfl, by7⟩
    have yD7 := Below.ext yD6 by7
    have hb7 := Below.ext hbD yD7
    have RD7 := Lib.hid ((yD7.block b10 lD).trans RDD.out)
    have Hpd := putDet_any a1 len1 cap1 M _ y7 (HYM.out y7 hb7) d HDZ.out (by omega)
    unfold dtV at Hpd
    have HPD := Lib.hid Hpd
    clear Hpd hsp hPO
    go_wp2_with (refine wpList_ldv (t := 45) (A := ⟨b10, 0, none⟩) rfl rfl rfl (run_ld_block RD7.out Tryd.underlying45 rfl (by kernel_rfl)) ?_)
    refine HPD.out.mono ?_
    rintro e y8 ⟨vb3, rfl, hyb8, bp8⟩
    obtain ⟨B3, cb3, rfl⟩ := byt_slice hyb8
    obtain ⟨D3, hD3⟩ : ∃ D, D = M ++ encs d.l := ⟨_, rfl⟩
    rw [← hD3] at hyb8 ⊢
    obtain ⟨nb3, hnb3⟩ : ∃ n, n = D3.length := ⟨_, rfl⟩
    rw [← hnb3] at hyb8 ⊢
    have HD3 := Lib.hid hD3
    have HN3 := Lib.hid hnb3
    have hde := encs_len _ HDZ.out
    have hdl : d.l.length = 9 := rfl
    have hnbl3 : nb3 ≤ 1000 := by rw [hnb3, hD3, List.length_append]; have := HML.out; omega
    obtain ⟨n23, hn23⟩ : ∃ n, n = nb3 + len1 := ⟨_, rfl⟩
    have HN23 := Lib.hid hn23
    have hy3 := hyb8
    have yD8 := Below.ext yD7 bp8
    have bM3 := Below.ext hbD yD8
    have hcc3 := hyb8.len
    clear hD3 hnb3 hn23 hde hdl
    go_wp2_with (first | (refine wpList_appB (o := ⟨some 139, _, _, _, _, _⟩) _ _ 22 5 y8.heap.size [] D3 B3 nb3 cb3 (.slice none 0 0) nb3 rfl rfl Tryd.underlying22 infoB rfl rfl (OwnB.nil_ _ _ _) hy3 (by simp) (by simp; omega) (Nat.le_refl _) ?_; intro P3 pc3 u3 ho3 hg3 hat3 hc13 hc23; have bu3 : Below y8.heap.size y8 u3 := ⟨hg3.os, hg3.tape, hg3.output, hg3.size, fun b hb => hg3.block b hb (by simp [Value.ownBlock])⟩; have hyM3 := (HYM.out _ (Below.ext bM3 bu3)); have hsu3 := bu3.size) | (refine wpList_appB (o := ⟨some 141, _, _, _, _, _⟩) _ _ 22 5 y8.heap.size ([] ++ D3) M a1 len1 cap1 (.slice P3 nb3 pc3) n23 rfl rfl Tryd.underlying22 infoB rfl rfl ho3 hyM3 (by have := HN3.out; have := HN23.out; have := HML.out; simp; omega) (by have := HN3.out; have := HML.out; simp; omega) hsu3 ?_; intro R3 rc3 v3 ho23 hg23 hat23 hc33 hc43; have bv3 : Below y8.heap.size y8 v3 := bu3.grown hg23 hsu3 (fun o e => (World.ownsRow.lt ho3 o e).1)))
    have hrd4 : rdAt rdDt (([] ++ D3) ++ M) (len1 : Int) = .ok (d, nb3) := by
      have h := rdDt_enc (L := ([] ++ D3) ++ M) (p := M.length) (post := M) (d := d) HDZ.out (by rw [HD3.out]; exact drop_mid M _ M)
      rw [show ((len1 : Nat) : Int) = ((M.length : Nat) : Int) by rw [HML.out], rdAt_in _ _ _ (by simp), h]
      have := HN3.out
      rw [HD3.out, List.length_append] at this
      congr 2
      omega
    have Hst4 := codecDet_any R3 n23 rc3 (len1 : Int) (([] ++ D3) ++ M) _ v3 (by have h := ho23.bytes; exact h) (by have := HN23.out; omega)
    rw [hrd4] at Hst4
    have HST4 := Lib.hid Hst4
    have BV3 := Lib.hid bv3
    clear Hst4 hrd4 ho3 hg3 hat3 ho23 hg23 hat23 hyM3 bu3 bv3 hsu3
    go_wp2_with fail
    refine HST4.out.mono ?_
    rintro e y9 ⟨⟨vd, rfl, rfl⟩, by9⟩
    unfold dtV
    obtain ⟨W20, hW20, _, k20, S20, R20⟩ := boxD y9 y9 #[.int .i64 d.proc, .int .i64 d.index, .int .i64 d.ev.k0, .int .i64 d.ev.k1, .int .i64 d.ev.k2, .int .i64 d.ev.k3, .int .i64 d.ev.k4, .int .i64 d.ev.k5, .int .i64 d.ev.k6] 45 (Below.refl _ _)
    obtain ⟨b20, hb20⟩ : ∃ b, b = y9.heap.size := ⟨_, rfl⟩
    rw [← hb20] at R20
    have HB20 := Lib.hid hb20
    have yD20 := Below.ext yD8 (Below.ext BV3.out (Below.ext by9 k20))
    have RD20 := Lib.hid ((yD20.block b10 lD).trans RDD.out)
    clear hb20
    go_upto_region 22 with (refine wpList_store_new rfl 45 _ _ rfl 45 _ #[.int .i64 d.proc, .int .i64 d.index, .int .i64 d.ev.k0, .int .i64 d.ev.k1, .int .i64 d.ev.k2, .int .i64 d.ev.k3, .int .i64 d.ev.k4, .int .i64 d.ev.k5, .int .i64 d.ev.k6] rfl rfl (by kernel_rfl) rfl (by simp [Value.oneCell']) ?_)
    try dsimp only
    rw [← hW20, ← HB20.out]
    clear hW20
    try simp only [Act.put]
    go_wp2_with (first | (refine wpList_ldv (t := 45) (A := ⟨b20, 0, none⟩) rfl rfl rfl (run_ld_block R20.out Tryd.underlying45 rfl (by kernel_rfl)) ?_) | (refine wpList_ldv (t := 45) (A := ⟨b10, 0, none⟩) rfl rfl rfl (run_ld_block RD20.out Tryd.underlying45 rfl (by kernel_rfl)) ?_))
    go_ret
    exact ⟨rfl, Below.ext hbD yD20⟩
end Go.Proofs.YtiblijmngokcgaaDoor.codecBack
