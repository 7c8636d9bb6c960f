import Derived.Test.YtiblijmngokcgaaDoorRunCS
import Derived.Deep.LoopGhost
namespace Go.Proofs.YtiblijmngokcgaaDoor
open Go.RowKit
set_option maxRecDepth 100000
set_option linter.unusedVariables false
set_option linter.unusedSimpArgs false
def RsS : Nat → Sm → Prop
  | 0, _ => False
  | n + 1, .mk kind name slot size place value body els => (1 ≤ kind ∧ kind ≤ 6) ∧ (0 ≤ slot ∧ slot ≤ 1000) ∧ (0 ≤ size ∧ size ≤ 1000) ∧ RsE 3 place ∧ RsE 3 value ∧ (∀ s ∈ body, RsS n s) ∧ (∀ s ∈ els, RsS n s)
def ListOk (n : Nat) : Prop := ∀ (w : World) (p base : Nat) (v : Env) (r : Rst) (F : Nat → Prop) (A : Option Addr) (m c : Nat) (ts : List Sm), RunOk w p base v r F → EnvIn v → LsOk encSm (SmOk n (· < base) w) (· < base) w (.slice A m c) ts → (∀ s ∈ ts, RsS n s) →
  Calls Tryd.prog 73 #[.pointer (some ⟨p, 0, none⟩), .slice A m c] w fun e w' => ∃ r' ok, e = .returned (.bool ok) ∧ RunL v ts r r' ok ∧ RunOk w' p base v r' F ∧ Below base w w' ∧ Keep F w w'
theorem keepB {base : Nat} {w w' : World} (h : Below base w w') : Keep (· < base) w w' := fun b _ hs => h.block b hs
theorem RunOk.weak {w : World} {p base : Nat} {v : Env} {r : Rst} {F G : Nat → Prop} (h : RunOk w p base v r F) (hG : ∀ b, G b → F b) : RunOk w p base v r G := by
  obtain ⟨a1, a2, a3, a4, a5, a6, hM, hF⟩ := h
  exact ⟨_, _, _, _, _, _, hM, fun q hq => hF q (hG q hq)⟩
theorem RunOk.add {w W : World} {p base : Nat} {v : Env} {r : Rst} {F : Nat → Prop} (h : RunOk w p base v r F) (hb : Below w.heap.size w W) (hs : w.heap.size < W.heap.size) : RunOk W p base v r (fun b => b = w.heap.size ∨ F b) := by
  obtain ⟨a1, a2, a3, a4, a5, a6, hM, hF⟩ := h
  refine ⟨_, _, _, _, _, _, hM.ext hb, fun q hq => ?_⟩
  rcases hq with rfl | hq
  · exact ⟨hs, fun e => by have := hM.lt; omega, fun e => Nat.lt_irrefl _ (World.ownsRow.lt hM.cel _ e).2, fun e => Nat.lt_irrefl _ (World.ownsRow.lt hM.eff _ e).2⟩
  · exact hF.size hb.size q hq
theorem RunOk.bw {w : World} {p base : Nat} {v : Env} {r : Rst} {F : Nat → Prop} (h : RunOk w p base v r F) : base ≤ w.heap.size := by
  obtain ⟨a1, a2, a3, a4, a5, a6, hM, hF⟩ := h
  exact hM.bw
theorem Keep.tr {F : Nat → Prop} {a b c : World} (h : Keep F a b) (k : Keep F b c) (hs : a.heap.size ≤ b.heap.size) : Keep F a c := fun q hq hf => (k q (Nat.lt_of_lt_of_le hq hs) hf).trans (h q hq hf)
theorem ld_sm {w : World} {b o : Nat} {y : SmV} (hc : ∀ i u, (encSm y)[i]? = some u → w.cell? ⟨b, o + i, none⟩ = some u) : (loadVar 147 ⟨b, o, none⟩).run Tryd.prog w = .ok (.agg #[.int .i64 y.kind, .string y.name, .int .i64 y.slot, .int .i64 y.size, .int .i64 y.p.op, .int .i64 y.p.val, .string y.p.name, .int .i64 y.p.slot, .int .i64 y.p.size, .slice y.p.A y.p.n y.p.c, .int .i64 y.v.op, .int .i64 y.v.val, .string y.v.name, .int .i64 y.v.slot, .int .i64 y.v.size, .slice y.v.A y.v.n y.v.c, .slice y.A y.n y.c, .slice y.B y.m y.d]) w := by
  have := run_loadVar_mid (P := Tryd.prog) w b o 147 (encSm y) _ (fun j v hv => hc j v hv) Tryd.underlying147 rfl (by kernel_rfl)
  exact this
set_option maxHeartbeats 8000000 in
theorem list_step (n : Nat) (ih : ∀ k, k < n → ListOk k) : ListOk n := by
  intro w p base v r F A m c ts hR hv hL hrs
  have HL := Lib.hid hL.len.1
  have hlc := hL.len.2
  have HRS := Lib.hid hrs
  have HIH := Lib.hid ih
  clear hrs ih
  go_enter Tryd.func73, Tryd.ntmps73
  go_wp2
  go_loopg [5] (m + 1) (fun gk i wr => ∃ (k : Nat) (r1 : Rst), i = .int .i64 (k : Int) ∧ k ≤ m ∧ m + 1 ≤ k + gk ∧ RowKit.Hid (∀ r' ok, RunL v (ts.drop k) r1 r' ok → RunL v ts r r' ok) ∧ RunOk wr p base v r1 F ∧ Below base w wr ∧ Keep F w wr)
  case atStart => exact ⟨0, r, rfl, by omega, by omega, Lib.hid (fun r' ok h => by simpa using h), hR, Below.refl _ _, fun _ _ _ => rfl⟩
  case round =>
    obtain ⟨k, r1, rfl, hk, hgk, hup, hR1, hb, hkp⟩ := hrel
    by_cases hlt : k < m
    · obtain ⟨ba, oa, x, t, rfl, hSb, hba, ht, hok, hcx⟩ := hL.at_ encSm_len (j := k) hlt (by omega)
      have hSb' : ba < base := hSb
      cases n with
      | zero => exact hok.elim
      | succ n =>
        have hrt := HRS.out t (List.mem_of_getElem? ht)
        obtain ⟨kind, name, slot, size, place, value, body, els⟩ := t
        obtain ⟨rfl, rfl, rfl, rfl, hpl, hvl, hbd, hel⟩ := hok
        obtain ⟨hkd, hsl, hsz, rpl, rvl, rbd, rel_⟩ := hrt
        have hdr : ts.drop k = .mk x.kind x.name x.slot x.size place value body els :: ts.drop (k + 1) := by
          obtain ⟨h1, h2⟩ := List.getElem?_eq_some_iff.1 ht
          rw [List.drop_eq_getElem_cons h1, h2]
        have HUP := Lib.hid (fun r' ok h => hup.out r' ok (by rw [hdr]; exact h))
        have HC := Lib.hid (fun i u h => (hb.cell (p := ⟨ba, oa + k * 18 + i, none⟩) hSb').trans (hcx i u h))
        obtain ⟨W, hW, bW, kW, SW, R0⟩ := boxD wr wr #[.int .i64 x.kind, .string x.name, .int .i64 x.slot, .int .i64 x.size, .int .i64 x.p.op, .int .i64 x.p.val, .string x.p.name, .int .i64 x.p.slot, .int .i64 x.p.size, .slice x.p.A x.p.n x.p.c, .int .i64 x.v.op, .int .i64 x.v.val, .string x.v.name, .int .i64 x.v.slot, .int .i64 x.v.size, .slice x.v.A x.v.n x.v.c, .slice x.A x.n x.c, .slice x.B x.m x.d] 147 (Below.refl _ _)
        obtain ⟨bx, hbx⟩ : ∃ b, b = wr.heap.size := ⟨_, rfl⟩
        rw [← hbx] at R0
        have HBX := Lib.hid hbx
        have hbxW : bx < W.heap.size := by have := SW.out; omega
        have hsw := hb.size
        have hbase := hR1.bw
        have hR1W : RunOk W p base v r1 (fun b => b = bx ∨ F b) := by rw [HBX.out]; exact hR1.add bW (by have := SW.out; omega)
        have hbW : Below base w W := hb.trans (bW.mono hbase)
        have hkW : Keep F w W := hkp.tr (Keep.of_below bW) hsw
        have hWs : w.heap.size ≤ W.heap.size := hbW.size
        have cfin : ∀ (w' : World) (r' : Rst), RunOk w' p base v r' (fun b => b = bx ∨ F b) → Below base W w' → Keep (fun b => b = bx ∨ F b) W w' → RunOk w' p base v r' F ∧ Below base w w' ∧ Keep F w w' := fun w' r' h1 h2 h3 => ⟨h1.weak (fun b hb => Or.inr hb), hbW.trans h2, hkW.tr (fun q hq hf => h3 q hq (Or.inr hf)) hWs⟩
        have HFIN := Lib.hid cfin
        have RROW := Lib.hid (fun (w' : World) (h3 : Keep (fun b => b = bx ∨ F b) W w') => (h3 bx hbxW (Or.inl rfl)).trans R0.out)
        clear cfin
        have q0 : W.cell? ⟨bx, 0, none⟩ = some (.int .i64 x.kind) := row_cell R0.out 0 _ rfl
        have KB := Lib.hid (fun w' (h : Below base w w') => keepB h)
        have HPL := Lib.hid hpl
        have HVL := Lib.hid hvl
        have HBD := Lib.hid hbd
        have HEL := Lib.hid hel
        have hklt : k + 1 ≤ m := by omega
        clear hbx hup hdr hcx hpl hvl hbd hel ht hR1 hL
        go_upto_region 5 with (first | (refine wpList_ldv (t := 147) (A := ⟨ba, oa + k * 18, none⟩) rfl rfl rfl (ld_sm HC.out) ?_) | (refine wpList_store_new rfl 147 _ _ rfl 147 _ #[.int .i64 x.kind, .string x.name, .int .i64 x.slot, .int .i64 x.size, .int .i64 x.p.op, .int .i64 x.p.val, .string x.p.name, .int .i64 x.p.slot, .int .i64 x.p.size, .slice x.p.A x.p.n x.p.c, .int .i64 x.v.op, .int .i64 x.v.val, .string x.v.name, .int .i64 x.v.slot, .int .i64 x.v.size, .slice x.v.A x.v.n x.v.c, .slice x.A x.n x.c, .slice x.B x.m x.d] rfl rfl (by kernel_rfl) rfl (by simp [Value.oneCell']) ?_))
        rw [← hW, ← HBX.out]
        clear hW
        try simp only [Act.put]
        by_cases k4 : x.kind = 4
        · have d4 : (x.kind == 4) = true := by simpa using k4
          rw [k4] at HUP
          clear k4
          obtain ⟨g0, hg0⟩ : ∃ g0, g0 = gk := ⟨_, rfl⟩
          rw [← hg0] at hgk
          have HG0 := Lib.hid hg0
          clear hg0
          have hWW := Below.refl base W
          go_wp2_with fail
          go_loopg [] 401 (fun gk wr2 => ∃ (r2 : Rst), RowKit.Hid (∀ r' ok, RunL v (.mk 4 x.name x.slot x.size place value body els :: ts.drop (k + 1)) r2 r' ok → RunL v ts r r' ok) ∧ RunOk wr2 p base v r2 (fun b => b = bx ∨ F b) ∧ Below base W wr2 ∧ Keep (fun b => b = bx ∨ F b) W wr2 ∧ 401 ≤ r2.used + gk)
          case atStart => exact ⟨r1, HUP, hR1W, hWW, fun _ _ _ => rfl, by omega⟩
          case round =>
            obtain ⟨r2, hup2, hR2, hb2, hk2, hgk2⟩ := hrel
            have hsW := hb2.size
            by_cases hu : r2.used < 400
            · go_wp2_with fail
              refine (pay_any wr p base v r2 _ hR2 hu).mono ?_
              rintro e w3 ⟨rfl, hR3, hb3, hk3⟩
              have hk3' := hk2.tr hk3 hsW
              have hb3' := hb2.trans hb3
              have R3 := Lib.hid (RROW.out w3 hk3')
              have hvl3 := ExOk.keep (KB.out w3 (hbW.trans hb3')) _ _ _ HVL.out
              have Hval := Lib.hid (rvalue_any w3 p base v r2.pay _ hR3 x.v value _ hvl3 rvl hv)
              have hs3 := hb3.size
              have hbw3 := hR3.bw
              go_wp2_with (refine wpList_ldv (t := 145) (A := ⟨bx, 10, none⟩) rfl rfl rfl (ld_exAt (y := x.v) R3.out rfl) ?_)
              refine Hval.out.mono ?_
              rintro e w4 ⟨rfl, hb4⟩
              obtain ⟨z, hz⟩ : ∃ z, z = ev3 r2.pay v value := ⟨_, rfl⟩
              rw [← hz]
              have HZ := Lib.hid hz
              clear hz
              have hR4 := hR3.ext hb4
              have hb4' : Below base W w4 := hb3'.trans (hb4.mono hbw3)
              have hk4 : Keep (fun b => b = bx ∨ F b) W w4 := hk3'.tr (Keep.of_below hb4) (Nat.le_trans hsW hs3)
              have hs4 := hb4.size
              by_cases hz0 : z = 0
              · have dz : (z == 0) = true := by simpa using hz0
                have HU5 := Lib.hid (fun r' ok h => hup2.out r' ok (.stop hu (by rw [← HZ.out]; exact hz0) h))
                obtain ⟨f1, f2, f3⟩ := HFIN.out w4 _ hR4 hb4' hk4
                clear hz0
                go_wp2
                go_roundg (g0 - 1)
                case rel => exact ⟨k + 1, _, by go_num, by omega, by omega, HU5, f1, f2, f3⟩
                case measure => have := HG0.out; omega
              · have dz : (z == 0) = false := by simpa using hz0
                have R4 := Lib.hid (RROW.out w4 hk4)
                have q16 : w4.cell? ⟨bx, 16, none⟩ = some (.slice x.A x.n x.c) := row_cell R4.out 16 _ rfl
                have hlb4 := HBD.out.keep (KB.out w4 (hbW.trans hb4')) (fun y u h => SmOk.keep (KB.out w4 (hbW.trans hb4')) n y u h)
                have HL4 := Lib.hid (HIH.out n (by omega) w4 p base v r2.pay _ x.A x.n x.c body hR4 hv hlb4 rbd)
                have HUg := Lib.hid (fun (q : Rst) (hq : RunL v body r2.pay q true) (r' : Rst) (ok : Bool) (h : RunL v (.mk 4 x.name x.slot x.size place value body els :: ts.drop (k + 1)) q r' ok) => hup2.out r' ok (.go hu (by rw [← HZ.out]; exact hz0) hq h))
                have HUf := Lib.hid (fun (q : Rst) (hq : RunL v body r2.pay q false) => hup2.out q false (.goF hu (by rw [← HZ.out]; exact hz0) hq))
                clear hz0 hlb4
                go_wp2_with fail
                refine HL4.out.mono ?_
                rintro e w5 ⟨r5, ok, rfl, hrun, hR5, hb5, hk5⟩
                have hus := hrun.keeps.used
                have hus2 : r2.pay.used = r2.used + 1 := rfl
                have hus3 : r2.used + 1 ≤ r5.used := by omega
                cases ok with
                | true =>
                  have HU5 := Lib.hid (HUg.out r5 hrun)
                  clear hus hus2
                  go_wp2
                  go_roundg (gk - 1)
                  case rel => exact ⟨r5, HU5, hR5, hb4'.trans hb5, hk4.tr hk5 (by omega), by omega⟩
                  case measure => omega
                | false =>
                  have HU5 := Lib.hid (HUf.out r5 hrun)
                  obtain ⟨f1, f2, f3⟩ := HFIN.out w5 _ hR5 (hb4'.trans hb5) (hk4.tr hk5 (by omega))
                  go_wp2
                  go_ret
                  exact ⟨r5, false, rfl, HU5.out, f1, f2, f3⟩
            · have hrun := Lib.hid (hup2.out r2 false (.out (by omega)))
              obtain ⟨f1, f2, f3⟩ := HFIN.out wr _ hR2 hb2 hk2
              go_wp2_with fail
              refine (pay_no wr p base v r2 _ hR2 (by omega)).mono ?_
              rintro e w3 ⟨rfl, rfl⟩
              go_wp2
              go_ret
              exact ⟨r2, false, rfl, hrun.out, f1, f2, f3⟩
        · have d4 : (x.kind == 4) = false := by simpa using k4
          by_cases hu : r1.used < 400
          · go_upto_region 11 with fail
            go_wp2_with fail
            refine (pay_any W p base v r1 _ hR1W hu).mono ?_
            rintro e w2 ⟨rfl, hR2, hb2, hk2⟩
            have R2 := Lib.hid (RROW.out w2 hk2)
            have q2 : w2.cell? ⟨bx, 0, none⟩ = some (.int .i64 x.kind) := row_cell R2.out 0 _ rfl
            have hpl2 := ExOk.keep (KB.out w2 (hbW.trans hb2)) _ _ _ HPL.out
            have hvl2 := ExOk.keep (KB.out w2 (hbW.trans hb2)) _ _ _ HVL.out
            have hs2 := hb2.size
            clear q0
            by_cases k3 : x.kind = 3
            · have d3 : (x.kind != 3) = false := by simpa using k3
              rw [k3] at HUP
              clear k3 k4
              have hlb := HBD.out.keep (KB.out w2 (hbW.trans hb2)) (fun y u h => SmOk.keep (KB.out w2 (hbW.trans hb2)) n y u h)
              have hle := HEL.out.keep (KB.out w2 (hbW.trans hb2)) (fun y u h => SmOk.keep (KB.out w2 (hbW.trans hb2)) n y u h)
              have HLB := Lib.hid hlb
              have HLE := Lib.hid hle
              clear hlb hle
              have q16 : w2.cell? ⟨bx, 16, none⟩ = some (.slice x.A x.n x.c) := row_cell R2.out 16 _ rfl
              have q17 : w2.cell? ⟨bx, 17, none⟩ = some (.slice x.B x.m x.d) := row_cell R2.out 17 _ rfl
              have Hval := Lib.hid (rvalue_any w2 p base v r1.pay _ hR2 x.v value _ hvl2 rvl hv)
              have hbw2 := hR2.bw
              go_upto_region 16 with fail
              go_wp2_with (refine wpList_ldv (t := 145) (A := ⟨bx, 10, none⟩) rfl rfl rfl (ld_exAt (y := x.v) R2.out rfl) ?_)
              refine Hval.out.mono ?_
              rintro e w3 ⟨rfl, hb3⟩
              obtain ⟨z, hz⟩ : ∃ z, z = ev3 r1.pay v value := ⟨_, rfl⟩
              rw [← hz]
              have HZ := Lib.hid hz
              clear hz
              have hR3 := hR2.ext hb3
              have hb3' : Below base w2 w3 := hb3.mono hbw2
              have hk3 : Keep (fun b => b = bx ∨ F b) W w3 := hk2.tr (Keep.of_below hb3) hs2
              have R3 := Lib.hid (RROW.out w3 hk3)
              have q16' : w3.cell? ⟨bx, 16, none⟩ = some (.slice x.A x.n x.c) := row_cell R3.out 16 _ rfl
              have hs3 := hb3.size
              by_cases hz0 : z = 0
              · have dz : (z != 0) = false := by simpa using hz0
                have HL3 := Lib.hid (HIH.out n (by omega) w3 p base v r1.pay _ x.B x.m x.d els hR3 hv (HLE.out.keep (keepB hb3') (fun y u h => SmOk.keep (keepB hb3') n y u h)) rel_)
                have HUPc := Lib.hid (fun (q : Rst) (hq : RunL v els r1.pay q true) (r' : Rst) (ok : Bool) (h : RunL v (ts.drop (k + 1)) q r' ok) => HUP.out r' ok (.cond hu (by rw [← HZ.out, if_neg (by simp [hz0])]; exact hq) h))
                have HUPf := Lib.hid (fun (q : Rst) (hq : RunL v els r1.pay q false) => HUP.out q false (.condF hu (by rw [← HZ.out, if_neg (by simp [hz0])]; exact hq)))
                clear hz0
                go_upto_region 18 with fail
                go_wp2_with fail
                refine HL3.out.mono ?_
                rintro e w4 ⟨r4, ok, rfl, hrun, hR4, hb4, hk4⟩
                obtain ⟨f1, f2, f3⟩ := HFIN.out w4 _ hR4 (hb2.trans (hb3'.trans hb4)) (hk3.tr hk4 (Nat.le_trans hs2 hs3))
                cases ok with
                | true =>
                  have HU4 := Lib.hid (HUPc.out r4 hrun)
                  go_wp2
                  go_roundg (gk - 1)
                  case rel => exact ⟨k + 1, _, by go_num, by omega, by omega, HU4, f1, f2, f3⟩
                  case measure => omega
                | false =>
                  have HU4 := Lib.hid (HUPf.out r4 hrun)
                  go_wp2
                  go_ret
                  exact ⟨r4, false, rfl, HU4.out, f1, f2, f3⟩
              · have dz : (z != 0) = true := by simpa using hz0
                have HL3 := Lib.hid (HIH.out n (by omega) w3 p base v r1.pay _ x.A x.n x.c body hR3 hv (HLB.out.keep (keepB hb3') (fun y u h => SmOk.keep (keepB hb3') n y u h)) rbd)
                have HUPc := Lib.hid (fun (q : Rst) (hq : RunL v body r1.pay q true) (r' : Rst) (ok : Bool) (h : RunL v (ts.drop (k + 1)) q r' ok) => HUP.out r' ok (.cond hu (by rw [← HZ.out, if_pos hz0]; exact hq) h))
                have HUPf := Lib.hid (fun (q : Rst) (hq : RunL v body r1.pay q false) => HUP.out q false (.condF hu (by rw [← HZ.out, if_pos hz0]; exact hq)))
                clear hz0
                go_upto_region 18 with fail
                go_wp2_with fail
                refine HL3.out.mono ?_
                rintro e w4 ⟨r4, ok, rfl, hrun, hR4, hb4, hk4⟩
                obtain ⟨f1, f2, f3⟩ := HFIN.out w4 _ hR4 (hb2.trans (hb3'.trans hb4)) (hk3.tr hk4 (Nat.le_trans hs2 hs3))
                cases ok with
                | true =>
                  have HU4 := Lib.hid (HUPc.out r4 hrun)
                  go_wp2
                  go_roundg (gk - 1)
                  case rel => exact ⟨k + 1, _, by go_num, by omega, by omega, HU4, f1, f2, f3⟩
                  case measure => omega
                | false =>
                  have HU4 := Lib.hid (HUPf.out r4 hrun)
                  go_wp2
                  go_ret
                  exact ⟨r4, false, rfl, HU4.out, f1, f2, f3⟩
            · have d3 : (x.kind != 3) = true := by simpa using k3
              have hsim := simple_any w2 p base v r1.pay _ hR2 hv x place value body els (by omega) hsl hsz _ hpl2 hvl2 rpl rvl
              have Hsim := Lib.hid hsim
              have HUP2 := Lib.hid (fun r' ok h => HUP.out r' ok (.sim k4 k3 hu h))
              clear hsim k3 k4
              go_upto_region 14 with fail
              go_wp2_with (refine wpList_ldv (t := 147) (A := ⟨bx, 0, none⟩) rfl rfl rfl (run_ld_block R2.out Tryd.underlying147 rfl (by kernel_rfl)) ?_)
              refine Hsim.out.mono ?_
              rintro e w3 ⟨rfl, hR3, hb3, hk3⟩
              obtain ⟨f1, f2, f3⟩ := HFIN.out w3 _ hR3 (hb2.trans hb3) (hk2.tr hk3 hs2)
              go_wp2
              go_roundg (gk - 1)
              case rel => exact ⟨k + 1, _, by go_num, by omega, by omega, HUP2, f1, f2, f3⟩
              case measure => omega
          · have hrun := Lib.hid (HUP.out r1 false (.out (by omega)))
            obtain ⟨f1, f2, f3⟩ := HFIN.out W _ hR1W (Below.refl _ _) (fun _ _ _ => rfl)
            go_upto_region 11 with fail
            go_wp2_with fail
            refine (pay_no W p base v r1 _ hR1W (by omega)).mono ?_
            rintro e w2 ⟨rfl, rfl⟩
            go_wp2
            go_ret
            exact ⟨r1, false, rfl, hrun.out, f1, f2, f3⟩
    · obtain rfl : k = m := by omega
      have hdr : ts.drop k = [] := List.drop_eq_nil_of_le (by have := HL.out; omega)
      have hrun := Lib.hid (hup.out r1 true (by rw [hdr]; exact RunL.nil r1))
      clear hdr
      go_wp2
      go_ret
      exact ⟨r1, true, rfl, hrun.out, hR1, hb, hkp⟩
theorem list_any (n : Nat) : ListOk n := by
  induction n using Nat.strongRecOn with
  | _ n ih => exact list_step n ih
end Go.Proofs.YtiblijmngokcgaaDoor
