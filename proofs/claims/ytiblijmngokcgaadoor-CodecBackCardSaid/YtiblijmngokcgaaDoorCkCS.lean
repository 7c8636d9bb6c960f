import Derived.Test.YtiblijmngokcgaaDoorCkBS
namespace Go.Proofs.YtiblijmngokcgaaDoor
open Go.RowKit
set_option maxRecDepth 100000
set_option linter.unusedVariables false
set_option linter.unusedSimpArgs false
def NmE : Nat → Ex → Prop
  | 0, _ => False
  | n + 1, .mk op val name slot size args => (0 ≤ op ∧ op ≤ 22) ∧ InR val ∧ slot = 0 ∧ size = 0 ∧ args.length ≤ 2 ∧ ((op = 2 ∧ isScal name) ∨ (op = 3 ∧ isArr name) ∨ (op ≠ 2 ∧ op ≠ 3 ∧ name = ByteArray.mk #[])) ∧ ∀ e ∈ args, NmE n e
theorem NmE.of : ∀ {n : Nat} {t : Ex}, DrE n t → NmE n t
  | 0, _, h => h.elim
  | n + 1, .mk op val name slot size args, ⟨h1, h2, h3, h4⟩ => by
    have ha : ∀ e ∈ args, NmE n e := fun e he => NmE.of (h3 e he)
    rcases h4 with ⟨a, b, c, d, e⟩ | ⟨a, b, c, d⟩ | ⟨a, b, c, d, e⟩ | ⟨a, b, c, d⟩ | ⟨a, b, c, d, e⟩ | ⟨a, b, c, d, e⟩
    · exact ⟨⟨by omega, by omega⟩, ⟨by omega, by omega⟩, h1, h2, by rw [e]; simp, .inr (.inr ⟨by omega, by omega, d⟩), ha⟩
    · exact ⟨⟨by omega, by omega⟩, ⟨by omega, by omega⟩, h1, h2, by rw [d]; simp, .inl ⟨a, c⟩, ha⟩
    · exact ⟨⟨by omega, by omega⟩, ⟨by omega, by omega⟩, h1, h2, by rw [e]; simp, .inr (.inr ⟨by omega, by omega, d⟩), ha⟩
    · exact ⟨⟨by omega, by omega⟩, ⟨by omega, by omega⟩, h1, h2, by omega, .inr (.inl ⟨a, c⟩), ha⟩
    · exact ⟨⟨by omega, by omega⟩, ⟨by omega, by omega⟩, h1, h2, by omega, .inr (.inr ⟨by omega, by omega, d⟩), ha⟩
    · exact ⟨⟨by omega, by omega⟩, ⟨by omega, by omega⟩, h1, h2, by omega, .inr (.inr ⟨by omega, by omega, d⟩), ha⟩
theorem NmE.zero (n : Nat) : NmE (n + 1) zEx := ⟨⟨by omega, by omega⟩, ⟨by omega, by omega⟩, rfl, rfl, by simp, .inr (.inr ⟨by omega, by omega, rfl⟩), fun e he => by simp at he⟩
theorem ld_exw {w : World} {b o : Nat} {y : ExV} (hc : ∀ i u, (encEx y)[i]? = some u → w.cell? ⟨b, o + i, none⟩ = some u) : (loadVar 145 ⟨b, o, none⟩).run Tryd.prog w = .ok (.agg #[.int .i64 y.op, .int .i64 y.val, .string y.name, .int .i64 y.slot, .int .i64 y.size, .slice y.A y.n y.c]) w := by
  have := run_loadVar_mid (P := Tryd.prog) w b o 145 (encEx y) _ (fun j v hv => hc j v hv) Tryd.underlying145 rfl (by kernel_rfl)
  exact this
def DeepOk (n : Nat) : Prop := ∀ (x : ExV) (t : Ex) (S : Nat → Prop) (w : World), ExOk n S w x t → NmE n t → Calls Tryd.prog 83 #[.agg #[.int .i64 x.op, .int .i64 x.val, .string x.name, .int .i64 x.slot, .int .i64 x.size, .slice x.A x.n x.c]] w fun e w' => ∃ d : Int, e = .returned (.int .i64 d) ∧ 0 ≤ d ∧ d ≤ n ∧ Below w.heap.size w w'
set_option maxHeartbeats 2000000 in
theorem deep_step (n : Nat) (hn : n ≤ 10) (ih : DeepOk n) : DeepOk (n + 1) := by
  intro x t S w hok hnm
  obtain ⟨xo, xv, xm, xs, xz, xA, xn, xc⟩ := x
  obtain ⟨op, val, name, slot, size, args⟩ := t
  obtain ⟨rfl, rfl, rfl, rfl, rfl, hargs⟩ := hok
  obtain ⟨hop, hval, hslot, hsize, hal, hnmx, hall⟩ := hnm
  dsimp only at *
  subst hslot hsize
  obtain ⟨W, hW, hbW, sW, rW⟩ := newD w #[.int .i64 xo, .int .i64 xv, .string xm, .int .i64 0, .int .i64 0, .slice xA xn xc] 145
  have SW := Lib.hid sW
  have R0 := Lib.hid rW
  have hlen := hargs.len
  have HL := Lib.hid hlen.1
  have hxn : xn ≤ 2 := by omega
  have hlc := hlen.2
  have HALL := Lib.hid hall
  clear sW rW hlen hall hnmx
  go_enter Tryd.func83, Tryd.ntmps83
  go_upto_region 1 with fail
  try rw [← hW]
  clear hW
  go_wp2_with fail
  go_loopw [3, 4] (fun a b wr => ∃ (k : Nat) (d : Int), b = .int .i64 k ∧ k ≤ xn ∧ a = .int .i64 d ∧ 0 ≤ d ∧ d ≤ n ∧ Below W.heap.size W wr) (fun _ b _ => xn - (intOf b).toNat)
  case atStart => exact ⟨0, 0, rfl, by omega, rfl, by omega, by omega, Below.refl _ _⟩
  case round =>
    obtain ⟨k, d, rfl, hk, rfl, hd0, hdn, hb⟩ := hrel
    have R1 := Lib.hid ((hb.block w.heap.size (by have := SW.out; omega)).trans R0.out)
    have q5 : wr.cell? ⟨w.heap.size, 5, none⟩ = some (.slice xA xn xc) := row_cell R1.out 5 _ rfl
    by_cases hlt : k < xn
    · obtain ⟨b, off, y, u, rfl, hS, hbb, hu, hoky, hcy⟩ := hargs.at_ encEx_len (j := k) hlt (by omega)
      have HC := Lib.hid (fun i u h => ((Below.ext hbW hb).cell (p := ⟨b, off + k * 6 + i, none⟩) hbb).trans (hcy i u h))
      have hU := HALL.out u (List.mem_of_getElem? hu)
      have Hc := Lib.hid (ih y u _ wr (ExOk.keep (Keep.of_below (Below.ext hbW hb)) _ _ _ hoky) hU)
      clear hu hcy hU hoky
      go_wp2_with (refine wpList_ldv (t := 145) (A := ⟨b, off + k * 6, none⟩) rfl rfl rfl (ld_exw HC.out) ?_)
      refine Hc.out.mono ?_
      rintro e w2 ⟨d2, rfl, h20, h2n, hb2⟩
      go_wp2
      go_roundw
      case rel => exact ⟨k + 1, if d < d2 then d2 else d, by go_num, by omega, rfl, by split <;> omega, by split <;> omega, Below.ext hb hb2⟩
      case measure => simp [intOf]; omega
    · obtain rfl : k = xn := by omega
      go_wp2
      go_ret
      exact ⟨d + 1, rfl, by omega, by omega, Below.ext hbW hb⟩
theorem deep_any : ∀ (n : Nat), n ≤ 10 → DeepOk n
  | 0, _ => fun x t S w h => h.elim
  | n + 1, hn => deep_step n (by omega) (deep_any n (by omega))
def NamesOk (n : Nat) : Prop := ∀ (x : ExV) (t : Ex) (S : Nat → Prop) (w : World) (V : Nat) (i s k : Int), 1 ≤ s → s ≤ 5 → w.heap[V]? = some (.cells (varCells i s k) 126 (0, 0)) → ExOk n S w x t → NmE n t →
  Calls Tryd.prog 70 #[.slice (some ⟨V, 0, none⟩) 5 5, .agg #[.int .i64 x.op, .int .i64 x.val, .string x.name, .int .i64 x.slot, .int .i64 x.size, .slice x.A x.n x.c]] w fun e w' => e = .returned (.bool true) ∧ Below w.heap.size w w'
set_option maxHeartbeats 2000000 in
theorem names_step (n : Nat) (ih : NamesOk n) : NamesOk (n + 1) := by
  intro x t S w V i s k0 hs1 hs5 hV hok hnm
  obtain ⟨xo, xv, xm, xs, xz, xA, xn, xc⟩ := x
  obtain ⟨op, val, name, slot, size, args⟩ := t
  obtain ⟨rfl, rfl, rfl, rfl, rfl, hargs⟩ := hok
  obtain ⟨hop, hval, hslot, hsize, hal, hnmx, hall⟩ := hnm
  dsimp only at *
  subst hslot hsize
  obtain ⟨W, hW, hbW, sW, rW⟩ := newD w #[.int .i64 xo, .int .i64 xv, .string xm, .int .i64 0, .int .i64 0, .slice xA xn xc] 145
  have SW := Lib.hid sW
  have R0 := Lib.hid rW
  have hlen := hargs.len
  have HL := Lib.hid hlen.1
  have hxn : xn ≤ 2 := by omega
  have hlc := hlen.2
  have HALL := Lib.hid hall
  have hVl : V < w.heap.size := (Array.getElem?_eq_some_iff.1 hV).1
  have HV := Lib.hid (fun (w' : World) (hb : Below w.heap.size w w') => (hb.block V hVl).trans hV)
  have hnm6 : isScal xm ∨ isArr xm ∨ xm = ByteArray.mk #[] := by
    rcases hnmx with h | h | h
    · exact .inl h.2
    · exact .inr (.inl h.2)
    · exact .inr (.inr h.2.2)
  have q2 : W.cell? ⟨w.heap.size, 2, none⟩ = some (.string xm) := row_cell rW 2 _ rfl
  have hlk := lookup_any W V i s k0 hs1 hs5 (HV.out W hbW) xm hnm6
  have HLK := Lib.hid hlk
  have HNM := Lib.hid hnmx
  clear sW rW hlen hall hnmx hlk hV
  go_enter Tryd.func70, Tryd.ntmps70
  go_upto_region 1 with fail
  try rw [← hW]
  clear hW
  go_wp2_with fail
  refine HLK.out.mono ?_
  rintro e w1 ⟨a, b, ok, rfl, hout, hb1⟩
  have hb1' := Below.ext hbW hb1
  have R1 := Lib.hid ((hb1.block w.heap.size (by have := SW.out; omega)).trans R0.out)
  have p0 : w1.cell? ⟨w.heap.size, 0, none⟩ = some (.int .i64 xo) := row_cell R1.out 0 _ rfl
  have s1 := hb1.size
  rcases HNM.out with ⟨rfl, g⟩ | ⟨rfl, g⟩ | ⟨g2, g3, g⟩
  · obtain rfl : ok = true := (hout.2.2.1 g).2
    clear g
    go_wp2
    go_loopw [8] (fun a wr => ∃ k : Nat, a = .int .i64 k ∧ k ≤ xn ∧ Below w1.heap.size w1 wr) (fun a _ => xn - (intOf a).toNat)
    case atStart => exact ⟨0, rfl, by omega, Below.refl _ _⟩
    case round =>
      obtain ⟨k, rfl, hk, hb⟩ := hrel
      have hbW2 := Below.ext hb1' hb
      have R2 := Lib.hid ((hb.block w.heap.size (by have := SW.out; omega)).trans R1.out)
      have q5 : wr.cell? ⟨w.heap.size, 5, none⟩ = some (.slice xA xn xc) := row_cell R2.out 5 _ rfl
      by_cases hlt : k < xn
      · obtain ⟨b, off, y, u, rfl, hS, hbb, hu, hoky, hcy⟩ := hargs.at_ encEx_len (j := k) hlt (by omega)
        have HC := Lib.hid (fun i u h => (hbW2.cell (p := ⟨b, off + k * 6 + i, none⟩) hbb).trans (hcy i u h))
        have hU := HALL.out u (List.mem_of_getElem? hu)
        have Hc := Lib.hid (ih y u _ wr V i s k0 hs1 hs5 (HV.out wr hbW2) (ExOk.keep (Keep.of_below hbW2) _ _ _ hoky) hU)
        clear hu hcy hU hoky
        go_wp2_with (refine wpList_ldv (t := 145) (A := ⟨b, off + k * 6, none⟩) rfl rfl rfl (ld_exw HC.out) ?_)
        refine Hc.out.mono ?_
        rintro e w2 ⟨rfl, hb2⟩
        go_wp2
        go_roundw
        case rel => exact ⟨k + 1, by go_num, by omega, Below.ext hb hb2⟩
        case measure => simp [intOf]; omega
      · obtain rfl : k = xn := by omega
        go_wp2
        go_ret
        exact ⟨rfl, hbW2⟩
  · obtain rfl : ok = true := (hout.2.2.2 g).2
    clear g
    go_wp2
    go_loopw [8] (fun a wr => ∃ k : Nat, a = .int .i64 k ∧ k ≤ xn ∧ Below w1.heap.size w1 wr) (fun a _ => xn - (intOf a).toNat)
    case atStart => exact ⟨0, rfl, by omega, Below.refl _ _⟩
    case round =>
      obtain ⟨k, rfl, hk, hb⟩ := hrel
      have hbW2 := Below.ext hb1' hb
      have R2 := Lib.hid ((hb.block w.heap.size (by have := SW.out; omega)).trans R1.out)
      have q5 : wr.cell? ⟨w.heap.size, 5, none⟩ = some (.slice xA xn xc) := row_cell R2.out 5 _ rfl
      by_cases hlt : k < xn
      · obtain ⟨b, off, y, u, rfl, hS, hbb, hu, hoky, hcy⟩ := hargs.at_ encEx_len (j := k) hlt (by omega)
        have HC := Lib.hid (fun i u h => (hbW2.cell (p := ⟨b, off + k * 6 + i, none⟩) hbb).trans (hcy i u h))
        have hU := HALL.out u (List.mem_of_getElem? hu)
        have Hc := Lib.hid (ih y u _ wr V i s k0 hs1 hs5 (HV.out wr hbW2) (ExOk.keep (Keep.of_below hbW2) _ _ _ hoky) hU)
        clear hu hcy hU hoky
        go_wp2_with (refine wpList_ldv (t := 145) (A := ⟨b, off + k * 6, none⟩) rfl rfl rfl (ld_exw HC.out) ?_)
        refine Hc.out.mono ?_
        rintro e w2 ⟨rfl, hb2⟩
        go_wp2
        go_roundw
        case rel => exact ⟨k + 1, by go_num, by omega, Below.ext hb hb2⟩
        case measure => simp [intOf]; omega
      · obtain rfl : k = xn := by omega
        go_wp2
        go_ret
        exact ⟨rfl, hbW2⟩
  · have e2 : (xo == 2) = false := by simpa using g2
    have e3 : (xo == 3) = false := by simpa using g3
    clear g
    go_wp2
    go_loopw [8] (fun a wr => ∃ k : Nat, a = .int .i64 k ∧ k ≤ xn ∧ Below w1.heap.size w1 wr) (fun a _ => xn - (intOf a).toNat)
    case atStart => exact ⟨0, rfl, by omega, Below.refl _ _⟩
    case round =>
      obtain ⟨k, rfl, hk, hb⟩ := hrel
      have hbW2 := Below.ext hb1' hb
      have R2 := Lib.hid ((hb.block w.heap.size (by have := SW.out; omega)).trans R1.out)
      have q5 : wr.cell? ⟨w.heap.size, 5, none⟩ = some (.slice xA xn xc) := row_cell R2.out 5 _ rfl
      by_cases hlt : k < xn
      · obtain ⟨b, off, y, u, rfl, hS, hbb, hu, hoky, hcy⟩ := hargs.at_ encEx_len (j := k) hlt (by omega)
        have HC := Lib.hid (fun i u h => (hbW2.cell (p := ⟨b, off + k * 6 + i, none⟩) hbb).trans (hcy i u h))
        have hU := HALL.out u (List.mem_of_getElem? hu)
        have Hc := Lib.hid (ih y u _ wr V i s k0 hs1 hs5 (HV.out wr hbW2) (ExOk.keep (Keep.of_below hbW2) _ _ _ hoky) hU)
        clear hu hcy hU hoky
        go_wp2_with (refine wpList_ldv (t := 145) (A := ⟨b, off + k * 6, none⟩) rfl rfl rfl (ld_exw HC.out) ?_)
        refine Hc.out.mono ?_
        rintro e w2 ⟨rfl, hb2⟩
        go_wp2
        go_roundw
        case rel => exact ⟨k + 1, by go_num, by omega, Below.ext hb hb2⟩
        case measure => simp [intOf]; omega
      · obtain rfl : k = xn := by omega
        go_wp2
        go_ret
        exact ⟨rfl, hbW2⟩
theorem names_any : ∀ (n : Nat), NamesOk n
  | 0 => fun x t S w V i s k h1 h2 h3 h => h.elim
  | n + 1 => names_step n (names_any n)
end Go.Proofs.YtiblijmngokcgaaDoor
