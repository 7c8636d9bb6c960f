import Derived.Deep.MidRow
import Derived.Deep.Cut
import Derived.WalkSpells
import Derived.WalkLawsBesides
import Derived.Lib.Hide
import Derived.Lib.SlBytesConst
import Derived.Deep.WholeRow
import Derived.BigQuiet
set_option maxRecDepth 100000
namespace Go.Proofs.YtiblijmngokcgaaGreatDoor
theorem TkA {p q:Prop} (k:q) (h:q->p:=by
 intro k;repeat (first|(refine DJ rfl ?_;go_big_quiet_step (fail);refine wpQuiet_nil ?_)|(refine vF rfl rfl ?_;simp only [Act.put,List.setIfInBounds_toArray,List.set_cons_succ,List.set_cons_zero]))
 exact k):p:=h k
theorem TkB {p q:Prop} (k:q) (h:q->p:=by
 intro k;repeat (first|(refine OX rfl ?_;go_big_quiet_step (fail);refine wpQuiet_nil ?_)|(refine vF rfl rfl ?_;simp only [Act.put,List.setIfInBounds_toArray,List.set_cons_succ,List.set_cons_zero]))
 exact k):p:=h k
theorem TkC {p q:Prop} (k:q) (h:q->p:=by
 intro k;repeat (first|(refine RH rfl rfl ?_;go_big_quiet_step (fail);refine wpQuiet_nil ?_)|(refine Zi rfl rfl rfl ?_;simp only [Act.put,List.setIfInBounds_toArray,List.set_cons_succ,List.set_cons_zero]))
 exact k):p:=h k
theorem TkD {p q:Prop} (k:q) (h:q->p:=by
 intro k;repeat (first|(refine RE rfl rfl ?_;go_big_quiet_step (fail);refine wpQuiet_nil ?_)|(refine Zh rfl rfl rfl ?_;simp only [Act.put,List.setIfInBounds_toArray,List.set_cons_succ,List.set_cons_zero]))
 exact k):p:=h k
theorem TkE {p q:Prop} (k:q) (h:q->p:=by
 intro k;repeat (first|(refine lex_q rfl ⟨default,trivial⟩ ?_;go_big_quiet_step (fail);refine wpQuiet_nil ?_)|(refine lex_skip rfl rfl trivial ?_;simp only [Act.put,List.setIfInBounds_toArray,List.set_cons_succ,List.set_cons_zero])|(refine lex_e rfl ?_;go_wp2_with fail;refine lex_go trivial ?_))
 exact k):p:=h k
theorem TkF {p q:Prop} (k:q) (h:q->p:=by
 intro k;repeat (first|(refine L1.lex_q rfl ⟨default,trivial⟩ ?_;go_big_quiet_step (fail);refine wpQuiet_nil ?_)|(refine L1.lex_skip rfl rfl trivial ?_;simp only [Act.put,List.setIfInBounds_toArray,List.set_cons_succ,List.set_cons_zero])|(refine L1.lex_e rfl ?_;gi_wp2_with fail;refine L1.lex_go trivial ?_))
 exact k):p:=h k
theorem TkG {p q:Prop} (k:q) (h:q->p:=by
 intro k;repeat (refine lex_q rfl ⟨default,trivial⟩ ?_;go_big_quiet_step (fail);refine wpQuiet_nil ?_)
 exact k):p:=h k
theorem TkH {p q:Prop} (k:q) (h:q->p:=by
 intro k;repeat (refine L1.lex_q rfl ⟨default,trivial⟩ ?_;go_big_quiet_step (fail);refine wpQuiet_nil ?_)
 exact k):p:=h k
theorem TkI {p q:Prop} (k:q) (h:q->p:=by
 intro k;simp only [Act.put,List.setIfInBounds_toArray,List.set_cons_succ,List.set_cons_zero];exact k):p:=h k
structure Tkk (q:Prop):Prop where
 o:q
theorem Tyaa {p q:Prop} (k:q) (h:Tkk q->p:=by
  intro Tk0;refine TkA ?_;refine lL (λw' ah =>aB (aW _) (bn ((ah.block bx kf).trans R0.out))) ?_;refine TkI ?_;refine TkA ?_;refine lL (λw' ah =>aB (aW _) (bn ((ah.block bx kf).trans R0.out))) ?_;refine TkI ?_;exact Tk0.o):p:=h ⟨k⟩
theorem Tyab {p q:Prop} (k:q) (h:Tkk q->p:=by
  intro Tk0;refine aG (λ_=>True) (by kernel_rfl) (by kernel_rfl) trivial ?_;refine TkE ?_;refine aR ?_;exact Tk0.o):p:=h ⟨k⟩
theorem Tyac {p q:Prop} (k:q) (h:Tkk q->p:=by
  intro Tk0;refine TkI ?_;refine TkA ?_;exact Tk0.o):p:=h ⟨k⟩
theorem Tyad {p q:Prop} (k:q) (h:Tkk q->p:=by
  intro Tk0;refine aG (λ_=>True) (by kernel_rfl) (by kernel_rfl) trivial ?_;refine TkG ?_;refine lex_e rfl ?_;exact Tk0.o):p:=h ⟨k⟩
theorem Tyae {p q:Prop} (k:q) (h:Tkk q->p:=by
  intro Tk0;refine lL (λw' ah =>aB (aW _) (bn ((ah.block w.heap.size (by have:=SW.out;omega)).trans R0.out))) ?_;refine Tyac ?_;exact Tk0.o):p:=h ⟨k⟩
theorem Tyaf {p q:Prop} (k:q) (h:Tkk q->p:=by
  intro Tk0;refine lL (λw' ah =>aB (oP _) (Ba ((ah.block w.heap.size (by have:=SW.out;omega)).trans R0.out))) ?_;refine Tyac ?_;refine lL (λw' ah =>aB (aW _) (lj ((ah.block w.heap.size (by have:=SW.out;omega)).trans R0.out))) ?_;refine Tyac ?_;refine lL (λw' ah =>aB (aW _) (Tw ((ah.block w.heap.size (by have:=SW.out;omega)).trans R0.out))) ?_;refine Tyac ?_;exact Tk0.o):p:=h ⟨k⟩
theorem Tyag {p q:Prop} (k:q) (h:Tkk q->p:=by
  intro Tk0;refine aH ((λw' =>Below W.heap.size W w')) (by kernel_rfl) (by kernel_rfl) ((Below.refl _ W).drew) ?_;exact Tk0.o):p:=h ⟨k⟩
theorem Tyah {p q:Prop} (k:q) (h:Tkk q->p:=by
  intro Tk0;refine TkA ?_;refine aF rfl ?_;exact Tk0.o):p:=h ⟨k⟩
theorem Tyai {p q:Prop} (k:q) (h:Tkk q->p:=by
  intro Tk0;refine Tyac ?_;refine aF rfl ?_;exact Tk0.o):p:=h ⟨k⟩
theorem Tyaj {p q:Prop} (k:q) (h:Tkk q->p:=by
  intro Tk0;refine lex_go trivial ?_;refine TkG ?_;refine lex_e rfl ?_;exact Tk0.o):p:=h ⟨k⟩
theorem Tyak {p q:Prop} (k:q) (h:Tkk q->p:=by
  intro Tk0;refine bZ (⟨w.heap.size,0,none⟩) (.agg #[.int .i64 x.op,.int .i64 x.val,.string x.name,.int .i64 x.slot,.int .i64 x.size,.slice x.A x.n x.c]) rfl rfl rfl (λw' ah =>cT ((ah.block w.heap.size (by have:=SW.out;omega)).trans R0.out) underlying244 rfl (by kernel_rfl)) ?_;refine Tyac ?_;refine bZ (⟨w.heap.size+1,0,none⟩) (.agg #[.int .i64 v.self,.int .i64 v.procs,.int .i64 v.frm,.int .i64 v.value]) rfl rfl rfl (λw' ah =>cT ((ah.block (w.heap.size+1) (by have:=SW.out;omega)).trans R1.out) underlying208 rfl (by kernel_rfl)) ?_;refine Tyai ?_;exact Tk0.o):p:=h ⟨k⟩
theorem Tyal {p q:Prop} (k:q) (h:Tkk q->p:=by
  intro Tk0;try simp only [Act.put]
  exact Tk0.o):p:=h ⟨k⟩
theorem Tyam {p q:Prop} (k:q) (h:Tkk q->p:=by
  intro Tk0;refine lex_go trivial ?_;refine TkG ?_;refine aR ?_;exact Tk0.o):p:=h ⟨k⟩
theorem Tyan {p q:Prop} (k:q) (h:Tkk q->p:=by
  intro Tk0;refine TkA ?_;refine aP ?_;exact Tk0.o):p:=h ⟨k⟩
theorem Tyao {p q:Prop} (k:q) (h:Tkk q->p:=by
  intro Tk0;refine Tyae ?_;refine lL (λw' ah =>aB (aW _) (fi ((ah.block w.heap.size (by have:=SW.out;omega)).trans R0.out))) ?_;refine Tyac ?_;exact Tk0.o):p:=h ⟨k⟩
theorem Tyap {p q:Prop} (k:q) (h:Tkk q->p:=by
  intro Tk0;refine TkA ?_;refine lL (λw' h=>lB (t:=36) h) ?_;refine Tyai ?_;exact Tk0.o):p:=h ⟨k⟩
theorem Tyaq {p q:Prop} (k:q) (h:Tkk q->p:=by
  intro Tk0;refine aD ⟨F9.out,F8.out⟩ ?_;refine Tyai ?_;refine wpList_store_mid rfl 244 _ _ rfl b9 10 #[.int .i64 z2.op,.int .i64 z2.val,.string z2.name,.int .i64 z2.slot,.int .i64 z2.size,.slice z2.A z2.n z2.c] rfl rfl (pL UU.out (by simp)) (by kernel_rfl) (by simp [Value.oneCell']) ?_;exact Tk0.o):p:=h ⟨k⟩
theorem Tyar {p q:Prop} (k:q) (h:Tkk q->p:=by
  intro Tk0;refine aD (y1) ?_;refine TkA ?_;refine Tyaf ?_;refine gU rfl rfl (y1) ?_;refine Tyac ?_;refine lL (λw' ah =>aB (iC _) (gn ((ah.block w.heap.size (by have:=SW.out;omega)).trans R0.out))) ?_;exact Tk0.o):p:=h ⟨k⟩
theorem Tyas {p q:Prop} (k:q) (h:Tkk q->p:=by
  intro Tk0;refine (eB _ _ _ (by omega) (by omega) wr).mono ?_;exact Tk0.o):p:=h ⟨k⟩
theorem Tyat {p q:Prop} (k:q) (h:Tkk q->p:=by
  intro Tk0;refine aH ((λw' =>Below W.heap.size W w')) (by kernel_rfl) (by kernel_rfl) (Jm.drew) ?_;refine TkA ?_;refine lL (λw' ah =>aB (aW _) (gn (Tb.out w' ah))) ?_;refine Tyac ?_;exact Tk0.o):p:=h ⟨k⟩
theorem Tyau {p q:Prop} (k:q) (h:Tkk q->p:=by
  intro Tk0;simp only [List.take_succ_cons,List.take_zero,List.drop_succ_cons,List.drop_zero];exact Tk0.o):p:=h ⟨k⟩
theorem Tyav {p q:Prop} (k:q) (h:Tkk q->p:=by
  intro Tk0;refine aF rfl ?_;refine wpList_store_mid rfl 244 _ _ rfl b9 4 #[.int .i64 z1.op,.int .i64 z1.val,.string z1.name,.int .i64 z1.slot,.int .i64 z1.size,.slice z1.A z1.n z1.c] rfl rfl (pL UW.out (by simp)) (by kernel_rfl) (by simp [Value.oneCell']) ?_;exact Tk0.o):p:=h ⟨k⟩
theorem Tyaw {p q:Prop} (k:q) (h:Tkk q->p:=by
  intro Tk0;refine leaves_cons (f:=170) (args:= #[.pointer (some ⟨w.heap.size,0,none⟩),.pointer (some ⟨w.heap.size+1,0,none⟩),.pointer (some ⟨w.heap.size+1+1,0,none⟩)]) (by simp) (by simp [go_sem]) ?_;exact Tk0.o):p:=h ⟨k⟩
theorem Tyax {p q:Prop} (k:q) (h:Tkk q->p:=by
  intro Tk0;refine leaves_cons (f:=177) (args:= #[.pointer (some ⟨w.heap.size,0,none⟩),.pointer (some ⟨w.heap.size+1,0,none⟩),.pointer (some ⟨w.heap.size+1+1,0,none⟩)]) (by simp) (by simp [go_sem]) ?_;exact Tk0.o):p:=h ⟨k⟩
theorem Tyay {p q:Prop} (k:q) (h:Tkk q->p:=by
  intro Tk0;refine leaves_cons (f:=174) (args:= #[.pointer (some ⟨w.heap.size,0,none⟩),.pointer (some ⟨w.heap.size+1,0,none⟩),.pointer (some ⟨w.heap.size+1+1,0,none⟩)]) (by simp) (by simp [go_sem]) ?_;exact Tk0.o):p:=h ⟨k⟩
theorem Tyaz {p q:Prop} (k:q) (h:Tkk q->p:=by
  intro Tk0;refine aH (λw' =>Below w.heap.size w w'/\ae (·≠w.heap.size+1) w1 w') (by kernel_rfl) (by kernel_rfl) (⟨fe.drew,λ_ _ _=>rfl⟩) ?_;refine TkA ?_;refine bZ (⟨w.heap.size,0,none⟩) (.agg #[.slice A n c]) rfl rfl rfl (λw' hS=>cT ((hS.2 _ (by have:=jz.out;omega) (by omega)).trans H0.out) underlying36 rfl (by kernel_rfl)) ?_;refine Tyai ?_;exact Tk0.o):p:=h ⟨k⟩
theorem Tya0 {p q:Prop} (k:q) (h:Tkk q->p:=by
  intro Tk0;refine TkI ?_;refine TkB ?_;exact Tk0.o):p:=h ⟨k⟩
theorem Tya1 {p q:Prop} (k:q) (h:Tkk q->p:=by
  intro Tk0;refine TkB ?_;refine lL (λw' ah =>lB (t:=36) ah) ?_;refine Tya0 ?_;refine aF rfl ?_;refine dP _ _ 22 5 u6.heap.size _ (dK Br) F2 m2 p2c (.slice F1 m1 p1c) (m1+m2) rfl rfl underlying22 (by kernel_rfl) rfl rfl h1c.drew h2d.drew (by rw [Ff.out]) (by rw [<-Ff.out];omega) (by have:vb.drew.heap.size=vb.heap.size:=rfl;omega) ?_;exact Tk0.o):p:=h ⟨k⟩
theorem Tya2 {p q:Prop} (k:q) (h:Tkk q->p:=by
  intro Tk0;refine Tyat ?_;refine lL (λw' ah =>aB (aW _) (lj (Tb.out w' ah))) ?_;refine Tyac ?_;refine bZ (⟨w.heap.size,4,none⟩) (.agg #[.int .i64 x.p.op,.int .i64 x.p.val,.string x.p.name,.int .i64 x.p.slot,.int .i64 x.p.size,.slice x.p.A x.p.n x.p.c]) rfl rfl rfl (λw' ah =>cS (y:=x.p) (Tb.out w' ah) rfl) ?_;refine Tyai ?_;exact Tk0.o):p:=h ⟨k⟩
theorem Tya3 {p q:Prop} (k:q) (h:Tkk q->p:=by
  intro Tk0;refine Tyau ?_;refine TkA ?_;refine bZ (⟨w.heap.size+2,0,none⟩) (.slice A' j c') rfl rfl rfl (λw' hS=>aB (Zc.out _) (HC.out w' _ 0 _ _ _ hS.1 rfl)) ?_;refine Tyac ?_;refine bZ (⟨wr.heap.size+1,0,none⟩) (.slice x.A1 x.n1 x.c1) rfl rfl rfl (λw' hS=>aB (Mq.out _) (HC.out w' _ 0 _ _ _ hS.2.2 rfl)) ?_;refine Tyac ?_;exact Tk0.o):p:=h ⟨k⟩
theorem Tya4 {p q:Prop} (k:q) (h:Tkk q->p:=by
  intro Tk0;refine aH ((λw' =>rm B w')) (by kernel_rfl) (by kernel_rfl) (G2.drew) ?_;refine Tyah ?_;exact Tk0.o):p:=h ⟨k⟩
theorem Tya5 {p q:Prop} (k:q) (h:Tkk q->p:=by
  intro Tk0;refine aJ jT lE (.agg #[.int .i64 0,.slice none 0 0]) 32 _ _ 101 163 w.heap.size xs [⟨(k:Int),Q,my,qc⟩] (some ⟨w5.heap.size,0,none⟩) 1 1 (.slice P m pc) (m+1) rfl rfl underlying101 pQ rfl (by omega) rfl rfl ru ax (by rw [Ei]) (by omega) (by omega) (by have:=il.size;omega) ?_;exact Tk0.o):p:=h ⟨k⟩
theorem Tya6 {p q:Prop} (k:q) (h:Tkk q->p:=by
  intro Tk0;refine Tyag ?_;refine TkA ?_;refine lL (λw' ah =>aB (aW _) (bn ((ah.block bx kf).trans R0.out))) ?_;refine TkI ?_;refine Tyaa ?_;refine Tyaa ?_;exact Tk0.o):p:=h ⟨k⟩
theorem Tya7 {p q:Prop} (k:q) (h:Tkk q->p:=by
  intro Tk0;refine TkA ?_;refine lL (λw' hS=>aB (eQ _) (bn ((hS.block _ fo).trans RW.out))) ?_;refine Tyai ?_;exact Tk0.o):p:=h ⟨k⟩
theorem Tya8 {p q:Prop} (k:q) (h:Tkk q->p:=by
  intro Tk0;refine bodyPost_ret (results_tmp3 rfl _ _ _) rfl ?_;exact Tk0.o):p:=h ⟨k⟩
theorem Tya9 {p q:Prop} (k:q) (h:Tkk q->p:=by
  intro Tk0;refine TkA ?_;refine lL (λw' ah =>lB (t:=244) ah.1) ?_;refine Tyac ?_;refine lL (λw' ah =>lB (t:=244) ah.2) ?_;refine Tyac ?_;exact Tk0.o):p:=h ⟨k⟩
theorem Tyba {p q:Prop} (k:q) (h:Tkk q->p:=by
  intro Tk0;refine aD (xx.out w5 b5) ?_;refine Tyac ?_;refine bZ (⟨wr.heap.size+1,1,none⟩) (.slice x.A2 x.n2 x.c2) rfl rfl rfl (λw' hS=>aB (Mq.out _) (HC.out w' _ 1 _ _ _ hS.2.2 rfl)) ?_;refine Tyac ?_;refine lL (λw' hS=>lB (t:=45) hS.2.1) ?_;refine Tyai ?_;exact Tk0.o):p:=h ⟨k⟩
theorem Tybb {p q:Prop} (k:q) (h:Tkk q->p:=by
  intro Tk0;refine aF rfl ?_;refine aJ fC fI (.int .u8 0) 1 _ _ 22 5 W3.heap.size [] f.s x.A1 x.n1 x.c1 (.slice none 0 0) x.n1 rfl rfl underlying22 jG rfl (by omega) rfl rfl (a8.nil_ _ _ _) rh (by simp) (by simp;omega) (by simp;omega) (Nat.le_refl _) ?_;exact Tk0.o):p:=h ⟨k⟩
theorem Tybc {p q:Prop} (k:q) (h:Tkk q->p:=by
  intro Tk0;refine Tyac ?_;refine bZ (⟨w.heap.size,10,none⟩) (.agg #[.int .i64 x.v.op,.int .i64 x.v.val,.string x.v.name,.int .i64 x.v.slot,.int .i64 x.v.size,.slice x.v.A x.v.n x.v.c]) rfl rfl rfl (λw' ah =>cS (y:=x.v) ah.2 rfl) ?_;refine Tyai ?_;exact Tk0.o):p:=h ⟨k⟩
theorem Tybd {p q:Prop} (k:q) (h:Tkk q->p:=by
  intro Tk0;refine Tyag ?_;refine TkA ?_;refine Tyae ?_;refine aF rfl ?_;exact Tk0.o):p:=h ⟨k⟩
theorem Tybe {p q:Prop} (k:q) (h:Tkk q->p:=by
  intro Tk0;refine lL (λw' hS=>aB (qU _) (gn ((hS.block _ TX).trans RR.out))) ?_;refine Tyac ?_;exact Tk0.o):p:=h ⟨k⟩
theorem Tybf {p q:Prop} (k:q) (h:Tkk q->p:=by
  intro Tk0;simp only [show (2:Nat)=0↔False by decide,show (2:Nat)=1↔False by decide,if_false];exact Tk0.o):p:=h ⟨k⟩
theorem Tybg {p q:Prop} (k:q) (h:Tkk q->p:=by
  intro Tk0;refine fN rfl (gF rfl rfl rfl rfl (lB (t:=51) g6) (aB (VZ _) g7) (aB (hae _) g8)) ?_;exact Tk0.o):p:=h ⟨k⟩
theorem Tybh {p q:Prop} (k:q) (h:Tkk q->p:=by
  intro Tk0;refine fN rfl (gF rfl rfl rfl rfl (aB (fm _) g6) (aB (VZ _) g7) (aB (hae _) g8)) ?_;exact Tk0.o):p:=h ⟨k⟩
theorem Tybi {p q:Prop} (k:q) (h:Tkk q->p:=by
  intro Tk0;refine aD (⟨B5,λj hj _=>vu.block j hj⟩) ?_;refine Tyah ?_;refine sR Z5 ?_;refine aD ⟨Below.setRow B5 (by omega) _,λj hj fb=>(setRow_other _ _ _ _ fb).trans (vu.block j hj)⟩ ?_;simp only [Act.put];refine Tyan ?_;exact Tk0.o):p:=h ⟨k⟩
theorem Tybj {p q:Prop} (k:q) (h:Tkk q->p:=by
  intro Tk0;refine bZ (⟨p,0,none⟩) (.slice Ac nc cc) rfl rfl rfl (λw' ah =>aB (eQ _) (aM (HM.out w' ah).row 0 _ rfl)) ?_;exact Tk0.o):p:=h ⟨k⟩
theorem Tybk {p q:Prop} (k:q) (h:Tkk q->p:=by
  intro Tk0;refine lL (λw' ah =>aB (aW _) (bn ah)) ?_;refine Tyac ?_;exact Tk0.o):p:=h ⟨k⟩
theorem Tybl {p q:Prop} (k:q) (h:Tkk q->p:=by
  intro Tk0;refine aH (Below wr.heap.size wr) (by kernel_rfl) (by kernel_rfl) ((Below.refl _ _).drew) ?_;refine TkA ?_;exact Tk0.o):p:=h ⟨k⟩
theorem Tybm {p q:Prop} (k:q) (h:Tkk q->p:=by
  intro Tk0;refine aD (G3) ?_;refine TkA ?_;refine lL (λw' ah =>aB (iC _) (ah.scal hz3)) ?_;refine Tyai ?_;exact Tk0.o):p:=h ⟨k⟩
theorem Tybn {p q:Prop} (k:q) (h:Tkk q->p:=by
  intro Tk0;refine Tyac ?_;refine lL (λw' hS=>aB (Zc.out _) ((HC.out w' ⟨w.heap.size+1,0,none⟩ hS (by have:=jz.out;show w.heap.size+1<_;omega)).trans R2.out)) ?_;refine Tyac ?_;exact Tk0.o):p:=h ⟨k⟩
theorem Tybo {p q:Prop} (k:q) (h:Tkk q->p:=by
  intro Tk0;refine aD (PA.row) ?_;refine Tyah ?_;exact Tk0.o):p:=h ⟨k⟩
theorem Tybp {p q:Prop} (k:q) (h:Tkk q->p:=by
  intro Tk0;refine aD (PB.row) ?_;refine Tyan ?_;exact Tk0.o):p:=h ⟨k⟩
theorem Tybq {p q:Prop} (k:q) (h:Tkk q->p:=by
  intro Tk0;refine TkA ?_;refine lL (λw' hS=>aB (Zc.out _) ((HC.out w' ⟨w.heap.size,0,none⟩ hS (by have:=jz.out;show w.heap.size<_;omega)).trans R1.out)) ?_;refine Tyac ?_;exact Tk0.o):p:=h ⟨k⟩
theorem Tybr {p q:Prop} (k:q) (h:Tkk q->p:=by
  intro Tk0;refine aD (y1) ?_;refine TkA ?_;refine Tyaf ?_;refine lL (λw' ah =>aB (iC _) (gn ((ah.block w.heap.size (by have:=SW.out;omega)).trans R0.out))) ?_;refine Tyai ?_;exact Tk0.o):p:=h ⟨k⟩
theorem Tybs {p q:Prop} (k:q) (h:Tkk q->p:=by
  intro Tk0;refine aD ⟨Below.ext fe mc,λj hj _=>mc.block j hj⟩ ?_;exact Tk0.o):p:=h ⟨k⟩
theorem Tybt {p q:Prop} (k:q) (h:Tkk q->p:=by
  intro Tk0;refine TkI ?_;refine TkD ?_;exact Tk0.o):p:=h ⟨k⟩
theorem Tybu {p q:Prop} (k:q) (h:Tkk q->p:=by
  intro Tk0;refine aD (⟨by go_simp,by go_simp⟩) ?_;exact Tk0.o):p:=h ⟨k⟩
theorem Tzaa {p:Prop} (h:p:=by
  skip;have Bj:=aV B g 3 w2.drew ly.drew (by omega) (by omega);rw [show ((3:Nat):Int)=3 from rfl] at Bj;have wg:=aA Bj;clear Bj;go_upto_region 10 with fail;go_wp2_with fail;refine Tya4 ?_;go_wp2_with fail;refine wg.out.mono ?_;rintro e w3 ⟨z3,rfl,hz3,ql,Lg⟩;have ee:w2.grownBy w3 (some g):=aE (aN (Below.refl _ w2).drew _) Lg;have Aj:=ee.size;have G3:=G2.grown ee th;have C6:=aA (dB 3 (by omega) B g w3 (by omega) (ql) (G3));go_wp2_with fail;refine Tybm ?_;go_wp2_with fail;refine C6.out.mono ?_;rintro e w4 ⟨x4,t4,rfl,Em,ni,yo,Nw⟩;have nw:w3.grownBy w4 (some g):=Nw;have Io:=nw.size;have G4:=G3.grown nw th;unfold Js;have ha:Below w4.heap.size w4 (w4.alloc (.cells #[.int .i64 1,.string (bP z3),.int .i64 0,.int .i64 0,.int .i64 0,.int .i64 0,.string (ByteArray.mk #[]),.int .i64 0,.int .i64 0,.slice none 0 0,.int .i64 x4.op,.int .i64 x4.val,.string x4.name,.int .i64 x4.slot,.int .i64 x4.size,.slice x4.A x4.n x4.c,.slice none 0 0,.slice none 0 0] 246)):=(Below.refl _ _).alloc (Nat.le_refl _) _;have Bh:w.grownBy w4 (some g):=aE (aE (ji) ee) nw;have Pf:cy bJ 18 (λS w=>ak (n+1) S w) w4 w.heap.size 246 (.slice A m c) ts:=dw.keepR (bH (n+1)) (λb hb fe=>(aO nw (by omega) (by omega)).trans (aO ee (by omega) (by omega)));obtain ⟨xs,ho,oo,ze⟩:=Pf.ext (bH (n+1)) ha;have ic:=aA ho.len.1;have Pk:=yo.ext ha;have Bi:w.grownBy (w4.alloc (.cells #[.int .i64 1,.string (bP z3),.int .i64 0,.int .i64 0,.int .i64 0,.int .i64 0,.string (ByteArray.mk #[]),.int .i64 0,.int .i64 0,.slice none 0 0,.int .i64 x4.op,.int .i64 x4.val,.string x4.name,.int .i64 x4.slot,.int .i64 x4.size,.slice x4.A x4.n x4.c,.slice none 0 0,.slice none 0 0] 246)) (some g):=aE Bh (aN ha _);have Cz:=ha.size;have re:∀b,w2.heap.size<=b->w.heap.size<=b/\(Value.slice A m c).ownBlock≠some b:=λb hb=>⟨by omega,λe=>by have:=Ma b e;omega⟩
  have fw:ak (n+1) (λb=>w.heap.size<=b/\(Value.slice A m c).ownBlock≠some b) (w4.alloc (.cells #[.int .i64 1,.string (bP z3),.int .i64 0,.int .i64 0,.int .i64 0,.int .i64 0,.string (ByteArray.mk #[]),.int .i64 0,.int .i64 0,.slice none 0 0,.int .i64 x4.op,.int .i64 x4.val,.string x4.name,.int .i64 x4.slot,.int .i64 x4.size,.slice x4.A x4.n x4.c,.slice none 0 0,.slice none 0 0] 246)) ⟨1,(bP z3),0,0,gM,x4,none,0,0,none,0,0⟩ (.mk 1 (bP z3) 0 0 E8 t4 [] []):=⟨rfl,rfl,rfl,rfl,nV 2 _ _,ab.mono (w:=(w4.alloc (.cells #[.int .i64 1,.string (bP z3),.int .i64 0,.int .i64 0,.int .i64 0,.int .i64 0,.string (ByteArray.mk #[]),.int .i64 0,.int .i64 0,.slice none 0 0,.int .i64 x4.op,.int .i64 x4.val,.string x4.name,.int .i64 x4.slot,.int .i64 x4.size,.slice x4.A x4.n x4.c,.slice none 0 0,.slice none 0 0] 246))) (λb _ h=>re b (Nat.le_trans (by omega) h)) _ _ _ (ab.keep (ae.of_below ha) _ _ _ (ab.to3 (by omega) (ni))),cw.nil_ _ _ _ _,cw.nil_ _ _ _ _⟩
  have ax:a7 bJ (λ_=>True) (w4.alloc (.cells #[.int .i64 1,.string (bP z3),.int .i64 0,.int .i64 0,.int .i64 0,.int .i64 0,.string (ByteArray.mk #[]),.int .i64 0,.int .i64 0,.slice none 0 0,.int .i64 x4.op,.int .i64 x4.val,.string x4.name,.int .i64 x4.slot,.int .i64 x4.size,.slice x4.A x4.n x4.c,.slice none 0 0,.slice none 0 0] 246)) (.slice (some ⟨w4.heap.size,0,none⟩) 1 1) [⟨1,(bP z3),0,0,gM,x4,none,0,0,none,0,0⟩]:=gR (heap_alloc_new _ _) trivial;have fu:∀o,(Value.slice A m c).ownBlock=some o->w.heap.size<=o:=λo e=>(World.ownsRow.lt ho o e).1
  have hd:uj (n+1) (.mk 1 (bP z3) 0 0 E8 t4 [] []):=⟨rfl,rfl,y7.to3 (by omega) Em,(by simp),(by simp),.inl ⟨rfl,lV _,rfl,rfl,rfl⟩⟩
  go_wp2_with fail;refine aD (G4) ?_;refine Tyah ?_;go_wp2_with fail;refine aD G4 ?_;refine Tyah ?_;go_wp2_with fail;refine aD (G4.ext ha) ?_;refine Tyah ?_;go_wp2_with (refine aJ (o:=⟨some 50,_,_,_,_,_⟩) dE eU (.agg #[.int .i64 0,.string (ByteArray.mk #[]),.int .i64 0,.int .i64 0,.int .i64 0,.int .i64 0,.string (ByteArray.mk #[]),.int .i64 0,.int .i64 0,.slice none 0 0,.int .i64 0,.int .i64 0,.string (ByteArray.mk #[]),.int .i64 0,.int .i64 0,.slice none 0 0,.slice none 0 0,.slice none 0 0]) 232 _ _ 27 246 w.heap.size xs [⟨1,(bP z3),0,0,gM,x4,none,0,0,none,0,0⟩] (some ⟨w4.heap.size,0,none⟩) 1 1 (.slice A m c) (m+1) rfl rfl underlying27 gX rfl (by omega) rfl rfl ho ax (by rw [ic.out]) (by rw [ic.out];omega) (by rw [ic.out];omega) (by omega) ?_;intro Az cz wz rq mj Bo Ok Oj)
  have Lq:w.grownBy wz (some g):=cK Bi mj (λq hq=> .inl (fu q hq));have Pj:=Pk.grown mj (λq hq=>by have:=fu q hq;constructor<;>omega);refine aD (hG.grown Lq th) ?_;refine Tyan ?_;go_wp2_with fail;go_roundw
  case rel=>exact ⟨j-1,Az,cz,m+1,ts++ [.mk 1 (bP z3) 0 0 E8 t4 [] []],by congr 1;omega,rfl,by omega,λs hs=>by
   rcases List.mem_append.1 hs with hs|hs
   ·exact Vl.out s hs
   ·rw [List.mem_singleton] at hs;subst hs;exact hd,cy.push (bH (n+1)) ⟨oo,ze⟩ _ _ fw rq mj Bo,Pj,Lq⟩
  case measure=>simp [intOf];omega):p:=h
theorem Tzab {p:Prop} (h:p:=by
  have lf:=aA (uQ A n c fs _ wt hDt hn HF.out);go_wp2_with (refine lD (t:=36) RDt ?_)
  refine lf.out.mono ?_;rintro e u1 ⟨rfl,UG⟩;have t1:=UG.size;obtain ⟨z,hz⟩:=eX (bM fs);rw [<-hz];have Fk:=iR fs;rw [<-hz] at Fk;unfold nD at Fk;have HZ:=aA hz;have RZ1:=bT UG RZt;have Us:=Below.ext Lu UG;clear hz;by_cases Gc:z=9223372036854775807
  ·have dz:(z==9223372036854775807)=true:=by simpa using Gc
   have an:=aA (show r= .error 3 by rw [HRt.out];unfold gN;rw [if_pos (by rw [<-HZ.out];exact Gc)]);clear Gc;go_wp2_with (refine sR RZ1 ?_)
   refine rT RZ1 ?_;rw [an.out];exact ⟨⟨by omega,rfl⟩,Us.grown (aC _ _ _) Us.size (λo e=>by cases e;omega)⟩
  have dz:(z==9223372036854775807)=false:=by simpa using Gc
  have an:=aA (show r=if 4096<Br.length then .error 5 else .ok (fs.set k ⟨[],wu ⟨kd,z+1,bs,un⟩ Br⟩) by rw [HRt.out];unfold gN;rw [if_neg (by rw [<-HZ.out];exact Gc),<-HZ.out]);have od:z+1<=9223372036854775807:=by omega
  have RH1:=bT UG RHt;have qh1:=fi RH1.out;have fh1:u1.frozen? ⟨bh,1,none⟩=false:=frozen_of_row _ _ _ _ _ RH1.out
  obtain ⟨u2,VA⟩:=eX (u1.setCell ⟨bh,1,none⟩ (.int .i64 (z+1)));have g2:u1.grownBy u2 (some bh):=by rw [VA];exact aL (bC _ _)
  have RH2:=aA (show u2.heap[bh]? =some (.cells #[.int .i64 kd,.int .i64 (z+1),.int .i64 bs,.int .i64 un] 96 (0,0)) by rw [VA];exact heap_setCell_same _ _ _ _ _ _ RH1.out);have Qd:=aA ((g2.block w.heap.size (by omega) (by simp;omega)).trans ((UG.block w.heap.size (by omega)).trans RDt.out));have Nc:=gT g2 RZ1;have hD2_:=(hDt.ext UG).keep (w' :=u2) (λb hb hs=>g2.block b hb (by have:=hs.2;simp;omega));have hb2_:Below w.heap.size w u2:=Us.grown g2 Us.size (λo e=>by cases e;omega);have hv2_:=((Zo.ext UG).avoid RH1.out (by intro j u hu x;rcases j with _|_|_|_|j<;>simp at hu<;>subst hu<;>simp)).keep (w' :=u2) (λb hb hs=>g2.block b hb (by intro e;exact hs (Option.some.inj e)));have t2:u1.heap.size<=u2.heap.size:=g2.size;have HHI:=aA (HIt.out (z+1) ⟨by omega,by omega⟩);have ik:=HHI.out kd (by simp [Hd.l]);have is_:=HHI.out (z+1) (by simp [Hd.l]);have ib:=HHI.out bs (by simp [Hd.l]);have iu:=HHI.out un (by simp [Hd.l]);have lk:=nT ik;have ls:=nT is_;have lb:=nT ib;have q0:=bn RH2.out;have HP0:=aA (dQ (.slice none 0 0) kd [] (λ_=>True) u2 (Bytes.nil_ _ _) (by simp) ik);clear Gc g2 hDt Zo;go_upto_region 18 with fail;try rw [<-VA]
  clear VA qh1 fh1;go_wp2_with fail;refine HP0.out.mono ?_;rintro e u3 ⟨x3_,rfl,rh,c3_⟩;rw [List.nil_append] at rh;have q1:=fi ((c3_.block bh (by omega)).trans RH2.out);have HP1:=aA (dQ x3_ (z+1) _ _ u3 rh (by omega) is_);clear q0 rh;go_wp2_with fail;refine HP1.out.mono ?_;rintro e u4 ⟨x4_,rfl,Cr,c4_⟩;have k4_:=Below.ext c3_ c4_;have q2:=gn ((k4_.block bh (by omega)).trans RH2.out);have HP2:=aA (dQ x4_ bs _ _ u4 Cr (by rw [List.length_append];omega) ib);clear q1 Cr;go_wp2_with fail;refine HP2.out.mono ?_;rintro e u5 ⟨x5_,rfl,TS,c5_⟩;have k5_:=Below.ext k4_ c5_;have q3:=lj ((k5_.block bh (by omega)).trans RH2.out);have HP3:=aA (dQ x5_ un _ _ u5 TS (by rw [List.length_append,List.length_append];omega) iu);clear q2 TS;go_wp2_with fail;refine HP3.out.mono ?_;rintro e u6 ⟨x6_,rfl,Rv,c6_⟩;have k6_:=Below.ext k5_ c6_;have t6:=k6_.size;have hx6' :Bytes (λ_=>True) u6 x6_ (aI (Hd.l ⟨kd,z+1,bs,un⟩)):=by
   have e:aI (Hd.l ⟨kd,z+1,bs,un⟩)=cP kd++cP (z+1)++cP bs++cP un:=by simp [aI,Hd.l]
   rw [e];exact Rv
  have Zu:=rY HHI.out;have HSE:=aA (mD x6_ _ _ u6 hx6' (by omega));have HHL:=aA Zu;clear q3 Rv hx6' Zu lk ls lb;go_wp2_with fail;refine HSE.out.mono ?_;rintro e u7 ⟨f1,rfl,Kk,c7_⟩;have k7:=Below.ext k6_ c7_;have t7:=c7_.size;have Mw:=hv2_.ext k7;by_cases j6:4096<Br.length
  ·have Ta:=aA (rI (.slice C m cc) Br _ u7 Mw j6);have Jx:=aA (an.out.trans (if_pos j6));have T5:=bT k7 Nc;have vj:=Below.ext hb2_ k7;clear j6 Kk Mw;go_wp2_with fail;refine Ta.out.mono ?_;rintro e u8 ⟨rfl,rfl⟩;go_wp2_with (refine sR T5 ?_)
   refine rT T5 ?_;rw [Jx.out];exact ⟨⟨by omega,rfl⟩,vj.grown (aC _ _ _) vj.size (λo e=>by cases e;omega)⟩
  have Ta:=aA (mD (.slice C m cc) Br _ u7 Mw (by omega));have Jx:=aA (an.out.trans (if_neg j6));have Uo:Br.length<=4096:=by omega
  have WG:=aA Uo;clear j6 Mw Uo;go_wp2_with fail;refine Ta.out.mono ?_;rintro e u8 ⟨f2,rfl,J7,c8_⟩;have k8:=Below.ext k7 c8_;have t8:=c8_.size;have RD8:=bT k8 Qd;have RZ8:=bT k8 Nc;have Bl:=Below.ext hb2_ k8;have Qv:=aA (nC A n c fs _ u8 (hD2_.ext k8) hn k Ln none 0 0 [] (λ_=>True) (a7.nil_ _ _) (by omega));clear hD2_;go_wp2_with (refine lD (t:=36) RD8 ?_)
  refine Qv.out.mono ?_;rintro e u9 ⟨A9,c9,rfl,hD9_,d9⟩;have t9:=d9.size;obtain ⟨vb,TU⟩:=eX (u9.setRow w.heap.size #[.slice A9 n c9]);have RD9_:=bT d9 RD8;have Ey:u9.grownBy vb (some w.heap.size):=by rw [TU];exact aC _ _ _
  have RDc:=aA (show vb.heap[w.heap.size]? =some (.cells #[.slice A9 n c9] 36 (0,0)) by rw [TU];exact setRow_heap _ _ _ _ _ _ RD9_.out);have RZc:=aA ((Ey.block (w.heap.size+2) (by omega) (by simp)).trans ((d9.block (w.heap.size+2) (by omega)).trans RZ8.out));have hDc:=hD9_.keep (w' :=vb) (λb hb hs=>Ey.block b hb (by simp;omega));have VY:Below w.heap.size w vb:=(Below.ext Bl d9).grown Ey (Below.ext Bl d9).size (λo e=>by cases e;exact Nat.le_refl _);have t12:u9.heap.size<=vb.heap.size:=Ey.size;have kq:ae (λb=>u6.heap.size<=b) u9 vb:=λb hb hs=>Ey.block b hb (by simp;omega)
  have h1c:=(Kk.ext (Below.ext c8_ d9)).kept Ey (.inr (λe=>by have:=(World.ownsRow.lt Kk _ e).1;omega));have h2c:=((J7.ext d9).bytes.mono (S' :=λb=>u6.heap.size<=b) (λb _ h=>by have h2:u7.heap.size<=b:=h.1;omega)).keep kq;clear hD9_ J7 kq;go_upto_region 27 with (refine sR RD9_ ?_)
  rw [<-TU];refine Tyal ?_;clear TU;obtain ⟨F1,p1c,rfl,hp11,hp12,_⟩:=h1c.bytes;obtain ⟨F2,p2c,rfl,hp21,hp22,hp23⟩:=h2c;obtain ⟨m1,jh⟩:=eX ((dK (aI (Hd.l ⟨kd,z+1,bs,un⟩))).length);obtain ⟨m2,pg⟩:=eX ((dK Br).length);have h2d:Bytes (λb=>u6.heap.size<=b) vb (.slice F2 m2 p2c) (dK Br):=⟨F2,p2c,by rw [pg],hp21,hp22,hp23⟩
  rw [<-jh] at h1c Kk ⊢;rw [<-pg];have O5:m1<=48:=by rw [jh,eI];have:=HHL.out;omega
  have O0:m2<=4104:=by rw [pg,eI];have:=WG.out;omega
  have Ff:=aA jh;clear jh pg hp11 hp12 hp21 hp22 hp23;go_wp2_with fail;refine aH ((λw' =>w'.heap[w.heap.size]? =some (.cells #[.slice A9 n c9] 36 (0,0)))) (by kernel_rfl) (by kernel_rfl) (RDc.out) ?_;refine Tya1 ?_;intro A13 c13 Jy ho13 hg13 hat13 Ge Mu;have Kj:∀b,(Value.slice F1 m1 p1c).ownBlock=some b->u6.heap.size<=b/\b<u7.heap.size:=λb e=>World.ownsRow.lt Kk b e
  have Po:vb.grownBy Jy (Value.slice F1 m1 p1c).ownBlock:=aE (aN (Below.refl _ vb).drew _) hg13;have t13:vb.heap.size<=Jy.heap.size:=Po.size;have RDd:=aA ((Po.block w.heap.size (by omega) (λe=>by have:=Kj _ e.symm;omega)).trans RDc.out);have RZd:=aA ((Po.block (w.heap.size+2) (by omega) (λe=>by have:=Kj _ e.symm;omega)).trans RZc.out);have ll:Below w.heap.size w Jy:=VY.grown Po VY.size (λo e=>by have:=Kj _ e;omega);have hDd:=(hDc.keep (w' :=Jy) (λb hb hs=>Po.block b hb (λe=>by have:=Kj _ e.symm;omega))).mono (S' :=λb=>(S b/\b<w.heap.size)∨u6.heap.size<=b) (λb _ h=>h.imp (λh=>h) (λh=>by omega));have dy:=ho13.bytes.by_.mono (S' :=λb=>(S b/\b<w.heap.size)∨u6.heap.size<=b) (λb _ h=> .inr h.1);have Fx:=aA (rJ A9 n c9 (fs.set k ⟨[],[]⟩) _ Jy hDd hn k ⟨[],[]⟩ (by rw [List.getElem?_set_self (by have:=ez.out;omega)]) A13 (m1+m2) c13 _ dy (by simp;omega));clear hDc hDd dy ho13 hg13 hat13 h1c h2d Kk;go_wp2_with fail;refine aD (RDd.out) ?_;refine TkB ?_;refine aF rfl ?_;go_wp2_with fail;refine Fx.out.mono ?_;rintro e qh ⟨A14,c14,rfl,hD14,Ez⟩;have t14:=Ez.size;have RZe:=bT Ez RZd;have RDe:=bT Ez RDd;have hbe_:=Below.ext ll Ez;go_wp2_with fail;refine aD (RDe.out) ?_;refine TkB ?_;obtain ⟨w15,TT⟩:=eX (qh.setRow (w.heap.size+2) #[.slice A14 n c14]);have ZI:qh.grownBy w15 (some (w.heap.size+2)):=by rw [TT];exact aC _ _ _
  have RZf:=aA (show w15.heap[w.heap.size+2]? =some (.cells #[.slice A14 n c14] 36 (0,0)) by rw [TT];exact setRow_heap _ _ _ _ _ _ RZe.out);refine aF rfl ?_;refine sR RZe ?_;rw [<-TT];clear TT;refine aD ((ZI.block w.heap.size (by omega) (by simp)).trans RDe.out) ?_;simp only [Act.put];refine TkB ?_;refine aP ?_;go_wp2_with fail;refine bodyPost_ret (jX rfl rfl (lB (t:=36) RZf.out)) rfl ?_;rw [Jx.out];refine ⟨⟨A14,c14,rfl,?_⟩,hbe_.grown ZI hbe_.size (λo e=>by cases e;omega)⟩
  have hD15:=(hD14.keep (w' :=w15) (λb hb hs=>ZI.block b hb (by simp;omega))).mono (S' :=λb=>S b∨w.heap.size<=b) (λb _ h=>by
   rcases h with (h|h)|h
   ·exact .inl h.1
   ·exact .inr (by omega)
   ·exact .inr (by omega))
  rw [List.set_set] at hD15;exact hD15):p:=h
theorem Tzac {p:Prop} (h:p:=by
  subst h4;have Bj:=aV B g 2 w2.drew ly.drew (by omega) (by omega);rw [show ((2:Nat):Int)=2 from rfl] at Bj;have wg:=aA Bj;clear Bj;go_upto_region 12 with fail;go_wp2_with fail;refine Tya4 ?_;go_wp2_with fail;refine wg.out.mono ?_;rintro e w3 ⟨z3,rfl,hz3,ql,Lg⟩;have ee:w2.grownBy w3 (some g):=aE (aN (Below.refl _ w2).drew _) Lg;have Aj:=ee.size;have G3:=G2.grown ee th;have C6:=aA (dB 2 (by omega) B g w3 (by omega) (ql) (G3));go_wp2_with fail;refine aD (G3) ?_;refine TkA ?_;refine lL (λw' ah =>aB (iC _) (ah.arr hz3)) ?_;refine Tyai ?_;go_wp2_with fail;refine C6.out.mono ?_;rintro e w4 ⟨x4,t4,rfl,Em,ni,yo,Nw⟩;have nw:w3.grownBy w4 (some g):=Nw;have Io:=nw.size;have G4:=G3.grown nw th;unfold Js;have YK:=aA (dB 2 (by omega) B g w4 (by omega) (yo) (G4));go_wp2_with fail;refine aD (G4) ?_;refine Tyah ?_;go_wp2_with fail;refine YK.out.mono ?_;rintro e w5 ⟨x5,t5,rfl,XL,U4,Iu,hq5⟩;have o8:w4.grownBy w5 (some g):=hq5;have jw:=o8.size;have G5:=G4.grown o8 th;unfold Js;have ha:Below w5.heap.size w5 (w5.alloc (.cells #[.int .i64 2,.string (fB z3),.int .i64 0,.int .i64 0,.int .i64 x4.op,.int .i64 x4.val,.string x4.name,.int .i64 x4.slot,.int .i64 x4.size,.slice x4.A x4.n x4.c,.int .i64 x5.op,.int .i64 x5.val,.string x5.name,.int .i64 x5.slot,.int .i64 x5.size,.slice x5.A x5.n x5.c,.slice none 0 0,.slice none 0 0] 246)):=(Below.refl _ _).alloc (Nat.le_refl _) _;have Bh:w.grownBy w5 (some g):=aE (aE (aE (ji) ee) nw) o8;have Pf:cy bJ 18 (λS w=>ak (n+1) S w) w5 w.heap.size 246 (.slice A m c) ts:=dw.keepR (bH (n+1)) (λb hb fe=>(aO o8 (by omega) (by omega)).trans ((aO nw (by omega) (by omega)).trans (aO ee (by omega) (by omega))));obtain ⟨xs,ho,oo,ze⟩:=Pf.ext (bH (n+1)) ha;have ic:=aA ho.len.1;have Pk:=Iu.ext ha;have Bi:w.grownBy (w5.alloc (.cells #[.int .i64 2,.string (fB z3),.int .i64 0,.int .i64 0,.int .i64 x4.op,.int .i64 x4.val,.string x4.name,.int .i64 x4.slot,.int .i64 x4.size,.slice x4.A x4.n x4.c,.int .i64 x5.op,.int .i64 x5.val,.string x5.name,.int .i64 x5.slot,.int .i64 x5.size,.slice x5.A x5.n x5.c,.slice none 0 0,.slice none 0 0] 246)) (some g):=aE Bh (aN ha _);have Cz:=ha.size;have re:∀b,w2.heap.size<=b->w.heap.size<=b/\(Value.slice A m c).ownBlock≠some b:=λb hb=>⟨by omega,λe=>by have:=Ma b e;omega⟩
  have fw:ak (n+1) (λb=>w.heap.size<=b/\(Value.slice A m c).ownBlock≠some b) (w5.alloc (.cells #[.int .i64 2,.string (fB z3),.int .i64 0,.int .i64 0,.int .i64 x4.op,.int .i64 x4.val,.string x4.name,.int .i64 x4.slot,.int .i64 x4.size,.slice x4.A x4.n x4.c,.int .i64 x5.op,.int .i64 x5.val,.string x5.name,.int .i64 x5.slot,.int .i64 x5.size,.slice x5.A x5.n x5.c,.slice none 0 0,.slice none 0 0] 246)) ⟨2,(fB z3),0,0,x4,x5,none,0,0,none,0,0⟩ (.mk 2 (fB z3) 0 0 t4 t5 [] []):=⟨rfl,rfl,rfl,rfl,ab.mono (w:=(w5.alloc (.cells #[.int .i64 2,.string (fB z3),.int .i64 0,.int .i64 0,.int .i64 x4.op,.int .i64 x4.val,.string x4.name,.int .i64 x4.slot,.int .i64 x4.size,.slice x4.A x4.n x4.c,.int .i64 x5.op,.int .i64 x5.val,.string x5.name,.int .i64 x5.slot,.int .i64 x5.size,.slice x5.A x5.n x5.c,.slice none 0 0,.slice none 0 0] 246))) (λb _ h=>re b (Nat.le_trans (by omega) h)) _ _ _ (ab.keep (ae.of_below ha) _ _ _ (ab.to3 (by omega) (sB (bU _) o8 (by omega) (ni)))),ab.mono (w:=(w5.alloc (.cells #[.int .i64 2,.string (fB z3),.int .i64 0,.int .i64 0,.int .i64 x4.op,.int .i64 x4.val,.string x4.name,.int .i64 x4.slot,.int .i64 x4.size,.slice x4.A x4.n x4.c,.int .i64 x5.op,.int .i64 x5.val,.string x5.name,.int .i64 x5.slot,.int .i64 x5.size,.slice x5.A x5.n x5.c,.slice none 0 0,.slice none 0 0] 246))) (λb _ h=>re b (Nat.le_trans (by omega) h)) _ _ _ (ab.keep (ae.of_below ha) _ _ _ (ab.to3 (by omega) (U4))),cw.nil_ _ _ _ _,cw.nil_ _ _ _ _⟩
  have ax:a7 bJ (λ_=>True) (w5.alloc (.cells #[.int .i64 2,.string (fB z3),.int .i64 0,.int .i64 0,.int .i64 x4.op,.int .i64 x4.val,.string x4.name,.int .i64 x4.slot,.int .i64 x4.size,.slice x4.A x4.n x4.c,.int .i64 x5.op,.int .i64 x5.val,.string x5.name,.int .i64 x5.slot,.int .i64 x5.size,.slice x5.A x5.n x5.c,.slice none 0 0,.slice none 0 0] 246)) (.slice (some ⟨w5.heap.size,0,none⟩) 1 1) [⟨2,(fB z3),0,0,x4,x5,none,0,0,none,0,0⟩]:=gR (heap_alloc_new _ _) trivial;have fu:∀o,(Value.slice A m c).ownBlock=some o->w.heap.size<=o:=λo e=>(World.ownsRow.lt ho o e).1
  have hd:uj (n+1) (.mk 2 (fB z3) 0 0 t4 t5 [] []):=⟨rfl,rfl,y7.to3 (by omega) XL,(by simp),(by simp),.inr (.inl ⟨rfl,wN _,y7.to3 (by omega) Em,rfl,rfl⟩)⟩
  go_wp2_with fail;refine aD (G5) ?_;refine Tyah ?_;go_wp2_with fail;refine aD G5 ?_;refine Tyah ?_;go_wp2_with fail;refine aD (G5.ext ha) ?_;refine Tyah ?_;go_wp2_with (refine aJ (o:=⟨some 65,_,_,_,_,_⟩) dE eU (.agg #[.int .i64 0,.string (ByteArray.mk #[]),.int .i64 0,.int .i64 0,.int .i64 0,.int .i64 0,.string (ByteArray.mk #[]),.int .i64 0,.int .i64 0,.slice none 0 0,.int .i64 0,.int .i64 0,.string (ByteArray.mk #[]),.int .i64 0,.int .i64 0,.slice none 0 0,.slice none 0 0,.slice none 0 0]) 232 _ _ 27 246 w.heap.size xs [⟨2,(fB z3),0,0,x4,x5,none,0,0,none,0,0⟩] (some ⟨w5.heap.size,0,none⟩) 1 1 (.slice A m c) (m+1) rfl rfl underlying27 gX rfl (by omega) rfl rfl ho ax (by rw [ic.out]) (by rw [ic.out];omega) (by rw [ic.out];omega) (by omega) ?_;intro Az cz wz rq mj Bo Ok Oj)
  have Lq:w.grownBy wz (some g):=cK Bi mj (λq hq=> .inl (fu q hq));have Pj:=Pk.grown mj (λq hq=>by have:=fu q hq;constructor<;>omega);refine aD (hG.grown Lq th) ?_;refine Tyan ?_;go_wp2_with fail;go_roundw
  case rel=>exact ⟨j-1,Az,cz,m+1,ts++ [.mk 2 (fB z3) 0 0 t4 t5 [] []],by congr 1;omega,rfl,by omega,λs hs=>by
   rcases List.mem_append.1 hs with hs|hs
   ·exact Vl.out s hs
   ·rw [List.mem_singleton] at hs;subst hs;exact hd,cy.push (bH (n+1)) ⟨oo,ze⟩ _ _ fw rq mj Bo,Pj,Lq⟩
  case measure=>simp [intOf];omega):p:=h
theorem Tzad {p:Prop} (h:p:=by
  skip;have wg:=aA (dB 2 (by omega) B g w2 (by omega) (ly) (G2));go_upto_region 14 with fail;go_wp2_with fail;refine wg.out.mono ?_;rintro e w3 ⟨x3,t3,rfl,Jh,tf,ql,Lg⟩;have ee:w2.grownBy w3 (some g):=Lg;have Aj:=ee.size;have G3:=G2.grown ee th;unfold Js;have C6:=aA (dB 2 (by omega) B g w3 (by omega) (ql) (G3));go_wp2_with fail;refine C6.out.mono ?_;rintro e w4 ⟨x4,t4,rfl,Em,ni,yo,Nw⟩;have nw:w3.grownBy w4 (some g):=Nw;have Io:=nw.size;have G4:=G3.grown nw th;unfold Js;have ha:Below w4.heap.size w4 (w4.alloc (.cells #[.int .i64 5,.string (ByteArray.mk #[]),.int .i64 0,.int .i64 0,.int .i64 x3.op,.int .i64 x3.val,.string x3.name,.int .i64 x3.slot,.int .i64 x3.size,.slice x3.A x3.n x3.c,.int .i64 x4.op,.int .i64 x4.val,.string x4.name,.int .i64 x4.slot,.int .i64 x4.size,.slice x4.A x4.n x4.c,.slice none 0 0,.slice none 0 0] 246)):=(Below.refl _ _).alloc (Nat.le_refl _) _;have Bh:w.grownBy w4 (some g):=aE (aE (ji) ee) nw;have Pf:cy bJ 18 (λS w=>ak (n+1) S w) w4 w.heap.size 246 (.slice A m c) ts:=dw.keepR (bH (n+1)) (λb hb fe=>(aO nw (by omega) (by omega)).trans (aO ee (by omega) (by omega)));obtain ⟨xs,ho,oo,ze⟩:=Pf.ext (bH (n+1)) ha;have ic:=aA ho.len.1;have Pk:=yo.ext ha;have Bi:w.grownBy (w4.alloc (.cells #[.int .i64 5,.string (ByteArray.mk #[]),.int .i64 0,.int .i64 0,.int .i64 x3.op,.int .i64 x3.val,.string x3.name,.int .i64 x3.slot,.int .i64 x3.size,.slice x3.A x3.n x3.c,.int .i64 x4.op,.int .i64 x4.val,.string x4.name,.int .i64 x4.slot,.int .i64 x4.size,.slice x4.A x4.n x4.c,.slice none 0 0,.slice none 0 0] 246)) (some g):=aE Bh (aN ha _);have Cz:=ha.size;have re:∀b,w2.heap.size<=b->w.heap.size<=b/\(Value.slice A m c).ownBlock≠some b:=λb hb=>⟨by omega,λe=>by have:=Ma b e;omega⟩
  have fw:ak (n+1) (λb=>w.heap.size<=b/\(Value.slice A m c).ownBlock≠some b) (w4.alloc (.cells #[.int .i64 5,.string (ByteArray.mk #[]),.int .i64 0,.int .i64 0,.int .i64 x3.op,.int .i64 x3.val,.string x3.name,.int .i64 x3.slot,.int .i64 x3.size,.slice x3.A x3.n x3.c,.int .i64 x4.op,.int .i64 x4.val,.string x4.name,.int .i64 x4.slot,.int .i64 x4.size,.slice x4.A x4.n x4.c,.slice none 0 0,.slice none 0 0] 246)) ⟨5,(ByteArray.mk #[]),0,0,x3,x4,none,0,0,none,0,0⟩ (.mk 5 (ByteArray.mk #[]) 0 0 t3 t4 [] []):=⟨rfl,rfl,rfl,rfl,ab.mono (w:=(w4.alloc (.cells #[.int .i64 5,.string (ByteArray.mk #[]),.int .i64 0,.int .i64 0,.int .i64 x3.op,.int .i64 x3.val,.string x3.name,.int .i64 x3.slot,.int .i64 x3.size,.slice x3.A x3.n x3.c,.int .i64 x4.op,.int .i64 x4.val,.string x4.name,.int .i64 x4.slot,.int .i64 x4.size,.slice x4.A x4.n x4.c,.slice none 0 0,.slice none 0 0] 246))) (λb _ h=>re b (Nat.le_trans (by omega) h)) _ _ _ (ab.keep (ae.of_below ha) _ _ _ (ab.to3 (by omega) (sB (bU _) nw (by omega) (tf)))),ab.mono (w:=(w4.alloc (.cells #[.int .i64 5,.string (ByteArray.mk #[]),.int .i64 0,.int .i64 0,.int .i64 x3.op,.int .i64 x3.val,.string x3.name,.int .i64 x3.slot,.int .i64 x3.size,.slice x3.A x3.n x3.c,.int .i64 x4.op,.int .i64 x4.val,.string x4.name,.int .i64 x4.slot,.int .i64 x4.size,.slice x4.A x4.n x4.c,.slice none 0 0,.slice none 0 0] 246))) (λb _ h=>re b (Nat.le_trans (by omega) h)) _ _ _ (ab.keep (ae.of_below ha) _ _ _ (ab.to3 (by omega) (ni))),cw.nil_ _ _ _ _,cw.nil_ _ _ _ _⟩
  have ax:a7 bJ (λ_=>True) (w4.alloc (.cells #[.int .i64 5,.string (ByteArray.mk #[]),.int .i64 0,.int .i64 0,.int .i64 x3.op,.int .i64 x3.val,.string x3.name,.int .i64 x3.slot,.int .i64 x3.size,.slice x3.A x3.n x3.c,.int .i64 x4.op,.int .i64 x4.val,.string x4.name,.int .i64 x4.slot,.int .i64 x4.size,.slice x4.A x4.n x4.c,.slice none 0 0,.slice none 0 0] 246)) (.slice (some ⟨w4.heap.size,0,none⟩) 1 1) [⟨5,(ByteArray.mk #[]),0,0,x3,x4,none,0,0,none,0,0⟩]:=gR (heap_alloc_new _ _) trivial;have fu:∀o,(Value.slice A m c).ownBlock=some o->w.heap.size<=o:=λo e=>(World.ownsRow.lt ho o e).1
  have hd:uj (n+1) (.mk 5 (ByteArray.mk #[]) 0 0 t3 t4 [] []):=⟨rfl,rfl,y7.to3 (by omega) Em,(by simp),(by simp),.inr (.inr (.inl ⟨rfl,rfl,y7.to3 (by omega) Jh,rfl,rfl⟩))⟩
  go_wp2_with (refine aJ (o:=⟨some 76,_,_,_,_,_⟩) dE eU (.agg #[.int .i64 0,.string (ByteArray.mk #[]),.int .i64 0,.int .i64 0,.int .i64 0,.int .i64 0,.string (ByteArray.mk #[]),.int .i64 0,.int .i64 0,.slice none 0 0,.int .i64 0,.int .i64 0,.string (ByteArray.mk #[]),.int .i64 0,.int .i64 0,.slice none 0 0,.slice none 0 0,.slice none 0 0]) 232 _ _ 27 246 w.heap.size xs [⟨5,(ByteArray.mk #[]),0,0,x3,x4,none,0,0,none,0,0⟩] (some ⟨w4.heap.size,0,none⟩) 1 1 (.slice A m c) (m+1) rfl rfl underlying27 gX rfl (by omega) rfl rfl ho ax (by rw [ic.out]) (by rw [ic.out];omega) (by rw [ic.out];omega) (by omega) ?_;intro Az cz wz rq mj Bo Ok Oj)
  have Lq:w.grownBy wz (some g):=cK Bi mj (λq hq=> .inl (fu q hq));have Pj:=Pk.grown mj (λq hq=>by have:=fu q hq;constructor<;>omega);go_roundw
  case rel=>exact ⟨j-1,Az,cz,m+1,ts++ [.mk 5 (ByteArray.mk #[]) 0 0 t3 t4 [] []],by congr 1;omega,rfl,by omega,λs hs=>by
   rcases List.mem_append.1 hs with hs|hs
   ·exact Vl.out s hs
   ·rw [List.mem_singleton] at hs;subst hs;exact hd,cy.push (bH (n+1)) ⟨oo,ze⟩ _ _ fw rq mj Bo,Pj,Lq⟩
  case measure=>simp [intOf];omega):p:=h
theorem Tzae {p:Prop} (h:p:=by
  have z5_:=P5.size;obtain ⟨rr,hsr⟩:=gh.ex fs s9 ((p:Int)-1) ((q:Int)-1);have HSR:=aA hsr;have T4:=aA P5.row;have ej:=pZ A 4 c4 fs _ vs P5.dsk (by omega) P5.ok ((p:Int)-1) s9 Z1 Tk To Z2 Tj Tn Z3 Ti Tm Z4 Th Tl _ M9 HS9.out.sv ((q:Int)-1) rr hsr;have HC1:=aA ej;clear ej;go_wp2_with (first|(refine lD (t:=36) T4 ?_)|(refine lD (t:=51) Rq5 ?_))
  refine HC1.out.mono ?_;rintro e v6 ⟨Oi,b6⟩;obtain ⟨Aa,ca,rfl,Da⟩:=Oi.gen;obtain ⟨W7,oy,ka,Sa,ba,o5,Ra,HBa,la,ma⟩:=bE v6 #[.slice Aa (Na 4 rr) ca] 36;have X5:=Below.ext b6 ka;have P7:=P5.ext X5;have z7:=X5.size;have ZO:=aA P7.row;have Rq7:=bT X5 Rq5;have Da7:=Da.ext ka;clear Oi Da;go_upto_region 17 with (refine sN ?_)
  try dsimp only
  rw [<-oy,<-HBa.out];clear oy o5;refine Tyal ?_;have ed:=wX A 4 c4 fs _ W7 P7.dsk (by omega) P7.ok ((p:Int)-1) s9 Z1 Tk To Z2 Tj Tn Z3 Ti Tm Z4 Th Tl _ (M9.ext X5) HS9.out ((q:Int)-1) o5 rr hsr;have WD:=aA ed;clear ed;go_wp2_with (first|(refine lD (t:=36) ZO ?_)|(refine lD (t:=51) Rq7 ?_))
  refine WD.out.mono ?_;rintro e v8 ⟨Oh,b8⟩;obtain ⟨Ab,cb,rfl,Db⟩:=Oh.gen;obtain ⟨W8,sw,kb,Sb,bb,fe,Rb,HBb,lb,mb⟩:=bE v8 #[.slice Ab (Na 4 rr) cb] 36;have Tx:=Below.ext b8 kb;have P8:=P7.ext Tx;have z8:=Tx.size;have Ra8:=bT Tx Ra la;have Da8:=Da7.ext Tx;have Vo:=Db.ext kb;have HSD:=aA (pI Aa Ab (Na 4 rr) ca cb (dkF rr) _ _ W8 Da8 Vo (by unfold Na;split<;>omega));clear Oh Db Da7 Da8;go_upto_region 18 with (refine sN ?_)
  try dsimp only
  rw [<-sw,<-HBb.out];clear sw fe;refine Tyal ?_;obtain ⟨nn,tz⟩:=eX (Na 4 rr);obtain ⟨er,Cj⟩:=eX (dkE rr);rw [<-tz] at Rb Ra8 HSD Vo;rw [<-Cj];have HER:=aA Cj;have HNN:=aA tz;have de:((er:Int) != (er:Int))=false:=by simp
  have den:(er != er)=false:=by simp
  clear Cj tz;go_wp2_with (first|(refine lD (t:=36) Ra8 ?_)|(refine lD (t:=36) Rb ?_))
  refine HSD.out.mono ?_;rintro e v9 ⟨rfl,b9⟩;have Pz:=P8.ext b9;have Z9:=Vo.ext b9;have Rb9:=bT b9 Rb lb;clear P8 P7 P5 Vo de den;obtain ⟨ek,mi⟩|⟨vt,mi⟩:(∃ek,rr= .error ek)∨∃vt,rr= .ok vt:=by
   cases rr with
   |error ek=>exact .inl ⟨ek,rfl⟩
   |ok f=>exact .inr ⟨f,rfl⟩
  case inl=>
   have Jf:er≠0:=by
    rw [HER.out,mi];show ek≠0;exact gh.err (mi▸HSR.out)
   have dz:((er:Int)==0)=false:=by simpa using Jf
   have dzn:(er==0)=false:=by simpa using Jf
   obtain ⟨A9,c9,vt,P9⟩:∃A9 c9 vt,PI x1.heap.size g bd w W5 v9 A9 c9 vt:=⟨A,c4,fs,Pz⟩
   clear Pz Jf mi;go_upto_region 33 with fail;have UL:=aA P9.row;have Ju:=P9.ext (Below.refl _ v9).drew;have Qw:=aA (aV _ g 12 v9.drew Ju.cod (by omega) (by omega));go_wp2_with fail;refine aH ((λw' =>w'.heap[bd]? =some (.cells #[.slice A9 4 c9] 36 (0,0)))) (by kernel_rfl) (by kernel_rfl) (UL.out) ?_;refine Tyap ?_;go_wp2_with fail;refine Qw.out.mono ?_;rintro e u1 ⟨m9,rfl,hm9,Jr,g9⟩;have PA:=Ju.next Jr g9;have yy:=aA (gH A9 4 c9 vt _ u1 PA.dsk (by omega) PA.ok (m9:Int) a2 len2 Dd zs _ (HZS.out.ext PA.bel) HZI.out);clear P9 Ju Jr g9 Qw;go_wp2_with fail;refine Tybo ?_;go_wp2_with fail;refine yy.out.mono ?_;rintro e u2 ⟨rfl,YB⟩;have PB:=PA.ext YB;clear PA yy;go_wp2_with fail;refine Tybp ?_;go_wp2;go_roundw;case rel=>exact ⟨i+1,A9,c9,vt,by go_num,by omega,PB⟩
   case measure=>simp [intOf];omega
  case inr=>
   have Jf:er=0:=by rw [HER.out,mi];rfl
   obtain rfl:nn=4:=by rw [HNN.out,mi];rfl
   have XJ:=(gh.len (mi▸HSR.out) o5).2 Pz.ok;have dz:((er:Int)==0)=true:=by simp [Jf]
   have dzn:(er==0)=true:=by simp [Jf]
   rw [mi] at Z9
   have hd9:fh (λb=>b≠bd/\b≠g) v9 (.slice Ab 4 cb) vt:=Z9.mono (λb _ h=>by
    rcases h with h|h
    ·exact h
    ·have:=Pz.gl;have:=Pz.dl;exact ⟨by omega,by omega⟩)
   have Jv :=Pz.set hd9 XJ;have UL:=aA Pz.row;obtain ⟨v10,J4⟩:=eX (v9.setRow bd #[.slice Ab 4 cb]);rw [<-J4] at Jv;clear Jf mi Z9 hd9 XJ Pz;go_upto_region 33 with (first|(refine lD (t:=36) Rb9 ?_)|(refine sR UL ?_))
   rw [<-J4];clear J4;obtain ⟨WQ,Xe⟩:=eX v10;subst Xe;obtain ⟨A9,c9,P9⟩:∃A9 c9,PI x1.heap.size g bd w W5 WQ A9 c9 vt:=⟨Ab,cb,Jv⟩
   clear Jv;have Rdz:=aA P9.row;have Ju:=P9.ext (Below.refl _ WQ).drew;have Qw:=aA (aV _ g 12 WQ.drew Ju.cod (by omega) (by omega));go_wp2_with fail;refine aH ((λw' =>w'.heap[bd]? =some (.cells #[.slice A9 4 c9] 36 (0,0)))) (by kernel_rfl) (by kernel_rfl) (Rdz.out) ?_;refine Tyap ?_;go_wp2_with fail;refine Qw.out.mono ?_;rintro e u1 ⟨m9,rfl,hm9,Jr,g9⟩;have PA:=Ju.next Jr g9;have yy:=aA (gH A9 4 c9 vt _ u1 PA.dsk (by omega) PA.ok (m9:Int) a2 len2 Dd zs _ (HZS.out.ext PA.bel) HZI.out);clear P9 Ju Jr g9 Qw;go_wp2_with fail;refine Tybo ?_;go_wp2_with fail;refine yy.out.mono ?_;rintro e u2 ⟨rfl,YB⟩;have PB:=PA.ext YB;clear PA yy;go_wp2_with fail;refine Tybp ?_;go_wp2;go_roundw;case rel=>exact ⟨i+1,A9,c9,vt,by go_num,by omega,PB⟩
   case measure=>simp [intOf];omega):p:=h
theorem Tzaf {p:Prop} (h:p:=by
  have wg:=aA (dB 2 (by omega) B g w2 (by omega) (ly) (G2));go_upto_region 16 with fail;go_wp2_with fail;refine wg.out.mono ?_;rintro e w3 ⟨x3,t3,rfl,Jh,tf,ql,Lg⟩;have ee:w2.grownBy w3 (some g):=Lg;have Aj:=ee.size;have G3:=G2.grown ee th;unfold Js;have ha:Below w3.heap.size w3 (w3.alloc (.cells #[.int .i64 6,.string (ByteArray.mk #[]),.int .i64 0,.int .i64 0,.int .i64 0,.int .i64 0,.string (ByteArray.mk #[]),.int .i64 0,.int .i64 0,.slice none 0 0,.int .i64 x3.op,.int .i64 x3.val,.string x3.name,.int .i64 x3.slot,.int .i64 x3.size,.slice x3.A x3.n x3.c,.slice none 0 0,.slice none 0 0] 246)):=(Below.refl _ _).alloc (Nat.le_refl _) _;have Bh:w.grownBy w3 (some g):=aE (ji) ee;have Pf:cy bJ 18 (λS w=>ak (n+1) S w) w3 w.heap.size 246 (.slice A m c) ts:=dw.keepR (bH (n+1)) (λb hb fe=>aO ee (by omega) (by omega));obtain ⟨xs,ho,oo,ze⟩:=Pf.ext (bH (n+1)) ha;have ic:=aA ho.len.1;have Pk:=ql.ext ha;have Bi:w.grownBy (w3.alloc (.cells #[.int .i64 6,.string (ByteArray.mk #[]),.int .i64 0,.int .i64 0,.int .i64 0,.int .i64 0,.string (ByteArray.mk #[]),.int .i64 0,.int .i64 0,.slice none 0 0,.int .i64 x3.op,.int .i64 x3.val,.string x3.name,.int .i64 x3.slot,.int .i64 x3.size,.slice x3.A x3.n x3.c,.slice none 0 0,.slice none 0 0] 246)) (some g):=aE Bh (aN ha _);have Cz:=ha.size;have re:∀b,w2.heap.size<=b->w.heap.size<=b/\(Value.slice A m c).ownBlock≠some b:=λb hb=>⟨by omega,λe=>by have:=Ma b e;omega⟩
  have fw:ak (n+1) (λb=>w.heap.size<=b/\(Value.slice A m c).ownBlock≠some b) (w3.alloc (.cells #[.int .i64 6,.string (ByteArray.mk #[]),.int .i64 0,.int .i64 0,.int .i64 0,.int .i64 0,.string (ByteArray.mk #[]),.int .i64 0,.int .i64 0,.slice none 0 0,.int .i64 x3.op,.int .i64 x3.val,.string x3.name,.int .i64 x3.slot,.int .i64 x3.size,.slice x3.A x3.n x3.c,.slice none 0 0,.slice none 0 0] 246)) ⟨6,(ByteArray.mk #[]),0,0,gM,x3,none,0,0,none,0,0⟩ (.mk 6 (ByteArray.mk #[]) 0 0 E8 t3 [] []):=⟨rfl,rfl,rfl,rfl,nV 2 _ _,ab.mono (w:=(w3.alloc (.cells #[.int .i64 6,.string (ByteArray.mk #[]),.int .i64 0,.int .i64 0,.int .i64 0,.int .i64 0,.string (ByteArray.mk #[]),.int .i64 0,.int .i64 0,.slice none 0 0,.int .i64 x3.op,.int .i64 x3.val,.string x3.name,.int .i64 x3.slot,.int .i64 x3.size,.slice x3.A x3.n x3.c,.slice none 0 0,.slice none 0 0] 246))) (λb _ h=>re b (Nat.le_trans (by omega) h)) _ _ _ (ab.keep (ae.of_below ha) _ _ _ (ab.to3 (by omega) (tf))),cw.nil_ _ _ _ _,cw.nil_ _ _ _ _⟩
  have ax:a7 bJ (λ_=>True) (w3.alloc (.cells #[.int .i64 6,.string (ByteArray.mk #[]),.int .i64 0,.int .i64 0,.int .i64 0,.int .i64 0,.string (ByteArray.mk #[]),.int .i64 0,.int .i64 0,.slice none 0 0,.int .i64 x3.op,.int .i64 x3.val,.string x3.name,.int .i64 x3.slot,.int .i64 x3.size,.slice x3.A x3.n x3.c,.slice none 0 0,.slice none 0 0] 246)) (.slice (some ⟨w3.heap.size,0,none⟩) 1 1) [⟨6,(ByteArray.mk #[]),0,0,gM,x3,none,0,0,none,0,0⟩]:=gR (heap_alloc_new _ _) trivial;have fu:∀o,(Value.slice A m c).ownBlock=some o->w.heap.size<=o:=λo e=>(World.ownsRow.lt ho o e).1
  have hd:uj (n+1) (.mk 6 (ByteArray.mk #[]) 0 0 E8 t3 [] []):=⟨rfl,rfl,y7.to3 (by omega) Jh,(by simp),(by simp),.inr (.inr (.inr (.inl ⟨rfl,rfl,rfl,rfl,rfl⟩)))⟩
  go_wp2_with (refine aJ (o:=⟨some 85,_,_,_,_,_⟩) dE eU (.agg #[.int .i64 0,.string (ByteArray.mk #[]),.int .i64 0,.int .i64 0,.int .i64 0,.int .i64 0,.string (ByteArray.mk #[]),.int .i64 0,.int .i64 0,.slice none 0 0,.int .i64 0,.int .i64 0,.string (ByteArray.mk #[]),.int .i64 0,.int .i64 0,.slice none 0 0,.slice none 0 0,.slice none 0 0]) 232 _ _ 27 246 w.heap.size xs [⟨6,(ByteArray.mk #[]),0,0,gM,x3,none,0,0,none,0,0⟩] (some ⟨w3.heap.size,0,none⟩) 1 1 (.slice A m c) (m+1) rfl rfl underlying27 gX rfl (by omega) rfl rfl ho ax (by rw [ic.out]) (by rw [ic.out];omega) (by rw [ic.out];omega) (by omega) ?_;intro Az cz wz rq mj Bo Ok Oj)
  have Lq:w.grownBy wz (some g):=cK Bi mj (λq hq=> .inl (fu q hq));have Pj:=Pk.grown mj (λq hq=>by have:=fu q hq;constructor<;>omega);go_roundw
  case rel=>exact ⟨j-1,Az,cz,m+1,ts++ [.mk 6 (ByteArray.mk #[]) 0 0 E8 t3 [] []],by congr 1;omega,rfl,by omega,λs hs=>by
   rcases List.mem_append.1 hs with hs|hs
   ·exact Vl.out s hs
   ·rw [List.mem_singleton] at hs;subst hs;exact hd,cy.push (bH (n+1)) ⟨oo,ze⟩ _ _ fw rq mj Bo,Pj,Lq⟩
  case measure=>simp [intOf];omega):p:=h
theorem Tzag {p:Prop} (h:p:=by
  obtain ⟨k,rfl,hk,HT,ag⟩:=hrel;by_cases af:k<n1
  ·obtain ⟨b1,o1,x1,rfl,_,al,ev,ej⟩:=(h1.ext ag).at_ cN (j:=k) (by have:=zp.out;omega) (by omega);obtain ⟨b2,o2,x2,rfl,_,ar,ew,ed⟩:=(h2.ext ag).at_ cN (j:=k) (by have:=oc.out;omega) (by omega);obtain ⟨u0,u1,u2,u3,u4,u5,u6⟩:=x1;obtain ⟨v0,v1,v2,v3,v4,v5,v6⟩:=x2;have p0:wr.cell? ⟨b1,o1+k*7,none⟩=some (.int .i64 u0):=ej 0 _ rfl
   have q0:wr.cell? ⟨b2,o2+k*7,none⟩=some (.int .i64 v0):=ed 0 _ rfl
   have p1:wr.cell? ⟨b1,o1+k*7+1,none⟩=some (.int .i64 u1):=ej 1 _ rfl
   have q1:wr.cell? ⟨b2,o2+k*7+1,none⟩=some (.int .i64 v1):=ed 1 _ rfl
   have p2:wr.cell? ⟨b1,o1+k*7+2,none⟩=some (.int .i64 u2):=ej 2 _ rfl
   have q2:wr.cell? ⟨b2,o2+k*7+2,none⟩=some (.int .i64 v2):=ed 2 _ rfl
   have p3:wr.cell? ⟨b1,o1+k*7+3,none⟩=some (.int .i64 u3):=ej 3 _ rfl
   have q3:wr.cell? ⟨b2,o2+k*7+3,none⟩=some (.int .i64 v3):=ed 3 _ rfl
   have p4:wr.cell? ⟨b1,o1+k*7+4,none⟩=some (.int .i64 u4):=ej 4 _ rfl
   have q4:wr.cell? ⟨b2,o2+k*7+4,none⟩=some (.int .i64 v4):=ed 4 _ rfl
   have p5:wr.cell? ⟨b1,o1+k*7+5,none⟩=some (.int .i64 u5):=ej 5 _ rfl
   have q5:wr.cell? ⟨b2,o2+k*7+5,none⟩=some (.int .i64 v5):=ed 5 _ rfl
   have p6:wr.cell? ⟨b1,o1+k*7+6,none⟩=some (.int .i64 u6):=ej 6 _ rfl
   have q6:wr.cell? ⟨b2,o2+k*7+6,none⟩=some (.int .i64 v6):=ed 6 _ rfl
   have Dk:=aA ev;have Dj:=aA ew;clear ev ew ej ed;by_cases h0:u0=v0;case neg=>
    have d0:(u0==v0)=false:=by simpa using h0
    have an:=aA (show decide (l=m)=false by simpa using cF Dk.out Dj.out (λe=>h0 (by cases e;rfl)));clear h0;go_wp2_with fail;refine Tyab ?_;go_wp2_with fail;go_wp2;go_ret;rw [an.out];exact ⟨rfl,ag.drew⟩
   subst h0;by_cases h1:u1=v1;case neg=>
    have d1:(u1==v1)=false:=by simpa using h1
    have an:=aA (show decide (l=m)=false by simpa using cF Dk.out Dj.out (λe=>h1 (by cases e;rfl)));clear h1;go_wp2_with fail;refine Tyab ?_;go_wp2_with fail;go_wp2;go_ret;rw [an.out];exact ⟨rfl,ag.drew⟩
   subst h1;by_cases h2:u2=v2;case neg=>
    have d2:(u2==v2)=false:=by simpa using h2
    have an:=aA (show decide (l=m)=false by simpa using cF Dk.out Dj.out (λe=>h2 (by cases e;rfl)));clear h2;go_wp2_with fail;refine Tyab ?_;go_wp2_with fail;go_wp2;go_ret;rw [an.out];exact ⟨rfl,ag.drew⟩
   subst h2;by_cases h3:u3=v3;case neg=>
    have d3:(u3==v3)=false:=by simpa using h3
    have an:=aA (show decide (l=m)=false by simpa using cF Dk.out Dj.out (λe=>h3 (by cases e;rfl)));clear h3;go_wp2_with fail;refine Tyab ?_;go_wp2_with fail;go_wp2;go_ret;rw [an.out];exact ⟨rfl,ag.drew⟩
   subst h3;by_cases h4:u4=v4;case neg=>
    have d4:(u4==v4)=false:=by simpa using h4
    have an:=aA (show decide (l=m)=false by simpa using cF Dk.out Dj.out (λe=>h4 (by cases e;rfl)));clear h4;go_wp2_with fail;refine Tyab ?_;go_wp2_with fail;go_wp2;go_ret;rw [an.out];exact ⟨rfl,ag.drew⟩
   subst h4;by_cases h5:u5=v5;case neg=>
    have d5:(u5==v5)=false:=by simpa using h5
    have an:=aA (show decide (l=m)=false by simpa using cF Dk.out Dj.out (λe=>h5 (by cases e;rfl)));clear h5;go_wp2_with fail;refine Tyab ?_;go_wp2_with fail;go_wp2;go_ret;rw [an.out];exact ⟨rfl,ag.drew⟩
   subst h5;by_cases h6:u6=v6;case neg=>
    have d6:(u6==v6)=false:=by simpa using h6
    have an:=aA (show decide (l=m)=false by simpa using cF Dk.out Dj.out (λe=>h6 (by cases e;rfl)));clear h6;go_wp2_with fail;refine Tyab ?_;go_wp2_with fail;go_wp2;go_ret;rw [an.out];exact ⟨rfl,ag.drew⟩
   subst h6;have HS:=aA (fR HT.out Dk.out Dj.out rfl);go_wp2_with fail;refine Tyab ?_;go_wp2_with fail;go_wp2;go_roundw;case rel=>exact ⟨k+1,by go_num,by omega,HS,ag.drew⟩
   case measure=>simp [intOf];omega
  ·obtain rfl:k=n1:=by omega
   have an:=aA (show decide (l=m)=true by
    have:=HT.out;rw [List.take_of_length_le (by have:=zp.out;omega),List.take_of_length_le (by have:=oc.out;omega)] at this;simpa using this)
   go_wp2;go_ret;rw [an.out];exact ⟨rfl,ag⟩):p:=h
theorem Tzah {p:Prop} (h:p:=by
  rw [<-hZ] at Gb VR Rn ⊢;clear hZ;go_enter func59,ntmps59;go_wp2_with (refine dP (o:=⟨some 15,_,_,_,_,_⟩) _ _ 22 5 w.heap.size [] l A n c (.slice none 0 0) n rfl rfl underlying22 (by kernel_rfl) rfl rfl (eb.nil_ _ _ _) hb (by simp) (by simp;omega) (Nat.le_refl _) ?_;intro A5 c5 w5 bf bk jm qx qw)
  clear Gb;have b5:Below w.heap.size w w5:=⟨bk.os,bk.tape,bk.output,bk.size,λi hi=>bk.block i hi (by simp [Value.ownBlock])⟩
  have Gq:eb w5 w.heap.size 5 (.slice A5 n c5) l:=by simpa using bf
  clear bf bk jm;go_loopw [5,6] (λt v wr=>∃(u:Nat) (lc:List UInt8) (A1:Option Addr) (c1:Nat),t= .int .u64 u/\u<18446744073709551616/\v= .slice A1 lc.length c1/\eb wr w.heap.size 5 (.slice A1 lc.length c1) lc/\lc++dS u=l++dS Z/\Below w.heap.size w wr) (λt _ _=>(intOf t).toNat);case atStart=>exact ⟨Z,l,A5,c5,rfl,Rn,by rw [Dm.out],by rw [Dm.out];exact Gq,rfl,b5⟩
  case round=>
   clear Gq b5;obtain ⟨u,lc,A1,c1,rfl,hu64,rfl,aj,heq,ag⟩:=hrel;have gy:lc.length+(dS u).length=l.length+(dS Z).length:=by have:=congrArg List.length heq;simpa using this
   have hlnn:=hl.1;have yy:=aA heq;have ef:=ag.size;have ha:∀o,Below wr.heap.size wr (wr.alloc o):=λo=>(Below.refl _ _).alloc (Nat.le_refl _) o
   clear heq;by_cases Ci:128<=u
   ·have dg:decide ((128:Int)<=(u:Int))=true:=by simp;omega
    have dy:=uC u;obtain ⟨X,hX⟩:=eX (u%128+128);rw [<-hX] at dy;have N6:X<256:=by omega
    have Je:dS u=UInt8.ofNat X::dS (u / 128):=by rw [nS (by omega),hX]
    rw [Je,List.length_cons] at gy;have YX:=aA Je;clear hX Je;go_wp2_with (refine dP (D:=λ_=>True) (o:=⟨some 23,_,_,_,_,_⟩) _ _ 22 5 w.heap.size lc [UInt8.ofNat X] (some ⟨wr.heap.size,0,none⟩) 1 1 _ (lc.length+1) rfl rfl underlying22 (by kernel_rfl) rfl rfl (aj.ext (ha _)) (lY wr _ X N6) rfl (by omega) (by simp;omega) ?_;intro A7 c7 w7 ve Cu Oy Um Ul)
    have vj:=(aj.ext (ha (.cells #[.int .u8 (X:Int)] 5))).grow Cu (Below.ext ag (ha _)) (Nat.le_refl _) (by simp;omega);have e:(lc++ [UInt8.ofNat X]).length=lc.length+1:=by simp
    refine ⟨⟨u / 128,lc++ [UInt8.ofNat X],A7,c7,by congr 1,by omega,by rw [e],by rw [e];exact ve,?_,vj⟩,?_⟩
    ·rw [<-yy.out,YX.out,List.append_assoc];rfl
    ·simp [intOf];omega
   ·have dg:decide ((128:Int)<=(u:Int))=false:=by simp;omega
    have dy:(u:Int)%256=(u:Int):=by omega
    have N6:u<256:=by omega
    have Je:dS u=[UInt8.ofNat u]:=mC (by omega);rw [Je,List.length_singleton] at gy;have YX:=aA Je;clear Je;go_wp2_with (refine dP (D:=λ_=>True) (o:=⟨some 30,_,_,_,_,_⟩) _ _ 22 5 w.heap.size lc [UInt8.ofNat u] (some ⟨wr.heap.size,0,none⟩) 1 1 _ (n+(dS Z).length) rfl rfl underlying22 (by kernel_rfl) rfl rfl (aj.ext (ha _)) (lY wr _ u N6) (by omega) (by omega) (by simp;omega) ?_;intro A7 c7 w7 ve Cu Oy Um Ul)
    have vj:=(aj.ext (ha (.cells #[.int .u8 (u:Int)] 5))).grow Cu (Below.ext ag (ha _)) (Nat.le_refl _) (by simp;omega);have a9:l++dS Z=lc++ [UInt8.ofNat u]:=by rw [<-yy.out,YX.out]
    go_ret;exact ⟨A7,c7,rfl,by rw [a9];exact ve,vj⟩):p:=h
theorem Tzai {p:Prop} (h:p:=by
  obtain ⟨T,hT⟩:=eX (u+x.toNat*2^(7*i));rw [<-hT] at ho Xg;have HT:=aA hT;clear hT;have hand:bits BinOp.and IntKind.u64 (T:Int) 1=((T%2:Nat):Int):=by
   rw [show (1:Int)=((1:Nat):Int) from rfl,u64_and_nat T 1 Xg (by omega),Nat.and_one_is_mod]
  by_cases Xo:T%2=0
  ·have dpar:(bits BinOp.and IntKind.u64 (T:Int) 1==1)=false:=by rw [hand,Xo];rfl
   clear hand;go_wp2;go_ret;rw [Ml.out,<-HT.out,sO Xo,<-HWS.out];refine ⟨gJ ?_,(YR.out).drew.drew,aU (aU Mn.out)⟩;show _=((T / 2:Nat):Int)
   omega
  ·have dpar:(bits BinOp.and IntKind.u64 (T:Int) 1==1)=true:=by rw [hand,show T%2=1 by omega];rfl
   clear hand;go_wp2;go_ret;rw [Ml.out,<-HT.out,uI Xo,<-HWS.out];refine ⟨gJ ?_,(YR.out).drew.drew,aU (aU Mn.out)⟩;rw [show (T:Int) / 2=((T / 2:Nat):Int) by omega,nO _ (by omega)];unfold wrap64;omega):p:=h
theorem Tzaj {p:Prop} (h:p:=by
  obtain ⟨k,rfl,hk,HT,ag⟩:=hrel;by_cases af:k<n1
  ·obtain ⟨b1,o1,x1,rfl,_,al,ev,ej⟩:=(h1.ext ag).at_ cZ (j:=k) (by have:=zp.out;omega) (by omega);obtain ⟨b2,o2,x2,rfl,_,ar,ew,ed⟩:=(h2.ext ag).at_ cZ (j:=k) (by have:=oc.out;omega) (by omega);obtain ⟨u0,u1,u2,u3⟩:=x1;obtain ⟨v0,v1,v2,v3⟩:=x2;have p0:wr.cell? ⟨b1,o1+k*4,none⟩=some (.int .i64 u0):=ej 0 _ rfl
   have q0:wr.cell? ⟨b2,o2+k*4,none⟩=some (.int .i64 v0):=ed 0 _ rfl
   have p1:wr.cell? ⟨b1,o1+k*4+1,none⟩=some (.int .i64 u1):=ej 1 _ rfl
   have q1:wr.cell? ⟨b2,o2+k*4+1,none⟩=some (.int .i64 v1):=ed 1 _ rfl
   have p2:wr.cell? ⟨b1,o1+k*4+2,none⟩=some (.int .i64 u2):=ej 2 _ rfl
   have q2:wr.cell? ⟨b2,o2+k*4+2,none⟩=some (.int .i64 v2):=ed 2 _ rfl
   have p3:wr.cell? ⟨b1,o1+k*4+3,none⟩=some (.int .i64 u3):=ej 3 _ rfl
   have q3:wr.cell? ⟨b2,o2+k*4+3,none⟩=some (.int .i64 v3):=ed 3 _ rfl
   have Dk:=aA ev;have Dj:=aA ew;clear ev ew ej ed;by_cases h0:u0=v0;case neg=>
    have d0:(u0==v0)=false:=by simpa using h0
    have an:=aA (show decide (l=m)=false by simpa using cF Dk.out Dj.out (λe=>h0 (by cases e;rfl)));clear h0;go_wp2_with fail;refine Tyab ?_;go_wp2_with fail;go_wp2;go_ret;rw [an.out];exact ⟨rfl,ag.drew⟩
   subst h0;by_cases h1:u1=v1;case neg=>
    have d1:(u1==v1)=false:=by simpa using h1
    have an:=aA (show decide (l=m)=false by simpa using cF Dk.out Dj.out (λe=>h1 (by cases e;rfl)));clear h1;go_wp2_with fail;refine Tyab ?_;go_wp2_with fail;go_wp2;go_ret;rw [an.out];exact ⟨rfl,ag.drew⟩
   subst h1;by_cases h2:u2=v2;case neg=>
    have d2:(u2==v2)=false:=by simpa using h2
    have an:=aA (show decide (l=m)=false by simpa using cF Dk.out Dj.out (λe=>h2 (by cases e;rfl)));clear h2;go_wp2_with fail;refine Tyab ?_;go_wp2_with fail;go_wp2;go_ret;rw [an.out];exact ⟨rfl,ag.drew⟩
   subst h2;by_cases h3:u3=v3;case neg=>
    have d3:(u3==v3)=false:=by simpa using h3
    have an:=aA (show decide (l=m)=false by simpa using cF Dk.out Dj.out (λe=>h3 (by cases e;rfl)));clear h3;go_wp2_with fail;refine Tyab ?_;go_wp2_with fail;go_wp2;go_ret;rw [an.out];exact ⟨rfl,ag.drew⟩
   subst h3;have HS:=aA (fR HT.out Dk.out Dj.out rfl);go_wp2_with fail;refine Tyab ?_;go_wp2_with fail;go_wp2;go_roundw;case rel=>exact ⟨k+1,by go_num,by omega,HS,ag.drew⟩
   case measure=>simp [intOf];omega
  ·obtain rfl:k=n1:=by omega
   have an:=aA (show decide (l=m)=true by
    have:=HT.out;rw [List.take_of_length_le (by have:=zp.out;omega),List.take_of_length_le (by have:=oc.out;omega)] at this;simpa using this)
   go_wp2;go_ret;rw [an.out];exact ⟨rfl,ag⟩):p:=h
theorem Tzak {p:Prop} (h:p:=by
  rw [bR,fM j5] at h;have Lh:∀x∈bK l pre,cJ kd l.toArray x o=true/\∀cs b,x.op≠ .select cs b:=λx hx=>by
   obtain ⟨i,hi,o6⟩:=fT hx;exact ⟨yf i x hi o6,jf i x o6⟩
  rw [bR] at hK;by_cases k0:kd o=0
  ·obtain ⟨v,hv,h1⟩:=kO k0 (jf j o j5) (bK l pre) a w hS (λx hx=>by
    obtain ⟨hb,hs⟩:=Lh x hx;simp only [cJ,Bool.and_eq_true] at hb;exact ⟨hb.1.2,hs⟩) h
   exact (mM hv hS).wpOp ho (hK _ _ hS h1)
  ·by_cases k1:kd o=1
   ·obtain ⟨v,hv,h1⟩:=oJ ⟨k1,iq o k1⟩ (jf j o j5) (bK l pre) a w hS (λx hx=>by
     obtain ⟨hb,hs⟩:=Lh x hx;simp only [cJ,Bool.and_eq_true,Bool.or_eq_true,beq_iff_eq] at hb;refine ⟨?_,hb.1.2,hs⟩;rcases hb.2 with (fa|fa)|fa
     ·exact .inl fa
     ·exact absurd fa k0
     ·exact .inr ⟨fa.1,iq x fa.1⟩) h
    exact hv.wpOp ho (hK _ _ hS h1)
   ·have h1:=jR ho k0 (jf j o j5) (bK l pre) a w hS (λx hx=>by
     obtain ⟨hb,hs⟩:=Lh x hx;simp only [cJ,Bool.and_eq_true,Bool.or_eq_true,beq_iff_eq] at hb;refine ⟨?_,hb.1.1,hs⟩;rcases hb.2 with (fa|fa)|fa
     ·exact fa
     ·exact absurd fa k0
     ·exact absurd fa.2 k1) h
    exact wpOp_mono (λa' w' h2=>hK a' w' h2.1 h2.2) h1):p:=h
theorem Tzal {p:Prop} (h:p:=by
  rintro e w4 ⟨rfl,b4⟩;have y4:=Below.ext y3 b4;have Qc:=bT y4 R0 kf;have cw40:=bn Qc.out;have Wp:w4.cell? ⟨bx,16,none⟩=some (.slice xA 0 xc):=aM Qc.out 16 _ rfl
  have Wo:w4.cell? ⟨bx,17,none⟩=some (.slice xB 0 xd):=aM Qc.out 17 _ rfl
  go_wp2_with fail;refine (HB.out _ y4).mono ?_;rintro e w5 ⟨rfl,b5⟩;have y5:=Below.ext y4 b5;have Rw5:=bT y5 R0 kf;have Wn:w5.cell? ⟨bx,17,none⟩=some (.slice xB 0 xd):=aM Rw5.out 17 _ rfl
  go_wp2_with fail;refine (HE.out _ y5).mono ?_;rintro e w6 ⟨rfl,b6⟩;go_wp2;go_roundw;case rel=>exact ⟨k+1,by go_num,by omega,Below.ext yW (Below.ext y5 b6)⟩
  case measure=>simp [intOf];omega):p:=h
theorem Tzam {p:Prop} (h:p:=by
  clear g;go_wp2;go_loopw [8] (λa wr=>∃k:Nat,a= .int .i64 k/\k<=xn/\Below w1.heap.size w1 wr) (λa _=>xn-(intOf a).toNat);case atStart=>exact ⟨0,rfl,by omega,Below.refl _ _⟩
  case round=>
   obtain ⟨k,rfl,hk,hb⟩:=hrel;have jo:=Below.ext Es hb;have R2:=aA ((hb.block w.heap.size (by have:=SW.out;omega)).trans R1.out);have q5:=Ba R2.out;by_cases af:k<xn
   ·obtain ⟨b,off,y,u,rfl,hS,fe,hu,og,Am⟩:=ju.at_ eV (j:=k) af (by omega);have HC:=aA (λi u h=>(jo.cell (p:=⟨b,off+k*6+i,none⟩) fe).trans (Am i u h));have hU:=wj.out u (List.mem_of_getElem? hu);have Hc:=aA (ih y u _ wr V i s k0 iz jw (HV.out wr jo) (ab.keep (ae.of_below jo) _ _ _ og) hU);clear hu Am hU og;go_wp2_with (refine aK (t:=244) (A:=⟨b,off+k*6,none⟩) rfl rfl rfl (iY HC.out) ?_)
    refine Hc.out.mono ?_;rintro e w2 ⟨rfl,ar⟩;go_wp2;go_roundw;case rel=>exact ⟨k+1,by go_num,by omega,Below.ext hb ar⟩
    case measure=>simp [intOf];omega
   ·obtain rfl:k=xn:=by omega
    go_wp2;go_ret;exact ⟨rfl,jo⟩):p:=h
theorem Tzan {p:Prop} (h:p:=by
  clear hf en;go_wp2_with (refine lD (t:=36) E6 ?_)
  refine HCB.out.mono ?_;rintro e wa ⟨g,V,q,x,rfl,Lv,ba⟩;obtain ⟨Wb,su,_,kb,Sb,Rb⟩:=bX wa wa #[.int .i64 g.kind,.int .i64 g.stamp,.int .i64 g.base,.int .i64 g.under] 90 (Below.refl _ _);obtain ⟨bg,pj⟩:=eX wa.heap.size;rw [<-pj] at Rb;have Tc:=aA pj;have fe:=Below.ext ag (Below.ext ba kb);have qg:=fi Rb.out;clear pj;rcases Lv with ⟨p,oi,rfl,rfl,_⟩|⟨oi,fa,rfl,rfl,rfl⟩
  case inr=>
   have dx:((x:Int)==0)=false:=by simpa using fa
   have HN:=aA (show bM (fs.take (iv+1))=z by have:=lf.out;rw [oi] at this;rw [this];show max z 0=z;omega);clear oi fa qg;go_upto_region 20 with (refine sN ?_)
   try dsimp only
   rw [<-su,<-Tc.out];clear su;refine Tyal ?_;go_wp2;go_roundw;case rel=>exact ⟨iv+1,by go_num,by omega,by rw [HN.out],fe⟩
   case measure=>simp [intOf];omega
  have Jd:=jP oi;have Lp:=Jd.1 g.stamp (by simp [Hd.l]);unfold av at Lp;have HN:=aA (show bM (fs.take (iv+1))=max z g.stamp by have:=lf.out;rw [oi] at this;exact this);clear oi Jd;by_cases hzg:z<g.stamp
  ·have dz:decide (z<g.stamp)=true:=by simpa using hzg
   have HM:=aA (show bM (fs.take (iv+1))=g.stamp by rw [HN.out];omega);go_upto_region 20 with (refine sN ?_)
   try dsimp only
   rw [<-su,<-Tc.out];clear su;refine Tyal ?_;go_wp2;go_roundw;case rel=>exact ⟨iv+1,by go_num,by omega,by rw [HM.out],fe⟩
   case measure=>simp [intOf];omega
  ·have dz:decide (z<g.stamp)=false:=by simpa using hzg
   have HM:=aA (show bM (fs.take (iv+1))=z by rw [HN.out];omega);go_upto_region 20 with (refine sN ?_)
   try dsimp only
   rw [<-su,<-Tc.out];clear su;refine Tyal ?_;go_wp2;go_roundw;case rel=>exact ⟨iv+1,by go_num,by omega,by rw [HM.out],fe⟩
   case measure=>simp [intOf];omega):p:=h
theorem Tzao {p:Prop} (h:p:=by
  obtain ⟨k,rfl,hk,HT,ag⟩:=hrel;by_cases af:k<n1
  ·obtain ⟨b1,o1,x1,rfl,_,al,ev,ej⟩:=(h1.ext ag).at_ dA (j:=k) (by have:=zp.out;omega) (by omega);obtain ⟨b2,o2,x2,rfl,_,ar,ew,ed⟩:=(h2.ext ag).at_ dA (j:=k) (by have:=oc.out;omega) (by omega);obtain ⟨u0,u1⟩:=x1;obtain ⟨v0,v1⟩:=x2;have p0:wr.cell? ⟨b1,o1+k*2,none⟩=some (.int .i64 u0):=ej 0 _ rfl
   have q0:wr.cell? ⟨b2,o2+k*2,none⟩=some (.int .i64 v0):=ed 0 _ rfl
   have p1:wr.cell? ⟨b1,o1+k*2+1,none⟩=some (.int .i64 u1):=ej 1 _ rfl
   have q1:wr.cell? ⟨b2,o2+k*2+1,none⟩=some (.int .i64 v1):=ed 1 _ rfl
   have Dk:=aA ev;have Dj:=aA ew;clear ev ew ej ed;by_cases h0:u0=v0;case neg=>
    have d0:(u0==v0)=false:=by simpa using h0
    have an:=aA (show decide (l=m)=false by simpa using cF Dk.out Dj.out (λe=>h0 (by cases e;rfl)));clear h0;go_wp2_with fail;refine Tyab ?_;go_wp2_with fail;go_wp2;go_ret;rw [an.out];exact ⟨rfl,ag.drew⟩
   subst h0;by_cases h1:u1=v1;case neg=>
    have d1:(u1==v1)=false:=by simpa using h1
    have an:=aA (show decide (l=m)=false by simpa using cF Dk.out Dj.out (λe=>h1 (by cases e;rfl)));clear h1;go_wp2_with fail;refine Tyab ?_;go_wp2_with fail;go_wp2;go_ret;rw [an.out];exact ⟨rfl,ag.drew⟩
   subst h1;have HS:=aA (fR HT.out Dk.out Dj.out rfl);go_wp2_with fail;refine Tyab ?_;go_wp2_with fail;go_wp2;go_roundw;case rel=>exact ⟨k+1,by go_num,by omega,HS,ag.drew⟩
   case measure=>simp [intOf];omega
  ·obtain rfl:k=n1:=by omega
   have an:=aA (show decide (l=m)=true by
    have:=HT.out;rw [List.take_of_length_le (by have:=zp.out;omega),List.take_of_length_le (by have:=oc.out;omega)] at this;simpa using this)
   go_wp2;go_ret;rw [an.out];exact ⟨rfl,ag⟩):p:=h
theorem Tzap {p:Prop} (h:p:=by
  exact (((Below.refl _ _).alloc (Nat.le_refl _) _).block w.heap.size (by simp)).trans (heap_alloc_new w _)):p:=h
theorem Tzaq {p:Prop} (h:p:=by
  go_wp2_with (refine aK (t:=244) (A:=⟨ba,oa+k*18+4,none⟩) rfl rfl rfl (vI (HC.out w1 b1)) ?_)
  refine (HP.out _ b1).mono ?_;rintro e w2 ⟨rfl,b2⟩;have y2:=Below.ext b1 b2;go_wp2_with (refine aK (t:=244) (A:=⟨ba,oa+k*18+10,none⟩) rfl rfl rfl (vH (HC.out w2 y2)) ?_)
  refine (HV.out _ y2).mono ?_;rintro e w3 ⟨rfl,b3⟩;have y3:=Below.ext y2 b3;have c3:w3.cell? ⟨ba,oa+k*18+16,none⟩=some (.slice x.A x.n x.c):=HC.out w3 y3 16 _ rfl
  go_wp2_with fail;refine (HB.out _ y3).mono ?_;rintro e w4 ⟨rfl,b4⟩;have y4:=Below.ext y3 b4;have c4:w4.cell? ⟨ba,oa+k*18+17,none⟩=some (.slice x.B x.m x.d):=HC.out w4 y4 17 _ rfl
  go_wp2_with fail;refine (HE.out _ y4).mono ?_;rintro e w5 ⟨rfl,b5⟩;go_wp2;go_roundw;case rel=>exact ⟨k+1,by go_num,by omega,Below.ext hb (Below.ext y4 b5)⟩
  case measure=>simp [intOf];omega):p:=h
theorem Tzar {p:Prop} (h:p:=by
  have kk:ae (W9.heap.size<=·) kc (kc.setRow (w.heap.size+3) #[.slice B1 m1 d1,.slice B2 m2 d2,.slice B3 m3 d3,.slice B4 m4 d4]):=λb hb h=>k6.block b hb (by have h2:W9.heap.size<=b:=h;simp;omega)
  have Zj:ae (λb=>((Ss b/\b<w.heap.size)∨w.heap.size+4<=b)/\b<b5) kc (kc.setRow (w.heap.size+3) #[.slice B1 m1 d1,.slice B2 m2 d2,.slice B3 m3 d3,.slice B4 m4 d4]):=λb hb h=>k6.block b hb (by have h2:=h.1;simp;omega)
  have up:∀b,b<(kc.setRow (w.heap.size+3) #[.slice B1 m1 d1,.slice B2 m2 d2,.slice B3 m3 d3,.slice B4 m4 d4]).heap.size->W9.heap.size<=b->Ss b∨w.heap.size<=b:=λb _ h=>Or.inr (by omega)
  refine ⟨s',B1,m1,d1,B2,m2,d2,B3,m3,d3,B4,m4,d4,rfl,Gt,⟨(g1.keep kk).mono up,(g2.keep Zj).mono (λb _ h=>h.1.elim (λh2=>Or.inl h2.1) (λh2=>Or.inr (by omega))),(g3.keep kk).mono up,(g4.keep kk).mono up⟩,ou,iz,Ds,?_⟩;exact (Below.ext b9 jc).grown k6 (by omega) (λb hb=>by cases hb;omega)):p:=h
theorem Tzas {p:Prop} (h:p:=by
  subst h0;have ep:eS s 0=0:=rfl;rw [ep];have q:=bn R.out;go_wp2_with (refine aK (t:=199) (A:=⟨V,0,none⟩) rfl rfl rfl (fU (nm:=(ByteArray.mk #[120])) (z:=0) (y:=i) R.out rfl) ?_)
  refine Tyas ?_;rintro e w2 ⟨rfl,ar⟩;have e1:max (0:Int) 1=1:=by omega
  rw [e1];clear e1;go_wp2;go_roundw;case rel=>exact ⟨1,rfl,by omega,(by show _=Value.int .i64 (1);exact congrArg _ (by omega)),Below.ext hb ar⟩
  case measure=>simp [intOf]):p:=h
theorem Tzat {p:Prop} (h:p:=by
  go_upto_region 33 with fail;have UL:=aA P9.row;have Ju:=P9.ext (Below.refl _ v9).drew;have Qw:=aA (aV _ g 12 v9.drew Ju.cod (by omega) (by omega));go_wp2_with fail;refine aH ((λw' =>w'.heap[bd]? =some (.cells #[.slice A9 4 c9] 36 (0,0)))) (by kernel_rfl) (by kernel_rfl) (UL.out) ?_;refine Tyap ?_;go_wp2_with fail;refine Qw.out.mono ?_;rintro e u1 ⟨m9,rfl,hm9,Jr,g9⟩;have PA:=Ju.next Jr g9;have yy:=aA (gH A9 4 c9 vt _ u1 PA.dsk (by omega) PA.ok (m9:Int) a2 len2 Dd zs _ (HZS.out.ext PA.bel) HZI.out);clear P9 Ju Jr g9 Qw;go_wp2_with fail;refine Tybo ?_;go_wp2_with fail;refine yy.out.mono ?_;rintro e u2 ⟨rfl,YB⟩;have PB:=PA.ext YB;clear PA yy;go_wp2_with fail;refine Tybp ?_;go_wp2;go_roundw;case rel=>exact ⟨i+1,A9,c9,vt,by go_num,by omega,PB⟩
  case measure=>simp [intOf];omega):p:=h
theorem Tzau {p:Prop} (h:p:=by
  have jv:=aV B g 200 w1 td (by omega) (by omega);rw [show ((200:Nat):Int)=200 from rfl] at jv;have wh:=aA jv;clear jv;go_upto_region 13 with fail;go_wp2_with fail;refine wh.out.mono ?_;rintro e w2 ⟨z,rfl,hz,ly,da⟩;have R2:=aA ((aO da al Km).trans R1.out);have xf:=aE vf da;have a9:=gB (bU (n+1)) (xv:=⟨1,1+(z:Int),(ByteArray.mk #[]),0,0,none,0,0⟩) (t:= .mk (1) (1+(z:Int)) (ByteArray.mk #[]) 0 0 []) Ib.out ly ur xf ⟨rfl,rfl,rfl,rfl,rfl,cw.nil_ _ _ _ _⟩ #[.int .i64 1,.int .i64 (1+(z:Int)),.string (ByteArray.mk #[]),.int .i64 0,.int .i64 0,.slice none 0 0];go_wp2_with (refine sR R2 ?_)
  refine rC R2 ?_;exact ⟨⟨1,1+(z:Int),(ByteArray.mk #[]),0,0,none,0,0⟩,.mk (1) (1+(z:Int)) (ByteArray.mk #[]) 0 0 [],rfl,⟨rfl,rfl,by simp,.inl ⟨rfl,by omega,by omega,rfl,rfl⟩⟩,a9.1,a9.2.1,a9.2.2⟩):p:=h
theorem Tzav {p:Prop} (h:p:=by
  skip;have jv:=aV B g 5 w1 td (by omega) (by omega);rw [show ((5:Nat):Int)=5 from rfl] at jv;have wh:=aA jv;clear jv;go_upto_region 5 with fail;go_wp2_with fail;refine wh.out.mono ?_;rintro e w2 ⟨z,rfl,hz,ly,da⟩;have R2:=aA ((aO da al Km).trans R1.out);have xf:=aE vf da;have a9:=gB (bU (n+1)) (xv:=⟨1,(z:Int),(ByteArray.mk #[]),0,0,none,0,0⟩) (t:= .mk (1) ((z:Int)) (ByteArray.mk #[]) 0 0 []) Ib.out ly ur xf ⟨rfl,rfl,rfl,rfl,rfl,cw.nil_ _ _ _ _⟩ #[.int .i64 1,.int .i64 (z:Int),.string (ByteArray.mk #[]),.int .i64 0,.int .i64 0,.slice none 0 0];go_wp2_with (refine sR R2 ?_)
  refine rC R2 ?_;exact ⟨⟨1,(z:Int),(ByteArray.mk #[]),0,0,none,0,0⟩,.mk (1) ((z:Int)) (ByteArray.mk #[]) 0 0 [],rfl,⟨rfl,rfl,by simp,.inl ⟨rfl,by omega,by omega,rfl,rfl⟩⟩,a9.1,a9.2.1,a9.2.2⟩):p:=h
theorem Tzaw {p:Prop} (h:p:=by
  skip;have jv:=aV B g 3 w1 td (by omega) (by omega);rw [show ((3:Nat):Int)=3 from rfl] at jv;have wh:=aA jv;clear jv;go_upto_region 7 with fail;go_wp2_with fail;refine wh.out.mono ?_;rintro e w2 ⟨z,rfl,hz,ly,da⟩;have R2:=aA ((aO da al Km).trans R1.out);have xf:=aE vf da;have q2:w2.cell? ⟨0,z,none⟩=some (.string (bP z)):=(G1.grown da th).scal hz
  have a9:=gB (bU (n+1)) (xv:=⟨2,0,bP z,0,0,none,0,0⟩) (t:= .mk 2 0 (bP z) 0 0 []) Ib.out ly ur xf (⟨rfl,rfl,rfl,rfl,rfl,cw.nil_ _ _ _ _⟩) #[.int .i64 2,.int .i64 0,.string (bP z),.int .i64 0,.int .i64 0,.slice none 0 0];go_wp2_with (refine sR R2 ?_)
  refine rC R2 ?_;exact ⟨⟨2,0,bP z,0,0,none,0,0⟩,.mk 2 0 (bP z) 0 0 [],rfl,⟨rfl,rfl,(by simp),.inr (.inl ⟨rfl,rfl,lV z,rfl⟩)⟩,a9.1,a9.2.1,a9.2.2⟩):p:=h
theorem Tzax {p:Prop} (h:p:=by
  subst h6;obtain ⟨W5,nj,b5,s5,r5⟩:=gO w1 #[.int .i64 4,.int .i64 5,.int .i64 6] 3;have S5:=aA s5;have R5:=aA r5;have Iu:=td.ext b5;clear s5 r5;have jv:=aV B g 3 W5 Iu (by omega) (by omega);rw [show ((3:Nat):Int)=3 from rfl] at jv;have wh:=aA jv;clear jv;go_upto_region 11 with fail;go_wp2_with fail;rw [<-nj];clear nj;refine wh.out.mono ?_;rintro e w2 ⟨z,rfl,hz,ly,da⟩;have R2:=aA ((aO da (by have:=S5.out;omega) Km).trans ((b5.block b4 al).trans R1.out));have xf:=aE (aE vf (aN b5 _)) da;have hg1lt:=td.lt;have r2:=(aO da (show w1.heap.size<W5.heap.size by have:=S5.out;omega) (by omega)).trans R5.out;have q2:w2.cell? ⟨w1.heap.size,z,none⟩=some (.int .i64 (4+(z:Int))):=by
   rw [cell_of_row _ _ _ _ _ _ r2];match z,hz with
   |0,_=>rfl
   |1,_=>rfl
   |2,_=>rfl
  clear r2;have a9:=gB (bU (n+1)) (xv:=⟨4+(z:Int),0,(ByteArray.mk #[]),0,0,none,0,0⟩) (t:= .mk (4+(z:Int)) 0 (ByteArray.mk #[]) 0 0 []) Ib.out ly ur xf (⟨rfl,rfl,rfl,rfl,rfl,cw.nil_ _ _ _ _⟩) #[.int .i64 (4+(z:Int)),.int .i64 0,.string (ByteArray.mk #[]),.int .i64 0,.int .i64 0,.slice none 0 0];go_wp2_with (refine sR R2 ?_)
  refine rC R2 ?_;exact ⟨⟨4+(z:Int),0,(ByteArray.mk #[]),0,0,none,0,0⟩,.mk (4+(z:Int)) 0 (ByteArray.mk #[]) 0 0 [],rfl,⟨rfl,rfl,(by simp),.inr (.inr (.inl ⟨by omega,by omega,rfl,rfl,rfl⟩))⟩,a9.1,a9.2.1,a9.2.2⟩):p:=h
theorem Tzay {p:Prop} (h:p:=by
  obtain ⟨k,rfl,hk,HT,ag⟩:=hrel;by_cases af:k<n1
  ·obtain ⟨b1,o1,x1,rfl,_,al,ev,ej⟩:=(h1.ext ag).at_ cD (j:=k) (by have:=zp.out;omega) (by omega);obtain ⟨b2,o2,x2,rfl,_,ar,ew,ed⟩:=(h2.ext ag).at_ cD (j:=k) (by have:=oc.out;omega) (by omega);have p0:wr.cell? ⟨b1,o1+k,none⟩=some (.int .i64 x1):=by have:=ej 0 _ rfl;rw [Nat.mul_one] at this;exact this
   have q0:wr.cell? ⟨b2,o2+k,none⟩=some (.int .i64 x2):=by have:=ed 0 _ rfl;rw [Nat.mul_one] at this;exact this
   have Dk:=aA ev;have Dj:=aA ew;clear ev ew ej ed;by_cases hx:x1=x2
   ·have dx:(x1 != x2)=false:=by simpa using hx
    have HS:=aA (fR HT.out Dk.out Dj.out hx);clear hx;go_wp2_with fail;refine Tyab ?_;go_wp2_with fail;go_wp2;go_roundw;case rel=>exact ⟨k+1,by go_num,by omega,HS,ag.drew⟩
    case measure=>simp [intOf];omega
   ·have dx:(x1 != x2)=true:=by simpa using hx
    have an:=aA (show decide (l=m)=false by simpa using cF Dk.out Dj.out hx);clear hx;go_wp2_with fail;refine Tyab ?_;go_wp2_with fail;go_wp2;go_ret;rw [an.out];exact ⟨rfl,ag.drew⟩
  ·obtain rfl:k=n1:=by omega
   have an:=aA (show decide (l=m)=true by
    have:=HT.out;rw [List.take_of_length_le (by have:=zp.out;omega),List.take_of_length_le (by have:=oc.out;omega)] at this;simpa using this)
   go_wp2;go_ret;rw [an.out];exact ⟨rfl,ag⟩):p:=h
theorem Tzaz {p:Prop} (h:p:=by
  refine aP ?_;go_wp2_with fail;obtain ⟨w1,iy⟩:=eX W.drew;rw [<-iy];have al:Below W.heap.size W w1:=by rw [iy];exact y1
  have Es :=Below.ext aw al;have R1:=aA ((al.block w.heap.size (by have:=SW.out;omega)).trans R0.out);clear iy;go_wp2;go_loopw [4] (λa wr=>∃k:Nat,a= .int .i64 k/\k<=0/\Below w1.heap.size w1 wr) (λa _=>0-(intOf a).toNat);case atStart=>exact ⟨0,rfl,by omega,Below.refl _ _⟩
  case round=>
   obtain ⟨k,rfl,hk,hb⟩:=hrel;have jo:=Below.ext Es hb;have R2:=aA ((hb.block w.heap.size (by have:=al.size;have:=SW.out;omega)).trans R1.out);have q5:=Ba R2.out;obtain rfl:k=0:=by omega
   go_wp2;go_ret;exact ⟨rfl,jo⟩):p:=h
theorem Tza0 {p:Prop} (h:p:=by
  subst h1;have ep:eS s 1=1:=rfl;rw [ep];have q:=lj R.out;go_wp2_with (refine aK (t:=199) (A:=⟨V,3,none⟩) rfl rfl rfl (fU (nm:=(ByteArray.mk #[97])) (z:=s) (y:=0) R.out rfl) ?_)
  refine Tyas ?_;rintro e w2 ⟨rfl,ar⟩;have e1:max (s:Int) 1=s:=by omega
  rw [e1];clear e1;go_wp2;go_roundw;case rel=>exact ⟨2,rfl,by omega,(by show _=Value.int .i64 (1+s);exact congrArg _ (by omega)),Below.ext hb ar⟩
  case measure=>simp [intOf]):p:=h
theorem Tza1 {p:Prop} (h:p:=by
  refine Tyae ?_;refine Tyao ?_;refine aP ?_;go_wp2_with fail;obtain ⟨w1,iy⟩:=eX W.drew;rw [<-iy];have al:Below W.heap.size W w1:=by rw [iy];exact y1
  have Es :=Below.ext aw al;have R1:=aA ((al.block w.heap.size (by have:=SW.out;omega)).trans R0.out);clear iy;go_wp2;go_loopw [4] (λa wr=>∃k:Nat,a= .int .i64 k/\k<=1/\Below w1.heap.size w1 wr) (λa _=>1-(intOf a).toNat);case atStart=>exact ⟨0,rfl,by omega,Below.refl _ _⟩
  case round=>
   obtain ⟨k,rfl,hk,hb⟩:=hrel;have jo:=Below.ext Es hb;have R2:=aA ((hb.block w.heap.size (by have:=al.size;have:=SW.out;omega)).trans R1.out);have q5:=Ba R2.out;by_cases af:k<1
   ·obtain ⟨b,off,y,u,rfl,hS,fe,hu,og,Am⟩:=ju.at_ eV (j:=k) af (by omega);have HC:=aA (λi u h=>(jo.cell (p:=⟨b,off+k*6+i,none⟩) fe).trans (Am i u h));have hU:=wj.out u (List.mem_of_getElem? hu);have Hc:=aA (ih y u _ wr (ab.keep (ae.of_below jo) _ _ _ og) hU);clear hu Am hU og;go_wp2_with (refine aK (t:=244) (A:=⟨b,off+k*6,none⟩) rfl rfl rfl (iY HC.out) ?_)
    refine Hc.out.mono ?_;rintro e w2 ⟨rfl,ar⟩;go_wp2;go_roundw;case rel=>exact ⟨k+1,by go_num,by omega,Below.ext hb ar⟩
    case measure=>simp [intOf];omega
   ·obtain rfl:k=1:=by omega
    go_wp2;go_ret;exact ⟨rfl,jo⟩):p:=h
theorem Tza2 {p:Prop} (h:p:=by
  have s9:=ai.size;have Q4x:=gT gS Q49;have Q0x:=gT gS Q09;have zl:=Ck.keepR (bU n) (λb gv hs=>gS.block b gv (by simp;omega));have jc:Below w.heap.size w kc:=gf.grown gS gf.size (λo e=>by cases e;omega);have YN:=aA (λv hv=>(List.mem_append.1 hv).elim (Dr.out v) (λh=>by rw [List.mem_singleton] at h;subst h;exact hrz):∀v∈us++ [u],Jt n v);clear ni ao ai ck ho ze Ck Nf Q49 Q09;go_upto_region 13 with fail;try rw [<-jb]
  clear jb;go_wp2;go_roundw;case rel=>exact ⟨k+1,by go_num,by omega,Q0x,Q4x,A9,c9,Q6x,us++ [u],zl,YN,jc⟩
  case measure=>simp [intOf];omega):p:=h
theorem Tza3 {p:Prop} (h:p:=by
  go_upto_region 15 with fail;go_wp2_with (refine sR E7 ?_)
  refine rU E7 ?_;exact ⟨⟨0,0,0,0⟩,0,9,rfl,an.out,ea.grown (aC _ _ _) ea.size (λo e=>by cases e;omega)⟩):p:=h
theorem Tza4 {p:Prop} (h:p:=by
  go_wp2;refine ⟨rfl,?_⟩;unfold aZ;rw [a9];exact ⟨rfl,ja⟩):p:=h
theorem Tza5 {p:Prop} (h:p:=by
  clear hg F;go_enter func159,ntmps159;go_upto_region 1 with fail;rw [<-hW];clear hW;go_wp2;go_ret;exact ⟨rfl,bW⟩):p:=h
theorem Tza6 {p:Prop} (h:p:=by
  by_cases g1:b=0
  ·have d1:(b != 0)=false:=by simpa using g1
   have d1' :(b==0)=true:=by simpa using g1
   go_enter func209,ntmps209;go_wp2;go_ret;exact ⟨by simp [dT,L9,g0,g1],rfl⟩
  ·have d1:(b != 0)=true:=by simpa using g1
   have d1' :(b==0)=false:=by simpa using g1
   go_enter func209,ntmps209;go_wp2;go_ret;exact ⟨by simp [dT,L9,g0,g1],rfl⟩):p:=h
theorem Tza7 {p:Prop} (h:p:=by
  have M2:=HM.out w2 y2;obtain ⟨m1,m2,m3⟩:=M2.put j vv ivv;obtain ⟨bz,oz,z0,ZG,_,_,rf,hcz⟩:=M2.cel.recs.at_ cD (j:=j) (by have:=Qy.out;omega) (by omega);cases ZG;have qc:w2.cell? ⟨g,j,none⟩=some (.int .i64 z0):=by
   have:=hcz 0 _ rfl;rw [Nat.mul_one,Nat.zero_add] at this;exact this
  have fc:w2.frozen? ⟨g,j,none⟩=false:=YF.frozen M2.cel j
  have hgx:g≠w.heap.size:=by omega
  have RP3:=aA m1.row;have RX3:=aA ((cL w2 g j (.int .i64 vv) (show w.heap.size≠g by omega)).trans (Tb.out w2 y2));have Ff:=aA m1;have Vh:=aA (show ae F w (w2.setCell ⟨g,j,none⟩ (.int .i64 vv)) from λq hq h=>(cL w2 g j _ (λe=>(hF q h).2.2.1 (by rw [e];rfl))).trans (WB.out w2 y2 q hq h));have HF1:=aA ((((hF.size bW.size).size y2.size)).size m2.size);have HB1:=aA ((bW.mono qy).trans ((y2.mono (by have:=bW.size;omega)).trans m2));clear hcz rf m1 m2 m3;go_wp2_with fail;refine aD (⟨M2.row,Tb.out w2 y2⟩) ?_;refine Tyah ?_;go_wp2_with fail;refine aD ⟨RP3.out,RX3.out⟩ ?_;refine Tyan ?_;go_wp2;go_end0;exact ⟨rfl,⟨_,_,_,_,_,_,Ff.out,HF1.out⟩,HB1.out,Vh.out⟩):p:=h
theorem Tza8 {p:Prop} (h:p:=by
  have tw:∀b,(Value.slice A' k c').ownBlock=some b->w.heap.size<=b:=λb e=>(World.ownsRow.lt dh _ e).1
  have Yg:=(sf.ext ha).grown ai (λb hb=>by have:=tw b hb;omega);have hG9:=kL (bD (bD hg da) (kN ha (some r))) ai (λb hb=> .inl (tw b hb));refine ⟨⟨k+1,q2,A9,c9,acc++ [a],by congr 1,rfl,by omega,ao,Yg,hG9,lf.out⟩,by simp [intOf];omega⟩):p:=h
theorem Tza9 {p:Prop} (h:p:=by
  have zk:=kX (n:=9-i) (u:=u) HX.out (show (i=9/\1<x.toNat)∨(0<i/\x.toNat=0) by omega);rw [show 9-i+1=10-i by omega,HE.out] at zk;have sk:=HSE.out _ zk;have Hse:=aA sk;clear zk sk;go_wp2_with fail;rw [<-HWS.out];have nx:=mT r 9 0 _ _ wS.drew.drew Qt.out;rw [show ((9:Nat):Int)=9 from rfl] at nx;refine nx.mono ?_;rintro e w5 ⟨rfl,Nv,o8⟩;go_wp2;go_ret;rw [Hse.out];exact ⟨rfl,⟨by omega,_,_,Nv⟩,bD (aU (aU Mn.out)) o8⟩):p:=h
theorem Tzba {p:Prop} (h:p:=by
  intro k o' hk hL e he hb;refine getD_set_true ?_;by_cases Si:j=k
  ·subst Si;rw [j5] at hk;cases hk;exact j8 e he hb
  ·rw [getD_set_ne false Si] at hL;exact gy k o' hk hL e he hb):p:=h
theorem Tzbb {p:Prop} (h:p:=by
  go_enter func209,ntmps209;go_wp2;go_ret;exact ⟨by simp [dT,L9,g],rfl⟩):p:=h
theorem Tzbc {p:Prop} (h:p:=by
  subst h2;have ep:eS s 2=1+s:=rfl;rw [ep];have q:=Zk R.out;go_wp2_with (refine aK (t:=199) (A:=⟨V,6,none⟩) rfl rfl rfl (fU (nm:=(ByteArray.mk #[121])) (z:=0) (y:=0) R.out rfl) ?_)
  refine Tyas ?_;rintro e w2 ⟨rfl,ar⟩;have e1:max (0:Int) 1=1:=by omega
  rw [e1];clear e1;go_wp2;go_roundw;case rel=>exact ⟨3,rfl,by omega,(by show _=Value.int .i64 (2+s);exact congrArg _ (by omega)),Below.ext hb ar⟩
  case measure=>simp [intOf]):p:=h
theorem Tzbd {p:Prop} (h:p:=by
  refine rC Hz2 ?_;have Jk:Below w.heap.size w (((w1.setCell ⟨g,k*2,none⟩ (.slice x.A1 x.n1 x.c1)).setCell ⟨g,k*2+1,none⟩ (.slice x.A2 x.n2 x.c2)).setRow (w.heap.size+1+1) #[.slice (some ⟨g,0,none⟩) n c1]):=
   Below.setRow (Below.grow (Below.ext aw al) Hgr2.out (by have:=jz.out;omega)) (by omega) _
  refine ⟨_,_,rfl,⟨xs.set k x,a7.mono (a8.recs (a8.kept (row:=some (w.heap.size+1+1)) Qm.out ⟨rfl,rfl,rfl,by simp,λj hj fb=>setRow_other _ _ _ _ (by simpa using fb)⟩ (.inr (λe=> ?_)))) (λ_ _ h=> .inr (by have:=h.1;have:=jz.out;omega)),by simp [oo],λi y h hy hh=> ?_⟩,Jk⟩
  ·have:=(World.ownsRow.lt Qm.out _ e).1;have:=jz.out;omega
  ·by_cases hik:k=i
   ·subst hik;rw [List.getElem?_set_self (by omega)] at hy hh;cases hy;cases hh;exact (hf.ext Jk).mono (λ_ _ h=> .inl h)
   ·rw [List.getElem?_set_ne hik] at hy hh;exact ((fw i y h hy hh).ext Jk).mono (λ_ _ h=> .inl h)):p:=h
theorem Tzbe {p:Prop} (h:p:=by
  unfold Oper.quietAt at this;cases hr:(execOp a.eval o).run P w' with
  |halt x w1=>rw [hr] at this;exact this.elim
  |ok n w1=>
   obtain ⟨u,rfl⟩:=zB hk a.eval w' n w1 hr;rw [hr] at this;obtain ⟨e1,e2⟩:=this;rw [e1,e2]):p:=h
theorem Tzbf {p:Prop} (h:p:=by
  go_wp2_with fail;refine Tyad ?_;go_wp2_with fail;refine Tyaj ?_;go_wp2_with fail;refine Tyam ?_;go_wp2_with fail;go_wp2;refine ⟨rfl,?_⟩;unfold aZ;rw [a9];exact ⟨rfl,aU fj⟩):p:=h
theorem Tzbg {p:Prop} (h:p:=by
  by_cases uq:j=i
  ·subst uq;have af:j<listed.size:=by omega
   constructor
   ·intro hm;exact absurd hm J8
   ·intro hm;simp [af] at hm
  ·rw [getD_set_ne true uq,<-et i];simp [Ne.symm uq]):p:=h
theorem Tzbh {p:Prop} (h:p:=by
  have hxe6:∀(i:Nat) (x:Ix) (t:Pg),xs[i]? =some x->(iB a b k)[i]? =some t->x.num=t.num/\a7 bB (λb=>w.heap.size<=b/\(Value.slice P m pc).ownBlock≠some b) (w5.alloc (.cells #[.int .i64 (k:Int),.slice Q my qc] 163)) (.slice x.A x.n x.c) t.cells:=λi x t hx ht=>⟨(Gg i x t hx ht).1,(Gg i x t hx ht).2.ext k6⟩
  clear aj Gg hyv o8 hq0 hq;go_wp2_with (refine eY 38 rfl ?_)
  refine ⟨?_⟩;refine Tya5 ?_;intro A9 c9 w9 ao ai ck gq gp;have hP9:=cg.push ⟨oo,hxe6⟩ ⟨(k:Int),Q,my,qc⟩ ⟨(k:Int),cR b k⟩ rfl hqr ao ai ck;rw [<-hd.out] at hP9;have gf:Below w.heap.size w w9:=ru.grow ai il (Nat.le_refl _) il.size;go_wp2;go_roundw;case rel=>exact ⟨k+1,A9,m+1,c9,rfl,by go_num,by omega,by omega,hP9,gf⟩
  case measure=>simp [intOf];omega):p:=h
theorem Tzbi {p:Prop} (h:p:=by
  go_wp2_with fail;refine Tyab ?_;go_wp2_with fail;go_wp2;go_roundw;case rel=>exact ⟨k+1,by go_num,by omega,ag.drew⟩
  case measure=>simp [intOf];omega):p:=h
theorem Tzbj {p:Prop} (h:p:=by
  cases hs:sr with
  |ok q=>exact (qj ⟨eu,q,hs⟩).elim
  |error x=>
   obtain ⟨h0,u,pp,h1⟩:RS (w.heap.size+1) wr (w.heap.size+1) L (.error x):=by rw [<-hs];exact hK.rk.rd
   have ce:=gn h1;have d' :((x:Int)==0)=false:=by simp;omega
   clear h1 qj a9 tz hK nd aj;go_wp2;go_meet;case rel=>exact n8.out):p:=h
theorem Tzbk {p:Prop} (h:p:=by
  simp only [show (2:Nat)=0↔False by decide,show (2:Nat)=1↔False by decide,if_false] at du;have hlen:=du.len.1;rw [List.length_append,yx.out,Hm1.out] at hlen;subst hlen;go_wp2;go_ret;exact ⟨_,_,rfl,du,ag⟩):p:=h
theorem Tzbl {p:Prop} (h:p:=by
  have dc:decide ((x.toNat:Int)<128)=false:=by simp;omega
  have qj:=oA (n:=9-i) (u:=u) HX.out (show¬((i=9/\1<x.toNat)∨(0<i/\x.toNat=0)) by omega) (by omega);rw [show 9-i+1=10-i by omega,HE.out] at qj;have Hgo:=aA qj;clear qj;go_wp2;have ho:=jQ hi hu Ik (by omega) _ rfl;have eu:=oH hi hu (x:=x.toNat%128) (by omega);rw [show x.toNat%128=x.toNat-128 by omega] at ho eu;rw [<-HWS.out];refine ⟨⟨i+1,u+(x.toNat-128)*2^(7*i),q+1,by congr 1,uR ho,by omega,eu,(YR.out).drew.drew,aU (aU Mn.out),?_⟩,by simp [intOf];omega⟩;rw [show 10-(i+1)=9-i by omega];exact Hgo.out.symm):p:=h
theorem Tzbm {p:Prop} (h:p:=by
  clear rf;go_upto_region 18 with fail;go_wp2_with fail;refine HL3.out.mono ?_;rintro e w4 ⟨r4,ok,rfl,im,Sk,ia,Gu⟩;obtain ⟨f1,f2,f3⟩:=n8.out w4 _ Sk (ar.trans (Bm.trans ia)) (O8.tr Gu (Nat.le_trans Ds Aj));cases ok with
  |true=>
   have HU4:=aA (HUPc.out r4 im);go_wp2;go_roundg (gk-1);case rel=>exact ⟨k+1,_,by go_num,by omega,by omega,HU4,f1,f2,f3⟩
   case measure=>omega
  |false=>
   have HU4:=aA (HUPf.out r4 im);go_wp2;go_ret;exact ⟨r4,false,rfl,HU4.out,f1,f2,f3⟩):p:=h
theorem Tzbn {p:Prop} (h:p:=by
  have dc:decide ((x.toNat:Int)<128)=true:=by simp;omega
  have ph:=jD (n:=9-i) (u:=u) HX.out (show¬((i=9/\1<x.toNat)∨(0<i/\x.toNat=0)) by omega) (by omega);rw [show 9-i+1=10-i by omega,HE.out] at ph;have YJ:=aA ph;clear ph;go_wp2;have hv:zd (u+x.toNat*2^(7*i))=_:=(yU _ (by have:=iU (c:=x.toNat) hi hu Ik (by omega);rw [Nat.mod_eq_of_lt (by omega)] at this;exact this)).symm;have ho:=jQ hi hu Ik (by omega) _ rfl;rw [Nat.mod_eq_of_lt (by omega:x.toNat<128)] at ho;rw [<-ho] at hv;go_ret;unfold aZ aQ;rw [YJ.out];exact ⟨⟨_,rfl,EF hv⟩,(YR.out).drew.drew,aU (aU Mn.out)⟩):p:=h
theorem Tzbo {p:Prop} (h:p:=by
  go_upto_region 1 with fail;rw [<-hW];clear hW;go_wp2_with (refine lD (t:=36) R0 ?_)
  refine Qv.out.mono ?_;rintro e w2 ⟨A2,c2,rfl,wo,b2⟩;have uz:=bT b2 R1 sW;have ar:=Below.ext aw b2;go_wp2_with (refine sR uz ?_)
  refine rT uz ?_;have gE:=aC w2 (w.heap.size+1) #[.slice A2 n c2];rw [an.out];refine ⟨⟨A2,c2,rfl,?_⟩,ar.grown gE ar.size (λo e=>by cases e;omega)⟩;have h3:=wo.mono (S' :=λb=>(S b/\b<w.heap.size)∨w.heap.size+2<=b) (λb _ h=>by rcases h with h|h;exact .inl h;exact .inr (by have:=SW.out;omega));exact (h3.keep (w' :=w2.setRow (w.heap.size+1) #[.slice A2 n c2]) (λb hb hs=>gE.block b hb (by simp;omega))).mono (λb _ h=>h.imp (λh=>h.1) (λh=>by omega))):p:=h
theorem Tzbp {p:Prop} (h:p:=by
  have dc:decide ((x.toNat:Int)<128)=false:=by simp;omega
  have qj:=oA (n:=9-i) (u:=u) HX.out (show¬((i=9/\1<x.toNat)∨(0<i/\x.toNat=0)) by omega) (by omega);rw [show 9-i+1=10-i by omega,HE.out] at qj;have Hgo:=aA qj;clear qj;go_wp2;have ho:=jQ hi hu Ik (by omega) _ rfl;have eu:=oH hi hu (x:=x.toNat%128) (by omega);rw [show x.toNat%128=x.toNat-128 by omega] at ho eu;refine ⟨⟨i+1,u+(x.toNat-128)*2^(7*i),q+1,by congr 1,uR ho,by omega,eu,(YR.out).drew.drew,aU (aU Mn.out),?_⟩,by simp [intOf];omega⟩;rw [show 10-(i+1)=9-i by omega];exact Hgo.out.symm):p:=h
theorem Tzbq {p:Prop} (h:p:=by
  rintro e w5 ⟨A5,c5,rfl,Md,gu⟩;have z5:=(gu.block _ Sk).trans z4;have Z5:=aA z5;clear z5 z4;have B5:Below w.heap.size w w5:=Below.ext B4 gu;have vu:=Below.ext mc gu;go_wp2_with fail;refine Tybi ?_;go_wp2_with fail;go_wp2;refine rT Z5 ?_
  have Ho:=((Md.mono (S' :=λb=>(S b∨w.heap.size<=b)/\b≠w.heap.size+1) (λb _ h=>by
   rcases h with (h|h)|h
   ·exact ⟨.inl h.1,by omega⟩
   ·exact ⟨.inr (by omega),by omega⟩
   ·exact ⟨.inr (by omega),by omega⟩)).keep (λb hb hs=>setRow_other w5 (w.heap.size+1) b #[.slice A5 n c5] hs.2)).mono (S' :=λb=>S b∨w.heap.size<=b) (λ_ _ h=>h.1)
  exact ⟨A5,c5,rfl,Ho,Below.setRow B5 (by omega) _⟩):p:=h
theorem Tzbr {p:Prop} (h:p:=by
  intro hm;rcases List.mem_append.1 hm with hm|hm
  ·have:=Eh j hm j (by simp);omega
  ·have:=(List.pairwise_cons.1 Nx).1 j hm;omega):p:=h
theorem Tzbs {p:Prop} (h:p:=by
  have gf:Below w.heap.size w w9:=du.grow ai ag (Nat.le_refl _) xa;go_wp2;go_roundw;case rel=>exact ⟨2,n1+n2,A9,c9,by omega,rfl,by rfl,by omega,by simpa using ao,gf⟩
  case measure=>simp [intOf]):p:=h
theorem Tzbt {p:Prop} (h:p:=by
  have dx:((x.toNat:Int)==0)=false:=by simp;omega
  have dc:decide ((x.toNat:Int)<128)=true:=by simp;omega
  have ph:=jD (n:=9-i) (u:=u) HX.out (show¬((i=9/\1<x.toNat)∨(0<i/\x.toNat=0)) by omega) (by omega);rw [show 9-i+1=10-i by omega,HE.out] at ph;have en:=lf.out _ _ ph;have Ml:=aA en;clear ph en;have ho:=jQ hi hu Ik (by omega) (2^(7*i)) (by simp);rw [Nat.mod_eq_of_lt (by omega:x.toNat<128)] at ho;have Xg:=iU (c:=x.toNat) hi hu Ik (by omega);rw [Nat.mod_eq_of_lt (by omega)] at Xg;exact Tzai):p:=h
theorem Tzbu {p:Prop} (h:p:=by
  have gf:Below w.heap.size w w9:=du.grow ai ag (Nat.le_refl _) xa;go_wp2;go_roundw;case rel=>exact ⟨1,n1,A9,c9,by omega,rfl,rfl,by omega,by simpa using ao,gf⟩
  case measure=>simp [intOf]):p:=h
theorem Tzbv {p:Prop} (h:p:=by
  rw [if_neg j6] at Uj;have Jx:=aA (an.out.trans (if_neg j6));unfold Vn at Uj;dsimp only at Uj;obtain ⟨Af,cf,rfl,hDf⟩:=Uj;clear j6;go_wp2_with (refine sR T5 ?_)
  refine rT T5 ?_;rw [Jx.out];have gE:=aC w7 (w.heap.size+2) #[.slice Af n cf];refine ⟨⟨Af,cf,rfl,?_⟩,vj.grown gE vj.size (λo e=>by cases e;omega)⟩;exact (hDf.keep (w' :=w7.setRow (w.heap.size+2) #[.slice Af n cf]) (λb hb hs=>gE.block b hb (by simp;rcases hs with h|h<;>omega))).mono (λb _ h=>h.imp (λh=>h.1) (λh=>by omega))):p:=h
theorem Tzbw {p:Prop} (h:p:=by
  go_wp2_with (refine aK (t:=244) (A:=⟨bx,10,none⟩) rfl rfl rfl (cS (y:=vx) tk.out rfl) ?_)
  refine (Fv.out _ y1).mono ?_;rintro e w3 ⟨rfl,b3⟩;have y3:=Below.ext y1 b3;have F6:=bT y3 R0 kf;have Yx:=bn F6.out;have Pt:w3.cell? ⟨bx,16,none⟩=some (.slice xA 0 xc):=aM F6.out 16 _ rfl
  have Ps:w3.cell? ⟨bx,17,none⟩=some (.slice xB 0 xd):=aM F6.out 17 _ rfl
  go_wp2_with (refine aK (t:=244) (A:=⟨bx,4,none⟩) rfl rfl rfl (cS (y:=⟨0,0,ByteArray.mk #[],0,0,pA,0,pc⟩) F6.out rfl) ?_)
  refine (pU pA pc w3).mono ?_;exact Tzal):p:=h
theorem Tzbx {p:Prop} (h:p:=by
  go_wp2_with (refine aK (t:=244) (A:=⟨bx,10,none⟩) rfl rfl rfl (cS (y:=vx) tk.out rfl) ?_)
  refine (Fv.out _ y1).mono ?_;rintro e w3 ⟨rfl,b3⟩;have y3:=Below.ext y1 b3;have F6:=bT y3 R0 kf;have Yx:=bn F6.out;have Pt:w3.cell? ⟨bx,16,none⟩=some (.slice xA 0 xc):=aM F6.out 16 _ rfl
  have Ps:w3.cell? ⟨bx,17,none⟩=some (.slice xB 0 xd):=aM F6.out 17 _ rfl
  go_wp2_with (refine aK (t:=244) (A:=⟨bx,4,none⟩) rfl rfl rfl (cS (y:=⟨po,pv,pm,ps,pz,pA,pn,pc⟩) F6.out rfl) ?_)
  refine (HP.out _ y3).mono ?_;exact Tzal):p:=h
theorem Tzby {p:Prop} (h:p:=by
  go_enter func204,ntmps204;go_upto_region 1 with fail;try rw [<-hW]
  clear hW;go_wp2;go_ret;exact ⟨rfl,aw⟩):p:=h
theorem Tzbz {p:Prop} (h:p:=by
  have zk:=kX (n:=9-i) (u:=u) HX.out (show (i=9/\1<x.toNat)∨(0<i/\x.toNat=0) by omega);rw [show 9-i+1=10-i by omega,HE.out] at zk;have Hbad:=aA zk;clear zk;go_wp2;refine ⟨rfl,?_⟩;unfold aZ aQ;rw [Hbad.out];exact ⟨rfl,aU (aU Mn.out)⟩):p:=h
theorem Tzb0 {p:Prop} (h:p:=by
  go_wp2_with (refine sR R1 ?_)
  refine rC R1 ?_;rw [an.out];have gE:=aC w1 w.heap.size #[.slice E1 p1 q1,.slice E2 p2 q2,.slice E3 p3 q3,.slice E4 p4 q4];have kE:ae (λb=>W.heap.size<=b) w1 (w1.setRow w.heap.size #[.slice E1 p1 q1,.slice E2 p2 q2,.slice E3 p3 q3,.slice E4 p4 q4]):=λb hb hs=>gE.block b hb (by simp;omega)
  exact ⟨⟨E1,_,q1,E2,_,q2,E3,_,q3,E4,_,q4,rfl,⟨(hT.1.keep kE).mono (λb _ h=>by omega),(hT.2.keep kE).mono (λb _ h=>by omega),(hT.3.keep kE).mono (λb _ h=>by omega),(hT.4.keep kE).mono (λb _ h=>by omega)⟩⟩,al.grown gE hb1s (λo e=>by cases e;omega)⟩):p:=h
theorem Tzb1 {p:Prop} (h:p:=by
  go_wp2_with (refine sR Qf ?_)
  refine rT Qf ?_;rw [an.out];exact ⟨⟨by omega,rfl⟩,il.grown (aC _ _ _) il.size (λo e=>by cases e;omega)⟩):p:=h
theorem Tzb2 {p:Prop} (h:p:=by
  intro m;induction m with
  |zero=>simp
  |succ m ih=>
   intro hm;rw [List.range_succ,List.filterMap_append,ih (by omega)];rw [List.take_succ_eq_append_getElem (show m<l.length by omega)];congr 1;rw [List.filterMap_cons,List.getElem?_eq_getElem (show m<l.length by omega)];rfl):p:=h
theorem Tzb3 {p:Prop} (h:p:=by
  subst h3;have ep:eS s 3=2+s:=rfl;rw [ep];have q:wr.cell? ⟨V,9,none⟩=some (.string (ByteArray.mk #[122])):=by rw [cell_of_row _ _ _ _ _ _ R.out];rfl
  go_wp2_with (refine aK (t:=199) (A:=⟨V,9,none⟩) rfl rfl rfl (fU (nm:=(ByteArray.mk #[122])) (z:=0) (y:=k) R.out rfl) ?_)
  refine Tyas ?_;rintro e w2 ⟨rfl,ar⟩;have e1:max (0:Int) 1=1:=by omega
  rw [e1];clear e1;go_wp2;go_roundw;case rel=>exact ⟨4,rfl,by omega,(by show _=Value.int .i64 (3+s);exact congrArg _ (by omega)),Below.ext hb ar⟩
  case measure=>simp [intOf]):p:=h
theorem Tzb4 {p:Prop} (h:p:=by
  subst h5;go_upto_region 9 with fail;have a9:=gB (bU (n+1)) (xv:=⟨7,0,(ByteArray.mk #[]),0,0,none,0,0⟩) (t:= .mk 7 0 (ByteArray.mk #[]) 0 0 []) Ib.out td ur vf ⟨rfl,rfl,rfl,rfl,rfl,cw.nil_ _ _ _ _⟩ #[.int .i64 7,.int .i64 0,.string (ByteArray.mk #[]),.int .i64 0,.int .i64 0,.slice none 0 0];go_wp2_with (refine sR R1 ?_)
  refine rC R1 ?_;exact ⟨⟨7,0,(ByteArray.mk #[]),0,0,none,0,0⟩,.mk 7 0 (ByteArray.mk #[]) 0 0 [],rfl,⟨rfl,rfl,by simp,.inr (.inr (.inl ⟨by omega,by omega,rfl,rfl,rfl⟩))⟩,a9.1,a9.2.1,a9.2.2⟩):p:=h
theorem Tzb5 {p:Prop} (h:p:=by
  go_wp2;go_ret;unfold aZ;rw [a9];exact ⟨⟨_,rfl,A',c',by show Value.slice A' k c' =_;rw [aj.len.1],aj⟩,hR,hg⟩):p:=h
theorem Tzb6 {p:Prop} (h:p:=by
  rcases Nat.lt_or_ge j listed.size with h' |h'
  ·omega
  ·simp [Array.getElem?_eq_none h'] at this):p:=h
theorem Tzb7 {p:Prop} (h:p:=by
  exfalso;match rem,hn with
  |m::rem',_=>
   have hm:m∈m::rem' :=by simp
   have Ei:=inr m hm;have ho:l[m]? =some l[m]:=List.getElem?_eq_getElem Ei
   have:m∈Region.ready .any l.toArray listed:=mem_ready.2 ⟨(et m).1 hm,l[m],by simp,λe he hb=>by
    obtain ⟨Ja,af⟩:=(jx m _ ho).1 e he hb;refine L8 e.on Ja (λeg=> ?_);rcases List.mem_cons.1 eg with eg|eg
    ·rw [eg] at af;omega
    ·have:=(List.pairwise_cons.1 Cg).1 _ eg;omega⟩
   rw [h0] at this;cases this):p:=h
theorem Tzb8 {p:Prop} (h:p:=by
  go_wp2;go_roundg (g0-1);case rel=>exact ⟨k+1,zo,by go_num,by omega,by omega,HN,dw,ji⟩
  case measure=>have:=Vj.out;omega):p:=h
theorem Tzb9 {p:Prop} (h:p:=by
  go_enter func209,ntmps209;go_wp2;go_ret;exact ⟨by simp [dT],rfl⟩):p:=h
theorem Tzca {p:Prop} (h:p:=by
  rw [List.pairwise_append];exact ⟨Ki,(List.pairwise_cons.1 Nx).2,λx hx y hy=>Eh x hx y (by simp [hy])⟩):p:=h
theorem Tzcb {p:Prop} (h:p:=by
  go_wp2_with fail;refine Tyab ?_;go_wp2_with fail;go_wp2;refine ⟨rfl,?_⟩;unfold aZ;rw [a9];exact ⟨rfl,aU fj⟩):p:=h
theorem Tzcc {p:Prop} (h:p:=by
  have:rem=[]:=List.eq_nil_of_length_eq_zero hn;subst this;refine ⟨?_,h⟩;rw [List.eq_nil_iff_forall_not_mem];intro j hj;have:=(et j).2 (mem_ready.1 hj).1;simp at this):p:=h
theorem Tzcd {p:Prop} (h:p:=by
  go_wp2_with fail;refine Tyab ?_;go_wp2_with fail;go_wp2;all_goals
   go_ret3;exact ⟨by first|rfl|(simp at *;omega),hb.drew⟩):p:=h
theorem Tzce {p:Prop} (h:p:=by
  rintro e w5 ⟨A5,c5,rfl,Md,gu⟩;have z5:=(gu.block _ Sk).trans z4;have Z5:=aA z5;clear z5 z4;go_wp2_with (refine sR Z5 ?_)
  refine rT Z5 ?_;have Ho:=((Md.mono (S' :=λb=>(S b∨w.heap.size<=b)/\b≠w.heap.size+1) (λb _ h=>by rcases h with h|h;exact h;exact ⟨.inr (by omega),by omega⟩)).keep (λb hb hs=>setRow_other w5 (w.heap.size+1) b #[.slice A5 n c5] hs.2)).mono (S' :=λb=>S b∨w.heap.size<=b) (λ_ _ h=>h.1);exact ⟨A5,c5,rfl,Ho,Below.setRow (Below.ext B4 gu) (by omega) _⟩):p:=h
theorem Tzcf {p:Prop} (h:p:=by
  have:¬listed.getD j true=false:=λe=>hm ((et j).2 e)
  have af:j<listed.size:=by omega
  simp [af] at this ⊢;exact this):p:=h
theorem Tzcg {p:Prop} (h:p:=by
  go_wp2_with (refine Lib.wpList_append_run (o:=⟨some 22,_,_,_,_,_⟩) _ rfl _ _ _ _ rfl _ _ rfl rfl _ _ Mm.out ?_)
  go_wp2;go_ret;exact ⟨_,_,rfl,aj,qy⟩):p:=h
theorem Tzch {p:Prop} (h:p:=by
  have:=heap_alloc_new (w.alloc (.cells #[.slice A1 n1 c1,.slice A2 n2 c2,.slice A3 n3 c3,.slice A4 n4 c4] 51)) (.cells #[.slice B1 m1 d1,.slice B2 m2 d2,.slice B3 m3 d3,.slice B4 m4 d4] 51);rw [World.size_alloc] at this;exact this):p:=h
theorem Tzci {p:Prop} (h:p:=by
  go_wp2_with (refine dW rfl 36 _ _ rfl w.heap.size 36 _ _ rfl rfl (Hz1.out _) (by kernel_rfl) rfl (by simp [Value.oneCell']) ?_)
  refine bodyPost_ret (jX rfl rfl (cT (setRow_heap _ _ _ _ _ _ (Hz1.out _)) underlying36 rfl (by kernel_rfl))) rfl ?_;refine ⟨_,_,rfl,yT (a7.mono (a8.recs (a8.kept YG.out (aC _ w.heap.size _) (.inr (λe=> ?_)))) (λ_ _ h=>h.1)),Below.setRow (al _) (Nat.le_refl _) _⟩;have:=(World.ownsRow.lt YG.out _ e).1;omega):p:=h
theorem Tzcj {p:Prop} (h:p:=by
  go_wp2;go_ret;exact ⟨rfl,(Below.refl _ w).alloc (Nat.le_refl _) _⟩):p:=h
theorem Tzck {p:Prop} (h:p:=by
  intro j o ho;have af:=(List.getElem?_eq_some_iff.1 ho).1;have h:nM kd l.toArray l (qm l) j=true:=by
   simp only [mB,Bool.and_eq_true,List.all_eq_true,List.mem_range] at hB;exact hB.2 j af
  simp only [nM,ho,Bool.and_eq_true,Array.all_eq_true_iff_forall_mem,List.all_eq_true,List.mem_range] at h;refine ⟨λe he hb=> ?_,λi x hi hx=> ?_⟩
  ·have:=h.1 e he;simpa [hb] using this
  ·have:=h.2 i hi;simpa [hx] using this):p:=h
theorem Tzcl {p:Prop} (h:p:=by
  go_wp2_with (refine sR R2 ?_)
  refine rT R2 ?_;rw [HR.out];exact ⟨⟨by omega,rfl⟩,aw.grown (aC _ _ _) aw.size (λo e=>by cases e;omega)⟩):p:=h
theorem Tzcm {p:Prop} (h:p:=by
  go_enter func71,ntmps71;go_wp2;go_ret3;rw [a9.out];exact ⟨_,rfl,Bytes.nil_ _ _,Below.refl _ _,λh=>absurd h (by decide)⟩):p:=h
theorem Tzcn {p:Prop} (h:p:=by
  go_upto_region 5 with (first|(refine aK (t:=118) (A:=⟨b,off+j*2,none⟩) rfl rfl rfl C8.out ?_)|(refine sN ?_))
  try dsimp only
  rw [<-su,<-zq.out];clear su;refine Tyal ?_;go_wp2_with (first|(refine lD (t:=118) Rg ?_)|(refine sR RB ?_))
  go_roundw;case rel=>exact ⟨j+1,some (a,x),by go_num,by omega,rfl,YC.out HN,RT,GT⟩
  case measure=>simp [intOf];omega):p:=h
theorem Tzco {p:Prop} (h:p:=by
  simp only [if_true,Nat.one_ne_zero,if_false];go_wp2;go_round;case rel=>exact ⟨2,by omega,rfl,by simp⟩
  case measure=>simp [intOf]):p:=h
theorem Tzcp {p:Prop} (h:p:=by
  go_wp2_with fail;refine HEE.out.mono ?_;rintro e w1 ⟨rfl,b1⟩;obtain ⟨g,hg⟩:=eX (decide (List.take n2 l=m));rw [<-hg];have HG:=aA hg;clear hg;go_wp2;go_ret;rw [oc.out,<-HG.out];exact ⟨rfl,b1⟩):p:=h
theorem Tzcq {p:Prop} (h:p:=by
  go_wp2;refine ⟨rfl,?_⟩;unfold aZ;rw [a9];exact ⟨rfl,bD hg da⟩):p:=h
theorem Tzcr {p:Prop} (h:p:=by
  have HFIL:=aA Of;have Z8:=aA jc;have HGG:=aA hgg;have HRO10:=aA Nr;clear Of jc hgg Nr Uh ie ao ai ck ve Cu Oy bf xb ru;go_wp2_with fail;rw [gI];go_wp2;go_roundw;case rel=>exact ⟨j+1,A9,c9,by go_num,by omega,HRO10.out,HFIL.out,Z8.out,HGG.out⟩
  case measure=>simp [intOf];omega):p:=h
theorem Tzcs {p:Prop} (h:p:=by
  rw [if_pos j6] at Uj;have Jx:=aA (an.out.trans (if_pos j6));unfold Vn at Uj;dsimp only at Uj;obtain ⟨_,rfl⟩:=Uj;clear j6;go_wp2_with (refine sR T5 ?_)
  refine rT T5 ?_;rw [Jx.out];exact ⟨⟨by omega,rfl⟩,vj.grown (aC _ _ _) vj.size (λo e=>by cases e;omega)⟩):p:=h
theorem Tzct {p:Prop} (h:p:=by
  go_wp2;go_ret;exact ⟨none,0,rfl,a8.nil_ _ _ _,Below.refl _ _⟩):p:=h
theorem Tzcu {p:Prop} (h:p:=by
  go_enter func119,ntmps119;go_wp2;go_ret3;rw [a9.out];exact ⟨_,rfl,eb.nil_ _ _ _,Below.refl _ _⟩):p:=h
theorem Tzcv {p:Prop} (h:p:=by
  go_wp2;go_roundw;case rel=>exact ⟨k+1,La,by go_num,by omega,qk,yg,il⟩
  case measure=>simp [intOf];omega):p:=h
theorem Tzcw {p:Prop} (h:p:=by
  have dz:(z==9223372036854775807)=true:=by simpa using Gc
  have an:=aA (show r2= .error 3 by rw [HR.out];unfold gN;rw [if_pos (by rw [<-HZZ.out];exact Gc)]);clear Gc;go_wp2_with (refine sR RZr ?_)
  refine rT RZr ?_;rw [an.out];exact ⟨⟨by omega,rfl⟩,qy.grown (aC _ _ _) qy.size (λo e=>by cases e;omega)⟩):p:=h
theorem Tzcx {p:Prop} (h:p:=by
  go_upto_region 1 with fail;rw [<-hW];clear hW;go_wp2_with (refine lD (t:=36) R0 ?_)
  refine Qv.out.mono ?_;rintro e w2 ⟨rfl,b2⟩;have uz:=bT b2 R1 sW;have ar:=Below.ext aw b2;go_wp2_with (refine sR uz ?_)
  refine rT uz ?_;rw [an.out];exact ⟨⟨by omega,rfl⟩,ar.grown (aC _ _ _) ar.size (λo e=>by cases e;omega)⟩):p:=h
theorem Tzcy {p:Prop} (h:p:=by
  go_wp2_with fail;refine Tyab ?_;go_wp2_with fail;refine nx.mono ?_;rintro e w5 ⟨rfl,Nv,o8⟩;go_wp2;go_ret;exact ⟨0,.error 9,rfl,aa.comp (g:=λn q=>if n<0∨(L.length:Int)-(q:Int)<n then Except.error 9 else .ok (n,q)) M4 lf.out,⟨by omega,_,_,Nv⟩,bD (aU fj) o8,λq hq=>by cases hq⟩):p:=h
theorem Tzcz {p:Prop} (h:p:=by
  simp only [if_true];go_wp2;go_round;case rel=>exact ⟨1,by omega,rfl,by simp⟩
  case measure=>simp [intOf]):p:=h
theorem Tzc0 {p:Prop} (h:p:=by
  go_wp2_with (refine sR R1C ?_)
  refine rT R1C ?_;rw [an.out];exact ⟨⟨by omega,rfl⟩,hbC.grown (aC _ _ _) hbC.size (λo e=>by cases e;omega)⟩):p:=h
theorem Tzc1 {p:Prop} (h:p:=by
  obtain rfl:g=false:=by rw [hg];exact lR F.out
  exact Tza5):p:=h
theorem Tzc2 {p:Prop} (h:p:=by
  exfalso;have:=iI (λk=>listed.getD k false=true) l (λk o hk hL=>gy k o hk hL) j o j5 (λe he hb=>j8 e he hb) i hb;have h2:=(et i).1 (by simp [hi]);have af:i<listed.size:=by have:=inr i (by simp [hi]);omega
  simp [af] at this h2;rw [this] at h2;cases h2):p:=h
theorem Tzc3 {p:Prop} (h:p:=by
  go_wp2_with (refine sR Wu ?_)
  refine rT Wu ?_;rw [HR.out];exact ⟨⟨by omega,rfl⟩,gu.grown (aC _ _ _) gu.size (λo e=>by cases e;omega)⟩):p:=h
theorem Tzc4 {p:Prop} (h:p:=by
  rw [hr];clear hr;go_enter func205,ntmps205;go_wp2;go_ret;exact ⟨rfl,rfl⟩):p:=h
theorem Tzc5 {p:Prop} (h:p:=by
  simp only [wpQuiet] at h;by_cases hw:Region.wanted o (yielded ops a.tmps)=true
  ·simp only [hw,if_true] at h;obtain ⟨v,hv,h⟩:=h;refine eH N2 (v:=v) (.inl ⟨hw,λw' ah => ?_⟩) h;have:=hv w' trivial;exact Tzbe
  ·simp only [hw] at h;exact eH N2 (.inr ⟨by simpa using hw,rfl⟩) h):p:=h
theorem Tzc6 {p:Prop} (h:p:=by
  have h8:=xx.out _ b8;have Aj:=Di.out;exact ⟨(ai.block _ (by omega) (λe=>by have:=az _ e.symm;omega)).trans h8.1,(ai.block _ (by omega) (λe=>by have:=az _ e.symm;omega)).trans h8.2.1,(ai.block _ (by omega) (λe=>by have:=az _ e.symm;omega)).trans h8.2.2⟩):p:=h
theorem Tzc7 {p:Prop} (h:p:=by
  have yy:=aA (gH A 4 c4 fs _ v1 P1.dsk (by omega) P1.ok a1 a2 len2 Dd zs _ (HZS.out.ext P1.bel) HZI.out);have RdF:=aA P1.row;go_wp2_with (refine lD (t:=36) RdF ?_)
  refine yy.out.mono ?_;rintro e vz ⟨rfl,bz⟩;go_wp2;go_ret;exact ⟨rfl,Below.ext P1.bel bz⟩):p:=h
theorem Tzc8 {p:Prop} (h:p:=by
  by_cases g0:b=0
  ·subst g0;exact Tzb9
  ·by_cases g1:b= -1
   ·subst g1;exact Tzb9
   ·have d0:(b==0)=false:=by simpa using g0
    have d1:(b== -1)=false:=by simpa using g1
    go_enter func209,ntmps209;go_wp2;go_ret;exact ⟨by simp [dT,g0,g1],rfl⟩):p:=h
theorem Tzc9 {p:Prop} (h:p:=by
  go_enter func200,ntmps200;go_wp2;go_ret;exact ⟨rfl,rfl⟩):p:=h
theorem Tzda {p:Prop} (h:p:=by
  go_upto_region 7 with fail;go_wp2_with fail;refine Tyab ?_;go_wp2_with fail;go_wp2;go_roundw;case rel=>exact ⟨j+1,some (a,x),by go_num,by omega,rfl,rfl,rfl,YC.out HN,ag.drew⟩
  case measure=>simp [intOf];omega):p:=h
theorem Tzdb {p:Prop} (h:p:=by
  go_wp2_with (first|(refine sR H2 ?_))
  refine rC H2 ?_;unfold aZ;rw [a9];exact ⟨⟨_,rfl,rfl⟩,HI.out.end_ _⟩):p:=h
theorem Tzdc {p:Prop} (h:p:=by
  go_upto_region 8 with (refine sN ?_)
  try dsimp only
  rw [<-ng,<-Qz.out];clear ng;refine Tyal ?_;go_wp2_with (refine sR ZQ ?_)
  refine rT ZQ ?_;rw [HR.out];exact ⟨⟨by omega,rfl⟩,ia.grown (aC _ _ _) ia.size (λo e=>by cases e;omega)⟩):p:=h
theorem Tzdd {p:Prop} (h:p:=by
  have N5 :tmps[a]?.getD undef= .pointer (some A):=by simpa using ha
  simp [results,h,asAddr,N5,hl]):p:=h
theorem Tzde {p:Prop} (h:p:=by
  go_wp2;go_roundw;case rel=>exact ⟨k+1,by go_num,by omega,xi,yg,Below.ext ag il⟩
  case measure=>simp [intOf];omega):p:=h
theorem Tzdf {p:Prop} (h:p:=by
  have gf:Below w.heap.size w w9:=Zr.grow ai ha (Nat.le_refl _) (by simp);go_wp2;go_ret;exact ⟨_,_,rfl,by simpa using ao,gf⟩):p:=h
theorem Tzdg {p:Prop} (h:p:=by
  have lf:=aA (show fO bs (j+1)=fO bs j by rw [cn];simp);clear cn hb;go_wp2;go_roundw;case rel=>exact ⟨j+1,m,A',c',by go_num,by omega,rfl,by omega,by rw [lf.out];exact Ck,gf⟩
  case measure=>simp [intOf];omega):p:=h
theorem Tzdh {p:Prop} (h:p:=by
  go_wp2;refine ⟨rfl,?_⟩;unfold aZ;rw [a9];exact ⟨rfl,hg⟩):p:=h
theorem Tzdi {p:Prop} (h:p:=by
  have:=iI (λk=>listed.getD k false=true) l (λk o hk hL=>gy k o hk hL) j o j5 (λe he hb=>j8 e he hb) i hb;have h2:=(et i).1 hi;have af:i<listed.size:=by have:=inr i hi;omega
  simp [af] at this h2;rw [this] at h2;cases h2):p:=h
theorem Tzdj {p:Prop} (h:p:=by
  have:=heap_alloc_new (w.alloc (.cells #[.slice I1 iw ix,.slice P1 zx Ai,.slice P2 zw Ag,.slice P3 zv Ad,.slice P4 zu zy] 29)) (.cells #[.slice none 0 0,.slice none 0 0,.slice none 0 0,.slice none 0 0] 51);rw [World.size_alloc] at this;exact this):p:=h
theorem Tzdk {p:Prop} (h:p:=by
  have e:bits BinOp.and IntKind.u32 (s:Int) ((1:Nat):Int)=_:=u32_and_nat s 1 hs (by omega);rw [nat_mask1] at e;simp only [Int.natCast_one] at e;rw [e] at h;simp at h;unfold stp;rw [if_pos (by omega)];exact u32_xor_nat (s / 2) 3988292384 (by omega) (by omega)):p:=h
theorem Tzdl {p:Prop} (h:p:=by
  have gf:Below w0.heap.size w0 w9:=(dw.ext ha).grow ai (Below.ext ar ha) (Nat.le_refl _) (Below.ext ar ha).size;go_roundw;case rel=>exact ⟨k+1,_,A9,m+1,c9,rfl,rfl,by omega,by omega,ao,WA,gf⟩
  case measure=>simp [intOf];omega):p:=h
theorem Tzdm {p:Prop} (h:p:=by
  go_upto_region 16 with fail;go_wp2_with (first|(refine lD (t:=96) Rx ?_)|(refine sR E7 ?_))
  refine rU E7 ?_;exact ⟨⟨a,b,d,u⟩,q,0,rfl,an.out,ea.grown (aC _ _ _) ea.size (λo e=>by cases e;omega)⟩):p:=h
theorem Tzdn {p:Prop} (h:p:=by
  go_enter_defers func137,ntmps137;go_wp2;rw [<-hW];refine Tyaw ?_;refine xw.out.mono ?_;rintro e u' Jz ⟨rfl,rfl,g6,g7,g8,fe⟩;simp [Leaves,settle,results,Tryz.results137,go_sem,g6,g7,g8];exact ⟨rfl,fe⟩):p:=h
theorem Tzdo {p:Prop} (h:p:=by
  have:=hy.of_same (bQ zg fm {a with defers:=d::a.defers} u).1.symm (bQ zg fm {a with defers:=d::a.defers} u).2.symm;exact this):p:=h
theorem Tzdp {p:Prop} (h:p:=by
  go_wp2_with fail;refine (HE.out _ y5).mono ?_;rintro e w6 ⟨rfl,b6⟩;go_wp2;go_roundw;case rel=>exact ⟨k+1,by go_num,by omega,Below.ext yW (Below.ext y5 b6)⟩
  case measure=>simp [intOf];omega):p:=h
theorem Tzdq {p:Prop} (h:p:=by
  intro st en z hz;simp only [Hd.l,List.mem_cons,List.not_mem_nil,or_false] at hz;rcases hz with rfl|rfl|rfl|rfl
  ·exact ⟨by omega,by omega⟩
  ·exact en
  ·exact ⟨by omega,by omega⟩
  ·exact ⟨by omega,by omega⟩):p:=h
theorem Tzdr {p:Prop} (h:p:=by
  go_wp2;go_ret;rw [an.out];have sq:W1.heap.size<=wq.heap.size:=Ng;have BQ:Below w.heap.size w wq:=B1.grown ja B1.size (λo e=>by cases e;omega);exact ⟨_,_,_,rfl,Ck.weak BQ.size,Below.ext BQ gf⟩):p:=h
theorem Tzds {p:Prop} (h:p:=by
  clear hx;go_wp2_with (refine sR yw ?_)
  refine bodyPost_ret (jN rfl rfl (lB (t:=90) (setRow_heap _ _ _ _ _ _ yw.out))) rfl ?_;exact ⟨⟨0,0,0,0⟩,_,0,11,rfl,n8.out,Lt.grown (aC _ _ _) Lt.size (λo e=>by cases e;omega)⟩):p:=h
theorem Tzdt {p:Prop} (h:p:=by
  have h1:=yg.1;subst h1;exact ⟨by omega,A,c,r9,(hb.mono (λ_ h _=>h)).ext (Below.ext aw ar),by omega,by omega⟩):p:=h
theorem Tzdu {p:Prop} (h:p:=by
  rcases hsh with ⟨u,rfl⟩|⟨d,u,rfl⟩
  ·exact fJ hS hv (back u v' Rw)
  ·exact fJ hS hv (yq d u v' Rw)):p:=h
theorem Tzdv {p:Prop} (h:p:=by
  refine Tyal ?_;have y:=Below.ext ba kg;go_wp2;go_roundw;case rel=>exact ⟨iv+1,k,B,d,by go_num,by omega,rfl,by omega,by rw [HP.out];exact hO.ext y,Below.ext ag y⟩
  case measure=>simp [intOf];omega):p:=h
theorem Tzdw {p:Prop} (h:p:=by
  refine Tyah ?_;go_wp2_with fail;refine ij.out.mono ?_;rintro r w2 ⟨v2,Ga,rfl,yk,ar,_⟩;go_wp2_with fail;refine aD (ar) ?_;refine Tyan ?_;exact ⟨trivial,v2,Ga,⟨yk,ar⟩,rfl⟩):p:=h
theorem Tzdx {p:Prop} (h:p:=by
  rw [hW];have:=heap_alloc_new ((w.alloc (.cells #[.slice A n c] 36)).alloc (.cells #[.slice x.A1 x.n1 x.c1,.slice x.A2 x.n2 x.c2] 86)) (.cells #[.slice none 0 0] 36);rw [World.size_alloc,World.size_alloc] at this;exact this):p:=h
theorem Tzdy {p:Prop} (h:p:=by
  by_cases g0:a=0
  ·have d0:(a != 0)=false:=by simpa using g0
   have d0' :(a==0)=true:=by simpa using g0
   exact Tza6
  ·have d0:(a != 0)=true:=by simpa using g0
   have d0' :(a==0)=false:=by simpa using g0
   exact Tza6):p:=h
theorem Tzdz {p:Prop} (h:p:=by
  rintro e w1 ⟨rfl,al⟩;have fe:=Below.ext aw al;have Z5:=aA ((al.block _ (by have:=jz.out;omega)).trans iy);clear vd iy;go_wp2_with (refine sR Z5 ?_)
  refine rT Z5 ?_;exact ⟨rfl,Below.setRow fe (by omega) _⟩):p:=h
theorem Tzd0 {p:Prop} (h:p:=by
  go_upto_region 2 with fail;go_wp2_with fail;refine Tyab ?_;have R1d:=aA (show w1.drew.heap[w.heap.size+1]? =_ from yw.out);go_wp2_with (refine sR R1d ?_)
  refine rC R1d ?_;exact SAME.out _ (Below.refl _ _).drew):p:=h
theorem Tzd1 {p:Prop} (h:p:=by
  refine (h1.keep (λb hb hs=>hg.block b hb (λe=>hs.2.1 e.symm))).mono (λb _ hs=>⟨hs.1,λe=> ?_⟩);rcases jx with h2|h2
  ·exact hs.2.1 (h2.symm.trans e)
  ·rw [h2] at e;cases e;exact Nat.lt_irrefl _ hs.2.2):p:=h
theorem Tzd2 {p:Prop} (h:p:=by
  match vs,af,qi with
  |[a,b,d,u],_,_=>exact ⟨a,b,d,u,rfl⟩
  |[],h,_=>simp at h
  |[_],h,_=>simp at h
  |[_,_],h,_=>simp at h
  |[_,_,_],h,_=>simp at h
  |_::_::_::_::_::_,_,h=>simp at h):p:=h
theorem Tzd3 {p:Prop} (h:p:=by
  exact Below.alloc (Below.setCell (p:=⟨b8,0,none⟩) (Below.setCell (p:=⟨b8,0,none⟩) (Below.setCell (p:=⟨b7,0,none⟩) (Below.setCell (p:=⟨b6,0,none⟩) hw hB.1 _) hB.2.1 _) hB.2.2 _) hB.2.2 _) (by simp;omega) _):p:=h
theorem Tzd4 {p:Prop} (h:p:=by
  unfold execOp;simp only [ho,hx,Instr.loadAt,Instr.sureAddr,Sem.run_bind,Sem.run_pure,Result.andThen_ok,hv w' ah]):p:=h
theorem Tzd5 {p:Prop} (h:p:=by
  obtain rfl:k=np:=by omega
  have an:=aA (show bO a ps= .ok cur by rw [fm.out,List.drop_of_length_le (by rw [Dl.out.1];omega)];rfl);go_wp2;go_ret2;rw [an.out];exact ⟨⟨_,_,rfl,hO⟩,ag⟩):p:=h
theorem Tzd6 {p:Prop} (h:p:=by
  go_enter_defers func150,ntmps150;go_wp2;rw [<-hW];refine Tyax ?_;refine xw.out.mono ?_;rintro e u' Jz ⟨rfl,rfl,g6,g7,g8,fe⟩;refine Tybg ?_;exact ⟨rfl,fe⟩):p:=h
theorem Tzd7 {p:Prop} (h:p:=by
  go_enter_defers func146,ntmps146;go_wp2;rw [<-hW];refine Tyay ?_;refine xw.out.mono ?_;rintro e u' Jz ⟨rfl,rfl,g6,g7,g8,fe⟩;refine Tybh ?_;exact ⟨rfl,fe⟩):p:=h
theorem Tzd8 {p:Prop} (h:p:=by
  have d0:decide ((0:Int)<(i:Int))=true:=by simp;omega
  have dx:((x.toNat:Int)==0)=true:=by simp;omega
  have dc:decide ((x.toNat:Int)<128)=true:=by simp;omega
  exact Tza9):p:=h
theorem Tzd9 {p:Prop} (h:p:=by
  have e:bits BinOp.and IntKind.u32 (s:Int) ((1:Nat):Int)=_:=u32_and_nat s 1 hs (by omega);rw [nat_mask1] at e;simp only [Int.natCast_one] at e;rw [e] at h;simp at h;unfold stp;rw [if_neg (by omega)]):p:=h
theorem Tzea {p:Prop} (h:p:=by
  refine ⟨_,cap,rfl,h1,h2,λ_=>⟨g,0,rfl,⟨hb,rfl⟩,λj u hu=> ?_⟩⟩;rw [cell_of_row _ _ _ _ _ _ hh];rw [<-h4,List.getElem?_take] at hu;split at hu
  ·simpa using hu
  ·cases hu):p:=h
theorem Tzeb {p:Prop} (h:p:=by
  have:=heap_alloc_new (w.alloc (.cells #[.slice A n c] 36)) (.cells #[.slice none 0 0,.slice none 0 0,.slice none 0 0,.slice none 0 0] 51);rw [World.size_alloc] at this;exact this):p:=h
theorem Tzec {p:Prop} (h:p:=by
  exact ⟨⟨by omega,by omega⟩,h1,h2,by rw [c];exact hz,hv,.inr (.inr ⟨by omega,b⟩),hb,he⟩):p:=h
theorem Tzed {p:Prop} (h:p:=by
  refine Tyal ?_;go_wp2_with (refine sR Mj ?_)
  refine rT Mj ?_;rw [an.out];exact ⟨⟨by omega,rfl⟩,Bl.grown (aC _ _ _) Bl.size (λo e=>by cases e;omega)⟩):p:=h
theorem Tzee {p:Prop} (h:p:=by
  clear qj a9 tz hK nd aj;go_wp2;go_meet;case rel=>exact n8.out):p:=h
theorem Tzef {p:Prop} (h:p:=by
  clear hn;go_wp2;go_ret3;rw [a9.out];exact ⟨_,rfl,Bytes.nil_ _ _,(Below.refl _ _).drew.trans al,λh=>absurd h (by decide)⟩):p:=h
theorem Tzeg {p:Prop} (h:p:=by
  rcases Option.eq_none_or_eq_some v.ownBlock with h0|⟨m,h0⟩
  ·exact .inl h0
  ·refine .inr (λe=> ?_);rw [h0] at e;cases e;have:=(World.ownsRow.lt h1 _ h0).1;omega):p:=h
theorem Tzeh {p:Prop} (h:p:=by
  go_wp2;go_end0;exact ⟨rfl,by rw [hq.out];exact YQ.out w2 y2,b2,WB.out w2 y2⟩):p:=h
theorem Tzei {p:Prop} (h:p:=by
  rw [List.drop_eq_getElem_cons (by have:=Dl.out.1;omega)];congr 1;rw [List.getElem?_eq_getElem (by have:=Dl.out.1;omega)] at Li;exact Option.some.inj Li):p:=h
theorem Tzej {p:Prop} (h:p:=by
  go_wp2_with (refine sR Fu ?_)
  refine rT Fu ?_;rw [an.out];exact ⟨⟨by omega,rfl⟩,gf.grown (aC _ _ _) gf.size (λo e=>by cases e;omega)⟩):p:=h
theorem Tzek {p:Prop} (h:p:=by
  rw [Act.put_comm a v u (Oper.apart_spec fm).2.1];exact h2):p:=h
theorem Tzel {p:Prop} (h:p:=by
  go_roundw;case rel=>exact ⟨j+1,m+1,A5,c5,by go_num,by omega,rfl,by omega,by rw [lf.out];exact bf,b5⟩
  case measure=>simp [intOf];omega):p:=h
theorem Tzem {p:Prop} (h:p:=by
  exact (ie.block i (Nat.lt_of_lt_of_le hi8 ai.size) fb).trans ((ai.block i hi8 (λe=>by have:=az _ e.symm;have:=jz.out;omega)).trans (h1.block i hi fb))):p:=h
theorem Tzen {p:Prop} (h:p:=by
  clear az;go_wp2_with fail;refine Tyab ?_;go_wp2_with fail;go_wp2;refine Tya8 ?_;refine ⟨?_,b2.drew⟩;rw [H2.out];rfl):p:=h
theorem Tzeo {p:Prop} (h:p:=by
  go_wp2_with fail;go_wp2_with fail;refine Tyab ?_;go_wp2_with fail;go_wp2;refine Tya8 ?_;exact an.out _ rfl):p:=h
theorem Tzep {p:Prop} (h:p:=by
  unfold wpOp;simp only [hj];split
  ·rename_i hw;simp only [hw,if_true] at h1;exact .inl h1
  ·rename_i hw;simp only [hw] at h1;exact h1):p:=h
theorem Tzeq {p:Prop} (h:p:=by
  go_wp2;go_ret2;rw [an.out];exact ⟨⟨by omega,rfl⟩,Jj⟩):p:=h
theorem Tzer {p:Prop} (h:p:=by
  go_wp2_with (refine sR Df ?_)
  refine rT Df ?_;rw [an.out];exact ⟨⟨by omega,rfl⟩,ia.grown (aC _ _ _) ia.size (λo e=>by cases e;omega)⟩):p:=h
theorem Tzes {p:Prop} (h:p:=by
  go_wp2_with (refine sR Df ?_)
  refine rT Df ?_;rw [an.out];exact ⟨⟨Va.out,rfl⟩,ia.grown (aC _ _ _) ia.size (λo e=>by cases e;omega)⟩):p:=h
theorem Tzet {p:Prop} (h:p:=by
  go_roundw;case rel=>exact ⟨iv+1,k+1,A5,c5,by go_num,by omega,rfl,by omega,by rw [HP.out];exact bf,b5⟩
  case measure=>simp [intOf];omega):p:=h
theorem Tzeu {p:Prop} (h:p:=by
  obtain ⟨xs,h1,h2,h3⟩:=h;exact ⟨xs,h1.mono (λb hb _=>hb),h2,λi x p hx hp=>⟨(h3 i x p hx hp).1,(h3 i x p hx hp).2.mono (λb hb _=>hb)⟩⟩):p:=h
theorem Tzev {p:Prop} (h:p:=by
  go_enter func207,ntmps207;go_wp2;go_ret;exact ⟨rfl,rfl⟩):p:=h
theorem Tzew {p:Prop} (h:p:=by
  have hi:i<6:=(List.getElem?_eq_some_iff.1 h).1;have:i=0∨i=1∨i=2∨i=3∨i=4∨i=5:=by omega
  rcases this with rfl|rfl|rfl|rfl|rfl|rfl<;>exact h):p:=h
theorem Tzex {p:Prop} (h:p:=by
  exact (ve.recs.ext (ha8 _)).mono (λb _ h=>⟨by have:=h.1;have:=Di.out;omega,λe=>by have:=(az b e).2;have:=h.1;have:=Di.out;omega⟩)):p:=h
theorem Tzey {p:Prop} (h:p:=by
  simp only [nM,ho,Bool.and_eq_true,Array.all_eq_true_iff_forall_mem,List.all_eq_true,List.mem_range] at h;have:=h.1 e he;simpa [hb] using this):p:=h
theorem Tzez {p:Prop} (h:p:=by
  refine ⟨h.1,?_⟩;rcases h.2 with hn|⟨g,cap,cur,hv,pj,rest⟩
  ·exact .inl hn
  ·exact .inr ⟨g,cap,cur,hv,Nat.le_trans hb pj,rest⟩):p:=h
theorem Tze0 {p:Prop} (h:p:=by
  clear hz hzy;go_wp2;go_roundw;case rel=>exact ⟨j+1,by go_num,by omega,bend⟩
  case measure=>simp [intOf];omega):p:=h
theorem Tze1 {p:Prop} (h:p:=by
  rcases Nat.eq_zero_or_pos (i-xs.length) with h|h
  ·exact h
  ·rw [List.getElem?_eq_none (by simp;omega)] at o6;cases o6):p:=h
theorem Tze2 {p:Prop} (h:p:=by
  go_upto_region 12 with (refine sN ?_)
  try dsimp only
  rw [<-Jn,<-zq.out];clear Jn;refine Tyal ?_;exact Tzb1):p:=h
theorem Tze3 {p:Prop} (h:p:=by
  rcases jm with h|⟨m',h,U5⟩
  ·rw [h];exact az
  ·exact .inr ⟨m',h,by rw [World.size_alloc] at U5;omega⟩):p:=h
theorem Tze4 {p:Prop} (h:p:=by
  go_wp2;go_roundw;case rel=>exact ⟨iv+1,by go_num,by omega,by rw [HM.out],fe⟩
  case measure=>simp [intOf];omega):p:=h
theorem Tze5 {p:Prop} (h:p:=by
  have d0:decide ((0:Int)<(i:Int))=true:=by simp;omega
  have dx:((x.toNat:Int)==0)=true:=by simp;omega
  exact Tzbz):p:=h
theorem Tze6 {p:Prop} (h:p:=by
  intro z hz;simp at hz;rcases hz with rfl|rfl
  ·rw [V8.out];exact Ch.1
  ·exact ⟨by omega,by omega⟩):p:=h
theorem Tze7 {p:Prop} (h:p:=by
  rw [List.getElem?_eq_none (by omega),List.getElem?_eq_none (by omega)]):p:=h
theorem Tze8 {p:Prop} (h:p:=by
  rcases h.2 with ⟨e,hn⟩|⟨g,cap,cur,e,hb,hh,_⟩
  ·omega
  ·cases e;exact ⟨g,rfl,hb,(Array.getElem?_eq_some_iff.1 hh).1⟩):p:=h
theorem Tze9 {p:Prop} (h:p:=by
  simp [Value.cells] at fq;obtain ⟨rfl,rfl,rfl⟩:=fq;exact ⟨zs,.inr ⟨_,rfl,hl,hm,by simpa using hz,jk,Xa⟩⟩):p:=h
theorem Tzfa {p:Prop} (h:p:=by
  simp only [bj.l,List.mem_append];simp only [this,true_or,or_true]):p:=h
theorem Tzfb {p:Prop} (h:p:=by
  simp only [Hd.l,List.mem_cons,List.not_mem_nil,or_false] at hy;rcases hy with rfl|rfl|rfl|rfl<;>exact ⟨by omega,by omega⟩):p:=h
theorem Tzfc {p:Prop} (h:p:=by
  refine forall_congr' λm1=>forall_congr' λw1=>imp_congr Iff.rfl ?_
  rw [pW];split
  ·exact ⟨lU,lU⟩
  ·exact Iff.rfl):p:=h
theorem Tzfd {p:Prop} (h:p:=by
  have HP:=aA hp;clear hp;go_enter func160,ntmps160;go_wp2;go_ret;rw [HP.out];exact ⟨rfl,rfl⟩):p:=h
theorem Tzfe {p:Prop} (h:p:=by
  have:∀(m:Nat) (hm:m<=l.length),(List.range m).filterMap (λi=>l[i]?)=l.take m:=by
   exact Tzb2
  exact this n1 Ct):p:=h
theorem Tzff {p:Prop} (h:p:=by
  exact ⟨⟨by omega,by omega⟩,⟨by omega,by omega⟩,h1,h2,by rw [e];simp,.inr (.inr ⟨by omega,by omega,d⟩),ha⟩):p:=h
theorem Tzfg {p:Prop} (h:p:=by
  go_wp2_with fail;refine aD (y2) ?_;refine Tyan ?_;go_wp2_with fail;go_ret;exact ⟨rfl,Below.ext aw y2⟩):p:=h
theorem Tzfh {p:Prop} (h:p:=by
  go_wp2;go_ret3;rw [a9.out];exact ⟨_,rfl,eb.nil_ _ _ _,(Below.refl _ _).drew⟩):p:=h
end Go.Proofs.YtiblijmngokcgaaGreatDoor
