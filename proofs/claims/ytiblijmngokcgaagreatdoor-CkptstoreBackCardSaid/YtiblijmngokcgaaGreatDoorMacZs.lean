import Derived.Deep.MidRow
import Derived.Defers
import Derived.Recover
import Derived.Deep.Cut
import Derived.WalkKit
import Derived.WalkSpells
import Derived.WalkLawsBesides
import Derived.Lib.Hide
import Derived.Lib.SlBytesConst
import Derived.Outline
import Derived.Deep.Draws
import Derived.Laws.Rows
import Derived.Laws.Tables
import Derived.Deep.WholeRow
import Derived.OrdersHeld
import Derived.Deep.QuietTactic
import Derived.BigQuiet
import Derived.Maps.AppendAt
import Derived.OwnWalk
import Derived.Laws.MakeOwn
namespace Go.Proofs.YtiblijmngokcgaaGreatDoor
set_option linter.unusedVariables false
theorem TkA {p q:Prop} (k:q) (h:q→p:=by
 intro k
 repeat (first|(refine xL rfl ?_;go_big_quiet_step (fail);refine wpQuiet_nil ?_)|(refine qY rfl rfl ?_;simp only [Act.put,List.setIfInBounds_toArray,List.set_cons_succ,List.set_cons_zero]))
 exact k):p:=h k
theorem TkB {p q:Prop} (k:q) (h:q→p:=by
 intro k
 repeat (first|(refine JG rfl ?_;go_big_quiet_step (fail);refine wpQuiet_nil ?_)|(refine qY rfl rfl ?_;simp only [Act.put,List.setIfInBounds_toArray,List.set_cons_succ,List.set_cons_zero]))
 exact k):p:=h k
theorem TkC {p q:Prop} (k:q) (h:q→p:=by
 intro k
 repeat (first|(refine LB rfl rfl ?_;go_big_quiet_step (fail);refine wpQuiet_nil ?_)|(refine BK rfl rfl rfl ?_;simp only [Act.put,List.setIfInBounds_toArray,List.set_cons_succ,List.set_cons_zero]))
 exact k):p:=h k
theorem TkD {p q:Prop} (k:q) (h:q→p:=by
 intro k
 repeat (first|(refine KY rfl rfl ?_;go_big_quiet_step (fail);refine wpQuiet_nil ?_)|(refine BF rfl rfl rfl ?_;simp only [Act.put,List.setIfInBounds_toArray,List.set_cons_succ,List.set_cons_zero]))
 exact k):p:=h k
theorem TkE {p q:Prop} (k:q) (h:q→p:=by
 intro k
 repeat (first|(refine lex_q rfl ⟨default,trivial⟩ ?_;go_big_quiet_step (fail);refine wpQuiet_nil ?_)|(refine lex_skip rfl rfl trivial ?_;simp only [Act.put,List.setIfInBounds_toArray,List.set_cons_succ,List.set_cons_zero])|(refine lex_e rfl ?_;go_wp2_with fail;refine lex_go trivial ?_))
 exact k):p:=h k
theorem TkF {p q:Prop} (k:q) (h:q→p:=by
 intro k
 repeat (first|(refine LexIn.lex_q rfl ⟨default,trivial⟩ ?_;go_big_quiet_step (fail);refine wpQuiet_nil ?_)|(refine LexIn.lex_skip rfl rfl trivial ?_;simp only [Act.put,List.setIfInBounds_toArray,List.set_cons_succ,List.set_cons_zero])|(refine LexIn.lex_e rfl ?_;gi_wp2_with fail;refine LexIn.lex_go trivial ?_))
 exact k):p:=h k
theorem TkG {p q:Prop} (k:q) (h:q→p:=by
 intro k
 repeat (refine lex_q rfl ⟨default,trivial⟩ ?_;go_big_quiet_step (fail);refine wpQuiet_nil ?_)
 exact k):p:=h k
theorem TkH {p q:Prop} (k:q) (h:q→p:=by
 intro k
 repeat (refine LexIn.lex_q rfl ⟨default,trivial⟩ ?_;go_big_quiet_step (fail);refine wpQuiet_nil ?_)
 exact k):p:=h k
theorem TkI {p q:Prop} (k:q) (h:q→p:=by
 intro k
 simp only [Act.put,List.setIfInBounds_toArray,List.set_cons_succ,List.set_cons_zero]
 exact k):p:=h k
theorem Tzaa {p:Prop} (h:p:=by
  skip
  have hcx3:=bE B g 3 w2.drew hC2.drew (by omega) (by omega)
  rw [show ((3:Nat):Int)=3 from rfl] at hcx3
  have Hcx3:=Lib.hid hcx3
  clear hcx3
  go_upto_region 10 with fail
  go_wp2_with fail
  refine aM ((fun w' =>Glb B w')) (by kernel_rfl) (by kernel_rfl) (G2.drew) ?_
  refine TkA ?_
  refine aL rfl ?_
  go_wp2_with fail
  refine Hcx3.out.mono ?_
  rintro e w3 ⟨z3,rfl,hz3,hC3,hq3⟩
  have hg3:w2.grownBy w3 (some g):=aH (aQ (Below.refl _ w2).drew _) hq3
  have hs3:=hg3.size
  have G3:=G2.grown hg3 hBg
  have Hcx4:=Lib.hid (cP 3 (by omega) B g w3 (by omega) (hC3) (G3))
  go_wp2_with fail
  refine aI (G3) ?_
  refine TkA ?_
  refine aE (⟨0,z3,none⟩) (.string (bQ z3)) rfl rfl rfl (fun w' hw' =>aG (fL _) (hw'.scal hz3)) ?_
  refine TkI ?_
  refine TkA ?_
  refine aL rfl ?_
  go_wp2_with fail
  refine Hcx4.out.mono ?_
  rintro e w4 ⟨x4,t4,rfl,hdr4,hok4,hC4,hq4⟩
  have hg4:w3.grownBy w4 (some g):=hq4
  have hs4:=hg4.size
  have G4:=G3.grown hg4 hBg
  unfold exV
  have ha:Below w4.heap.size w4 (w4.alloc (.cells #[.int .i64 1,.string (bQ z3),.int .i64 0,.int .i64 0,.int .i64 0,.int .i64 0,.string (ByteArray.mk #[]),.int .i64 0,.int .i64 0,.slice none 0 0,.int .i64 x4.op,.int .i64 x4.val,.string x4.name,.int .i64 x4.slot,.int .i64 x4.size,.slice x4.A x4.n x4.c,.slice none 0 0,.slice none 0 0] 246)):=(Below.refl _ _).alloc (Nat.le_refl _) _
  have hgre:w.grownBy w4 (some g):=aH (aH (hgr2) hg3) hg4
  have hOe:OwLs bM 18 (fun S w=>SmOk (n+1) S w) w4 w.heap.size 246 (.slice A m c) ts:=hO2.keepR (bF (n+1)) (fun b hb hbb=>(aN hg4 (by omega) (by omega)).trans (aN hg3 (by omega) (by omega)))
  obtain ⟨xs,ho,hxl,hxs⟩:=hOe.ext (bF (n+1)) ha
  have hlx:=Lib.hid ho.len.1
  have hCe:=hC4.ext ha
  have hgra:w.grownBy (w4.alloc (.cells #[.int .i64 1,.string (bQ z3),.int .i64 0,.int .i64 0,.int .i64 0,.int .i64 0,.string (ByteArray.mk #[]),.int .i64 0,.int .i64 0,.slice none 0 0,.int .i64 x4.op,.int .i64 x4.val,.string x4.name,.int .i64 x4.slot,.int .i64 x4.size,.slice x4.A x4.n x4.c,.slice none 0 0,.slice none 0 0] 246)) (some g):=aH hgre (aQ ha _)
  have hasz:=ha.size
  have CLS:∀b,w2.heap.size≤b→w.heap.size≤b∧(Value.slice A m c).ownBlock≠some b:=fun b hb=>⟨by omega,fun e=>by have:=hOwn b e;omega⟩
  have hok:SmOk (n+1) (fun b=>w.heap.size≤b∧(Value.slice A m c).ownBlock≠some b) (w4.alloc (.cells #[.int .i64 1,.string (bQ z3),.int .i64 0,.int .i64 0,.int .i64 0,.int .i64 0,.string (ByteArray.mk #[]),.int .i64 0,.int .i64 0,.slice none 0 0,.int .i64 x4.op,.int .i64 x4.val,.string x4.name,.int .i64 x4.slot,.int .i64 x4.size,.slice x4.A x4.n x4.c,.slice none 0 0,.slice none 0 0] 246)) ⟨1,(bQ z3),0,0,fF,x4,none,0,0,none,0,0⟩ (.mk 1 (bQ z3) 0 0 zEx t4 [] []):=⟨rfl,rfl,rfl,rfl,kP 2 _ _,ExOk.mono (w:=(w4.alloc (.cells #[.int .i64 1,.string (bQ z3),.int .i64 0,.int .i64 0,.int .i64 0,.int .i64 0,.string (ByteArray.mk #[]),.int .i64 0,.int .i64 0,.slice none 0 0,.int .i64 x4.op,.int .i64 x4.val,.string x4.name,.int .i64 x4.slot,.int .i64 x4.size,.slice x4.A x4.n x4.c,.slice none 0 0,.slice none 0 0] 246))) (fun b _ h=>CLS b (Nat.le_trans (by omega) h)) _ _ _ (ExOk.keep (Keep.of_below ha) _ _ _ (ExOk.to3 (by omega) (hok4))),LsOk.nil_ _ _ _ _,LsOk.nil_ _ _ _ _⟩
  have hone:Recs bM (fun _=>True) (w4.alloc (.cells #[.int .i64 1,.string (bQ z3),.int .i64 0,.int .i64 0,.int .i64 0,.int .i64 0,.string (ByteArray.mk #[]),.int .i64 0,.int .i64 0,.slice none 0 0,.int .i64 x4.op,.int .i64 x4.val,.string x4.name,.int .i64 x4.slot,.int .i64 x4.size,.slice x4.A x4.n x4.c,.slice none 0 0,.slice none 0 0] 246)) (.slice (some ⟨w4.heap.size,0,none⟩) 1 1) [⟨1,(bQ z3),0,0,fF,x4,none,0,0,none,0,0⟩]:=fI (heap_alloc_new _ _) trivial
  have hblk:∀o,(Value.slice A m c).ownBlock=some o→w.heap.size≤o:=fun o e=>(World.ownsRow.lt ho o e).1
  have hd:DrS (n+1) (.mk 1 (bQ z3) 0 0 zEx t4 [] []):=⟨rfl,rfl,DrE.to3 (by omega) hdr4,(by simp),(by simp),.inl ⟨rfl,jB _,rfl,rfl,rfl⟩⟩
  go_wp2_with fail
  refine aI (G4) ?_
  refine TkA ?_
  refine aL rfl ?_
  go_wp2_with fail
  refine aI G4 ?_
  refine TkA ?_
  refine aL rfl ?_
  go_wp2_with fail
  refine aI (G4.ext ha) ?_
  refine TkA ?_
  refine aL rfl ?_
  go_wp2_with (refine aV (o:=⟨some 50,_,_,_,_,_⟩) cS dY (.agg #[.int .i64 0,.string (ByteArray.mk #[]),.int .i64 0,.int .i64 0,.int .i64 0,.int .i64 0,.string (ByteArray.mk #[]),.int .i64 0,.int .i64 0,.slice none 0 0,.int .i64 0,.int .i64 0,.string (ByteArray.mk #[]),.int .i64 0,.int .i64 0,.slice none 0 0,.slice none 0 0,.slice none 0 0]) 232 _ _ 27 246 w.heap.size xs [⟨1,(bQ z3),0,0,fF,x4,none,0,0,none,0,0⟩] (some ⟨w4.heap.size,0,none⟩) 1 1 (.slice A m c) (m+1) rfl rfl Tryz.underlying27 fJ rfl (by omega) rfl rfl ho hone (by rw [hlx.out]) (by rw [hlx.out];omega) (by rw [hlx.out];omega) (by omega) ?_;intro Az cz wz hownz hgrz hatz hcz1 hcz2)
  have hgf:w.grownBy wz (some g):=cD hgra hgrz (fun q hq=> .inl (hblk q hq))
  have hCf:=hCe.grown hgrz (fun q hq=>by have:=hblk q hq;constructor<;>omega)
  refine aI (hG.grown hgf hBg) ?_
  refine TkA ?_
  refine aZ ?_
  go_wp2_with fail
  go_roundw
  case rel=>exact ⟨j-1,Az,cz,m+1,ts++ [.mk 1 (bQ z3) 0 0 zEx t4 [] []],by congr 1;omega,rfl,by omega,fun s hs=>by
   rcases List.mem_append.1 hs with hs|hs
   ·exact HDR.out s hs
   ·rw [List.mem_singleton] at hs;subst hs;exact hd,OwLs.push (bF (n+1)) ⟨hxl,hxs⟩ _ _ hok hownz hgrz hatz,hCf,hgf⟩
  case measure=>simp [intOf];omega):p:=h
theorem Tzab {p:Prop} (h:p:=by
  subst h4
  have hcx3:=bE B g 2 w2.drew hC2.drew (by omega) (by omega)
  rw [show ((2:Nat):Int)=2 from rfl] at hcx3
  have Hcx3:=Lib.hid hcx3
  clear hcx3
  go_upto_region 12 with fail
  go_wp2_with fail
  refine aM ((fun w' =>Glb B w')) (by kernel_rfl) (by kernel_rfl) (G2.drew) ?_
  refine TkA ?_
  refine aL rfl ?_
  go_wp2_with fail
  refine Hcx3.out.mono ?_
  rintro e w3 ⟨z3,rfl,hz3,hC3,hq3⟩
  have hg3:w2.grownBy w3 (some g):=aH (aQ (Below.refl _ w2).drew _) hq3
  have hs3:=hg3.size
  have G3:=G2.grown hg3 hBg
  have Hcx4:=Lib.hid (cP 2 (by omega) B g w3 (by omega) (hC3) (G3))
  go_wp2_with fail
  refine aI (G3) ?_
  refine TkA ?_
  refine aE (⟨1,z3,none⟩) (.string (dU z3)) rfl rfl rfl (fun w' hw' =>aG (fL _) (hw'.arr hz3)) ?_
  refine TkI ?_
  refine TkA ?_
  refine aL rfl ?_
  go_wp2_with fail
  refine Hcx4.out.mono ?_
  rintro e w4 ⟨x4,t4,rfl,hdr4,hok4,hC4,hq4⟩
  have hg4:w3.grownBy w4 (some g):=hq4
  have hs4:=hg4.size
  have G4:=G3.grown hg4 hBg
  unfold exV
  have Hcx5:=Lib.hid (cP 2 (by omega) B g w4 (by omega) (hC4) (G4))
  go_wp2_with fail
  refine aI (G4) ?_
  refine TkA ?_
  refine aL rfl ?_
  go_wp2_with fail
  refine Hcx5.out.mono ?_
  rintro e w5 ⟨x5,t5,rfl,hdr5,hok5,hC5,hq5⟩
  have hg5:w4.grownBy w5 (some g):=hq5
  have hs5:=hg5.size
  have G5:=G4.grown hg5 hBg
  unfold exV
  have ha:Below w5.heap.size w5 (w5.alloc (.cells #[.int .i64 2,.string (dU z3),.int .i64 0,.int .i64 0,.int .i64 x4.op,.int .i64 x4.val,.string x4.name,.int .i64 x4.slot,.int .i64 x4.size,.slice x4.A x4.n x4.c,.int .i64 x5.op,.int .i64 x5.val,.string x5.name,.int .i64 x5.slot,.int .i64 x5.size,.slice x5.A x5.n x5.c,.slice none 0 0,.slice none 0 0] 246)):=(Below.refl _ _).alloc (Nat.le_refl _) _
  have hgre:w.grownBy w5 (some g):=aH (aH (aH (hgr2) hg3) hg4) hg5
  have hOe:OwLs bM 18 (fun S w=>SmOk (n+1) S w) w5 w.heap.size 246 (.slice A m c) ts:=hO2.keepR (bF (n+1)) (fun b hb hbb=>(aN hg5 (by omega) (by omega)).trans ((aN hg4 (by omega) (by omega)).trans (aN hg3 (by omega) (by omega))))
  obtain ⟨xs,ho,hxl,hxs⟩:=hOe.ext (bF (n+1)) ha
  have hlx:=Lib.hid ho.len.1
  have hCe:=hC5.ext ha
  have hgra:w.grownBy (w5.alloc (.cells #[.int .i64 2,.string (dU z3),.int .i64 0,.int .i64 0,.int .i64 x4.op,.int .i64 x4.val,.string x4.name,.int .i64 x4.slot,.int .i64 x4.size,.slice x4.A x4.n x4.c,.int .i64 x5.op,.int .i64 x5.val,.string x5.name,.int .i64 x5.slot,.int .i64 x5.size,.slice x5.A x5.n x5.c,.slice none 0 0,.slice none 0 0] 246)) (some g):=aH hgre (aQ ha _)
  have hasz:=ha.size
  have CLS:∀b,w2.heap.size≤b→w.heap.size≤b∧(Value.slice A m c).ownBlock≠some b:=fun b hb=>⟨by omega,fun e=>by have:=hOwn b e;omega⟩
  have hok:SmOk (n+1) (fun b=>w.heap.size≤b∧(Value.slice A m c).ownBlock≠some b) (w5.alloc (.cells #[.int .i64 2,.string (dU z3),.int .i64 0,.int .i64 0,.int .i64 x4.op,.int .i64 x4.val,.string x4.name,.int .i64 x4.slot,.int .i64 x4.size,.slice x4.A x4.n x4.c,.int .i64 x5.op,.int .i64 x5.val,.string x5.name,.int .i64 x5.slot,.int .i64 x5.size,.slice x5.A x5.n x5.c,.slice none 0 0,.slice none 0 0] 246)) ⟨2,(dU z3),0,0,x4,x5,none,0,0,none,0,0⟩ (.mk 2 (dU z3) 0 0 t4 t5 [] []):=⟨rfl,rfl,rfl,rfl,ExOk.mono (w:=(w5.alloc (.cells #[.int .i64 2,.string (dU z3),.int .i64 0,.int .i64 0,.int .i64 x4.op,.int .i64 x4.val,.string x4.name,.int .i64 x4.slot,.int .i64 x4.size,.slice x4.A x4.n x4.c,.int .i64 x5.op,.int .i64 x5.val,.string x5.name,.int .i64 x5.slot,.int .i64 x5.size,.slice x5.A x5.n x5.c,.slice none 0 0,.slice none 0 0] 246))) (fun b _ h=>CLS b (Nat.le_trans (by omega) h)) _ _ _ (ExOk.keep (Keep.of_below ha) _ _ _ (ExOk.to3 (by omega) (oG (bU _) hg5 (by omega) (hok4)))),ExOk.mono (w:=(w5.alloc (.cells #[.int .i64 2,.string (dU z3),.int .i64 0,.int .i64 0,.int .i64 x4.op,.int .i64 x4.val,.string x4.name,.int .i64 x4.slot,.int .i64 x4.size,.slice x4.A x4.n x4.c,.int .i64 x5.op,.int .i64 x5.val,.string x5.name,.int .i64 x5.slot,.int .i64 x5.size,.slice x5.A x5.n x5.c,.slice none 0 0,.slice none 0 0] 246))) (fun b _ h=>CLS b (Nat.le_trans (by omega) h)) _ _ _ (ExOk.keep (Keep.of_below ha) _ _ _ (ExOk.to3 (by omega) (hok5))),LsOk.nil_ _ _ _ _,LsOk.nil_ _ _ _ _⟩
  have hone:Recs bM (fun _=>True) (w5.alloc (.cells #[.int .i64 2,.string (dU z3),.int .i64 0,.int .i64 0,.int .i64 x4.op,.int .i64 x4.val,.string x4.name,.int .i64 x4.slot,.int .i64 x4.size,.slice x4.A x4.n x4.c,.int .i64 x5.op,.int .i64 x5.val,.string x5.name,.int .i64 x5.slot,.int .i64 x5.size,.slice x5.A x5.n x5.c,.slice none 0 0,.slice none 0 0] 246)) (.slice (some ⟨w5.heap.size,0,none⟩) 1 1) [⟨2,(dU z3),0,0,x4,x5,none,0,0,none,0,0⟩]:=fI (heap_alloc_new _ _) trivial
  have hblk:∀o,(Value.slice A m c).ownBlock=some o→w.heap.size≤o:=fun o e=>(World.ownsRow.lt ho o e).1
  have hd:DrS (n+1) (.mk 2 (dU z3) 0 0 t4 t5 [] []):=⟨rfl,rfl,DrE.to3 (by omega) hdr5,(by simp),(by simp),.inr (.inl ⟨rfl,sI _,DrE.to3 (by omega) hdr4,rfl,rfl⟩)⟩
  go_wp2_with fail
  refine aI (G5) ?_
  refine TkA ?_
  refine aL rfl ?_
  go_wp2_with fail
  refine aI G5 ?_
  refine TkA ?_
  refine aL rfl ?_
  go_wp2_with fail
  refine aI (G5.ext ha) ?_
  refine TkA ?_
  refine aL rfl ?_
  go_wp2_with (refine aV (o:=⟨some 65,_,_,_,_,_⟩) cS dY (.agg #[.int .i64 0,.string (ByteArray.mk #[]),.int .i64 0,.int .i64 0,.int .i64 0,.int .i64 0,.string (ByteArray.mk #[]),.int .i64 0,.int .i64 0,.slice none 0 0,.int .i64 0,.int .i64 0,.string (ByteArray.mk #[]),.int .i64 0,.int .i64 0,.slice none 0 0,.slice none 0 0,.slice none 0 0]) 232 _ _ 27 246 w.heap.size xs [⟨2,(dU z3),0,0,x4,x5,none,0,0,none,0,0⟩] (some ⟨w5.heap.size,0,none⟩) 1 1 (.slice A m c) (m+1) rfl rfl Tryz.underlying27 fJ rfl (by omega) rfl rfl ho hone (by rw [hlx.out]) (by rw [hlx.out];omega) (by rw [hlx.out];omega) (by omega) ?_;intro Az cz wz hownz hgrz hatz hcz1 hcz2)
  have hgf:w.grownBy wz (some g):=cD hgra hgrz (fun q hq=> .inl (hblk q hq))
  have hCf:=hCe.grown hgrz (fun q hq=>by have:=hblk q hq;constructor<;>omega)
  refine aI (hG.grown hgf hBg) ?_
  refine TkA ?_
  refine aZ ?_
  go_wp2_with fail
  go_roundw
  case rel=>exact ⟨j-1,Az,cz,m+1,ts++ [.mk 2 (dU z3) 0 0 t4 t5 [] []],by congr 1;omega,rfl,by omega,fun s hs=>by
   rcases List.mem_append.1 hs with hs|hs
   ·exact HDR.out s hs
   ·rw [List.mem_singleton] at hs;subst hs;exact hd,OwLs.push (bF (n+1)) ⟨hxl,hxs⟩ _ _ hok hownz hgrz hatz,hCf,hgf⟩
  case measure=>simp [intOf];omega):p:=h
theorem Tzac {p:Prop} (h:p:=by
  skip
  have Hcx3:=Lib.hid (cP 2 (by omega) B g w2 (by omega) (hC2) (G2))
  go_upto_region 14 with fail
  go_wp2_with fail
  refine Hcx3.out.mono ?_
  rintro e w3 ⟨x3,t3,rfl,hdr3,hok3,hC3,hq3⟩
  have hg3:w2.grownBy w3 (some g):=hq3
  have hs3:=hg3.size
  have G3:=G2.grown hg3 hBg
  unfold exV
  have Hcx4:=Lib.hid (cP 2 (by omega) B g w3 (by omega) (hC3) (G3))
  go_wp2_with fail
  refine Hcx4.out.mono ?_
  rintro e w4 ⟨x4,t4,rfl,hdr4,hok4,hC4,hq4⟩
  have hg4:w3.grownBy w4 (some g):=hq4
  have hs4:=hg4.size
  have G4:=G3.grown hg4 hBg
  unfold exV
  have ha:Below w4.heap.size w4 (w4.alloc (.cells #[.int .i64 5,.string (ByteArray.mk #[]),.int .i64 0,.int .i64 0,.int .i64 x3.op,.int .i64 x3.val,.string x3.name,.int .i64 x3.slot,.int .i64 x3.size,.slice x3.A x3.n x3.c,.int .i64 x4.op,.int .i64 x4.val,.string x4.name,.int .i64 x4.slot,.int .i64 x4.size,.slice x4.A x4.n x4.c,.slice none 0 0,.slice none 0 0] 246)):=(Below.refl _ _).alloc (Nat.le_refl _) _
  have hgre:w.grownBy w4 (some g):=aH (aH (hgr2) hg3) hg4
  have hOe:OwLs bM 18 (fun S w=>SmOk (n+1) S w) w4 w.heap.size 246 (.slice A m c) ts:=hO2.keepR (bF (n+1)) (fun b hb hbb=>(aN hg4 (by omega) (by omega)).trans (aN hg3 (by omega) (by omega)))
  obtain ⟨xs,ho,hxl,hxs⟩:=hOe.ext (bF (n+1)) ha
  have hlx:=Lib.hid ho.len.1
  have hCe:=hC4.ext ha
  have hgra:w.grownBy (w4.alloc (.cells #[.int .i64 5,.string (ByteArray.mk #[]),.int .i64 0,.int .i64 0,.int .i64 x3.op,.int .i64 x3.val,.string x3.name,.int .i64 x3.slot,.int .i64 x3.size,.slice x3.A x3.n x3.c,.int .i64 x4.op,.int .i64 x4.val,.string x4.name,.int .i64 x4.slot,.int .i64 x4.size,.slice x4.A x4.n x4.c,.slice none 0 0,.slice none 0 0] 246)) (some g):=aH hgre (aQ ha _)
  have hasz:=ha.size
  have CLS:∀b,w2.heap.size≤b→w.heap.size≤b∧(Value.slice A m c).ownBlock≠some b:=fun b hb=>⟨by omega,fun e=>by have:=hOwn b e;omega⟩
  have hok:SmOk (n+1) (fun b=>w.heap.size≤b∧(Value.slice A m c).ownBlock≠some b) (w4.alloc (.cells #[.int .i64 5,.string (ByteArray.mk #[]),.int .i64 0,.int .i64 0,.int .i64 x3.op,.int .i64 x3.val,.string x3.name,.int .i64 x3.slot,.int .i64 x3.size,.slice x3.A x3.n x3.c,.int .i64 x4.op,.int .i64 x4.val,.string x4.name,.int .i64 x4.slot,.int .i64 x4.size,.slice x4.A x4.n x4.c,.slice none 0 0,.slice none 0 0] 246)) ⟨5,(ByteArray.mk #[]),0,0,x3,x4,none,0,0,none,0,0⟩ (.mk 5 (ByteArray.mk #[]) 0 0 t3 t4 [] []):=⟨rfl,rfl,rfl,rfl,ExOk.mono (w:=(w4.alloc (.cells #[.int .i64 5,.string (ByteArray.mk #[]),.int .i64 0,.int .i64 0,.int .i64 x3.op,.int .i64 x3.val,.string x3.name,.int .i64 x3.slot,.int .i64 x3.size,.slice x3.A x3.n x3.c,.int .i64 x4.op,.int .i64 x4.val,.string x4.name,.int .i64 x4.slot,.int .i64 x4.size,.slice x4.A x4.n x4.c,.slice none 0 0,.slice none 0 0] 246))) (fun b _ h=>CLS b (Nat.le_trans (by omega) h)) _ _ _ (ExOk.keep (Keep.of_below ha) _ _ _ (ExOk.to3 (by omega) (oG (bU _) hg4 (by omega) (hok3)))),ExOk.mono (w:=(w4.alloc (.cells #[.int .i64 5,.string (ByteArray.mk #[]),.int .i64 0,.int .i64 0,.int .i64 x3.op,.int .i64 x3.val,.string x3.name,.int .i64 x3.slot,.int .i64 x3.size,.slice x3.A x3.n x3.c,.int .i64 x4.op,.int .i64 x4.val,.string x4.name,.int .i64 x4.slot,.int .i64 x4.size,.slice x4.A x4.n x4.c,.slice none 0 0,.slice none 0 0] 246))) (fun b _ h=>CLS b (Nat.le_trans (by omega) h)) _ _ _ (ExOk.keep (Keep.of_below ha) _ _ _ (ExOk.to3 (by omega) (hok4))),LsOk.nil_ _ _ _ _,LsOk.nil_ _ _ _ _⟩
  have hone:Recs bM (fun _=>True) (w4.alloc (.cells #[.int .i64 5,.string (ByteArray.mk #[]),.int .i64 0,.int .i64 0,.int .i64 x3.op,.int .i64 x3.val,.string x3.name,.int .i64 x3.slot,.int .i64 x3.size,.slice x3.A x3.n x3.c,.int .i64 x4.op,.int .i64 x4.val,.string x4.name,.int .i64 x4.slot,.int .i64 x4.size,.slice x4.A x4.n x4.c,.slice none 0 0,.slice none 0 0] 246)) (.slice (some ⟨w4.heap.size,0,none⟩) 1 1) [⟨5,(ByteArray.mk #[]),0,0,x3,x4,none,0,0,none,0,0⟩]:=fI (heap_alloc_new _ _) trivial
  have hblk:∀o,(Value.slice A m c).ownBlock=some o→w.heap.size≤o:=fun o e=>(World.ownsRow.lt ho o e).1
  have hd:DrS (n+1) (.mk 5 (ByteArray.mk #[]) 0 0 t3 t4 [] []):=⟨rfl,rfl,DrE.to3 (by omega) hdr4,(by simp),(by simp),.inr (.inr (.inl ⟨rfl,rfl,DrE.to3 (by omega) hdr3,rfl,rfl⟩))⟩
  go_wp2_with (refine aV (o:=⟨some 76,_,_,_,_,_⟩) cS dY (.agg #[.int .i64 0,.string (ByteArray.mk #[]),.int .i64 0,.int .i64 0,.int .i64 0,.int .i64 0,.string (ByteArray.mk #[]),.int .i64 0,.int .i64 0,.slice none 0 0,.int .i64 0,.int .i64 0,.string (ByteArray.mk #[]),.int .i64 0,.int .i64 0,.slice none 0 0,.slice none 0 0,.slice none 0 0]) 232 _ _ 27 246 w.heap.size xs [⟨5,(ByteArray.mk #[]),0,0,x3,x4,none,0,0,none,0,0⟩] (some ⟨w4.heap.size,0,none⟩) 1 1 (.slice A m c) (m+1) rfl rfl Tryz.underlying27 fJ rfl (by omega) rfl rfl ho hone (by rw [hlx.out]) (by rw [hlx.out];omega) (by rw [hlx.out];omega) (by omega) ?_;intro Az cz wz hownz hgrz hatz hcz1 hcz2)
  have hgf:w.grownBy wz (some g):=cD hgra hgrz (fun q hq=> .inl (hblk q hq))
  have hCf:=hCe.grown hgrz (fun q hq=>by have:=hblk q hq;constructor<;>omega)
  go_roundw
  case rel=>exact ⟨j-1,Az,cz,m+1,ts++ [.mk 5 (ByteArray.mk #[]) 0 0 t3 t4 [] []],by congr 1;omega,rfl,by omega,fun s hs=>by
   rcases List.mem_append.1 hs with hs|hs
   ·exact HDR.out s hs
   ·rw [List.mem_singleton] at hs;subst hs;exact hd,OwLs.push (bF (n+1)) ⟨hxl,hxs⟩ _ _ hok hownz hgrz hatz,hCf,hgf⟩
  case measure=>simp [intOf];omega):p:=h
theorem Tzad {p:Prop} (h:p:=by
  have Hcx3:=Lib.hid (cP 2 (by omega) B g w2 (by omega) (hC2) (G2))
  go_upto_region 16 with fail
  go_wp2_with fail
  refine Hcx3.out.mono ?_
  rintro e w3 ⟨x3,t3,rfl,hdr3,hok3,hC3,hq3⟩
  have hg3:w2.grownBy w3 (some g):=hq3
  have hs3:=hg3.size
  have G3:=G2.grown hg3 hBg
  unfold exV
  have ha:Below w3.heap.size w3 (w3.alloc (.cells #[.int .i64 6,.string (ByteArray.mk #[]),.int .i64 0,.int .i64 0,.int .i64 0,.int .i64 0,.string (ByteArray.mk #[]),.int .i64 0,.int .i64 0,.slice none 0 0,.int .i64 x3.op,.int .i64 x3.val,.string x3.name,.int .i64 x3.slot,.int .i64 x3.size,.slice x3.A x3.n x3.c,.slice none 0 0,.slice none 0 0] 246)):=(Below.refl _ _).alloc (Nat.le_refl _) _
  have hgre:w.grownBy w3 (some g):=aH (hgr2) hg3
  have hOe:OwLs bM 18 (fun S w=>SmOk (n+1) S w) w3 w.heap.size 246 (.slice A m c) ts:=hO2.keepR (bF (n+1)) (fun b hb hbb=>aN hg3 (by omega) (by omega))
  obtain ⟨xs,ho,hxl,hxs⟩:=hOe.ext (bF (n+1)) ha
  have hlx:=Lib.hid ho.len.1
  have hCe:=hC3.ext ha
  have hgra:w.grownBy (w3.alloc (.cells #[.int .i64 6,.string (ByteArray.mk #[]),.int .i64 0,.int .i64 0,.int .i64 0,.int .i64 0,.string (ByteArray.mk #[]),.int .i64 0,.int .i64 0,.slice none 0 0,.int .i64 x3.op,.int .i64 x3.val,.string x3.name,.int .i64 x3.slot,.int .i64 x3.size,.slice x3.A x3.n x3.c,.slice none 0 0,.slice none 0 0] 246)) (some g):=aH hgre (aQ ha _)
  have hasz:=ha.size
  have CLS:∀b,w2.heap.size≤b→w.heap.size≤b∧(Value.slice A m c).ownBlock≠some b:=fun b hb=>⟨by omega,fun e=>by have:=hOwn b e;omega⟩
  have hok:SmOk (n+1) (fun b=>w.heap.size≤b∧(Value.slice A m c).ownBlock≠some b) (w3.alloc (.cells #[.int .i64 6,.string (ByteArray.mk #[]),.int .i64 0,.int .i64 0,.int .i64 0,.int .i64 0,.string (ByteArray.mk #[]),.int .i64 0,.int .i64 0,.slice none 0 0,.int .i64 x3.op,.int .i64 x3.val,.string x3.name,.int .i64 x3.slot,.int .i64 x3.size,.slice x3.A x3.n x3.c,.slice none 0 0,.slice none 0 0] 246)) ⟨6,(ByteArray.mk #[]),0,0,fF,x3,none,0,0,none,0,0⟩ (.mk 6 (ByteArray.mk #[]) 0 0 zEx t3 [] []):=⟨rfl,rfl,rfl,rfl,kP 2 _ _,ExOk.mono (w:=(w3.alloc (.cells #[.int .i64 6,.string (ByteArray.mk #[]),.int .i64 0,.int .i64 0,.int .i64 0,.int .i64 0,.string (ByteArray.mk #[]),.int .i64 0,.int .i64 0,.slice none 0 0,.int .i64 x3.op,.int .i64 x3.val,.string x3.name,.int .i64 x3.slot,.int .i64 x3.size,.slice x3.A x3.n x3.c,.slice none 0 0,.slice none 0 0] 246))) (fun b _ h=>CLS b (Nat.le_trans (by omega) h)) _ _ _ (ExOk.keep (Keep.of_below ha) _ _ _ (ExOk.to3 (by omega) (hok3))),LsOk.nil_ _ _ _ _,LsOk.nil_ _ _ _ _⟩
  have hone:Recs bM (fun _=>True) (w3.alloc (.cells #[.int .i64 6,.string (ByteArray.mk #[]),.int .i64 0,.int .i64 0,.int .i64 0,.int .i64 0,.string (ByteArray.mk #[]),.int .i64 0,.int .i64 0,.slice none 0 0,.int .i64 x3.op,.int .i64 x3.val,.string x3.name,.int .i64 x3.slot,.int .i64 x3.size,.slice x3.A x3.n x3.c,.slice none 0 0,.slice none 0 0] 246)) (.slice (some ⟨w3.heap.size,0,none⟩) 1 1) [⟨6,(ByteArray.mk #[]),0,0,fF,x3,none,0,0,none,0,0⟩]:=fI (heap_alloc_new _ _) trivial
  have hblk:∀o,(Value.slice A m c).ownBlock=some o→w.heap.size≤o:=fun o e=>(World.ownsRow.lt ho o e).1
  have hd:DrS (n+1) (.mk 6 (ByteArray.mk #[]) 0 0 zEx t3 [] []):=⟨rfl,rfl,DrE.to3 (by omega) hdr3,(by simp),(by simp),.inr (.inr (.inr (.inl ⟨rfl,rfl,rfl,rfl,rfl⟩)))⟩
  go_wp2_with (refine aV (o:=⟨some 85,_,_,_,_,_⟩) cS dY (.agg #[.int .i64 0,.string (ByteArray.mk #[]),.int .i64 0,.int .i64 0,.int .i64 0,.int .i64 0,.string (ByteArray.mk #[]),.int .i64 0,.int .i64 0,.slice none 0 0,.int .i64 0,.int .i64 0,.string (ByteArray.mk #[]),.int .i64 0,.int .i64 0,.slice none 0 0,.slice none 0 0,.slice none 0 0]) 232 _ _ 27 246 w.heap.size xs [⟨6,(ByteArray.mk #[]),0,0,fF,x3,none,0,0,none,0,0⟩] (some ⟨w3.heap.size,0,none⟩) 1 1 (.slice A m c) (m+1) rfl rfl Tryz.underlying27 fJ rfl (by omega) rfl rfl ho hone (by rw [hlx.out]) (by rw [hlx.out];omega) (by rw [hlx.out];omega) (by omega) ?_;intro Az cz wz hownz hgrz hatz hcz1 hcz2)
  have hgf:w.grownBy wz (some g):=cD hgra hgrz (fun q hq=> .inl (hblk q hq))
  have hCf:=hCe.grown hgrz (fun q hq=>by have:=hblk q hq;constructor<;>omega)
  go_roundw
  case rel=>exact ⟨j-1,Az,cz,m+1,ts++ [.mk 6 (ByteArray.mk #[]) 0 0 zEx t3 [] []],by congr 1;omega,rfl,by omega,fun s hs=>by
   rcases List.mem_append.1 hs with hs|hs
   ·exact HDR.out s hs
   ·rw [List.mem_singleton] at hs;subst hs;exact hd,OwLs.push (bF (n+1)) ⟨hxl,hxs⟩ _ _ hok hownz hgrz hatz,hCf,hgf⟩
  case measure=>simp [intOf];omega):p:=h
theorem Tzae {p:Prop} (h:p:=by
  clear hf hst
  go_wp2_with (refine aD (t:=36) (A:=⟨w.heap.size,0,none⟩) rfl rfl rfl (aB RDr.out Tryz.underlying36 rfl (by kernel_rfl)) ?_)
  refine HCB.out.mono ?_
  rintro e wa ⟨g,V,q,x,rfl,hbo,ba⟩
  obtain ⟨Wb,hWb,_,kb,Sb,Rb⟩:=bP wa wa #[.int .i64 g.kind,.int .i64 g.stamp,.int .i64 g.base,.int .i64 g.under] 90 (Below.refl _ _)
  obtain ⟨bg,hbg⟩:∃b,b=wa.heap.size:=⟨_,rfl⟩
  rw [←hbg] at Rb
  have HBG:=Lib.hid hbg
  have hbb:=Below.ext hbr (Below.ext ba kb)
  have qg:Wb.cell? ⟨bg,1,none⟩=some (.int .i64 g.stamp):=aA Rb.out 1 _ rfl
  clear hbg
  rcases hbo with ⟨p,hhd,rfl,rfl,_⟩|⟨hhd,hx0,rfl,rfl,rfl⟩
  case inr=>
   have dx:((x:Int)==0)=false:=by simpa using hx0
   have HN:=Lib.hid (show bV (fs.take (iv+1))=z by have:=HST.out;rw [hhd] at this;rw [this];show max z 0=z;omega)
   clear hhd hx0 qg
   go_upto_region 20 with (refine aF rfl 90 _ _ rfl 90 _ #[.int .i64 0,.int .i64 0,.int .i64 0,.int .i64 0] rfl rfl (by kernel_rfl) rfl (by simp [Value.oneCell']) ?_)
   try dsimp only
   rw [←hWb,←HBG.out]
   clear hWb
   try simp only [Act.put]
   go_wp2
   go_roundw
   case rel=>exact ⟨iv+1,by go_num,by omega,by rw [HN.out],hbb⟩
   case measure=>simp [intOf];omega
  have hgi:=nD hhd
  have hgs:=hgi.1 g.stamp (by simp [Hd.l])
  unfold InR at hgs
  have HN:=Lib.hid (show bV (fs.take (iv+1))=max z g.stamp by have:=HST.out;rw [hhd] at this;exact this)
  clear hhd hgi
  by_cases hzg:z<g.stamp
  ·have dz:decide (z<g.stamp)=true:=by simpa using hzg
   have HM:=Lib.hid (show bV (fs.take (iv+1))=g.stamp by rw [HN.out];omega)
   go_upto_region 20 with (refine aF rfl 90 _ _ rfl 90 _ #[.int .i64 g.kind,.int .i64 g.stamp,.int .i64 g.base,.int .i64 g.under] rfl rfl (by kernel_rfl) rfl (by simp [Value.oneCell']) ?_)
   try dsimp only
   rw [←hWb,←HBG.out]
   clear hWb
   try simp only [Act.put]
   go_wp2
   go_roundw
   case rel=>exact ⟨iv+1,by go_num,by omega,by rw [HM.out],hbb⟩
   case measure=>simp [intOf];omega
  ·have dz:decide (z<g.stamp)=false:=by simpa using hzg
   have HM:=Lib.hid (show bV (fs.take (iv+1))=z by rw [HN.out];omega)
   go_upto_region 20 with (refine aF rfl 90 _ _ rfl 90 _ #[.int .i64 g.kind,.int .i64 g.stamp,.int .i64 g.base,.int .i64 g.under] rfl rfl (by kernel_rfl) rfl (by simp [Value.oneCell']) ?_)
   try dsimp only
   rw [←hWb,←HBG.out]
   clear hWb
   try simp only [Act.put]
   go_wp2
   go_roundw
   case rel=>exact ⟨iv+1,by go_num,by omega,by rw [HM.out],hbb⟩
   case measure=>simp [intOf];omega):p:=h
theorem Tzaf {p:Prop} (h:p:=by
  go_wp2_with fail
  refine aP (fun _=>True) (by kernel_rfl) (by kernel_rfl) trivial ?_
  refine TkE ?_
  refine bG ?_
  go_wp2_with fail
  go_wp2
  go_ret
  rw [FIN.out]
  exact ⟨rfl,hbr.drew⟩):p:=h
theorem Tzag {p:Prop} (h:p:=by
  rw [bT,eP ho'] at h
  have hpx:∀x∈bL l pre,bY kd l.toArray x o=true∧∀cs b,x.op≠ .select cs b:=fun x hx=>by
   obtain ⟨i,hi,hx'⟩:=eS hx
   exact ⟨hpair i x hi hx',hsel i x hx'⟩
  rw [bT] at hK
  by_cases k0:kd o=0
  ·obtain ⟨v,hv,h1⟩:=iC k0 (hsel j o ho') (bL l pre) a w hS (fun x hx=>by
    obtain ⟨hb,hs⟩:=hpx x hx
    simp only [bY,Bool.and_eq_true] at hb
    exact ⟨hb.1.2,hs⟩) h
   exact (jN hv hS).wpOp ho (hK _ _ hS h1)
  ·by_cases k1:kd o=1
   ·obtain ⟨v,hv,h1⟩:=lC ⟨k1,hk1 o k1⟩ (hsel j o ho') (bL l pre) a w hS (fun x hx=>by
     obtain ⟨hb,hs⟩:=hpx x hx
     simp only [bY,Bool.and_eq_true,Bool.or_eq_true,beq_iff_eq] at hb
     refine ⟨?_,hb.1.2,hs⟩
     rcases hb.2 with (hx0|hx0)|hx0
     ·exact .inl hx0
     ·exact absurd hx0 k0
     ·exact .inr ⟨hx0.1,hk1 x hx0.1⟩) h
    exact hv.wpOp ho (hK _ _ hS h1)
   ·have h1:=gN ho k0 (hsel j o ho') (bL l pre) a w hS (fun x hx=>by
     obtain ⟨hb,hs⟩:=hpx x hx
     simp only [bY,Bool.and_eq_true,Bool.or_eq_true,beq_iff_eq] at hb
     refine ⟨?_,hb.1.1,hs⟩
     rcases hb.2 with (hx0|hx0)|hx0
     ·exact hx0
     ·exact absurd hx0 k0
     ·exact absurd hx0.2 k1) h
    exact wpOp_mono (fun a' w' h2=>hK a' w' h2.1 h2.2) h1):p:=h
theorem Tzah {p:Prop} (h:p:=by
  clear g
  go_wp2
  go_loopw [8] (fun a wr=>∃k:Nat,a= .int .i64 k∧k≤xn∧Below w1.heap.size w1 wr) (fun a _=>xn-(intOf a).toNat)
  case atStart=>exact ⟨0,rfl,by omega,Below.refl _ _⟩
  case round=>
   obtain ⟨k,rfl,hk,hb⟩:=hrel
   have hbW2:=Below.ext hb1' hb
   have R2:=Lib.hid ((hb.block w.heap.size (by have:=SW.out;omega)).trans R1.out)
   have q5:wr.cell? ⟨w.heap.size,5,none⟩=some (.slice xA xn xc):=aA R2.out 5 _ rfl
   by_cases hlt:k<xn
   ·obtain ⟨b,off,y,u,rfl,hS,hbb,hu,hoky,hcy⟩:=hargs.at_ dZ (j:=k) hlt (by omega)
    have HC:=Lib.hid (fun i u h=>(hbW2.cell (p:=⟨b,off+k*6+i,none⟩) hbb).trans (hcy i u h))
    have hU:=HALL.out u (List.mem_of_getElem? hu)
    have Hc:=Lib.hid (ih y u _ wr V i s k0 hs1 hs5 (HV.out wr hbW2) (ExOk.keep (Keep.of_below hbW2) _ _ _ hoky) hU)
    clear hu hcy hU hoky
    go_wp2_with (refine aD (t:=244) (A:=⟨b,off+k*6,none⟩) rfl rfl rfl (gC HC.out) ?_)
    refine Hc.out.mono ?_
    rintro e w2 ⟨rfl,hb2⟩
    go_wp2
    go_roundw
    case rel=>exact ⟨k+1,by go_num,by omega,Below.ext hb hb2⟩
    case measure=>simp [intOf];omega
   ·obtain rfl:k=xn:=by omega
    go_wp2
    go_ret
    exact ⟨rfl,hbW2⟩):p:=h
theorem Tzai {p:Prop} (h:p:=by
  subst h0
  have ep:dV s 0=0:=rfl
  rw [ep]
  have q:wr.cell? ⟨V,0,none⟩=some (.string (ByteArray.mk #[120])):=by rw [cell_of_row _ _ _ _ _ _ R.out];rfl
  go_wp2_with (refine aD (t:=199) (A:=⟨V,0,none⟩) rfl rfl rfl (eT (nm:=(ByteArray.mk #[120])) (z:=0) (y:=i) R.out rfl) ?_)
  refine (dE _ _ _ (by omega) (by omega) wr).mono ?_
  rintro e w2 ⟨rfl,hb2⟩
  have e1:max (0:Int) 1=1:=by omega
  rw [e1]
  clear e1
  go_wp2
  go_roundw
  case rel=>exact ⟨1,rfl,by omega,(by show _=Value.int .i64 (1);exact congrArg _ (by omega)),Below.ext hb hb2⟩
  case measure=>simp [intOf]):p:=h
theorem Tzaj {p:Prop} (h:p:=by
  have cw417:w4.cell? ⟨bx,17,none⟩=some (.slice xB 0 xd):=aA Rw4.out 17 _ rfl
  go_wp2_with fail
  refine (HB.out _ y4).mono ?_
  rintro e w5 ⟨rfl,b5⟩
  have y5:=Below.ext y4 b5
  have Rw5:=Lib.hid ((y5.block bx hbxW).trans R0.out)
  have cw517:w5.cell? ⟨bx,17,none⟩=some (.slice xB 0 xd):=aA Rw5.out 17 _ rfl
  go_wp2_with fail
  refine (HE.out _ y5).mono ?_
  rintro e w6 ⟨rfl,b6⟩
  go_wp2
  go_roundw
  case rel=>exact ⟨k+1,by go_num,by omega,Below.ext yW (Below.ext y5 b6)⟩
  case measure=>simp [intOf];omega):p:=h
theorem Tzak {p:Prop} (h:p:=by
  have hcx2:=bE B g 200 w1 hC1 (by omega) (by omega)
  rw [show ((200:Nat):Int)=200 from rfl] at hcx2
  have Hcx2:=Lib.hid hcx2
  clear hcx2
  go_upto_region 13 with fail
  go_wp2_with fail
  refine Hcx2.out.mono ?_
  rintro e w2 ⟨z,rfl,hz,hC2,hg2⟩
  have R2:=Lib.hid ((aN hg2 hb1 hgb).trans R1.out)
  have hgw2:=aH hgw1 hg2
  have hfin:=eZ (bU (n+1)) (xv:=⟨1,1+(z:Int),(ByteArray.mk #[]),0,0,none,0,0⟩) (t:= .mk (1) (1+(z:Int)) (ByteArray.mk #[]) 0 0 []) HB4.out hC2 hglt hgw2 ⟨rfl,rfl,rfl,rfl,rfl,LsOk.nil_ _ _ _ _⟩ #[.int .i64 1,.int .i64 (1+(z:Int)),.string (ByteArray.mk #[]),.int .i64 0,.int .i64 0,.slice none 0 0]
  go_wp2_with (refine aC rfl 244 _ _ rfl b4 244 _ _ rfl rfl R2.out (by kernel_rfl) rfl (by simp [Value.oneCell']) ?_)
  refine bodyPost_ret (bH rfl rfl (aB (setRow_heap _ _ _ _ _ _ R2.out) Tryz.underlying244 rfl (by kernel_rfl))) rfl ?_
  exact ⟨⟨1,1+(z:Int),(ByteArray.mk #[]),0,0,none,0,0⟩,.mk (1) (1+(z:Int)) (ByteArray.mk #[]) 0 0 [],rfl,⟨rfl,rfl,by simp,.inl ⟨rfl,by omega,by omega,rfl,rfl⟩⟩,hfin.1,hfin.2.1,hfin.2.2⟩):p:=h
theorem Tzal {p:Prop} (h:p:=by
  skip
  have hcx2:=bE B g 5 w1 hC1 (by omega) (by omega)
  rw [show ((5:Nat):Int)=5 from rfl] at hcx2
  have Hcx2:=Lib.hid hcx2
  clear hcx2
  go_upto_region 5 with fail
  go_wp2_with fail
  refine Hcx2.out.mono ?_
  rintro e w2 ⟨z,rfl,hz,hC2,hg2⟩
  have R2:=Lib.hid ((aN hg2 hb1 hgb).trans R1.out)
  have hgw2:=aH hgw1 hg2
  have hfin:=eZ (bU (n+1)) (xv:=⟨1,(z:Int),(ByteArray.mk #[]),0,0,none,0,0⟩) (t:= .mk (1) ((z:Int)) (ByteArray.mk #[]) 0 0 []) HB4.out hC2 hglt hgw2 ⟨rfl,rfl,rfl,rfl,rfl,LsOk.nil_ _ _ _ _⟩ #[.int .i64 1,.int .i64 (z:Int),.string (ByteArray.mk #[]),.int .i64 0,.int .i64 0,.slice none 0 0]
  go_wp2_with (refine aC rfl 244 _ _ rfl b4 244 _ _ rfl rfl R2.out (by kernel_rfl) rfl (by simp [Value.oneCell']) ?_)
  refine bodyPost_ret (bH rfl rfl (aB (setRow_heap _ _ _ _ _ _ R2.out) Tryz.underlying244 rfl (by kernel_rfl))) rfl ?_
  exact ⟨⟨1,(z:Int),(ByteArray.mk #[]),0,0,none,0,0⟩,.mk (1) ((z:Int)) (ByteArray.mk #[]) 0 0 [],rfl,⟨rfl,rfl,by simp,.inl ⟨rfl,by omega,by omega,rfl,rfl⟩⟩,hfin.1,hfin.2.1,hfin.2.2⟩):p:=h
theorem Tzam {p:Prop} (h:p:=by
  skip
  have hcx2:=bE B g 3 w1 hC1 (by omega) (by omega)
  rw [show ((3:Nat):Int)=3 from rfl] at hcx2
  have Hcx2:=Lib.hid hcx2
  clear hcx2
  go_upto_region 7 with fail
  go_wp2_with fail
  refine Hcx2.out.mono ?_
  rintro e w2 ⟨z,rfl,hz,hC2,hg2⟩
  have R2:=Lib.hid ((aN hg2 hb1 hgb).trans R1.out)
  have hgw2:=aH hgw1 hg2
  have q2:w2.cell? ⟨0,z,none⟩=some (.string (bQ z)):=(G1.grown hg2 hBg).scal hz
  have hfin:=eZ (bU (n+1)) (xv:=⟨2,0,bQ z,0,0,none,0,0⟩) (t:= .mk 2 0 (bQ z) 0 0 []) HB4.out hC2 hglt hgw2 (⟨rfl,rfl,rfl,rfl,rfl,LsOk.nil_ _ _ _ _⟩) #[.int .i64 2,.int .i64 0,.string (bQ z),.int .i64 0,.int .i64 0,.slice none 0 0]
  go_wp2_with (refine aC rfl 244 _ _ rfl b4 244 _ _ rfl rfl R2.out (by kernel_rfl) rfl (by simp [Value.oneCell']) ?_)
  refine bodyPost_ret (bH rfl rfl (aB (setRow_heap _ _ _ _ _ _ R2.out) Tryz.underlying244 rfl (by kernel_rfl))) rfl ?_
  exact ⟨⟨2,0,bQ z,0,0,none,0,0⟩,.mk 2 0 (bQ z) 0 0 [],rfl,⟨rfl,rfl,(by simp),.inr (.inl ⟨rfl,rfl,jB z,rfl⟩)⟩,hfin.1,hfin.2.1,hfin.2.2⟩):p:=h
theorem Tzan {p:Prop} (h:p:=by
  go_wp2_with (refine aD (t:=244) (A:=⟨ba,oa+k*18+4,none⟩) rfl rfl rfl (rB (HC.out w1 b1)) ?_)
  refine (HP.out _ b1).mono ?_
  rintro e w2 ⟨rfl,b2⟩
  have y2:=Below.ext b1 b2
  go_wp2_with (refine aD (t:=244) (A:=⟨ba,oa+k*18+10,none⟩) rfl rfl rfl (rA (HC.out w2 y2)) ?_)
  refine (HV.out _ y2).mono ?_
  rintro e w3 ⟨rfl,b3⟩
  have y3:=Below.ext y2 b3
  have c3:w3.cell? ⟨ba,oa+k*18+16,none⟩=some (.slice x.A x.n x.c):=HC.out w3 y3 16 _ rfl
  go_wp2_with fail
  refine (HB.out _ y3).mono ?_
  rintro e w4 ⟨rfl,b4⟩
  have y4:=Below.ext y3 b4
  have c4:w4.cell? ⟨ba,oa+k*18+17,none⟩=some (.slice x.B x.m x.d):=HC.out w4 y4 17 _ rfl
  go_wp2_with fail
  refine (HE.out _ y4).mono ?_
  rintro e w5 ⟨rfl,b5⟩
  go_wp2
  go_roundw
  case rel=>exact ⟨k+1,by go_num,by omega,Below.ext hb (Below.ext y4 b5)⟩
  case measure=>simp [intOf];omega):p:=h
theorem Tzao {p:Prop} (h:p:=by
  have kk:Keep (W9.heap.size≤·) w10 (w10.setRow (w.heap.size+3) #[.slice B1 m1 d1,.slice B2 m2 d2,.slice B3 m3 d3,.slice B4 m4 d4]):=fun b hb h=>k6.block b hb (by have h2:W9.heap.size≤b:=h;simp;omega)
  have kk2:Keep (fun b=>((Ss b∧b<w.heap.size)∨w.heap.size+4≤b)∧b<b5) w10 (w10.setRow (w.heap.size+3) #[.slice B1 m1 d1,.slice B2 m2 d2,.slice B3 m3 d3,.slice B4 m4 d4]):=fun b hb h=>k6.block b hb (by have h2:=h.1;simp;omega)
  have up:∀b,b<(w10.setRow (w.heap.size+3) #[.slice B1 m1 d1,.slice B2 m2 d2,.slice B3 m3 d3,.slice B4 m4 d4]).heap.size→W9.heap.size≤b→Ss b∨w.heap.size≤b:=fun b _ h=>Or.inr (by omega)
  refine ⟨s',B1,m1,d1,B2,m2,d2,B3,m3,d3,B4,m4,d4,rfl,hnext,⟨(g1.keep kk).mono up,(g2.keep kk2).mono (fun b _ h=>h.1.elim (fun h2=>Or.inl h2.1) (fun h2=>Or.inr (by omega))),(g3.keep kk).mono up,(g4.keep kk).mono up⟩,hci,hs1,hs2,?_⟩
  exact (Below.ext b9 hb10).grown k6 (by omega) (fun b hb=>by cases hb;omega)):p:=h
theorem Tzap {p:Prop} (h:p:=by
  subst h1
  have ep:dV s 1=1:=rfl
  rw [ep]
  have q:wr.cell? ⟨V,3,none⟩=some (.string (ByteArray.mk #[97])):=by rw [cell_of_row _ _ _ _ _ _ R.out];rfl
  go_wp2_with (refine aD (t:=199) (A:=⟨V,3,none⟩) rfl rfl rfl (eT (nm:=(ByteArray.mk #[97])) (z:=s) (y:=0) R.out rfl) ?_)
  refine (dE _ _ _ (by omega) (by omega) wr).mono ?_
  rintro e w2 ⟨rfl,hb2⟩
  have e1:max (s:Int) 1=s:=by omega
  rw [e1]
  clear e1
  go_wp2
  go_roundw
  case rel=>exact ⟨2,rfl,by omega,(by show _=Value.int .i64 (1+s);exact congrArg _ (by omega)),Below.ext hb hb2⟩
  case measure=>simp [intOf]):p:=h
theorem Tzaq {p:Prop} (h:p:=by
  subst h6
  obtain ⟨W5,hW5,b5,s5,r5⟩:=fG w1 #[.int .i64 4,.int .i64 5,.int .i64 6] 3
  have S5:=Lib.hid s5
  have R5:=Lib.hid r5
  have hC5:=hC1.ext b5
  clear s5 r5
  have hcx2:=bE B g 3 W5 hC5 (by omega) (by omega)
  rw [show ((3:Nat):Int)=3 from rfl] at hcx2
  have Hcx2:=Lib.hid hcx2
  clear hcx2
  go_upto_region 11 with fail
  go_wp2_with fail
  rw [←hW5]
  clear hW5
  refine Hcx2.out.mono ?_
  rintro e w2 ⟨z,rfl,hz,hC2,hg2⟩
  have R2:=Lib.hid ((aN hg2 (by have:=S5.out;omega) hgb).trans ((b5.block b4 hb1).trans R1.out))
  have hgw2:=aH (aH hgw1 (aQ b5 _)) hg2
  have hg1lt:=hC1.lt
  have r2:=(aN hg2 (show w1.heap.size<W5.heap.size by have:=S5.out;omega) (by omega)).trans R5.out
  have q2:w2.cell? ⟨w1.heap.size,z,none⟩=some (.int .i64 (4+(z:Int))):=by
   rw [cell_of_row _ _ _ _ _ _ r2]
   match z,hz with
   |0,_=>rfl
   |1,_=>rfl
   |2,_=>rfl
  clear r2
  have hfin:=eZ (bU (n+1)) (xv:=⟨4+(z:Int),0,(ByteArray.mk #[]),0,0,none,0,0⟩) (t:= .mk (4+(z:Int)) 0 (ByteArray.mk #[]) 0 0 []) HB4.out hC2 hglt hgw2 (⟨rfl,rfl,rfl,rfl,rfl,LsOk.nil_ _ _ _ _⟩) #[.int .i64 (4+(z:Int)),.int .i64 0,.string (ByteArray.mk #[]),.int .i64 0,.int .i64 0,.slice none 0 0]
  go_wp2_with (refine aC rfl 244 _ _ rfl b4 244 _ _ rfl rfl R2.out (by kernel_rfl) rfl (by simp [Value.oneCell']) ?_)
  refine bodyPost_ret (bH rfl rfl (aB (setRow_heap _ _ _ _ _ _ R2.out) Tryz.underlying244 rfl (by kernel_rfl))) rfl ?_
  exact ⟨⟨4+(z:Int),0,(ByteArray.mk #[]),0,0,none,0,0⟩,.mk (4+(z:Int)) 0 (ByteArray.mk #[]) 0 0 [],rfl,⟨rfl,rfl,(by simp),.inr (.inr (.inl ⟨by omega,by omega,rfl,rfl,rfl⟩))⟩,hfin.1,hfin.2.1,hfin.2.2⟩):p:=h
theorem Tzar {p:Prop} (h:p:=by
  exact (((Below.refl _ _).alloc (Nat.le_refl _) _).block w.heap.size (by simp)).trans (heap_alloc_new w _)):p:=h
theorem Tzas {p:Prop} (h:p:=by
  refine TkI ?_
  refine TkA ?_
  refine aE (⟨w.heap.size,1,none⟩) (.int .i64 0) rfl rfl rfl (fun w' hw' =>aG (aU _) (aA ((hw'.block w.heap.size (by have:=SW.out;omega)).trans R0.out) 1 _ rfl)) ?_
  refine TkI ?_
  refine TkA ?_
  refine aZ ?_
  go_wp2_with fail
  obtain ⟨w1,hw1⟩:∃w1,w1=W.drew:=⟨_,rfl⟩
  rw [←hw1]
  have hb1:Below W.heap.size W w1:=by rw [hw1];exact y1
  have hb1' :=Below.ext hbW hb1
  have R1:=Lib.hid ((hb1.block w.heap.size (by have:=SW.out;omega)).trans R0.out)
  clear hw1
  go_wp2
  go_loopw [4] (fun a wr=>∃k:Nat,a= .int .i64 k∧k≤1∧Below w1.heap.size w1 wr) (fun a _=>1-(intOf a).toNat)
  case atStart=>exact ⟨0,rfl,by omega,Below.refl _ _⟩
  case round=>
   obtain ⟨k,rfl,hk,hb⟩:=hrel
   have hbW2:=Below.ext hb1' hb
   have R2:=Lib.hid ((hb.block w.heap.size (by have:=hb1.size;have:=SW.out;omega)).trans R1.out)
   have q5:wr.cell? ⟨w.heap.size,5,none⟩=some (.slice xA 1 xc):=aA R2.out 5 _ rfl
   by_cases hlt:k<1
   ·obtain ⟨b,off,y,u,rfl,hS,hbb,hu,hoky,hcy⟩:=hargs.at_ dZ (j:=k) hlt (by omega)
    have HC:=Lib.hid (fun i u h=>(hbW2.cell (p:=⟨b,off+k*6+i,none⟩) hbb).trans (hcy i u h))
    have hU:=HALL.out u (List.mem_of_getElem? hu)
    have Hc:=Lib.hid (ih y u _ wr (ExOk.keep (Keep.of_below hbW2) _ _ _ hoky) hU)
    clear hu hcy hU hoky
    go_wp2_with (refine aD (t:=244) (A:=⟨b,off+k*6,none⟩) rfl rfl rfl (gC HC.out) ?_)
    refine Hc.out.mono ?_
    rintro e w2 ⟨rfl,hb2⟩
    go_wp2
    go_roundw
    case rel=>exact ⟨k+1,by go_num,by omega,Below.ext hb hb2⟩
    case measure=>simp [intOf];omega
   ·obtain rfl:k=1:=by omega
    go_wp2
    go_ret
    exact ⟨rfl,hbW2⟩):p:=h
theorem Tzat {p:Prop} (h:p:=by
  go_wp2_with fail
  refine aP (fun _=>True) (by kernel_rfl) (by kernel_rfl) trivial ?_
  refine TkG ?_
  refine lex_e rfl ?_
  go_wp2_with fail
  refine lex_go trivial ?_
  refine TkG ?_
  refine lex_e rfl ?_
  go_wp2_with fail
  refine lex_go trivial ?_
  refine TkG ?_
  refine bG ?_
  go_wp2_with fail
  go_wp2
  refine ⟨rfl,?_⟩
  unfold aW
  rw [hfin]
  exact ⟨rfl,bN hg1⟩):p:=h
theorem Tzau {p:Prop} (h:p:=by
  refine TkI ?_
  refine TkA ?_
  refine aZ ?_
  go_wp2_with fail
  obtain ⟨w1,hw1⟩:∃w1,w1=W.drew:=⟨_,rfl⟩
  rw [←hw1]
  have hb1:Below W.heap.size W w1:=by rw [hw1];exact y1
  have hb1' :=Below.ext hbW hb1
  have R1:=Lib.hid ((hb1.block w.heap.size (by have:=SW.out;omega)).trans R0.out)
  clear hw1
  go_wp2
  go_loopw [4] (fun a wr=>∃k:Nat,a= .int .i64 k∧k≤0∧Below w1.heap.size w1 wr) (fun a _=>0-(intOf a).toNat)
  case atStart=>exact ⟨0,rfl,by omega,Below.refl _ _⟩
  case round=>
   obtain ⟨k,rfl,hk,hb⟩:=hrel
   have hbW2:=Below.ext hb1' hb
   have R2:=Lib.hid ((hb.block w.heap.size (by have:=hb1.size;have:=SW.out;omega)).trans R1.out)
   have q5:wr.cell? ⟨w.heap.size,5,none⟩=some (.slice xA 0 xc):=aA R2.out 5 _ rfl
   obtain rfl:k=0:=by omega
   go_wp2
   go_ret
   exact ⟨rfl,hbW2⟩):p:=h
theorem Tzav {p:Prop} (h:p:=by
  have s9:=hgr9.size
  have Q4x:=Lib.hid ((gS.block (w.heap.size+1) (by omega) (by simp;omega)).trans Q49.out)
  have Q0x:=Lib.hid ((gS.block w.heap.size (by omega) (by simp;omega)).trans Q09.out)
  have hO10:=hO9.keepR (bU n) (fun b hb' hs=>gS.block b hb' (by simp;omega))
  have hb10:Below w.heap.size w w10:=hb9.grown gS hb9.size (fun o e=>by cases e;omega)
  have HUS:=Lib.hid (fun v hv=>(List.mem_append.1 hv).elim (hus.out v) (fun h=>by rw [List.mem_singleton] at h;subst h;exact hrz):∀v∈us++ [u],RsE n v)
  clear hok4 hown9 hgr9 hat9 ho hxs hO9 Q69 Q49 Q09
  go_upto_region 13 with fail
  try rw [←hw10]
  clear hw10
  go_wp2
  go_roundw
  case rel=>exact ⟨k+1,by go_num,by omega,Q0x,Q4x,A9,c9,Q6x,us++ [u],hO10,HUS,hb10⟩
  case measure=>simp [intOf];omega):p:=h
theorem Tzaw {p:Prop} (h:p:=by
  have M2:=HM.out w2 y2
  obtain ⟨m1,m2,m3⟩:=M2.put j vv ivv
  obtain ⟨bz,oz,z0,hA0,_,_,hz0,hcz⟩:=M2.cel.recs.at_ dH (j:=j) (by have:=HLC.out;omega) (by omega)
  cases hA0
  have qc:w2.cell? ⟨g,j,none⟩=some (.int .i64 z0):=by
   have:=hcz 0 _ rfl
   rw [Nat.mul_one,Nat.zero_add] at this
   exact this
  have fc:w2.frozen? ⟨g,j,none⟩=false:=OwnZ.frozen M2.cel j
  have hgx:g≠w.heap.size:=by omega
  have RP3:=Lib.hid m1.row
  have RX3:=Lib.hid ((cC w2 g j (.int .i64 vv) (show w.heap.size≠g by omega)).trans (HRX.out w2 y2))
  have HM1:=Lib.hid m1
  have HK1:=Lib.hid (show Keep F w (w2.setCell ⟨g,j,none⟩ (.int .i64 vv)) from fun q hq h=>(cC w2 g j _ (fun e=>(hF q h).2.2.1 (by rw [e];rfl))).trans (HKF.out w2 y2 q hq h))
  have HF1:=Lib.hid ((((hF.size bW.size).size y2.size)).size m2.size)
  have HB1:=Lib.hid ((bW.mono hbw).trans ((y2.mono (by have:=bW.size;omega)).trans m2))
  clear hcz hz0 m1 m2 m3
  go_wp2_with fail
  refine aI (⟨M2.row,HRX.out w2 y2⟩) ?_
  refine TkA ?_
  refine aL rfl ?_
  go_wp2_with fail
  refine aI ⟨RP3.out,RX3.out⟩ ?_
  refine TkA ?_
  refine aZ ?_
  go_wp2
  go_end0
  exact ⟨rfl,⟨_,_,_,_,_,_,HM1.out,HF1.out⟩,HB1.out,HK1.out⟩):p:=h
theorem Tzax {p:Prop} (h:p:=by
  clear hg F
  go_enter Tryz.func159,Tryz.ntmps159
  go_upto_region 1 with fail
  rw [←hW]
  clear hW
  go_wp2
  go_ret
  exact ⟨rfl,bW⟩):p:=h
theorem Tzay {p:Prop} (h:p:=by
  by_cases g1:b=0
  ·have d1:(b != 0)=false:=by simpa using g1
   have d1' :(b==0)=true:=by simpa using g1
   go_enter Tryz.func209,Tryz.ntmps209
   go_wp2
   go_ret
   exact ⟨by simp [dA,trM,g0,g1],rfl⟩
  ·have d1:(b != 0)=true:=by simpa using g1
   have d1' :(b==0)=false:=by simpa using g1
   go_enter Tryz.func209,Tryz.ntmps209
   go_wp2
   go_ret
   exact ⟨by simp [dA,trM,g0,g1],rfl⟩):p:=h
theorem Tzaz {p:Prop} (h:p:=by
  subst h2
  have ep:dV s 2=1+s:=rfl
  rw [ep]
  have q:wr.cell? ⟨V,6,none⟩=some (.string (ByteArray.mk #[121])):=by rw [cell_of_row _ _ _ _ _ _ R.out];rfl
  go_wp2_with (refine aD (t:=199) (A:=⟨V,6,none⟩) rfl rfl rfl (eT (nm:=(ByteArray.mk #[121])) (z:=0) (y:=0) R.out rfl) ?_)
  refine (dE _ _ _ (by omega) (by omega) wr).mono ?_
  rintro e w2 ⟨rfl,hb2⟩
  have e1:max (0:Int) 1=1:=by omega
  rw [e1]
  clear e1
  go_wp2
  go_roundw
  case rel=>exact ⟨3,rfl,by omega,(by show _=Value.int .i64 (2+s);exact congrArg _ (by omega)),Below.ext hb hb2⟩
  case measure=>simp [intOf]):p:=h
theorem Tza0 {p:Prop} (h:p:=by
  have hrow9:∀b,(Value.slice A' k c').ownBlock=some b→w.heap.size≤b:=fun b e=>(World.ownsRow.lt hown2 _ e).1
  have hR9:=(hR2.ext ha).grown hgr9 (fun b hb=>by have:=hrow9 b hb;omega)
  have hG9:=jE (bD (bD hg hg2) (jF ha (some r))) hgr9 (fun b hb=> .inl (hrow9 b hb))
  refine ⟨⟨k+1,q2,A9,c9,acc++ [a],by congr 1,rfl,by omega,hown9,hR9,hG9,HST.out⟩,by simp [intOf];omega⟩):p:=h
theorem Tza1 {p:Prop} (h:p:=by
  rintro e w5 ⟨A5,c5,rfl,hD5,hb5⟩
  have z5:=(hb5.block _ hR4).trans z4
  have Z5:=Lib.hid z5
  clear z5 z4
  have B5:Below w.heap.size w w5:=Below.ext B4 hb5
  have b15:=Below.ext b13 hb5
  go_wp2_with fail
  refine aI (⟨B5,fun j hj _=>b15.block j hj⟩) ?_
  refine TkA ?_
  refine aL rfl ?_
  refine aC rfl 36 _ _ rfl (w.heap.size+1) 36 _ _ rfl rfl Z5.out (by kernel_rfl) rfl (by simp [Value.oneCell']) ?_
  refine aI ⟨Below.setRow B5 (by omega) _,fun j hj hne=>(setRow_other _ _ _ _ hne).trans (b15.block j hj)⟩ ?_
  simp only [Act.put]
  refine TkA ?_
  refine aZ ?_
  go_wp2_with fail
  go_wp2
  refine bodyPost_ret (bI rfl rfl (aB (setRow_heap _ _ _ _ _ _ Z5.out) Tryz.underlying36 rfl (by kernel_rfl))) rfl ?_
  have hD6:=((hD5.mono (S' :=fun b=>(S b∨w.heap.size≤b)∧b≠w.heap.size+1) (fun b _ h=>by
   rcases h with (h|h)|h
   ·exact ⟨.inl h.1,by omega⟩
   ·exact ⟨.inr (by omega),by omega⟩
   ·exact ⟨.inr (by omega),by omega⟩)).keep (fun b hb hs=>setRow_other w5 (w.heap.size+1) b #[.slice A5 n c5] hs.2)).mono (S' :=fun b=>S b∨w.heap.size≤b) (fun _ _ h=>h.1)
  exact ⟨A5,c5,rfl,hD6,Below.setRow B5 (by omega) _⟩):p:=h
theorem Tza2 {p:Prop} (h:p:=by
  intro k o' hk hL e he hb
  refine getD_set_true ?_
  by_cases hjk:j=k
  ·subst hjk
   rw [ho'] at hk
   cases hk
   exact hpre e he hb
  ·rw [getD_set_ne false hjk] at hL
   exact hcl k o' hk hL e he hb):p:=h
theorem Tza3 {p:Prop} (h:p:=by
  by_cases hij:j=i
  ·subst hij
   have hlt:j<listed.size:=by omega
   constructor
   ·intro hm;exact absurd hm hnj
   ·intro hm;simp [hlt] at hm
  ·rw [getD_set_ne true hij,←hmem i]
   simp [Ne.symm hij]):p:=h
theorem Tza4 {p:Prop} (h:p:=by
  go_wp2_with fail
  refine aP (fun _=>True) (by kernel_rfl) (by kernel_rfl) trivial ?_
  refine TkE ?_
  refine bG ?_
  go_wp2_with fail
  go_wp2
  refine ⟨rfl,?_⟩
  unfold aW
  rw [hfin]
  exact ⟨rfl,bN hg1⟩):p:=h
theorem Tza5 {p:Prop} (h:p:=by
  go_wp2_with fail
  refine aP (fun _=>True) (by kernel_rfl) (by kernel_rfl) trivial ?_
  refine TkE ?_
  refine bG ?_
  go_wp2_with fail
  go_wp2
  all_goals
   go_ret3
   exact ⟨by first|rfl|(simp at *;omega),hb.drew⟩):p:=h
theorem Tza6 {p:Prop} (h:p:=by
  obtain rfl:k=n1:=by omega
  have FIN:=Lib.hid (show decide (l=m)=true by
   have:=HT.out
   rw [List.take_of_length_le (by have:=HL1.out;omega),List.take_of_length_le (by have:=HL2.out;omega)] at this
   simpa using this)
  go_wp2
  go_ret
  rw [FIN.out]
  exact ⟨rfl,hbr⟩):p:=h
theorem Tza7 {p:Prop} (h:p:=by
  rw [if_neg hbl] at hdk
  have FIN5:=Lib.hid (FIN.out.trans (if_neg hbl))
  unfold DkO at hdk
  dsimp only at hdk
  obtain ⟨Af,cf,rfl,hDf⟩:=hdk
  clear hbl
  go_wp2_with (refine aC rfl 36 _ _ rfl (w.heap.size+2) 36 _ _ rfl rfl RZ7.out (by kernel_rfl) rfl (by simp [Value.oneCell']) ?_)
  refine bodyPost_ret (bI rfl rfl (aB (setRow_heap _ _ _ _ _ _ RZ7.out) Tryz.underlying36 rfl (by kernel_rfl))) rfl ?_
  rw [FIN5.out]
  have gE:=aJ w7 (w.heap.size+2) #[.slice Af n cf]
  refine ⟨⟨Af,cf,rfl,?_⟩,hb7.grown gE hb7.size (fun o e=>by cases e;omega)⟩
  exact (hDf.keep (w' :=w7.setRow (w.heap.size+2) #[.slice Af n cf]) (fun b hb hs=>gE.block b hb (by simp;rcases hs with h|h<;>omega))).mono (fun b _ h=>h.imp (fun h=>h.1) (fun h=>by omega))):p:=h
theorem Tza8 {p:Prop} (h:p:=by
  clear hx1 hx2 hc1 hc2
  go_wp2_with fail
  refine aP (fun _=>True) (by kernel_rfl) (by kernel_rfl) trivial ?_
  refine TkE ?_
  refine bG ?_
  go_wp2_with fail
  go_wp2
  go_roundw
  case rel=>exact ⟨k+1,by go_num,by omega,hbr.drew⟩
  case measure=>simp [intOf];omega):p:=h
theorem Tza9 {p:Prop} (h:p:=by
  go_wp2_with (refine aC rfl 51 _ _ rfl w.heap.size 51 _ _ rfl rfl R1.out (by kernel_rfl) rfl (by simp [Value.oneCell']) ?_)
  refine bodyPost_ret (bH rfl rfl (aB (setRow_heap _ _ _ _ _ _ R1.out) Tryz.underlying51 rfl (by kernel_rfl))) rfl ?_
  rw [FIN.out]
  have gE:=aJ w1 w.heap.size #[.slice E1 p1 q1,.slice E2 p2 q2,.slice E3 p3 q3,.slice E4 p4 q4]
  have kE:Keep (fun b=>W.heap.size≤b) w1 (w1.setRow w.heap.size #[.slice E1 p1 q1,.slice E2 p2 q2,.slice E3 p3 q3,.slice E4 p4 q4]):=fun b hb hs=>gE.block b hb (by simp;omega)
  exact ⟨⟨E1,_,q1,E2,_,q2,E3,_,q3,E4,_,q4,rfl,⟨(hT.1.keep kE).mono (fun b _ h=>by omega),(hT.2.keep kE).mono (fun b _ h=>by omega),(hT.3.keep kE).mono (fun b _ h=>by omega),(hT.4.keep kE).mono (fun b _ h=>by omega)⟩⟩,hb1.grown gE hb1s (fun o e=>by cases e;omega)⟩):p:=h
theorem Tzba {p:Prop} (h:p:=by
  go_wp2_with fail
  refine aP (fun _=>True) (by kernel_rfl) (by kernel_rfl) trivial ?_
  refine TkE ?_
  refine bG ?_
  go_wp2_with fail
  go_wp2
  go_roundw
  case rel=>exact ⟨k+1,by go_num,by omega,HS,hbr.drew⟩
  case measure=>simp [intOf];omega):p:=h
theorem Tzbb {p:Prop} (h:p:=by
  subst h5
  go_upto_region 9 with fail
  have hfin:=eZ (bU (n+1)) (xv:=⟨7,0,(ByteArray.mk #[]),0,0,none,0,0⟩) (t:= .mk 7 0 (ByteArray.mk #[]) 0 0 []) HB4.out hC1 hglt hgw1 ⟨rfl,rfl,rfl,rfl,rfl,LsOk.nil_ _ _ _ _⟩ #[.int .i64 7,.int .i64 0,.string (ByteArray.mk #[]),.int .i64 0,.int .i64 0,.slice none 0 0]
  go_wp2_with (refine aC rfl 244 _ _ rfl b4 244 _ _ rfl rfl R1.out (by kernel_rfl) rfl (by simp [Value.oneCell']) ?_)
  refine bodyPost_ret (bH rfl rfl (aB (setRow_heap _ _ _ _ _ _ R1.out) Tryz.underlying244 rfl (by kernel_rfl))) rfl ?_
  exact ⟨⟨7,0,(ByteArray.mk #[]),0,0,none,0,0⟩,.mk 7 0 (ByteArray.mk #[]) 0 0 [],rfl,⟨rfl,rfl,by simp,.inr (.inr (.inl ⟨by omega,by omega,rfl,rfl,rfl⟩))⟩,hfin.1,hfin.2.1,hfin.2.2⟩):p:=h
theorem Tzbc {p:Prop} (h:p:=by
  clear hz0
  go_upto_region 18 with fail
  go_wp2_with fail
  refine HL3.out.mono ?_
  rintro e w4 ⟨r4,ok,rfl,hrun,hR4,hb4,hk4⟩
  obtain ⟨f1,f2,f3⟩:=HFIN.out w4 _ hR4 (hb2.trans (hb3'.trans hb4)) (hk3.tr hk4 (Nat.le_trans hs2 hs3))
  cases ok with
  |true=>
   have HU4:=Lib.hid (HUPc.out r4 hrun)
   go_wp2
   go_roundg (gk-1)
   case rel=>exact ⟨k+1,_,by go_num,by omega,by omega,HU4,f1,f2,f3⟩
   case measure=>omega
  |false=>
   have HU4:=Lib.hid (HUPf.out r4 hrun)
   go_wp2
   go_ret
   exact ⟨r4,false,rfl,HU4.out,f1,f2,f3⟩):p:=h
theorem Tzbd {p:Prop} (h:p:=by
  simp only [show (2:Nat)=0↔False by decide,show (2:Nat)=1↔False by decide,if_false] at hown'
  have hlen:=hown'.len.1
  rw [List.length_append,Hl1.out,Hm1.out] at hlen
  subst hlen
  go_wp2
  go_ret
  exact ⟨_,_,rfl,hown',hbr⟩):p:=h
theorem Tzbe {p:Prop} (h:p:=by
  have dc:decide ((x.toNat:Int)<128)=true:=by simp;omega
  have hend:=kJ (n:=9-i) (u:=u) HX.out (show¬((i=9∧1<x.toNat)∨(0<i∧x.toNat=0)) by omega) (by omega)
  rw [show 9-i+1=10-i by omega,HE.out] at hend
  have Hend:=Lib.hid hend
  clear hend
  go_wp2
  have hv:zd (u+x.toNat*2^(7*i))=_:=(uC _ (by have:=lB (c:=x.toNat) hi hu hx8 (by omega);rw [Nat.mod_eq_of_lt (by omega)] at this;exact this)).symm
  have ho:=oD hi hu hx8 (by omega) _ rfl
  rw [Nat.mod_eq_of_lt (by omega:x.toNat<128)] at ho
  rw [←ho] at hv
  go_ret
  unfold aW bA
  rw [Hend.out]
  exact ⟨⟨_,rfl,yL hv⟩,(HR2.out).drew.drew,bN (bN HG2.out)⟩):p:=h
theorem Tzbf {p:Prop} (h:p:=by
  go_upto_region 5 with (first|(refine aD (t:=118) (A:=⟨b,off+j*2,none⟩) rfl rfl rfl HLD.out ?_)|(refine aF rfl 118 _ _ rfl 118 _ _ rfl rfl (by kernel_rfl) rfl (by simp [Value.oneCell']) ?_))
  try dsimp only
  rw [←hWb,←HBg.out]
  clear hWb
  try simp only [Act.put]
  go_wp2_with (first|(refine aD (t:=118) (A:=⟨bg,0,none⟩) rfl rfl rfl (aB Rg.out Tryz.underlying118 rfl (by kernel_rfl)) ?_)|(refine aC rfl 118 _ _ rfl (w.heap.size+1) 118 _ _ rfl rfl RB.out (by kernel_rfl) rfl (by simp [Value.oneCell']) ?_))
  go_roundw
  case rel=>exact ⟨j+1,some (a,x),by go_num,by omega,rfl,TAKE.out HN,RT,GT⟩
  case measure=>simp [intOf];omega):p:=h
theorem Tzbg {p:Prop} (h:p:=by
  have dc:decide ((x.toNat:Int)<128)=false:=by simp;omega
  have hgo:=nS (n:=9-i) (u:=u) HX.out (show¬((i=9∧1<x.toNat)∨(0<i∧x.toNat=0)) by omega) (by omega)
  rw [show 9-i+1=10-i by omega,HE.out] at hgo
  have Hgo:=Lib.hid hgo
  clear hgo
  go_wp2
  have ho:=oD hi hu hx8 (by omega) _ rfl
  have hlt2:=oE hi hu (x:=x.toNat%128) (by omega)
  rw [show x.toNat%128=x.toNat-128 by omega] at ho hlt2
  refine ⟨⟨i+1,u+(x.toNat-128)*2^(7*i),q+1,by congr 1,AK ho,by omega,hlt2,(HR2.out).drew.drew,bN (bN HG2.out),?_⟩,by simp [intOf];omega⟩
  rw [show 10-(i+1)=9-i by omega]
  exact Hgo.out.symm):p:=h
theorem Tzbh {p:Prop} (h:p:=by
  unfold Oper.quietAt at this
  cases hr:(execOp a.eval o).run P w' with
  |halt x w1=>rw [hr] at this;exact this.elim
  |ok n w1=>
   obtain ⟨u,rfl⟩:=yD hk a.eval w' n w1 hr
   rw [hr] at this
   obtain ⟨e1,e2⟩:=this
   rw [e1,e2]):p:=h
theorem Tzbi {p:Prop} (h:p:=by
  intro hm
  rcases List.mem_append.1 hm with hm|hm
  ·have:=hp3 j hm j (by simp);omega
  ·have:=(List.pairwise_cons.1 hp2).1 j hm;omega):p:=h
theorem Tzbj {p:Prop} (h:p:=by
  have hb9:Below w.heap.size w w9:=hown'.grow hgr9 hbr (Nat.le_refl _) hszr
  go_wp2
  go_roundw
  case rel=>exact ⟨2,n1+n2,A9,c9,by omega,rfl,by rfl,by omega,by simpa using hown9,hb9⟩
  case measure=>simp [intOf]):p:=h
theorem Tzbk {p:Prop} (h:p:=by
  have hb9:Below w.heap.size w w9:=hown'.grow hgr9 hbr (Nat.le_refl _) hszr
  go_wp2
  go_roundw
  case rel=>exact ⟨1,n1,A9,c9,by omega,rfl,rfl,by omega,by simpa using hown9,hb9⟩
  case measure=>simp [intOf]):p:=h
theorem Tzbl {p:Prop} (h:p:=by
  have hbad:=mJ (n:=9-i) (u:=u) HX.out (show (i=9∧1<x.toNat)∨(0<i∧x.toNat=0) by omega)
  rw [show 9-i+1=10-i by omega,HE.out] at hbad
  have Hbad:=Lib.hid hbad
  clear hbad
  go_wp2
  refine ⟨rfl,?_⟩
  unfold aW bA
  rw [Hbad.out]
  exact ⟨rfl,bN (bN HG2.out)⟩):p:=h
theorem Tzbm {p:Prop} (h:p:=by
  go_enter Tryz.func204,Tryz.ntmps204
  go_upto_region 1 with fail
  try rw [←hW]
  clear hW
  go_wp2
  go_ret
  exact ⟨rfl,hbW⟩):p:=h
theorem Tzbn {p:Prop} (h:p:=by
  subst h3
  have ep:dV s 3=2+s:=rfl
  rw [ep]
  have q:wr.cell? ⟨V,9,none⟩=some (.string (ByteArray.mk #[122])):=by rw [cell_of_row _ _ _ _ _ _ R.out];rfl
  go_wp2_with (refine aD (t:=199) (A:=⟨V,9,none⟩) rfl rfl rfl (eT (nm:=(ByteArray.mk #[122])) (z:=0) (y:=k) R.out rfl) ?_)
  refine (dE _ _ _ (by omega) (by omega) wr).mono ?_
  rintro e w2 ⟨rfl,hb2⟩
  have e1:max (0:Int) 1=1:=by omega
  rw [e1]
  clear e1
  go_wp2
  go_roundw
  case rel=>exact ⟨4,rfl,by omega,(by show _=Value.int .i64 (3+s);exact congrArg _ (by omega)),Below.ext hb hb2⟩
  case measure=>simp [intOf]):p:=h
theorem Tzbo {p:Prop} (h:p:=by
  rw [if_pos hbl] at hdk
  have FIN5:=Lib.hid (FIN.out.trans (if_pos hbl))
  unfold DkO at hdk
  dsimp only at hdk
  obtain ⟨_,rfl⟩:=hdk
  clear hbl
  go_wp2_with (refine aC rfl 36 _ _ rfl (w.heap.size+2) 36 _ _ rfl rfl RZ7.out (by kernel_rfl) rfl (by simp [Value.oneCell']) ?_)
  refine bodyPost_ret (bI rfl rfl (aB (setRow_heap _ _ _ _ _ _ RZ7.out) Tryz.underlying36 rfl (by kernel_rfl))) rfl ?_
  rw [FIN5.out]
  exact ⟨⟨by omega,rfl⟩,hb7.grown (aJ _ _ _) hb7.size (fun o e=>by cases e;omega)⟩):p:=h
theorem Tzbp {p:Prop} (h:p:=by
  have dz:(z==9223372036854775807)=true:=by simpa using hzm
  have FIN:=Lib.hid (show r2= .error 3 by rw [HR.out];unfold nU;rw [if_pos (by rw [←HZZ.out];exact hzm)])
  clear hzm
  go_wp2_with (refine aC rfl 36 _ _ rfl (w.heap.size+2) 36 _ _ rfl rfl RZr.out (by kernel_rfl) rfl (by simp [Value.oneCell']) ?_)
  refine bodyPost_ret (bI rfl rfl (aB (setRow_heap _ _ _ _ _ _ RZr.out) Tryz.underlying36 rfl (by kernel_rfl))) rfl ?_
  rw [FIN.out]
  exact ⟨⟨by omega,rfl⟩,hbw.grown (aJ _ _ _) hbw.size (fun o e=>by cases e;omega)⟩):p:=h
theorem Tzbq {p:Prop} (h:p:=by
  go_wp2
  go_ret
  unfold aW
  rw [hfin]
  exact ⟨⟨_,rfl,A',c',by show Value.slice A' k c' =_;rw [hown.len.1],hown⟩,hR,hg⟩):p:=h
theorem Tzbr {p:Prop} (h:p:=by
  rcases Nat.lt_or_ge j listed.size with h' |h'
  ·omega
  ·simp [Array.getElem?_eq_none h'] at this):p:=h
theorem Tzbs {p:Prop} (h:p:=by
  exfalso
  match rem,hn with
  |m::rem',_=>
   have hm:m∈m::rem' :=by simp
   have hml:=inr m hm
   have ho:l[m]? =some l[m]:=List.getElem?_eq_getElem hml
   have:m∈Region.ready .any l.toArray listed:=mem_ready.2 ⟨(hmem m).1 hm,l[m],by simp,fun e he hb=>by
    obtain ⟨hlt0,hlt⟩:=(hat m _ ho).1 e he hb
    refine unl e.on hlt0 (fun hin=> ?_)
    rcases List.mem_cons.1 hin with hin|hin
    ·rw [hin] at hlt
     omega
    ·have:=(List.pairwise_cons.1 hpw).1 _ hin
     omega⟩
   rw [h0] at this
   cases this):p:=h
theorem Tzbt {p:Prop} (h:p:=by
  rw [List.pairwise_append]
  exact ⟨hp1,(List.pairwise_cons.1 hp2).2,fun x hx y hy=>hp3 x hx y (by simp [hy])⟩):p:=h
theorem Tzbu {p:Prop} (h:p:=by
  have:rem=[]:=List.eq_nil_of_length_eq_zero hn
  subst this
  refine ⟨?_,h⟩
  rw [List.eq_nil_iff_forall_not_mem]
  intro j hj
  have:=(hmem j).2 (mem_ready.1 hj).1
  simp at this):p:=h
theorem Tzbv {p:Prop} (h:p:=by
  have:¬listed.getD j true=false:=fun e=>hm ((hmem j).2 e)
  have hlt:j<listed.size:=by omega
  simp [hlt] at this ⊢
  exact this):p:=h
theorem Tzbw {p:Prop} (h:p:=by
  go_enter_defers Tryz.func150,Tryz.ntmps150
  go_wp2
  rw [←hW]
  refine leaves_cons (f:=177) (args:= #[.pointer (some ⟨w.heap.size,0,none⟩),.pointer (some ⟨w.heap.size+1,0,none⟩),.pointer (some ⟨w.heap.size+1+1,0,none⟩)]) (by simp) (by simp [go_sem]) ?_
  refine Hcat.out.mono ?_
  rintro e u' w'' ⟨rfl,rfl,g6,g7,g8,hbb⟩
  refine eQ rfl (fB rfl rfl rfl rfl (aB g6 Tryz.underlying51 rfl (by kernel_rfl)) (aG (hag _) g7) (aG (hae _) g8)) ?_
  exact ⟨rfl,hbb⟩):p:=h
theorem Tzbx {p:Prop} (h:p:=by
  have HFin:=Lib.hid hfin
  clear hfin
  go_wp2
  go_roundw
  case rel=>
   refine ⟨j+1,by go_num,by omega,_,hoz,?_,HFin.out,⟨Below.grow (Below.ext bw3 b6) hgs (by omega),iT (iT hgr (lQ b6r)) hgs⟩,?_⟩
   ·intro i h1 h2
    rw [List.getElem?_set_ne (by omega)]
    exact Hz.out i (by omega) h2
   ·exact ((hgs.block (w.heap.size+1) (by omega) (by simp;omega)).trans (b6r.block _ (by omega))).trans HR.out
  case measure=>simp [intOf];omega):p:=h
theorem Tzby {p:Prop} (h:p:=by
  go_wp2_with (refine Lib.wpList_append_run (o:=⟨some 22,_,_,_,_,_⟩) _ rfl _ _ _ _ rfl _ _ rfl rfl _ _ Hrun.out ?_)
  go_wp2
  go_ret
  exact ⟨_,_,rfl,hown,hbw⟩):p:=h
theorem Tzbz {p:Prop} (h:p:=by
  go_enter_defers Tryz.func146,Tryz.ntmps146
  go_wp2
  rw [←hW]
  refine leaves_cons (f:=174) (args:= #[.pointer (some ⟨w.heap.size,0,none⟩),.pointer (some ⟨w.heap.size+1,0,none⟩),.pointer (some ⟨w.heap.size+1+1,0,none⟩)]) (by simp) (by simp [go_sem]) ?_
  refine Hcat.out.mono ?_
  rintro e u' w'' ⟨rfl,rfl,g6,g7,g8,hbb⟩
  refine eQ rfl (fB rfl rfl rfl rfl (aG (hap _) g6) (aG (hag _) g7) (aG (hae _) g8)) ?_
  exact ⟨rfl,hbb⟩):p:=h
theorem Tzb0 {p:Prop} (h:p:=by
  have:=heap_alloc_new (w.alloc (.cells #[.slice A1 n1 c1,.slice A2 n2 c2,.slice A3 n3 c3,.slice A4 n4 c4] 51)) (.cells #[.slice B1 m1 d1,.slice B2 m2 d2,.slice B3 m3 d3,.slice B4 m4 d4] 51)
  rw [World.size_alloc] at this
  exact this):p:=h
theorem Tzb1 {p:Prop} (h:p:=by
  go_wp2_with fail
  refine HEE.out.mono ?_
  rintro e w1 ⟨rfl,b1⟩
  obtain ⟨g,hg⟩:∃g,g=decide (List.take n2 l=m):=⟨_,rfl⟩
  rw [←hg]
  have HG:=Lib.hid hg
  clear hg
  go_wp2
  go_ret
  rw [HL2.out,←HG.out]
  exact ⟨rfl,b1⟩):p:=h
theorem Tzb2 {p:Prop} (h:p:=by
  by_cases g0:b=0
  ·subst g0
   go_enter Tryz.func209,Tryz.ntmps209
   go_wp2
   go_ret
   exact ⟨by simp [dA],rfl⟩
  ·by_cases g1:b= -1
   ·subst g1
    go_enter Tryz.func209,Tryz.ntmps209
    go_wp2
    go_ret
    exact ⟨by simp [dA],rfl⟩
   ·have d0:(b==0)=false:=by simpa using g0
    have d1:(b== -1)=false:=by simpa using g1
    go_enter Tryz.func209,Tryz.ntmps209
    go_wp2
    go_ret
    exact ⟨by simp [dA,g0,g1],rfl⟩):p:=h
theorem Tzb3 {p:Prop} (h:p:=by
  intro j o ho
  have hlt:=(List.getElem?_eq_some_iff.1 ho).1
  have h:nA kd l.toArray l (bef l) j=true:=by
   simp only [mE,Bool.and_eq_true,List.all_eq_true,List.mem_range] at hB
   exact hB.2 j hlt
  simp only [nA,ho,Bool.and_eq_true,Array.all_eq_true_iff_forall_mem,List.all_eq_true,List.mem_range] at h
  refine ⟨fun e he hb=> ?_,fun i x hi hx=> ?_⟩
  ·have:=h.1 e he
   simpa [hb] using this
  ·have:=h.2 i hi
   simpa [hx] using this):p:=h
theorem Tzb4 {p:Prop} (h:p:=by
  try dsimp only
  rw [←hW6,←HBg.out]
  clear hW6
  try simp only [Act.put]
  go_wp2_with (refine aC rfl 51 _ _ rfl (w.heap.size+1) 51 _ _ rfl rfl R16.out (by kernel_rfl) rfl (by simp [Value.oneCell']) ?_)
  refine bodyPost_ret (bI rfl rfl (aB (setRow_heap _ _ _ _ _ _ R16.out) Tryz.underlying51 rfl (by kernel_rfl))) rfl ?_
  rw [FIN.out]
  exact ⟨⟨by omega,rfl⟩,hb6.grown (aJ _ _ _) hb6.size (fun o e=>by cases e;omega)⟩):p:=h
theorem Tzb5 {p:Prop} (h:p:=by
  go_enter Tryz.func71,Tryz.ntmps71
  go_wp2
  go_ret3
  rw [hfin.out]
  exact ⟨_,rfl,Bytes.nil_ _ _,Below.refl _ _,fun h=>absurd h (by decide)⟩):p:=h
theorem Tzb6 {p:Prop} (h:p:=by
  try dsimp only
  rw [←hW4,←HBu.out]
  clear hW4
  try simp only [Act.put]
  go_wp2_with (refine aC rfl 36 _ _ rfl (w.heap.size+2) 36 _ _ rfl rfl RZ4.out (by kernel_rfl) rfl (by simp [Value.oneCell']) ?_)
  refine bodyPost_ret (bI rfl rfl (aB (setRow_heap _ _ _ _ _ _ RZ4.out) Tryz.underlying36 rfl (by kernel_rfl))) rfl ?_
  rw [HR.out]
  exact ⟨⟨by omega,rfl⟩,hb4.grown (aJ _ _ _) hb4.size (fun o e=>by cases e;omega)⟩):p:=h
theorem Tzb7 {p:Prop} (h:p:=by
  go_enter_defers Tryz.func137,Tryz.ntmps137
  go_wp2
  rw [←hW]
  refine leaves_cons (f:=170) (args:= #[.pointer (some ⟨w.heap.size,0,none⟩),.pointer (some ⟨w.heap.size+1,0,none⟩),.pointer (some ⟨w.heap.size+1+1,0,none⟩)]) (by simp) (by simp [go_sem]) ?_
  refine Hcat.out.mono ?_
  rintro e u' w'' ⟨rfl,rfl,g6,g7,g8,hbb⟩
  simp [Leaves,settle,results,Tryz.results137,go_sem,g6,g7,g8]
  exact ⟨rfl,hbb⟩):p:=h
theorem Tzb8 {p:Prop} (h:p:=by
  simp only [if_true,Nat.one_ne_zero,if_false]
  go_wp2
  go_round
  case rel=>exact ⟨2,by omega,rfl,by simp⟩
  case measure=>simp [intOf]):p:=h
theorem Tzb9 {p:Prop} (h:p:=by
  clear hk h0
  go_wp2_with (refine aC rfl 36 _ _ rfl (w.heap.size+2) 36 _ _ rfl rfl R2.out (by kernel_rfl) rfl (by simp [Value.oneCell']) ?_)
  refine bodyPost_ret (bI rfl rfl (aB (setRow_heap _ _ _ _ _ _ R2.out) Tryz.underlying36 rfl (by kernel_rfl))) rfl ?_
  rw [HR.out]
  exact ⟨⟨by omega,rfl⟩,hbW.grown (aJ _ _ _) hbW.size (fun o e=>by cases e;omega)⟩):p:=h
theorem Tzca {p:Prop} (h:p:=by
  clear hx
  go_wp2_with (refine aC rfl 90 _ _ rfl (w.heap.size+1) 90 _ _ rfl rfl R11.out (by kernel_rfl) rfl (by simp [Value.oneCell']) ?_)
  refine bodyPost_ret (gL rfl rfl (aB (setRow_heap _ _ _ _ _ _ R11.out) Tryz.underlying90 rfl (by kernel_rfl))) rfl ?_
  exact ⟨⟨0,0,0,0⟩,_,0,11,rfl,HFIN.out,hbw1.grown (aJ _ _ _) hbw1.size (fun o e=>by cases e;omega)⟩):p:=h
theorem Tzcb {p:Prop} (h:p:=by
  go_wp2
  go_roundw
  case rel=>exact ⟨k+1,row6,by go_num,by omega,hacc6,hln,hb6⟩
  case measure=>simp [intOf];omega):p:=h
theorem Tzcc {p:Prop} (h:p:=by
  have h1:=Int.emod_nonneg x (b:=n) (by omega)
  have h2:=Int.emod_lt_of_pos x (b:=n) (by omega)
  go_enter Tryz.func28,Tryz.ntmps28
  go_wp2
  ·go_ret
   have h:x.tmod n<0:=by assumption
   have e:=hm.out.2 h
   refine ⟨jC ?_,rfl⟩
   rw [e]
   exact IntWalk.wrap64_in _ ⟨by omega,by omega⟩
  ·go_ret
   have h:0≤x.tmod n:=by assumption
   exact ⟨jC (hm.out.1 h),rfl⟩):p:=h
theorem Tzcd {p:Prop} (h:p:=by
  have d0:(u0==v0)=false:=by simpa using h0
  have FIN:=Lib.hid (show decide (l=m)=false by simpa using eE HX1.out HX2.out (fun e=>h0 (by cases e;rfl)))
  clear h0
  exact Tzaf):p:=h
theorem Tzce {p:Prop} (h:p:=by
  have d1:(u1==v1)=false:=by simpa using h1
  have FIN:=Lib.hid (show decide (l=m)=false by simpa using eE HX1.out HX2.out (fun e=>h1 (by cases e;rfl)))
  clear h1
  exact Tzaf):p:=h
theorem Tzcf {p:Prop} (h:p:=by
  simp only [if_true]
  go_wp2
  go_round
  case rel=>exact ⟨1,by omega,rfl,by simp⟩
  case measure=>simp [intOf]):p:=h
theorem Tzcg {p:Prop} (h:p:=by
  exfalso
  have:=fQ (fun k=>listed.getD k false=true) l (fun k o hk hL=>hcl k o hk hL) j o ho' (fun e he hb=>hpre e he hb) i hb
  have h2:=(hmem i).1 (by simp [hi])
  have hlt:i<listed.size:=by have:=inr i (by simp [hi]);omega
  simp [hlt] at this h2
  rw [this] at h2
  cases h2):p:=h
theorem Tzch {p:Prop} (h:p:=by
  intro m
  induction m with
  |zero=>simp
  |succ m ih=>
   intro hm
   rw [List.range_succ,List.filterMap_append,ih (by omega)]
   rw [List.take_succ_eq_append_getElem (show m<l.length by omega)]
   congr 1
   rw [List.filterMap_cons,List.getElem?_eq_getElem (show m<l.length by omega)]
   rfl):p:=h
theorem Tzci {p:Prop} (h:p:=by
  have ha' :tmps[a]?.getD undef= .pointer (some A):=by simpa using ha
  simp [results,h,asAddr,ha',hl]):p:=h
theorem Tzcj {p:Prop} (h:p:=by
  have hb9:Below w.heap.size w w9:=how.grow hgr9 ha (Nat.le_refl _) (by simp)
  go_wp2
  go_ret
  exact ⟨_,_,rfl,by simpa using hown9,hb9⟩):p:=h
theorem Tzck {p:Prop} (h:p:=by
  refine TkA ?_
  refine aL rfl ?_
  go_wp2_with fail
  refine Hput.out.mono ?_
  rintro r w2 ⟨v2,row2,rfl,hacc2,hb2,_⟩
  go_wp2_with fail
  refine aI (hb2) ?_
  refine TkA ?_
  refine aZ ?_
  exact ⟨trivial,v2,row2,⟨hacc2,hb2⟩,rfl⟩):p:=h
theorem Tzcl {p:Prop} (h:p:=by
  have:=fQ (fun k=>listed.getD k false=true) l (fun k o hk hL=>hcl k o hk hL) j o ho' (fun e he hb=>hpre e he hb) i hb
  have h2:=(hmem i).1 hi
  have hlt:i<listed.size:=by have:=inr i hi;omega
  simp [hlt] at this h2
  rw [this] at h2
  cases h2):p:=h
theorem Tzcm {p:Prop} (h:p:=by
  have:=heap_alloc_new (w.alloc (.cells #[.slice I1 in1 ic1,.slice P1 pn1 pc1,.slice P2 pn2 pc2,.slice P3 pn3 pc3,.slice P4 pn4 pc4] 29)) (.cells #[.slice none 0 0,.slice none 0 0,.slice none 0 0,.slice none 0 0] 51)
  rw [World.size_alloc] at this
  exact this):p:=h
theorem Tzcn {p:Prop} (h:p:=by
  have hb9:Below w0.heap.size w0 w9:=(hO2.ext ha).grow hgr9 (Below.ext hb2 ha) (Nat.le_refl _) (Below.ext hb2 ha).size
  go_roundw
  case rel=>exact ⟨k+1,_,A9,m+1,c9,rfl,rfl,by omega,by omega,hown9,HPUSH,hb9⟩
  case measure=>simp [intOf];omega):p:=h
theorem Tzco {p:Prop} (h:p:=by
  have:=hy.of_same (bR hsj hap {a with defers:=d::a.defers} u).1.symm (bR hsj hap {a with defers:=d::a.defers} u).2.symm
  exact this):p:=h
theorem Tzcp {p:Prop} (h:p:=by
  have h1:=hln.1
  subst h1
  exact ⟨by omega,A,c,r9,(hb.mono (fun _ h _=>h)).ext (Below.ext hbW hb2),by omega,by omega⟩):p:=h
theorem Tzcq {p:Prop} (h:p:=by
  rcases hsh with ⟨u,rfl⟩|⟨d,u,rfl⟩
  ·exact eN hS hv (back u v' hv')
  ·exact eN hS hv (backD d u v' hv')):p:=h
theorem Tzcr {p:Prop} (h:p:=by
  by_cases g0:a=0
  ·have d0:(a != 0)=false:=by simpa using g0
   have d0' :(a==0)=true:=by simpa using g0
   exact Tzay
  ·have d0:(a != 0)=true:=by simpa using g0
   have d0' :(a==0)=false:=by simpa using g0
   exact Tzay):p:=h
theorem Tzcs {p:Prop} (h:p:=by
  refine (h1.keep (fun b hb hs=>hg.block b hb (fun e=>hs.2.1 e.symm))).mono (fun b _ hs=>⟨hs.1,fun e=> ?_⟩)
  rcases hat with h2|h2
  ·exact hs.2.1 (h2.symm.trans e)
  ·rw [h2] at e
   cases e
   exact Nat.lt_irrefl _ hs.2.2):p:=h
theorem Tzct {p:Prop} (h:p:=by
  have hr:dQ slot size index cells= -1:=by unfold dQ;rw [if_neg (by have:=HL.out;omega)]
  rw [hr]
  clear hr
  go_enter Tryz.func205,Tryz.ntmps205
  go_wp2
  go_ret
  exact ⟨rfl,rfl⟩):p:=h
theorem Tzcu {p:Prop} (h:p:=by
  exact Below.alloc (Below.setCell (p:=⟨b8,0,none⟩) (Below.setCell (p:=⟨b8,0,none⟩) (Below.setCell (p:=⟨b7,0,none⟩) (Below.setCell (p:=⟨b6,0,none⟩) hw hB.1 _) hB.2.1 _) hB.2.2 _) hB.2.2 _) (by simp;omega) _):p:=h
theorem Tzcv {p:Prop} (h:p:=by
  unfold execOp
  simp only [ho,hx,Instr.loadAt,Instr.sureAddr,Sem.run_bind,Sem.run_pure,Result.andThen_ok,hv w' hw']):p:=h
theorem Tzcw {p:Prop} (h:p:=by
  refine TkI ?_
  refine TkA ?_
  refine aE (⟨w.heap.size,1,none⟩) (.int .i64 0) rfl rfl rfl (fun w' hw' =>aG (aU _) (aA ((hw'.block w.heap.size (by have:=SW.out;omega)).trans R0.out) 1 _ rfl)) ?_
  exact Tzau):p:=h
theorem Tzcx {p:Prop} (h:p:=by
  go_enter Tryz.func67,Tryz.ntmps67
  go_wp2
  go_ret
  exact ⟨rfl,(Below.refl _ w).alloc (Nat.le_refl _) _⟩):p:=h
theorem Tzcy {p:Prop} (h:p:=by
  have e:=Int.tmod_eq_emod (a:=x) (b:=n)
  have h1:=Int.emod_nonneg x (b:=n) (by omega)
  have h2:=Int.emod_lt_of_pos x (b:=n) (by omega)
  split at e
  ·constructor<;>intros<;>omega
  ·constructor<;>intros<;>omega):p:=h
theorem Tzcz {p:Prop} (h:p:=by
  refine hown6.recs.mono (fun b _ h=> ?_)
  have h7:=h.1
  rw [World.size_alloc] at h7
  have h8:=b4.size
  have:=HsW3.out
  exact ⟨by omega,by omega,by omega⟩):p:=h
theorem Tzc0 {p:Prop} (h:p:=by
  refine ⟨_,cap,rfl,h1,h2,fun _=>⟨g,0,rfl,⟨hb,rfl⟩,fun j u hu=> ?_⟩⟩
  rw [cell_of_row _ _ _ _ _ _ hh]
  rw [←h4,List.getElem?_take] at hu
  split at hu
  ·simpa using hu
  ·cases hu):p:=h
theorem Tzc1 {p:Prop} (h:p:=by
  have d2:(u2==v2)=false:=by simpa using h2
  have FIN:=Lib.hid (show decide (l=m)=false by simpa using eE HX1.out HX2.out (fun e=>h2 (by cases e;rfl)))
  clear h2
  exact Tzaf):p:=h
theorem Tzc2 {p:Prop} (h:p:=by
  have d3:(u3==v3)=false:=by simpa using h3
  have FIN:=Lib.hid (show decide (l=m)=false by simpa using eE HX1.out HX2.out (fun e=>h3 (by cases e;rfl)))
  clear h3
  exact Tzaf):p:=h
theorem Tzc3 {p:Prop} (h:p:=by
  have hr:dQ slot size index cells= -1:=by unfold dQ;rw [if_neg (by omega)]
  rw [hr]
  clear hr
  go_enter Tryz.func205,Tryz.ntmps205
  go_wp2
  go_ret
  exact ⟨rfl,rfl⟩):p:=h
theorem Tzc4 {p:Prop} (h:p:=by
  clear hn
  go_wp2
  go_ret3
  rw [hfin.out]
  exact ⟨_,rfl,Bytes.nil_ _ _,(Below.refl _ _).drew.trans hb1,fun h=>absurd h (by decide)⟩):p:=h
theorem Tzc5 {p:Prop} (h:p:=by
  rcases Option.eq_none_or_eq_some v.ownBlock with h0|⟨m,h0⟩
  ·exact .inl h0
  ·refine .inr (fun e=> ?_)
   rw [h0] at e
   cases e
   have:=(World.ownsRow.lt h1 _ h0).1
   omega):p:=h
theorem Tzc6 {p:Prop} (h:p:=by
  unfold wpOp
  simp only [hj]
  split
  ·rename_i hw
   simp only [hw,if_true] at h1
   exact .inl h1
  ·rename_i hw
   simp only [hw] at h1
   exact h1):p:=h
theorem Tzc7 {p:Prop} (h:p:=by
  go_wp2
  go_roundw
  case rel=>exact ⟨j+1,by go_num,by omega,by rw [Htk.out,Hsm.out];exact hown,hbr⟩
  case measure=>simp [intOf];omega):p:=h
theorem Tzc8 {p:Prop} (h:p:=by
  obtain ⟨xs,h1,h2,h3⟩:=h
  exact ⟨xs,h1.mono (fun b hb _=>hb),h2,fun i x p hx hp=>⟨(h3 i x p hx hp).1,(h3 i x p hx hp).2.mono (fun b hb _=>hb)⟩⟩):p:=h
theorem Tzc9 {p:Prop} (h:p:=by
  have hi:i<6:=(List.getElem?_eq_some_iff.1 h).1
  have:i=0∨i=1∨i=2∨i=3∨i=4∨i=5:=by omega
  rcases this with rfl|rfl|rfl|rfl|rfl|rfl<;>exact h):p:=h
theorem Tzda {p:Prop} (h:p:=by
  refine ⟨h.1,?_⟩
  rcases h.2 with hn|⟨g,cap,cur,hv,hbg,rest⟩
  ·exact .inl hn
  ·exact .inr ⟨g,cap,cur,hv,Nat.le_trans hb hbg,rest⟩):p:=h
theorem Tzdb {p:Prop} (h:p:=by
  clear hz hzy
  go_wp2
  go_roundw
  case rel=>exact ⟨j+1,by go_num,by omega,bend⟩
  case measure=>simp [intOf];omega):p:=h
theorem Tzdc {p:Prop} (h:p:=by
  rcases Nat.eq_zero_or_pos (i-xs.length) with h|h
  ·exact h
  ·rw [List.getElem?_eq_none (by simp;omega)] at hx'
   cases hx'):p:=h
theorem Tzdd {p:Prop} (h:p:=by
  go_wp2_with fail
  refine aI (y2) ?_
  refine TkA ?_
  refine aZ ?_
  go_wp2_with fail
  go_ret
  exact ⟨rfl,Below.ext hbW y2⟩):p:=h
theorem Tzde {p:Prop} (h:p:=by
  rcases hat5 with h|⟨m',h,hm'⟩
  ·rw [h];exact hrow
  ·exact .inr ⟨m',h,by rw [World.size_alloc] at hm';omega⟩):p:=h
theorem Tzdf {p:Prop} (h:p:=by
  have d0:decide ((0:Int)<(i:Int))=true:=by simp;omega
  have dx:((x.toNat:Int)==0)=true:=by simp;omega
  exact Tzbl):p:=h
theorem Tzdg {p:Prop} (h:p:=by
  rcases h.2 with ⟨e,hn⟩|⟨g,cap,cur,e,hb,hh,_⟩
  ·omega
  ·cases e
   exact ⟨g,rfl,hb,(Array.getElem?_eq_some_iff.1 hh).1⟩):p:=h
theorem Tzdh {p:Prop} (h:p:=by
  have HP:=Lib.hid hp
  clear hp
  go_enter Tryz.func160,Tryz.ntmps160
  go_wp2
  go_ret
  rw [HP.out]
  exact ⟨rfl,rfl⟩):p:=h
theorem Tzdi {p:Prop} (h:p:=by
  simp only [Hd.l,List.mem_cons,List.not_mem_nil,or_false] at hy
  rcases hy with rfl|rfl|rfl|rfl<;>exact ⟨by omega,by omega⟩):p:=h
theorem Tzdj {p:Prop} (h:p:=by
  refine forall_congr' fun m1=>forall_congr' fun w1=>imp_congr Iff.rfl ?_
  rw [mQ]
  split
  ·exact ⟨jA,jA⟩
  ·exact Iff.rfl):p:=h
theorem Tzdk {p:Prop} (h:p:=by
  exact ⟨⟨by omega,by omega⟩,⟨by omega,by omega⟩,h1,h2,by rw [e];simp,.inr (.inr ⟨by omega,by omega,d⟩),ha⟩):p:=h
end Go.Proofs.YtiblijmngokcgaaGreatDoor
