/- The given statement CkptstorePlays (its tied card) holds of the given program: what Save and Drop make of a disk, and what is found on it, is the document's answer, behind any calls, crashes and damages. No condition is added. -/
import Derived.Test.YtiblijmngokcgaaGreatDoorCards
import Derived.Test.YtiblijmngokcgaaGreatDoorTie
import Derived.Test.YtiblijmngokcgaaGreatDoorWCkptstorePlaysZs
set_option linter.unusedVariables false
set_option maxRecDepth 100000
namespace Go.Proofs.YtiblijmngokcgaaGreatDoor.ckptstorePlays
open Go.Proofs.Tryz
open Go.ChangeShapes Go.WideShapes Go.ChangeAt Go.RowKit
open Go.ChangeMaps (open_string shut_string)
theorem own:ownKnob Tryz.prog.godebug=none:=by kernel_rfl
theorem laidOut:laidOutB Tryz.prog=true:=by kernel_rfl
theorem lifted (os:Os) (started:os.Started) (H:Type) (enc:TypeId×Value->H):
 ReturnsInHanded {} Tryz.checked os 3 .any (λw args=>(Rows.ckptstorePlaysSpec.pre enc Tryz.prog Tryz.f3 Rows.ckptstorePlaysRow.domain false w args/\laidMet Tryz.prog vJ w)/\sizedMet enc Tryz.prog Tryz.f3 (OpenSpec.ofChange Rows.ckptstorePlaysSpec) false w args) (Rows.ckptstorePlaysSpec.post enc Tryz.prog Tryz.f3 false true false false):=by
 refine returnsInHanded_of_change_and (C:=Tryz.checked) (X:=λw _=>laidMet Tryz.prog vJ w) (λ_ _ _ hh h=>h.of_heap hh) own started (by kernel_rfl) func3
  (ChangeSpec.witness_at (enc:=enc) (C:=Tryz.checked) (os:=os) (X:=λw _=>laidMet Tryz.prog vJ w) false (oX os) #[.slice none 0 0,.int .i64 0,.slice none 0 0] 8 rfl (by kernel_rfl) (by kernel_rfl) (by kernel_rfl) (by kernel_rfl) (by kernel_rfl) (yL os _)) ?_
 intro W base args ds gs before Vz hW hcnd _ hL _;have wy:∀(j:Nat) t v,Tryz.f3.params[j]? =some t->args[j]? =some v->Value.okWide Tryz.prog W .any base t v:=Vz
 have hW' :=hW;obtain ⟨p,q,ZG,hV,rfl,hfz,hnd⟩:=hW;have hA:DataW.TrodAll enc Tryz.prog W 0 (λ_=>true) true Tryz.f3.params.toList args.toList ds p:=ZG;rw [Tryz.params3] at hA wy;obtain ⟨v0,vs0,d0,ds0,p0,q0,ju,rfl,rfl,h0,r0⟩:=trodAll_cons hA;obtain ⟨v1,vs1,d1,ds1,p1,q1,rfl,rfl,rfl,h1,r1⟩:=trodAll_cons r0;obtain ⟨v2,vs2,d2,ds2,p2,q2,rfl,rfl,rfl,h2,r2⟩:=trodAll_cons r1;obtain ⟨rfl,rfl,rfl⟩:=trodAll_nil r2;obtain rfl:args= #[v0,v1,v2]:=by cases args;simp_all
 obtain ⟨rfl,rfl⟩:=trodVars_none hV;obtain ⟨a0,Nk,Py,rfl⟩:=okWide_slice underlying22 (wy 0 22 v0 rfl rfl);have k0:=h0;have lt0:∀x∈p0,x.block<W.heap.size:=by obtain ⟨m,hm⟩:=k0;exact DataW.trod_lt m _ _ _ hm
 obtain ⟨z0,w0⟩:∃zs,ui .u8 W a0 Nk Py zs:=by
  obtain ⟨fuel,hf⟩:=h0;rcases open_ints underlying22 underlying5 (by kernel_rfl) hf with ⟨fq,_⟩|⟨x,l,c,zs,fq,_,hl,hm,hz,_,jk,Xa⟩
  ·simp [Value.cells] at fq;obtain ⟨rfl,rfl,rfl⟩:=fq;exact ⟨[],.inl ⟨rfl,rfl,rfl,rfl⟩⟩
  ·exact Tze9
 obtain ⟨a1,rfl,rfl,rfl,w1⟩:=open_int underlying3 (wy 1 3 v1 rfl rfl) h1;obtain ⟨a2,len2,Dd,rfl⟩:=okWide_slice underlying23 (wy 2 23 v2 rfl rfl);have k2:=h2;have lt2:∀x∈p2,x.block<W.heap.size:=by obtain ⟨m,hm⟩:=k2;exact DataW.trod_lt m _ _ _ hm
 obtain ⟨z2,w2⟩:∃zs,ui .i64 W a2 len2 Dd zs:=by
  obtain ⟨fuel,hf⟩:=h2;rcases open_ints underlying23 underlying3 (by kernel_rfl) hf with ⟨fq,_⟩|⟨x,l,c,zs,fq,_,hl,hm,hz,_,jk,Xa⟩
  ·simp [Value.cells] at fq;obtain ⟨rfl,rfl,rfl⟩:=fq;exact ⟨[],.inl ⟨rfl,rfl,rfl,rfl⟩⟩
  ·exact Tze9
 clear ZG Vz;refine (walk a0 Nk Py z0 a1 a2 len2 Dd z2 W w0 w1 w2 (CF hL)).mono λe W' ⟨he,bel⟩=> ?_
 subst he;exact ⟨_,rfl,_,_,_,[],_,[],hW',trodAll_mk1 (shut_bool underlying4 _),(trodAll_cons_mk (Below.trod laidOut (by kernel_rfl) (of_decide_eq_true (by kernel_rfl)) k0 bel lt0) (trodAll_cons_mk (shut_int underlying3 w1) (trodAll_cons_mk (Below.trod laidOut (by kernel_rfl) (of_decide_eq_true (by kernel_rfl)) k2 bel lt2) trodAll_mk0))),rfl,bel.frame _,λh=>by cases h⟩
theorem over:Rows.ckptstorePlaysRow.holds Tryz.pinned (OpenSpec.ofChange Rows.ckptstorePlaysSpec):=
 OpenClaim.holds_of_wide 3 Tryz.f3 rfl rfl rfl rfl rfl rfl rfl ⟨rfl,rfl,rfl,rfl,rfl⟩ rfl rfl rfl rfl rfl (by kernel_rfl) func3 (by kernel_rfl)
  (of_decide_eq_true (by kernel_rfl)) (by unfold Func.isWrapper;first|(rw [if_pos (by decide +kernel)];kernel_rfl)|(rw [if_neg (by decide +kernel)];exact ⟨rfl,rfl⟩))
  (λos started H enc _=>lifted os started H enc)
theorem proved:Rows.CkptstorePlaysCardSaid:=
 Claim7.holds_tied_plain_at .later [] [.data, .data] true (true, "d130b15a564e32eaaf84232e07a11731d1d678c44b390602fb1610a74079f75f") true
  over (λ_ h=>by cases h) (by kernel_rfl) (λ_ h=>by cases h) ckptstorePlays_row_tie rfl ⟨rfl,rfl⟩ (by kernel_rfl) rfl
  (λf fn hf hfn=>by
   obtain rfl : f = 3 := Option.some.inj ((show Tryz.prog.funcNamed "rollbacknet/rollbacknetlaw13.CkptstorePlays" = some 3 by kernel_rfl).symm.trans hf) |>.symm
   obtain rfl:fn=Tryz.f3:=(Option.some.inj (func3.symm.trans hfn)).symm
   exact ⟨by kernel_rfl,λj t ht=>by
    rw [Tryz.params3] at ht;rcases j with _|_|_|j
    ·obtain rfl:t=22:=by simpa using ht.symm
     exact (show Tryz.prog.wantsStandIn 22=false by kernel_rfl)
    ·obtain rfl:t=3:=by simpa using ht.symm
     exact (show Tryz.prog.wantsStandIn 3=false by kernel_rfl)
    ·obtain rfl:t=23:=by simpa using ht.symm
     exact (show Tryz.prog.wantsStandIn 23=false by kernel_rfl)
    ·simp at ht⟩)
  (by kernel_rfl)
#print axioms proved
end Go.Proofs.YtiblijmngokcgaaGreatDoor.ckptstorePlays
