import Derived.Test.YtiblijmngokcgaaGreatDoorMacZs
import Derived.Test.YtiblijmngokcgaaGreatDoorCodecBZs
namespace Go.Proofs.YtiblijmngokcgaaGreatDoor
open Go.RowKit
set_option maxRecDepth 100000
set_option linter.unusedVariables false
set_option maxHeartbeats 2000000 in
theorem DT (B r p:Nat) (L:List UInt8) (w:World) (h:Rdr B w r L p):
 Calls Tryz.prog 183 #[.pointer (some ⟨r,0,none⟩)] w fun e w' =>aW B r L w (eM L p) (fun a _ v=>v=ouV a) e w' :=by
 obtain ⟨W0,hW,hI0⟩:=RB.new (T:=129) (c2:= #[Value.int .i64 0,Value.int .i64 0]) (c3:= #[Value.int .i64 0,Value.int .i64 0]) h
 go_enter Tryz.func183,Tryz.ntmps183
 go_wp2_with fail
 rw [←hW]
 clear hW
 refine (cW B r p L W0 hI0.rd).mono ?_
 intro e w1 h1
 unfold aW at h1
 cases hx1:bA L p with
 |error k=>
  rw [hx1] at h1
  obtain ⟨rfl,hg⟩:=h1
  have hgr:=bD hI0.gr hg
  have hfin:eM L p= .error k:=by unfold eM;rw [cL hx1]
  clear hI0
  go_wp2
  refine ⟨rfl,?_⟩
  unfold aW
  rw [hfin]
  exact ⟨rfl,hgr⟩
 |ok vq=>
  obtain ⟨v1,q1⟩:=vq
  rw [hx1] at h1
  obtain ⟨⟨_,rfl,rfl⟩,hR,hg⟩:=h1
  have hJ:=hI0.call hR hg
  have hc:=hJ.cell 0 (v:= .int .i64 0) rfl
  have hf:=hJ.frz 0
  have hI1:RB B r L 129 #[Value.int .i64 0,Value.int .i64 0] w (w1.setCell ⟨w.heap.size+1,0,none⟩ (.int .i64 v1)) q1 #[Value.int .i64 v1,Value.int .i64 0]:=hJ.set 0 (.int .i64 v1)
  clear hJ hI0 hg hR
  go_wp2_with fail
  clear hc hf
  generalize w1.setCell ⟨w.heap.size+1,0,none⟩ (.int .i64 v1)=W1 at*
  refine (cW B r q1 L W1 hI1.rd).mono ?_
  intro e w2 h2
  unfold aW at h2
  cases hx2:bA L q1 with
  |error k=>
   rw [hx2] at h2
   obtain ⟨rfl,hg⟩:=h2
   have hgr:=bD hI1.gr hg
   have hfin:eM L p= .error k:=by unfold eM;rw [aR hx1,cL hx2]
   clear hI1
   go_wp2
   refine ⟨rfl,?_⟩
   unfold aW
   rw [hfin]
   exact ⟨rfl,hgr⟩
  |ok vq=>
   obtain ⟨v2,q2⟩:=vq
   rw [hx2] at h2
   obtain ⟨⟨_,rfl,rfl⟩,hR,hg⟩:=h2
   have hJ:=hI1.call hR hg
   have hc:=hJ.cell 1 (v:= .int .i64 0) rfl
   have hf:=hJ.frz 1
   have hI2:RB B r L 129 #[Value.int .i64 0,Value.int .i64 0] w (w2.setCell ⟨w.heap.size+1,1,none⟩ (.int .i64 v2)) q2 #[Value.int .i64 v1,Value.int .i64 v2]:=hJ.set 1 (.int .i64 v2)
   clear hJ hI1 hg hR
   have hfin:eM L p= .ok (⟨v1,v2⟩,q2):=by unfold eM;rw [aR hx1,aR hx2]
   have k0:(w2.setCell ⟨w.heap.size+1,1,none⟩ (.int .i64 v2)).cell? ⟨w.heap.size+1,0,none⟩=some (.int .i64 v1):=hI2.cell 0 rfl
   have k1:(w2.setCell ⟨w.heap.size+1,1,none⟩ (.int .i64 v2)).cell? ⟨w.heap.size+1,1,none⟩=some (.int .i64 v2):=hI2.cell 1 rfl
   have H2:=Lib.hid hI2.b2
   have HI:=Lib.hid hI2
   clear hI2
   go_wp2_with (first|(refine aC rfl 129 _ _ rfl w.heap.size 129 _ _ rfl rfl H2.out (by kernel_rfl) rfl (by simp [Value.oneCell']) ?_))
   refine bodyPost_ret (bH rfl rfl (aB (setRow_heap _ _ _ _ _ _ H2.out) Tryz.underlying129 rfl (by kernel_rfl))) rfl ?_
   unfold aW
   rw [hfin]
   exact ⟨⟨_,rfl,rfl⟩,HI.out.end_ _⟩
set_option maxHeartbeats 2000000 in
theorem AI (B r p:Nat) (L:List UInt8) (w:World) (h:Rdr B w r L p):
 Calls Tryz.prog 181 #[.pointer (some ⟨r,0,none⟩)] w fun e w' =>aW B r L w (eA L p) (fun a _ v=>v=snV a) e w' :=by
 obtain ⟨W0,hW,hI0⟩:=RB.new (T:=127) (c2:= #[Value.int .i64 0,Value.int .i64 0,Value.int .i64 0,Value.int .i64 0]) (c3:= #[Value.int .i64 0,Value.int .i64 0,Value.int .i64 0,Value.int .i64 0]) h
 go_enter Tryz.func181,Tryz.ntmps181
 go_wp2_with fail
 rw [←hW]
 clear hW
 refine (cW B r p L W0 hI0.rd).mono ?_
 intro e w1 h1
 unfold aW at h1
 cases hx1:bA L p with
 |error k=>
  rw [hx1] at h1
  obtain ⟨rfl,hg⟩:=h1
  have hgr:=bD hI0.gr hg
  have hfin:eA L p= .error k:=by unfold eA;rw [cL hx1]
  clear hI0
  go_wp2
  refine ⟨rfl,?_⟩
  unfold aW
  rw [hfin]
  exact ⟨rfl,hgr⟩
 |ok vq=>
  obtain ⟨v1,q1⟩:=vq
  rw [hx1] at h1
  obtain ⟨⟨_,rfl,rfl⟩,hR,hg⟩:=h1
  have hJ:=hI0.call hR hg
  have hc:=hJ.cell 0 (v:= .int .i64 0) rfl
  have hf:=hJ.frz 0
  have hI1:RB B r L 127 #[Value.int .i64 0,Value.int .i64 0,Value.int .i64 0,Value.int .i64 0] w (w1.setCell ⟨w.heap.size+1,0,none⟩ (.int .i64 v1)) q1 #[Value.int .i64 v1,Value.int .i64 0,Value.int .i64 0,Value.int .i64 0]:=hJ.set 0 (.int .i64 v1)
  clear hJ hI0 hg hR
  go_wp2_with fail
  clear hc hf
  generalize w1.setCell ⟨w.heap.size+1,0,none⟩ (.int .i64 v1)=W1 at*
  refine (cW B r q1 L W1 hI1.rd).mono ?_
  intro e w2 h2
  unfold aW at h2
  cases hx2:bA L q1 with
  |error k=>
   rw [hx2] at h2
   obtain ⟨rfl,hg⟩:=h2
   have hgr:=bD hI1.gr hg
   have hfin:eA L p= .error k:=by unfold eA;rw [aR hx1,cL hx2]
   clear hI1
   go_wp2
   refine ⟨rfl,?_⟩
   unfold aW
   rw [hfin]
   exact ⟨rfl,hgr⟩
  |ok vq=>
   obtain ⟨v2,q2⟩:=vq
   rw [hx2] at h2
   obtain ⟨⟨_,rfl,rfl⟩,hR,hg⟩:=h2
   have hJ:=hI1.call hR hg
   have hc:=hJ.cell 1 (v:= .int .i64 0) rfl
   have hf:=hJ.frz 1
   have hI2:RB B r L 127 #[Value.int .i64 0,Value.int .i64 0,Value.int .i64 0,Value.int .i64 0] w (w2.setCell ⟨w.heap.size+1,1,none⟩ (.int .i64 v2)) q2 #[Value.int .i64 v1,Value.int .i64 v2,Value.int .i64 0,Value.int .i64 0]:=hJ.set 1 (.int .i64 v2)
   clear hJ hI1 hg hR
   go_wp2_with fail
   clear hc hf
   generalize w2.setCell ⟨w.heap.size+1,1,none⟩ (.int .i64 v2)=W2 at*
   refine (cW B r q2 L W2 hI2.rd).mono ?_
   intro e w3 h3
   unfold aW at h3
   cases hx3:bA L q2 with
   |error k=>
    rw [hx3] at h3
    obtain ⟨rfl,hg⟩:=h3
    have hgr:=bD hI2.gr hg
    have hfin:eA L p= .error k:=by unfold eA;rw [aR hx1,aR hx2,cL hx3]
    clear hI2
    go_wp2
    refine ⟨rfl,?_⟩
    unfold aW
    rw [hfin]
    exact ⟨rfl,hgr⟩
   |ok vq=>
    obtain ⟨v3,q3⟩:=vq
    rw [hx3] at h3
    obtain ⟨⟨_,rfl,rfl⟩,hR,hg⟩:=h3
    have hJ:=hI2.call hR hg
    have hc:=hJ.cell 2 (v:= .int .i64 0) rfl
    have hf:=hJ.frz 2
    have hI3:RB B r L 127 #[Value.int .i64 0,Value.int .i64 0,Value.int .i64 0,Value.int .i64 0] w (w3.setCell ⟨w.heap.size+1,2,none⟩ (.int .i64 v3)) q3 #[Value.int .i64 v1,Value.int .i64 v2,Value.int .i64 v3,Value.int .i64 0]:=hJ.set 2 (.int .i64 v3)
    clear hJ hI2 hg hR
    go_wp2_with fail
    clear hc hf
    generalize w3.setCell ⟨w.heap.size+1,2,none⟩ (.int .i64 v3)=W3 at*
    refine (cW B r q3 L W3 hI3.rd).mono ?_
    intro e w4 h4
    unfold aW at h4
    cases hx4:bA L q3 with
    |error k=>
     rw [hx4] at h4
     obtain ⟨rfl,hg⟩:=h4
     have hgr:=bD hI3.gr hg
     have hfin:eA L p= .error k:=by unfold eA;rw [aR hx1,aR hx2,aR hx3,cL hx4]
     clear hI3
     go_wp2
     refine ⟨rfl,?_⟩
     unfold aW
     rw [hfin]
     exact ⟨rfl,hgr⟩
    |ok vq=>
     obtain ⟨v4,q4⟩:=vq
     rw [hx4] at h4
     obtain ⟨⟨_,rfl,rfl⟩,hR,hg⟩:=h4
     have hJ:=hI3.call hR hg
     have hc:=hJ.cell 3 (v:= .int .i64 0) rfl
     have hf:=hJ.frz 3
     have hI4:RB B r L 127 #[Value.int .i64 0,Value.int .i64 0,Value.int .i64 0,Value.int .i64 0] w (w4.setCell ⟨w.heap.size+1,3,none⟩ (.int .i64 v4)) q4 #[Value.int .i64 v1,Value.int .i64 v2,Value.int .i64 v3,Value.int .i64 v4]:=hJ.set 3 (.int .i64 v4)
     clear hJ hI3 hg hR
     have hfin:eA L p= .ok (⟨v1,v2,v3,v4⟩,q4):=by unfold eA;rw [aR hx1,aR hx2,aR hx3,aR hx4]
     have k0:(w4.setCell ⟨w.heap.size+1,3,none⟩ (.int .i64 v4)).cell? ⟨w.heap.size+1,0,none⟩=some (.int .i64 v1):=hI4.cell 0 rfl
     have k1:(w4.setCell ⟨w.heap.size+1,3,none⟩ (.int .i64 v4)).cell? ⟨w.heap.size+1,1,none⟩=some (.int .i64 v2):=hI4.cell 1 rfl
     have k2:(w4.setCell ⟨w.heap.size+1,3,none⟩ (.int .i64 v4)).cell? ⟨w.heap.size+1,2,none⟩=some (.int .i64 v3):=hI4.cell 2 rfl
     have k3:(w4.setCell ⟨w.heap.size+1,3,none⟩ (.int .i64 v4)).cell? ⟨w.heap.size+1,3,none⟩=some (.int .i64 v4):=hI4.cell 3 rfl
     have H2:=Lib.hid hI4.b2
     have HI:=Lib.hid hI4
     clear hI4
     go_wp2_with (first|(refine aC rfl 127 _ _ rfl w.heap.size 127 _ _ rfl rfl H2.out (by kernel_rfl) rfl (by simp [Value.oneCell']) ?_))
     refine bodyPost_ret (bH rfl rfl (aB (setRow_heap _ _ _ _ _ _ H2.out) Tryz.underlying127 rfl (by kernel_rfl))) rfl ?_
     unfold aW
     rw [hfin]
     exact ⟨⟨_,rfl,rfl⟩,HI.out.end_ _⟩
set_option maxHeartbeats 2000000 in
theorem yK (B r p:Nat) (L:List UInt8) (w:World) (h:Rdr B w r L p):
 Calls Tryz.prog 140 #[.pointer (some ⟨r,0,none⟩)] w fun e w' =>aW B r L w (dG L p) (fun a _ v=>v=evV a) e w' :=by
 obtain ⟨W0,hW,hI0⟩:=RB.new (T:=78) (c2:= #[Value.int .i64 0,Value.int .i64 0,Value.int .i64 0,Value.int .i64 0,Value.int .i64 0,Value.int .i64 0,Value.int .i64 0]) (c3:= #[Value.int .i64 0,Value.int .i64 0,Value.int .i64 0,Value.int .i64 0,Value.int .i64 0,Value.int .i64 0,Value.int .i64 0]) h
 go_enter Tryz.func140,Tryz.ntmps140
 go_wp2_with fail
 rw [←hW]
 clear hW
 refine (cW B r p L W0 hI0.rd).mono ?_
 intro e w1 h1
 unfold aW at h1
 cases hx1:bA L p with
 |error k=>
  rw [hx1] at h1
  obtain ⟨rfl,hg⟩:=h1
  have hgr:=bD hI0.gr hg
  have hfin:dG L p= .error k:=by unfold dG;rw [cL hx1]
  clear hI0
  go_wp2
  refine ⟨rfl,?_⟩
  unfold aW
  rw [hfin]
  exact ⟨rfl,hgr⟩
 |ok vq=>
  obtain ⟨v1,q1⟩:=vq
  rw [hx1] at h1
  obtain ⟨⟨_,rfl,rfl⟩,hR,hg⟩:=h1
  have hJ:=hI0.call hR hg
  have hc:=hJ.cell 0 (v:= .int .i64 0) rfl
  have hf:=hJ.frz 0
  have hI1:RB B r L 78 #[Value.int .i64 0,Value.int .i64 0,Value.int .i64 0,Value.int .i64 0,Value.int .i64 0,Value.int .i64 0,Value.int .i64 0] w (w1.setCell ⟨w.heap.size+1,0,none⟩ (.int .i64 v1)) q1 #[Value.int .i64 v1,Value.int .i64 0,Value.int .i64 0,Value.int .i64 0,Value.int .i64 0,Value.int .i64 0,Value.int .i64 0]:=hJ.set 0 (.int .i64 v1)
  clear hJ hI0 hg hR
  go_wp2_with fail
  clear hc hf
  generalize w1.setCell ⟨w.heap.size+1,0,none⟩ (.int .i64 v1)=W1 at*
  refine (cW B r q1 L W1 hI1.rd).mono ?_
  intro e w2 h2
  unfold aW at h2
  cases hx2:bA L q1 with
  |error k=>
   rw [hx2] at h2
   obtain ⟨rfl,hg⟩:=h2
   have hgr:=bD hI1.gr hg
   have hfin:dG L p= .error k:=by unfold dG;rw [aR hx1,cL hx2]
   clear hI1
   go_wp2
   refine ⟨rfl,?_⟩
   unfold aW
   rw [hfin]
   exact ⟨rfl,hgr⟩
  |ok vq=>
   obtain ⟨v2,q2⟩:=vq
   rw [hx2] at h2
   obtain ⟨⟨_,rfl,rfl⟩,hR,hg⟩:=h2
   have hJ:=hI1.call hR hg
   have hc:=hJ.cell 1 (v:= .int .i64 0) rfl
   have hf:=hJ.frz 1
   have hI2:RB B r L 78 #[Value.int .i64 0,Value.int .i64 0,Value.int .i64 0,Value.int .i64 0,Value.int .i64 0,Value.int .i64 0,Value.int .i64 0] w (w2.setCell ⟨w.heap.size+1,1,none⟩ (.int .i64 v2)) q2 #[Value.int .i64 v1,Value.int .i64 v2,Value.int .i64 0,Value.int .i64 0,Value.int .i64 0,Value.int .i64 0,Value.int .i64 0]:=hJ.set 1 (.int .i64 v2)
   clear hJ hI1 hg hR
   go_wp2_with fail
   clear hc hf
   generalize w2.setCell ⟨w.heap.size+1,1,none⟩ (.int .i64 v2)=W2 at*
   refine (cW B r q2 L W2 hI2.rd).mono ?_
   intro e w3 h3
   unfold aW at h3
   cases hx3:bA L q2 with
   |error k=>
    rw [hx3] at h3
    obtain ⟨rfl,hg⟩:=h3
    have hgr:=bD hI2.gr hg
    have hfin:dG L p= .error k:=by unfold dG;rw [aR hx1,aR hx2,cL hx3]
    clear hI2
    go_wp2
    refine ⟨rfl,?_⟩
    unfold aW
    rw [hfin]
    exact ⟨rfl,hgr⟩
   |ok vq=>
    obtain ⟨v3,q3⟩:=vq
    rw [hx3] at h3
    obtain ⟨⟨_,rfl,rfl⟩,hR,hg⟩:=h3
    have hJ:=hI2.call hR hg
    have hc:=hJ.cell 2 (v:= .int .i64 0) rfl
    have hf:=hJ.frz 2
    have hI3:RB B r L 78 #[Value.int .i64 0,Value.int .i64 0,Value.int .i64 0,Value.int .i64 0,Value.int .i64 0,Value.int .i64 0,Value.int .i64 0] w (w3.setCell ⟨w.heap.size+1,2,none⟩ (.int .i64 v3)) q3 #[Value.int .i64 v1,Value.int .i64 v2,Value.int .i64 v3,Value.int .i64 0,Value.int .i64 0,Value.int .i64 0,Value.int .i64 0]:=hJ.set 2 (.int .i64 v3)
    clear hJ hI2 hg hR
    go_wp2_with fail
    clear hc hf
    generalize w3.setCell ⟨w.heap.size+1,2,none⟩ (.int .i64 v3)=W3 at*
    refine (cW B r q3 L W3 hI3.rd).mono ?_
    intro e w4 h4
    unfold aW at h4
    cases hx4:bA L q3 with
    |error k=>
     rw [hx4] at h4
     obtain ⟨rfl,hg⟩:=h4
     have hgr:=bD hI3.gr hg
     have hfin:dG L p= .error k:=by unfold dG;rw [aR hx1,aR hx2,aR hx3,cL hx4]
     clear hI3
     go_wp2
     refine ⟨rfl,?_⟩
     unfold aW
     rw [hfin]
     exact ⟨rfl,hgr⟩
    |ok vq=>
     obtain ⟨v4,q4⟩:=vq
     rw [hx4] at h4
     obtain ⟨⟨_,rfl,rfl⟩,hR,hg⟩:=h4
     have hJ:=hI3.call hR hg
     have hc:=hJ.cell 3 (v:= .int .i64 0) rfl
     have hf:=hJ.frz 3
     have hI4:RB B r L 78 #[Value.int .i64 0,Value.int .i64 0,Value.int .i64 0,Value.int .i64 0,Value.int .i64 0,Value.int .i64 0,Value.int .i64 0] w (w4.setCell ⟨w.heap.size+1,3,none⟩ (.int .i64 v4)) q4 #[Value.int .i64 v1,Value.int .i64 v2,Value.int .i64 v3,Value.int .i64 v4,Value.int .i64 0,Value.int .i64 0,Value.int .i64 0]:=hJ.set 3 (.int .i64 v4)
     clear hJ hI3 hg hR
     go_wp2_with fail
     clear hc hf
     generalize w4.setCell ⟨w.heap.size+1,3,none⟩ (.int .i64 v4)=W4 at*
     refine (cW B r q4 L W4 hI4.rd).mono ?_
     intro e w5 h5
     unfold aW at h5
     cases hx5:bA L q4 with
     |error k=>
      rw [hx5] at h5
      obtain ⟨rfl,hg⟩:=h5
      have hgr:=bD hI4.gr hg
      have hfin:dG L p= .error k:=by unfold dG;rw [aR hx1,aR hx2,aR hx3,aR hx4,cL hx5]
      clear hI4
      go_wp2
      refine ⟨rfl,?_⟩
      unfold aW
      rw [hfin]
      exact ⟨rfl,hgr⟩
     |ok vq=>
      obtain ⟨v5,q5⟩:=vq
      rw [hx5] at h5
      obtain ⟨⟨_,rfl,rfl⟩,hR,hg⟩:=h5
      have hJ:=hI4.call hR hg
      have hc:=hJ.cell 4 (v:= .int .i64 0) rfl
      have hf:=hJ.frz 4
      have hI5:RB B r L 78 #[Value.int .i64 0,Value.int .i64 0,Value.int .i64 0,Value.int .i64 0,Value.int .i64 0,Value.int .i64 0,Value.int .i64 0] w (w5.setCell ⟨w.heap.size+1,4,none⟩ (.int .i64 v5)) q5 #[Value.int .i64 v1,Value.int .i64 v2,Value.int .i64 v3,Value.int .i64 v4,Value.int .i64 v5,Value.int .i64 0,Value.int .i64 0]:=hJ.set 4 (.int .i64 v5)
      clear hJ hI4 hg hR
      go_wp2_with fail
      clear hc hf
      generalize w5.setCell ⟨w.heap.size+1,4,none⟩ (.int .i64 v5)=W5 at*
      refine (cW B r q5 L W5 hI5.rd).mono ?_
      intro e w6 h6
      unfold aW at h6
      cases hx6:bA L q5 with
      |error k=>
       rw [hx6] at h6
       obtain ⟨rfl,hg⟩:=h6
       have hgr:=bD hI5.gr hg
       have hfin:dG L p= .error k:=by unfold dG;rw [aR hx1,aR hx2,aR hx3,aR hx4,aR hx5,cL hx6]
       clear hI5
       go_wp2
       refine ⟨rfl,?_⟩
       unfold aW
       rw [hfin]
       exact ⟨rfl,hgr⟩
      |ok vq=>
       obtain ⟨v6,q6⟩:=vq
       rw [hx6] at h6
       obtain ⟨⟨_,rfl,rfl⟩,hR,hg⟩:=h6
       have hJ:=hI5.call hR hg
       have hc:=hJ.cell 5 (v:= .int .i64 0) rfl
       have hf:=hJ.frz 5
       have hI6:RB B r L 78 #[Value.int .i64 0,Value.int .i64 0,Value.int .i64 0,Value.int .i64 0,Value.int .i64 0,Value.int .i64 0,Value.int .i64 0] w (w6.setCell ⟨w.heap.size+1,5,none⟩ (.int .i64 v6)) q6 #[Value.int .i64 v1,Value.int .i64 v2,Value.int .i64 v3,Value.int .i64 v4,Value.int .i64 v5,Value.int .i64 v6,Value.int .i64 0]:=hJ.set 5 (.int .i64 v6)
       clear hJ hI5 hg hR
       go_wp2_with fail
       clear hc hf
       generalize w6.setCell ⟨w.heap.size+1,5,none⟩ (.int .i64 v6)=W6 at*
       refine (cW B r q6 L W6 hI6.rd).mono ?_
       intro e w7 h7
       unfold aW at h7
       cases hx7:bA L q6 with
       |error k=>
        rw [hx7] at h7
        obtain ⟨rfl,hg⟩:=h7
        have hgr:=bD hI6.gr hg
        have hfin:dG L p= .error k:=by unfold dG;rw [aR hx1,aR hx2,aR hx3,aR hx4,aR hx5,aR hx6,cL hx7]
        clear hI6
        go_wp2
        refine ⟨rfl,?_⟩
        unfold aW
        rw [hfin]
        exact ⟨rfl,hgr⟩
       |ok vq=>
        obtain ⟨v7,q7⟩:=vq
        rw [hx7] at h7
        obtain ⟨⟨_,rfl,rfl⟩,hR,hg⟩:=h7
        have hJ:=hI6.call hR hg
        have hc:=hJ.cell 6 (v:= .int .i64 0) rfl
        have hf:=hJ.frz 6
        have hI7:RB B r L 78 #[Value.int .i64 0,Value.int .i64 0,Value.int .i64 0,Value.int .i64 0,Value.int .i64 0,Value.int .i64 0,Value.int .i64 0] w (w7.setCell ⟨w.heap.size+1,6,none⟩ (.int .i64 v7)) q7 #[Value.int .i64 v1,Value.int .i64 v2,Value.int .i64 v3,Value.int .i64 v4,Value.int .i64 v5,Value.int .i64 v6,Value.int .i64 v7]:=hJ.set 6 (.int .i64 v7)
        clear hJ hI6 hg hR
        have hfin:dG L p= .ok (⟨v1,v2,v3,v4,v5,v6,v7⟩,q7):=by unfold dG;rw [aR hx1,aR hx2,aR hx3,aR hx4,aR hx5,aR hx6,aR hx7]
        have k0:(w7.setCell ⟨w.heap.size+1,6,none⟩ (.int .i64 v7)).cell? ⟨w.heap.size+1,0,none⟩=some (.int .i64 v1):=hI7.cell 0 rfl
        have k1:(w7.setCell ⟨w.heap.size+1,6,none⟩ (.int .i64 v7)).cell? ⟨w.heap.size+1,1,none⟩=some (.int .i64 v2):=hI7.cell 1 rfl
        have k2:(w7.setCell ⟨w.heap.size+1,6,none⟩ (.int .i64 v7)).cell? ⟨w.heap.size+1,2,none⟩=some (.int .i64 v3):=hI7.cell 2 rfl
        have k3:(w7.setCell ⟨w.heap.size+1,6,none⟩ (.int .i64 v7)).cell? ⟨w.heap.size+1,3,none⟩=some (.int .i64 v4):=hI7.cell 3 rfl
        have k4:(w7.setCell ⟨w.heap.size+1,6,none⟩ (.int .i64 v7)).cell? ⟨w.heap.size+1,4,none⟩=some (.int .i64 v5):=hI7.cell 4 rfl
        have k5:(w7.setCell ⟨w.heap.size+1,6,none⟩ (.int .i64 v7)).cell? ⟨w.heap.size+1,5,none⟩=some (.int .i64 v6):=hI7.cell 5 rfl
        have k6:(w7.setCell ⟨w.heap.size+1,6,none⟩ (.int .i64 v7)).cell? ⟨w.heap.size+1,6,none⟩=some (.int .i64 v7):=hI7.cell 6 rfl
        have H2:=Lib.hid hI7.b2
        have HI:=Lib.hid hI7
        clear hI7
        go_wp2_with (first|(refine aC rfl 78 _ _ rfl w.heap.size 78 _ _ rfl rfl H2.out (by kernel_rfl) rfl (by simp [Value.oneCell']) ?_))
        refine bodyPost_ret (bH rfl rfl (aB (setRow_heap _ _ _ _ _ _ H2.out) Tryz.underlying78 rfl (by kernel_rfl))) rfl ?_
        unfold aW
        rw [hfin]
        exact ⟨⟨_,rfl,rfl⟩,HI.out.end_ _⟩
end Go.Proofs.YtiblijmngokcgaaGreatDoor
namespace Go.Proofs.YtiblijmngokcgaaGreatDoor
open Go.RowKit
set_option maxRecDepth 100000
set_option linter.unusedVariables false
theorem jE {a b c:World} {g:Nat} {row:Option Nat} (h:a.grownBy b (some g)) (k:b.grownBy c row) (hr:∀m,row=some m→a.heap.size≤m∨m=g):a.grownBy c (some g):=
 ⟨k.os.trans h.os,k.tape.trans h.tape,k.output.trans h.output,Nat.le_trans h.size k.size,fun i hi hne=>(k.block i (Nat.lt_of_lt_of_le hi h.size) (fun e=>by
  rcases hr i e.symm with h' |h'
  ·omega
  ·exact hne (by rw [h']))).trans (h.block i hi hne)⟩
theorem jF {a b:World} (h:Below a.heap.size a b) (row:Option Nat):a.grownBy b row:=⟨h.os,h.tape,h.output,h.size,fun i hi _=>h.block i hi⟩
theorem OwnR.kept_lt {α:Type} {enc:α→List Value} {k:Nat} {w w' :World} {base g:Nat} {e:TypeId} {v:Value} {l:List α} (h:OwnR enc k w base e v l) (hg:w.grownBy w' (some g)) (hlt:g<base):OwnR enc k w' base e v l:=by
 refine h.kept hg ?_
 rcases Option.eq_none_or_eq_some v.ownBlock with h0|⟨m,h0⟩
 ·exact .inl h0
 ·refine .inr (fun e=> ?_)
  rw [h0] at e
  cases e
  have:=(World.ownsRow.lt h _ h0).1
  omega
theorem iI (x:Ev):∀u∈cQ x,u.oneCell' =true:=by
 intro u hu
 simp [cQ] at hu
 rcases hu with rfl|rfl|rfl|rfl|rfl|rfl|rfl<;>rfl
theorem jW (x:Snd):∀u∈dK x,u.oneCell' =true:=by
 intro u hu
 simp [dK] at hu
 rcases hu with rfl|rfl|rfl|rfl<;>rfl
theorem jX (x:Ou):∀u∈dM x,u.oneCell' =true:=by
 intro u hu
 simp [dM] at hu
 rcases hu with rfl|rfl<;>rfl
theorem CA:(Tryz.prog.info? 3).map (fun i=>(i.zero,i.size,i.bytes))=some (some (.int .i64 0),1,8):=by kernel_rfl
set_option maxHeartbeats 2000000 in
theorem sZ (B r p:Nat) (L:List UInt8) (w:World) (h:Rdr B w r L p):
 Calls Tryz.prog 178 #[.pointer (some ⟨r,0,none⟩),.func (.func 138) #[] #[]] w fun e w' =>aW B r L w (bB (bA L) L p) (fun a w' v=>∃A c,v= .slice A a.length c∧OwnR bJ 1 w' w.heap.size 3 v a) e w' :=by
 have hlt:=h.lt
 go_enter Tryz.func178,Tryz.ntmps178
 go_wp2_with fail
 refine (cW B r p L w h).mono ?_
 intro e w1 h1
 unfold aW at h1
 cases hx:bA L p with
 |error k=>
  rw [hx] at h1
  obtain ⟨rfl,hg⟩:=h1
  have hfin:bB (bA L) L p= .error k:=by unfold bB;rw [cL hx]
  go_wp2
  refine ⟨rfl,?_⟩
  unfold aW
  rw [hfin]
  exact ⟨rfl,hg⟩
 |ok vq=>
  obtain ⟨n,q⟩:=vq
  rw [hx] at h1
  obtain ⟨⟨_,rfl,rfl⟩,hR1,hg1⟩:=h1
  have HR:=Lib.hid hR1
  obtain ⟨hB,A,c,hrow,hby,hq,hL⟩:=hR1
  have h0:w1.cell? ⟨r,0,none⟩=some (.slice A L.length c):=by rw [cell_of_row _ _ _ _ _ _ hrow];rfl
  have h1:w1.cell? ⟨r,1,none⟩=some (.int .i64 (q:Int)):=by rw [cell_of_row _ _ _ _ _ _ hrow];rfl
  clear hrow hby h
  by_cases hneg:n<0
  ·have d0:decide (n<0)=true:=by simp;omega
   have hfin:bB (bA L) L p= .error 9:=eO hx (.inl hneg)
   exact Tza4
  ·have d0:decide (n<0)=false:=by simp;omega
   by_cases hbig:(L.length:Int)-(q:Int)<n
   ·have d1:decide ((L.length:Int)-(q:Int)<n)=true:=by simp;omega
    have hfin:bB (bA L) L p= .error 9:=eO hx (.inr hbig)
    exact Tzat
   ·have d1:decide ((L.length:Int)-(q:Int)<n)=false:=by simp;omega
    obtain ⟨m,rfl⟩:∃m:Nat,n=(m:Int):=⟨n.toNat,by omega⟩
    have hstart:bB (bA L) L p=_:=fT hx hbig
    have HS:=Lib.hid hstart
    have hm:m≤1000000000:=by omega
    clear hstart
    go_wp2_with fail
    refine aP (fun _=>True) (by kernel_rfl) (by kernel_rfl) trivial ?_
    refine TkG ?_
    refine lex_e rfl ?_
    go_wp2_with fail
    refine lex_go trivial ?_
    refine TkG ?_
    refine lex_e rfl ?_
    go_wp2_with fail
    refine lex_go trivial ?_
    refine TkG ?_
    refine bG ?_
    go_wp2_with fail
    go_wp2
    go_loopw [6,28] (fun v i wr=>∃(k q' :Nat) (A' :Option Addr) (c' :Nat) (acc:List (Int)),i= .int .i64 k∧v= .slice A' k c'∧k≤m∧OwnR bJ 1 wr w.heap.size 3 (.slice A' k c') acc∧Rdr B wr r L q'∧w.grownBy wr (some r)∧bB (bA L) L p=bnd (dD (bA L) (m-k) q') (fun l q'' => .ok (acc++l,q''))) (fun _ i _=>m-(intOf i).toNat)
    case atStart=>exact ⟨0,q,none,0,[],rfl,rfl,by omega,OwnR.nil_ _ _ _,HR.out.drew,bN hg1,HS.out⟩
    case round=>
     clear HR hg1 HS h0 h1
     obtain ⟨k,q',A',c',acc,rfl,rfl,hk,hown,hR,hg,heq⟩:=hrel
     have HE:=Lib.hid heq
     clear heq
     by_cases hlt2:k<m
     ·have dk:decide ((k:Int)<(m:Int))=true:=by simp;omega
      have dk' :decide (k<m)=true:=by simp;omega
      obtain ⟨j,hj⟩:∃j,m-k=j+1:=⟨m-k-1,by omega⟩
      go_wp2_with fail
      refine (cW B r q' L wr hR).mono ?_
      intro e w2 h2
      unfold aW at h2
      cases hy:bA L q' with
      |error x=>
       rw [hy] at h2
       obtain ⟨rfl,hg2⟩:=h2
       have hfin:bB (bA L) L p= .error x:=by rw [HE.out,hj];exact jS hy
       go_wp2
       refine ⟨rfl,?_⟩
       unfold aW
       rw [hfin]
       exact ⟨rfl,bD hg hg2⟩
      |ok aq=>
       obtain ⟨a,q2⟩:=aq
       rw [hy] at h2
       obtain ⟨⟨_,rfl,hv⟩,hR2,hg2⟩:=h2
       subst hv
       have hstep:bB (bA L) L p=bnd (dD (bA L) (m-(k+1)) q2) (fun l q'' => .ok ((acc++ [a])++l,q'')):=by rw [HE.out,hj,iM hy,show m-(k+1)=j by omega]
       have HST:=Lib.hid hstep
       have hown2:=hown.kept_lt hg2 hlt
       have hl2:=hown2.len
       have Hl2:=Lib.hid hl2.1
       have sz:=hg.size
       have sz2:=hg2.size
       have ha:Below w2.heap.size w2 (w2.alloc (.cells #[.int .i64 a] 3)):=(Below.refl _ _).alloc (Nat.le_refl _) _
       have hone:Recs bJ (fun _=>True) (w2.alloc (.cells #[.int .i64 a] 3)) (.slice (some ⟨w2.heap.size,0,none⟩) 1 1) [a]:=⟨_,1,rfl,by simp,by simp [maxLen],Cs.lit _ _ _ _ _ trivial rfl⟩
       clear hstep hown
       go_wp2_with (refine aV (o:=⟨some 35,_,_,_,_,_⟩) dH jG (.int .i64 0) 8 _ _ 23 3 w.heap.size acc [a] (some ⟨w2.heap.size,0,none⟩) 1 1 (.slice A' k c') (k+1) rfl rfl Tryz.underlying23 CA rfl (by omega) rfl rfl (hown2.ext ha) hone (by rw [Hl2.out]) (by have:=Hl2.out;omega) (by have:=Hl2.out;omega) (by simp;omega) ?_;intro A9 c9 w9 hown9 hgr9 hat9 hc91 hc92)
       exact Tza0
     ·obtain rfl:k=m:=by omega
      have dk:decide ((k:Int)<(k:Int))=false:=by simp
      have hfin:bB (bA L) L p= .ok (acc,q'):=by rw [HE.out,Nat.sub_self];show Except.ok (acc++ [],q')=_;rw [List.append_nil]
      exact Tzbq
theorem rG:(Tryz.prog.info? 78).map (fun i=>(i.zero,i.size,i.bytes))=some (some (.agg #[.int .i64 0,.int .i64 0,.int .i64 0,.int .i64 0,.int .i64 0,.int .i64 0,.int .i64 0]),7,56):=by kernel_rfl
set_option maxHeartbeats 2000000 in
theorem BV (B r p:Nat) (L:List UInt8) (w:World) (h:Rdr B w r L p):
 Calls Tryz.prog 179 #[.pointer (some ⟨r,0,none⟩),.func (.func 140) #[] #[]] w fun e w' =>aW B r L w (bB (dG L) L p) (fun a w' v=>∃A c,v= .slice A a.length c∧OwnR cQ 7 w' w.heap.size 78 v a) e w' :=by
 have hlt:=h.lt
 go_enter Tryz.func179,Tryz.ntmps179
 go_wp2_with fail
 refine (cW B r p L w h).mono ?_
 intro e w1 h1
 unfold aW at h1
 cases hx:bA L p with
 |error k=>
  rw [hx] at h1
  obtain ⟨rfl,hg⟩:=h1
  have hfin:bB (dG L) L p= .error k:=by unfold bB;rw [cL hx]
  go_wp2
  refine ⟨rfl,?_⟩
  unfold aW
  rw [hfin]
  exact ⟨rfl,hg⟩
 |ok vq=>
  obtain ⟨n,q⟩:=vq
  rw [hx] at h1
  obtain ⟨⟨_,rfl,rfl⟩,hR1,hg1⟩:=h1
  have HR:=Lib.hid hR1
  obtain ⟨hB,A,c,hrow,hby,hq,hL⟩:=hR1
  have h0:w1.cell? ⟨r,0,none⟩=some (.slice A L.length c):=by rw [cell_of_row _ _ _ _ _ _ hrow];rfl
  have h1:w1.cell? ⟨r,1,none⟩=some (.int .i64 (q:Int)):=by rw [cell_of_row _ _ _ _ _ _ hrow];rfl
  clear hrow hby h
  by_cases hneg:n<0
  ·have d0:decide (n<0)=true:=by simp;omega
   have hfin:bB (dG L) L p= .error 9:=eO hx (.inl hneg)
   exact Tza4
  ·have d0:decide (n<0)=false:=by simp;omega
   by_cases hbig:(L.length:Int)-(q:Int)<n
   ·have d1:decide ((L.length:Int)-(q:Int)<n)=true:=by simp;omega
    have hfin:bB (dG L) L p= .error 9:=eO hx (.inr hbig)
    exact Tzat
   ·have d1:decide ((L.length:Int)-(q:Int)<n)=false:=by simp;omega
    obtain ⟨m,rfl⟩:∃m:Nat,n=(m:Int):=⟨n.toNat,by omega⟩
    have hstart:bB (dG L) L p=_:=fT hx hbig
    have HS:=Lib.hid hstart
    have hm:m≤1000000000:=by omega
    clear hstart
    go_wp2_with fail
    refine aP (fun _=>True) (by kernel_rfl) (by kernel_rfl) trivial ?_
    refine TkG ?_
    refine lex_e rfl ?_
    go_wp2_with fail
    refine lex_go trivial ?_
    refine TkG ?_
    refine lex_e rfl ?_
    go_wp2_with fail
    refine lex_go trivial ?_
    refine TkG ?_
    refine bG ?_
    go_wp2_with fail
    go_wp2
    go_loopw [6,28] (fun v i wr=>∃(k q' :Nat) (A' :Option Addr) (c' :Nat) (acc:List (Ev)),i= .int .i64 k∧v= .slice A' k c'∧k≤m∧OwnR cQ 7 wr w.heap.size 78 (.slice A' k c') acc∧Rdr B wr r L q'∧w.grownBy wr (some r)∧bB (dG L) L p=bnd (dD (dG L) (m-k) q') (fun l q'' => .ok (acc++l,q''))) (fun _ i _=>m-(intOf i).toNat)
    case atStart=>exact ⟨0,q,none,0,[],rfl,rfl,by omega,OwnR.nil_ _ _ _,HR.out.drew,bN hg1,HS.out⟩
    case round=>
     clear HR hg1 HS h0 h1
     obtain ⟨k,q',A',c',acc,rfl,rfl,hk,hown,hR,hg,heq⟩:=hrel
     have HE:=Lib.hid heq
     clear heq
     by_cases hlt2:k<m
     ·have dk:decide ((k:Int)<(m:Int))=true:=by simp;omega
      have dk' :decide (k<m)=true:=by simp;omega
      obtain ⟨j,hj⟩:∃j,m-k=j+1:=⟨m-k-1,by omega⟩
      go_wp2_with fail
      refine (yK B r q' L wr hR).mono ?_
      intro e w2 h2
      unfold aW at h2
      cases hy:dG L q' with
      |error x=>
       rw [hy] at h2
       obtain ⟨rfl,hg2⟩:=h2
       have hfin:bB (dG L) L p= .error x:=by rw [HE.out,hj];exact jS hy
       go_wp2
       refine ⟨rfl,?_⟩
       unfold aW
       rw [hfin]
       exact ⟨rfl,bD hg hg2⟩
      |ok aq=>
       obtain ⟨a,q2⟩:=aq
       rw [hy] at h2
       obtain ⟨⟨_,rfl,hv⟩,hR2,hg2⟩:=h2
       unfold evV at hv
       subst hv
       have hstep:bB (dG L) L p=bnd (dD (dG L) (m-(k+1)) q2) (fun l q'' => .ok ((acc++ [a])++l,q'')):=by rw [HE.out,hj,iM hy,show m-(k+1)=j by omega]
       have HST:=Lib.hid hstep
       have hown2:=hown.kept_lt hg2 hlt
       have hl2:=hown2.len
       have Hl2:=Lib.hid hl2.1
       have sz:=hg.size
       have sz2:=hg2.size
       have ha:Below w2.heap.size w2 (w2.alloc (.cells #[.int .i64 a.k0,.int .i64 a.k1,.int .i64 a.k2,.int .i64 a.k3,.int .i64 a.k4,.int .i64 a.k5,.int .i64 a.k6] 78)):=(Below.refl _ _).alloc (Nat.le_refl _) _
       have hone:Recs cQ (fun _=>True) (w2.alloc (.cells #[.int .i64 a.k0,.int .i64 a.k1,.int .i64 a.k2,.int .i64 a.k3,.int .i64 a.k4,.int .i64 a.k5,.int .i64 a.k6] 78)) (.slice (some ⟨w2.heap.size,0,none⟩) 1 1) [a]:=⟨_,1,rfl,by simp,by simp [maxLen],Cs.lit _ _ _ _ _ trivial rfl⟩
       clear hstep hown
       go_wp2_with (refine aV (o:=⟨some 35,_,_,_,_,_⟩) dS iI (.agg #[.int .i64 0,.int .i64 0,.int .i64 0,.int .i64 0,.int .i64 0,.int .i64 0,.int .i64 0]) 56 _ _ 30 78 w.heap.size acc [a] (some ⟨w2.heap.size,0,none⟩) 1 1 (.slice A' k c') (k+1) rfl rfl Tryz.underlying30 rG rfl (by omega) rfl rfl (hown2.ext ha) hone (by rw [Hl2.out]) (by have:=Hl2.out;omega) (by have:=Hl2.out;omega) (by simp;omega) ?_;intro A9 c9 w9 hown9 hgr9 hat9 hc91 hc92)
       exact Tza0
     ·obtain rfl:k=m:=by omega
      have dk:decide ((k:Int)<(k:Int))=false:=by simp
      have hfin:bB (dG L) L p= .ok (acc,q'):=by rw [HE.out,Nat.sub_self];show Except.ok (acc++ [],q')=_;rw [List.append_nil]
      exact Tzbq
theorem rE:(Tryz.prog.info? 127).map (fun i=>(i.zero,i.size,i.bytes))=some (some (.agg #[.int .i64 0,.int .i64 0,.int .i64 0,.int .i64 0]),4,32):=by kernel_rfl
set_option maxHeartbeats 2000000 in
theorem BS (B r p:Nat) (L:List UInt8) (w:World) (h:Rdr B w r L p):
 Calls Tryz.prog 180 #[.pointer (some ⟨r,0,none⟩),.func (.func 181) #[] #[]] w fun e w' =>aW B r L w (bB (eA L) L p) (fun a w' v=>∃A c,v= .slice A a.length c∧OwnR dK 4 w' w.heap.size 127 v a) e w' :=by
 have hlt:=h.lt
 go_enter Tryz.func180,Tryz.ntmps180
 go_wp2_with fail
 refine (cW B r p L w h).mono ?_
 intro e w1 h1
 unfold aW at h1
 cases hx:bA L p with
 |error k=>
  rw [hx] at h1
  obtain ⟨rfl,hg⟩:=h1
  have hfin:bB (eA L) L p= .error k:=by unfold bB;rw [cL hx]
  go_wp2
  refine ⟨rfl,?_⟩
  unfold aW
  rw [hfin]
  exact ⟨rfl,hg⟩
 |ok vq=>
  obtain ⟨n,q⟩:=vq
  rw [hx] at h1
  obtain ⟨⟨_,rfl,rfl⟩,hR1,hg1⟩:=h1
  have HR:=Lib.hid hR1
  obtain ⟨hB,A,c,hrow,hby,hq,hL⟩:=hR1
  have h0:w1.cell? ⟨r,0,none⟩=some (.slice A L.length c):=by rw [cell_of_row _ _ _ _ _ _ hrow];rfl
  have h1:w1.cell? ⟨r,1,none⟩=some (.int .i64 (q:Int)):=by rw [cell_of_row _ _ _ _ _ _ hrow];rfl
  clear hrow hby h
  by_cases hneg:n<0
  ·have d0:decide (n<0)=true:=by simp;omega
   have hfin:bB (eA L) L p= .error 9:=eO hx (.inl hneg)
   exact Tza4
  ·have d0:decide (n<0)=false:=by simp;omega
   by_cases hbig:(L.length:Int)-(q:Int)<n
   ·have d1:decide ((L.length:Int)-(q:Int)<n)=true:=by simp;omega
    have hfin:bB (eA L) L p= .error 9:=eO hx (.inr hbig)
    exact Tzat
   ·have d1:decide ((L.length:Int)-(q:Int)<n)=false:=by simp;omega
    obtain ⟨m,rfl⟩:∃m:Nat,n=(m:Int):=⟨n.toNat,by omega⟩
    have hstart:bB (eA L) L p=_:=fT hx hbig
    have HS:=Lib.hid hstart
    have hm:m≤1000000000:=by omega
    clear hstart
    go_wp2_with fail
    refine aP (fun _=>True) (by kernel_rfl) (by kernel_rfl) trivial ?_
    refine TkG ?_
    refine lex_e rfl ?_
    go_wp2_with fail
    refine lex_go trivial ?_
    refine TkG ?_
    refine lex_e rfl ?_
    go_wp2_with fail
    refine lex_go trivial ?_
    refine TkG ?_
    refine bG ?_
    go_wp2_with fail
    go_wp2
    go_loopw [6,28] (fun v i wr=>∃(k q' :Nat) (A' :Option Addr) (c' :Nat) (acc:List (Snd)),i= .int .i64 k∧v= .slice A' k c'∧k≤m∧OwnR dK 4 wr w.heap.size 127 (.slice A' k c') acc∧Rdr B wr r L q'∧w.grownBy wr (some r)∧bB (eA L) L p=bnd (dD (eA L) (m-k) q') (fun l q'' => .ok (acc++l,q''))) (fun _ i _=>m-(intOf i).toNat)
    case atStart=>exact ⟨0,q,none,0,[],rfl,rfl,by omega,OwnR.nil_ _ _ _,HR.out.drew,bN hg1,HS.out⟩
    case round=>
     clear HR hg1 HS h0 h1
     obtain ⟨k,q',A',c',acc,rfl,rfl,hk,hown,hR,hg,heq⟩:=hrel
     have HE:=Lib.hid heq
     clear heq
     by_cases hlt2:k<m
     ·have dk:decide ((k:Int)<(m:Int))=true:=by simp;omega
      have dk' :decide (k<m)=true:=by simp;omega
      obtain ⟨j,hj⟩:∃j,m-k=j+1:=⟨m-k-1,by omega⟩
      go_wp2_with fail
      refine (AI B r q' L wr hR).mono ?_
      intro e w2 h2
      unfold aW at h2
      cases hy:eA L q' with
      |error x=>
       rw [hy] at h2
       obtain ⟨rfl,hg2⟩:=h2
       have hfin:bB (eA L) L p= .error x:=by rw [HE.out,hj];exact jS hy
       go_wp2
       refine ⟨rfl,?_⟩
       unfold aW
       rw [hfin]
       exact ⟨rfl,bD hg hg2⟩
      |ok aq=>
       obtain ⟨a,q2⟩:=aq
       rw [hy] at h2
       obtain ⟨⟨_,rfl,hv⟩,hR2,hg2⟩:=h2
       unfold snV at hv
       subst hv
       have hstep:bB (eA L) L p=bnd (dD (eA L) (m-(k+1)) q2) (fun l q'' => .ok ((acc++ [a])++l,q'')):=by rw [HE.out,hj,iM hy,show m-(k+1)=j by omega]
       have HST:=Lib.hid hstep
       have hown2:=hown.kept_lt hg2 hlt
       have hl2:=hown2.len
       have Hl2:=Lib.hid hl2.1
       have sz:=hg.size
       have sz2:=hg2.size
       have ha:Below w2.heap.size w2 (w2.alloc (.cells #[.int .i64 a.a,.int .i64 a.b,.int .i64 a.c,.int .i64 a.d] 127)):=(Below.refl _ _).alloc (Nat.le_refl _) _
       have hone:Recs dK (fun _=>True) (w2.alloc (.cells #[.int .i64 a.a,.int .i64 a.b,.int .i64 a.c,.int .i64 a.d] 127)) (.slice (some ⟨w2.heap.size,0,none⟩) 1 1) [a]:=⟨_,1,rfl,by simp,by simp [maxLen],Cs.lit _ _ _ _ _ trivial rfl⟩
       clear hstep hown
       go_wp2_with (refine aV (o:=⟨some 35,_,_,_,_,_⟩) eF jW (.agg #[.int .i64 0,.int .i64 0,.int .i64 0,.int .i64 0]) 32 _ _ 48 127 w.heap.size acc [a] (some ⟨w2.heap.size,0,none⟩) 1 1 (.slice A' k c') (k+1) rfl rfl Tryz.underlying48 rE rfl (by omega) rfl rfl (hown2.ext ha) hone (by rw [Hl2.out]) (by have:=Hl2.out;omega) (by have:=Hl2.out;omega) (by simp;omega) ?_;intro A9 c9 w9 hown9 hgr9 hat9 hc91 hc92)
       exact Tza0
     ·obtain rfl:k=m:=by omega
      have dk:decide ((k:Int)<(k:Int))=false:=by simp
      have hfin:bB (eA L) L p= .ok (acc,q'):=by rw [HE.out,Nat.sub_self];show Except.ok (acc++ [],q')=_;rw [List.append_nil]
      exact Tzbq
theorem rF:(Tryz.prog.info? 129).map (fun i=>(i.zero,i.size,i.bytes))=some (some (.agg #[.int .i64 0,.int .i64 0]),2,16):=by kernel_rfl
set_option maxHeartbeats 2000000 in
theorem BU (B r p:Nat) (L:List UInt8) (w:World) (h:Rdr B w r L p):
 Calls Tryz.prog 182 #[.pointer (some ⟨r,0,none⟩),.func (.func 183) #[] #[]] w fun e w' =>aW B r L w (bB (eM L) L p) (fun a w' v=>∃A c,v= .slice A a.length c∧OwnR dM 2 w' w.heap.size 129 v a) e w' :=by
 have hlt:=h.lt
 go_enter Tryz.func182,Tryz.ntmps182
 go_wp2_with fail
 refine (cW B r p L w h).mono ?_
 intro e w1 h1
 unfold aW at h1
 cases hx:bA L p with
 |error k=>
  rw [hx] at h1
  obtain ⟨rfl,hg⟩:=h1
  have hfin:bB (eM L) L p= .error k:=by unfold bB;rw [cL hx]
  go_wp2
  refine ⟨rfl,?_⟩
  unfold aW
  rw [hfin]
  exact ⟨rfl,hg⟩
 |ok vq=>
  obtain ⟨n,q⟩:=vq
  rw [hx] at h1
  obtain ⟨⟨_,rfl,rfl⟩,hR1,hg1⟩:=h1
  have HR:=Lib.hid hR1
  obtain ⟨hB,A,c,hrow,hby,hq,hL⟩:=hR1
  have h0:w1.cell? ⟨r,0,none⟩=some (.slice A L.length c):=by rw [cell_of_row _ _ _ _ _ _ hrow];rfl
  have h1:w1.cell? ⟨r,1,none⟩=some (.int .i64 (q:Int)):=by rw [cell_of_row _ _ _ _ _ _ hrow];rfl
  clear hrow hby h
  by_cases hneg:n<0
  ·have d0:decide (n<0)=true:=by simp;omega
   have hfin:bB (eM L) L p= .error 9:=eO hx (.inl hneg)
   exact Tza4
  ·have d0:decide (n<0)=false:=by simp;omega
   by_cases hbig:(L.length:Int)-(q:Int)<n
   ·have d1:decide ((L.length:Int)-(q:Int)<n)=true:=by simp;omega
    have hfin:bB (eM L) L p= .error 9:=eO hx (.inr hbig)
    exact Tzat
   ·have d1:decide ((L.length:Int)-(q:Int)<n)=false:=by simp;omega
    obtain ⟨m,rfl⟩:∃m:Nat,n=(m:Int):=⟨n.toNat,by omega⟩
    have hstart:bB (eM L) L p=_:=fT hx hbig
    have HS:=Lib.hid hstart
    have hm:m≤1000000000:=by omega
    clear hstart
    go_wp2_with fail
    refine aP (fun _=>True) (by kernel_rfl) (by kernel_rfl) trivial ?_
    refine TkG ?_
    refine lex_e rfl ?_
    go_wp2_with fail
    refine lex_go trivial ?_
    refine TkG ?_
    refine lex_e rfl ?_
    go_wp2_with fail
    refine lex_go trivial ?_
    refine TkG ?_
    refine bG ?_
    go_wp2_with fail
    go_wp2
    go_loopw [6,28] (fun v i wr=>∃(k q' :Nat) (A' :Option Addr) (c' :Nat) (acc:List (Ou)),i= .int .i64 k∧v= .slice A' k c'∧k≤m∧OwnR dM 2 wr w.heap.size 129 (.slice A' k c') acc∧Rdr B wr r L q'∧w.grownBy wr (some r)∧bB (eM L) L p=bnd (dD (eM L) (m-k) q') (fun l q'' => .ok (acc++l,q''))) (fun _ i _=>m-(intOf i).toNat)
    case atStart=>exact ⟨0,q,none,0,[],rfl,rfl,by omega,OwnR.nil_ _ _ _,HR.out.drew,bN hg1,HS.out⟩
    case round=>
     clear HR hg1 HS h0 h1
     obtain ⟨k,q',A',c',acc,rfl,rfl,hk,hown,hR,hg,heq⟩:=hrel
     have HE:=Lib.hid heq
     clear heq
     by_cases hlt2:k<m
     ·have dk:decide ((k:Int)<(m:Int))=true:=by simp;omega
      have dk' :decide (k<m)=true:=by simp;omega
      obtain ⟨j,hj⟩:∃j,m-k=j+1:=⟨m-k-1,by omega⟩
      go_wp2_with fail
      refine (DT B r q' L wr hR).mono ?_
      intro e w2 h2
      unfold aW at h2
      cases hy:eM L q' with
      |error x=>
       rw [hy] at h2
       obtain ⟨rfl,hg2⟩:=h2
       have hfin:bB (eM L) L p= .error x:=by rw [HE.out,hj];exact jS hy
       go_wp2
       refine ⟨rfl,?_⟩
       unfold aW
       rw [hfin]
       exact ⟨rfl,bD hg hg2⟩
      |ok aq=>
       obtain ⟨a,q2⟩:=aq
       rw [hy] at h2
       obtain ⟨⟨_,rfl,hv⟩,hR2,hg2⟩:=h2
       unfold ouV at hv
       subst hv
       have hstep:bB (eM L) L p=bnd (dD (eM L) (m-(k+1)) q2) (fun l q'' => .ok ((acc++ [a])++l,q'')):=by rw [HE.out,hj,iM hy,show m-(k+1)=j by omega]
       have HST:=Lib.hid hstep
       have hown2:=hown.kept_lt hg2 hlt
       have hl2:=hown2.len
       have Hl2:=Lib.hid hl2.1
       have sz:=hg.size
       have sz2:=hg2.size
       have ha:Below w2.heap.size w2 (w2.alloc (.cells #[.int .i64 a.a,.int .i64 a.b] 129)):=(Below.refl _ _).alloc (Nat.le_refl _) _
       have hone:Recs dM (fun _=>True) (w2.alloc (.cells #[.int .i64 a.a,.int .i64 a.b] 129)) (.slice (some ⟨w2.heap.size,0,none⟩) 1 1) [a]:=⟨_,1,rfl,by simp,by simp [maxLen],Cs.lit _ _ _ _ _ trivial rfl⟩
       clear hstep hown
       go_wp2_with (refine aV (o:=⟨some 35,_,_,_,_,_⟩) eG jX (.agg #[.int .i64 0,.int .i64 0]) 16 _ _ 49 129 w.heap.size acc [a] (some ⟨w2.heap.size,0,none⟩) 1 1 (.slice A' k c') (k+1) rfl rfl Tryz.underlying49 rF rfl (by omega) rfl rfl (hown2.ext ha) hone (by rw [Hl2.out]) (by have:=Hl2.out;omega) (by have:=Hl2.out;omega) (by simp;omega) ?_;intro A9 c9 w9 hown9 hgr9 hat9 hc91 hc92)
       exact Tza0
     ·obtain rfl:k=m:=by omega
      have dk:decide ((k:Int)<(k:Int))=false:=by simp
      have hfin:bB (eM L) L p= .ok (acc,q'):=by rw [HE.out,Nat.sub_self];show Except.ok (acc++ [],q')=_;rw [List.append_nil]
      exact Tzbq
end Go.Proofs.YtiblijmngokcgaaGreatDoor
namespace Go.Proofs.YtiblijmngokcgaaGreatDoor
open Go.RowKit
set_option maxRecDepth 100000
set_option linter.unusedVariables false
set_option maxHeartbeats 2000000 in
theorem AJ (B r p:Nat) (L:List UInt8) (w:World) (h:Rdr B w r L p):
 Calls Tryz.prog 176 #[.pointer (some ⟨r,0,none⟩)] w fun e w' =>aW B r L w (eR L p) (fun a w' v=>∃A c,v= .agg #[.int .i64 a.num,.slice A a.cells.length c]∧OwnR bJ 1 w' w.heap.size 3 (.slice A a.cells.length c) a.cells) e w' :=by
 have hlt:=h.lt
 obtain ⟨W0,hW,hI0⟩:=RB.new (T:=163) (c2:= #[Value.int .i64 0,Value.slice none 0 0]) (c3:= #[Value.int .i64 0,Value.slice none 0 0]) h
 go_enter Tryz.func176,Tryz.ntmps176
 go_wp2_with fail
 rw [←hW]
 clear hW
 refine (cW B r p L W0 hI0.rd).mono ?_
 intro e w1 h1
 unfold aW at h1
 cases hx1:bA L p with
 |error k=>
  rw [hx1] at h1
  obtain ⟨rfl,hg⟩:=h1
  have hgr:=bD hI0.gr hg
  have hfin:eR L p= .error k:=by unfold eR;rw [cL hx1]
  clear hI0
  go_wp2
  refine ⟨rfl,?_⟩
  unfold aW
  rw [hfin]
  exact ⟨rfl,hgr⟩
 |ok vq=>
  obtain ⟨v1,q1⟩:=vq
  rw [hx1] at h1
  obtain ⟨⟨_,rfl,rfl⟩,hR,hg⟩:=h1
  have hs1:=hI0.sz
  have hJ:=hI0.call hR hg
  have hc:=hJ.cell 0 (v:= .int .i64 0) rfl
  have hf:=hJ.frz 0
  have hgS:w1.grownBy (w1.setCell ⟨w.heap.size+1,0,none⟩ (.int .i64 v1)) (some (w.heap.size+1)):=aO ⟨rfl,rfl,rfl,Nat.le_refl _,fun _ _ _=>rfl⟩
  have hI1:RB B r L 163 #[Value.int .i64 0,Value.slice none 0 0] w (w1.setCell ⟨w.heap.size+1,0,none⟩ (.int .i64 v1)) q1 #[Value.int .i64 v1,Value.slice none 0 0]:=hJ.set 0 (.int .i64 v1)
  clear hJ hI0 hg hR hgS
  go_wp2_with fail
  clear hc hf
  generalize w1.setCell ⟨w.heap.size+1,0,none⟩ (.int .i64 v1)=W1 at*
  refine (sZ B r q1 L W1 hI1.rd).mono ?_
  intro e w2 h2
  unfold aW at h2
  cases hx2:bB (bA L) L q1 with
  |error k=>
   rw [hx2] at h2
   obtain ⟨rfl,hg⟩:=h2
   have hgr:=bD hI1.gr hg
   have hfin:eR L p= .error k:=by unfold eR;rw [aR hx1,cL hx2]
   clear hI1
   go_wp2
   refine ⟨rfl,?_⟩
   unfold aW
   rw [hfin]
   exact ⟨rfl,hgr⟩
  |ok vq=>
   obtain ⟨v2,q2⟩:=vq
   rw [hx2] at h2
   obtain ⟨⟨_,rfl,A2,c2,rfl,hO2⟩,hR,hg⟩:=h2
   have hs2:=hI1.sz
   have hO2:OwnR bJ 1 w2 (w.heap.size+2) 3 (.slice A2 v2.length c2) v2:=hO2.weak (by omega)
   have hJ:=hI1.call hR hg
   have hc:=hJ.cell 1 (v:= .slice none 0 0) rfl
   have hf:=hJ.frz 1
   have hgS:w2.grownBy (w2.setCell ⟨w.heap.size+1,1,none⟩ (.slice A2 v2.length c2)) (some (w.heap.size+1)):=aO ⟨rfl,rfl,rfl,Nat.le_refl _,fun _ _ _=>rfl⟩
   have hO2:=hO2.kept_lt hgS (by omega)
   have hI2:RB B r L 163 #[Value.int .i64 0,Value.slice none 0 0] w (w2.setCell ⟨w.heap.size+1,1,none⟩ (.slice A2 v2.length c2)) q2 #[Value.int .i64 v1,Value.slice A2 v2.length c2]:=hJ.set 1 (.slice A2 v2.length c2)
   clear hJ hI1 hg hR hgS
   have hfin:eR L p= .ok (⟨v1,v2⟩,q2):=by unfold eR;rw [aR hx1,aR hx2]
   have hgR:(w2.setCell ⟨w.heap.size+1,1,none⟩ (.slice A2 v2.length c2)).grownBy ((w2.setCell ⟨w.heap.size+1,1,none⟩ (.slice A2 v2.length c2)).setRow w.heap.size #[Value.int .i64 v1,Value.slice A2 v2.length c2]) (some w.heap.size):=aJ _ _ _
   have hO2:=hO2.kept_lt hgR (by omega)
   have k0:(w2.setCell ⟨w.heap.size+1,1,none⟩ (.slice A2 v2.length c2)).cell? ⟨w.heap.size+1,0,none⟩=some (Value.int .i64 v1):=hI2.cell 0 rfl
   have k1:(w2.setCell ⟨w.heap.size+1,1,none⟩ (.slice A2 v2.length c2)).cell? ⟨w.heap.size+1,1,none⟩=some (Value.slice A2 v2.length c2):=hI2.cell 1 rfl
   have H2:=Lib.hid hI2.b2
   have HI:=Lib.hid hI2
   clear hI2 hgR
   go_wp2_with (refine aC rfl 163 _ _ rfl w.heap.size 163 _ _ rfl rfl H2.out (by kernel_rfl) rfl (by simp [Value.oneCell']) ?_)
   refine bodyPost_ret (bH rfl rfl (aB (setRow_heap _ _ _ _ _ _ H2.out) Tryz.underlying163 rfl (by kernel_rfl))) rfl ?_
   unfold aW
   rw [hfin]
   exact ⟨⟨_,rfl,A2,c2,rfl,hO2.weak (by omega)⟩,HI.out.end_ _⟩
def StO (w:World) (base:Nat) (v:Value) (s:Stt):Prop:=∃A1 c1 A2 c2 A3 c3 A4 c4,v= .agg #[.slice A1 s.cells.length c1,.slice A2 s.evs.length c2,.slice A3 s.sent.length c3,.slice A4 s.outs.length c4]∧OwnR bJ 1 w base 3 (.slice A1 s.cells.length c1) s.cells∧OwnR cQ 7 w base 78 (.slice A2 s.evs.length c2) s.evs∧OwnR dK 4 w base 127 (.slice A3 s.sent.length c3) s.sent∧OwnR dM 2 w base 129 (.slice A4 s.outs.length c4) s.outs
set_option maxHeartbeats 2000000 in
theorem yI (B r p:Nat) (L:List UInt8) (w:World) (h:Rdr B w r L p):
 Calls Tryz.prog 151 #[.pointer (some ⟨r,0,none⟩)] w fun e w' =>aW B r L w (eH L p) (fun a w' v=>StO w' w.heap.size v a) e w' :=by
 have hlt:=h.lt
 obtain ⟨W0,hW,hI0⟩:=RB.new (T:=51) (c2:= #[Value.slice none 0 0,Value.slice none 0 0,Value.slice none 0 0,Value.slice none 0 0]) (c3:= #[Value.slice none 0 0,Value.slice none 0 0,Value.slice none 0 0,Value.slice none 0 0]) h
 go_enter Tryz.func151,Tryz.ntmps151
 go_wp2_with fail
 rw [←hW]
 clear hW
 refine (sZ B r p L W0 hI0.rd).mono ?_
 intro e w1 h1
 unfold aW at h1
 cases hx1:bB (bA L) L p with
 |error k=>
  rw [hx1] at h1
  obtain ⟨rfl,hg⟩:=h1
  have hgr:=bD hI0.gr hg
  have hfin:eH L p= .error k:=by unfold eH;rw [cL hx1]
  clear hI0
  go_wp2
  refine ⟨rfl,?_⟩
  unfold aW
  rw [hfin]
  exact ⟨rfl,hgr⟩
 |ok vq=>
  obtain ⟨v1,q1⟩:=vq
  rw [hx1] at h1
  obtain ⟨⟨_,rfl,A1,c1,rfl,hO1⟩,hR,hg⟩:=h1
  have hs1:=hI0.sz
  have hO1:OwnR bJ 1 w1 (w.heap.size+2) 3 (.slice A1 v1.length c1) v1:=hO1.weak (by omega)
  have hJ:=hI0.call hR hg
  have hc:=hJ.cell 0 (v:= .slice none 0 0) rfl
  have hf:=hJ.frz 0
  have hgS:w1.grownBy (w1.setCell ⟨w.heap.size+1,0,none⟩ (.slice A1 v1.length c1)) (some (w.heap.size+1)):=aO ⟨rfl,rfl,rfl,Nat.le_refl _,fun _ _ _=>rfl⟩
  have hO1:=hO1.kept_lt hgS (by omega)
  have hI1:RB B r L 51 #[Value.slice none 0 0,Value.slice none 0 0,Value.slice none 0 0,Value.slice none 0 0] w (w1.setCell ⟨w.heap.size+1,0,none⟩ (.slice A1 v1.length c1)) q1 #[Value.slice A1 v1.length c1,Value.slice none 0 0,Value.slice none 0 0,Value.slice none 0 0]:=hJ.set 0 (.slice A1 v1.length c1)
  clear hJ hI0 hg hR hgS
  go_wp2_with fail
  clear hc hf
  generalize w1.setCell ⟨w.heap.size+1,0,none⟩ (.slice A1 v1.length c1)=W1 at*
  refine (BV B r q1 L W1 hI1.rd).mono ?_
  intro e w2 h2
  unfold aW at h2
  cases hx2:bB (dG L) L q1 with
  |error k=>
   rw [hx2] at h2
   obtain ⟨rfl,hg⟩:=h2
   have hgr:=bD hI1.gr hg
   have hfin:eH L p= .error k:=by unfold eH;rw [aR hx1,cL hx2]
   clear hI1
   go_wp2
   refine ⟨rfl,?_⟩
   unfold aW
   rw [hfin]
   exact ⟨rfl,hgr⟩
  |ok vq=>
   obtain ⟨v2,q2⟩:=vq
   rw [hx2] at h2
   obtain ⟨⟨_,rfl,A2,c2,rfl,hO2⟩,hR,hg⟩:=h2
   have hs2:=hI1.sz
   have hO1:=hO1.kept_lt hg (by omega)
   have hO2:OwnR cQ 7 w2 (w.heap.size+2) 78 (.slice A2 v2.length c2) v2:=hO2.weak (by omega)
   have hJ:=hI1.call hR hg
   have hc:=hJ.cell 1 (v:= .slice none 0 0) rfl
   have hf:=hJ.frz 1
   have hgS:w2.grownBy (w2.setCell ⟨w.heap.size+1,1,none⟩ (.slice A2 v2.length c2)) (some (w.heap.size+1)):=aO ⟨rfl,rfl,rfl,Nat.le_refl _,fun _ _ _=>rfl⟩
   have hO1:=hO1.kept_lt hgS (by omega)
   have hO2:=hO2.kept_lt hgS (by omega)
   have hI2:RB B r L 51 #[Value.slice none 0 0,Value.slice none 0 0,Value.slice none 0 0,Value.slice none 0 0] w (w2.setCell ⟨w.heap.size+1,1,none⟩ (.slice A2 v2.length c2)) q2 #[Value.slice A1 v1.length c1,Value.slice A2 v2.length c2,Value.slice none 0 0,Value.slice none 0 0]:=hJ.set 1 (.slice A2 v2.length c2)
   clear hJ hI1 hg hR hgS
   go_wp2_with fail
   clear hc hf
   generalize w2.setCell ⟨w.heap.size+1,1,none⟩ (.slice A2 v2.length c2)=W2 at*
   refine (BS B r q2 L W2 hI2.rd).mono ?_
   intro e w3 h3
   unfold aW at h3
   cases hx3:bB (eA L) L q2 with
   |error k=>
    rw [hx3] at h3
    obtain ⟨rfl,hg⟩:=h3
    have hgr:=bD hI2.gr hg
    have hfin:eH L p= .error k:=by unfold eH;rw [aR hx1,aR hx2,cL hx3]
    clear hI2
    go_wp2
    refine ⟨rfl,?_⟩
    unfold aW
    rw [hfin]
    exact ⟨rfl,hgr⟩
   |ok vq=>
    obtain ⟨v3,q3⟩:=vq
    rw [hx3] at h3
    obtain ⟨⟨_,rfl,A3,c3,rfl,hO3⟩,hR,hg⟩:=h3
    have hs3:=hI2.sz
    have hO1:=hO1.kept_lt hg (by omega)
    have hO2:=hO2.kept_lt hg (by omega)
    have hO3:OwnR dK 4 w3 (w.heap.size+2) 127 (.slice A3 v3.length c3) v3:=hO3.weak (by omega)
    have hJ:=hI2.call hR hg
    have hc:=hJ.cell 2 (v:= .slice none 0 0) rfl
    have hf:=hJ.frz 2
    have hgS:w3.grownBy (w3.setCell ⟨w.heap.size+1,2,none⟩ (.slice A3 v3.length c3)) (some (w.heap.size+1)):=aO ⟨rfl,rfl,rfl,Nat.le_refl _,fun _ _ _=>rfl⟩
    have hO1:=hO1.kept_lt hgS (by omega)
    have hO2:=hO2.kept_lt hgS (by omega)
    have hO3:=hO3.kept_lt hgS (by omega)
    have hI3:RB B r L 51 #[Value.slice none 0 0,Value.slice none 0 0,Value.slice none 0 0,Value.slice none 0 0] w (w3.setCell ⟨w.heap.size+1,2,none⟩ (.slice A3 v3.length c3)) q3 #[Value.slice A1 v1.length c1,Value.slice A2 v2.length c2,Value.slice A3 v3.length c3,Value.slice none 0 0]:=hJ.set 2 (.slice A3 v3.length c3)
    clear hJ hI2 hg hR hgS
    go_wp2_with fail
    clear hc hf
    generalize w3.setCell ⟨w.heap.size+1,2,none⟩ (.slice A3 v3.length c3)=W3 at*
    refine (BU B r q3 L W3 hI3.rd).mono ?_
    intro e w4 h4
    unfold aW at h4
    cases hx4:bB (eM L) L q3 with
    |error k=>
     rw [hx4] at h4
     obtain ⟨rfl,hg⟩:=h4
     have hgr:=bD hI3.gr hg
     have hfin:eH L p= .error k:=by unfold eH;rw [aR hx1,aR hx2,aR hx3,cL hx4]
     clear hI3
     go_wp2
     refine ⟨rfl,?_⟩
     unfold aW
     rw [hfin]
     exact ⟨rfl,hgr⟩
    |ok vq=>
     obtain ⟨v4,q4⟩:=vq
     rw [hx4] at h4
     obtain ⟨⟨_,rfl,A4,c4,rfl,hO4⟩,hR,hg⟩:=h4
     have hs4:=hI3.sz
     have hO1:=hO1.kept_lt hg (by omega)
     have hO2:=hO2.kept_lt hg (by omega)
     have hO3:=hO3.kept_lt hg (by omega)
     have hO4:OwnR dM 2 w4 (w.heap.size+2) 129 (.slice A4 v4.length c4) v4:=hO4.weak (by omega)
     have hJ:=hI3.call hR hg
     have hc:=hJ.cell 3 (v:= .slice none 0 0) rfl
     have hf:=hJ.frz 3
     have hgS:w4.grownBy (w4.setCell ⟨w.heap.size+1,3,none⟩ (.slice A4 v4.length c4)) (some (w.heap.size+1)):=aO ⟨rfl,rfl,rfl,Nat.le_refl _,fun _ _ _=>rfl⟩
     have hO1:=hO1.kept_lt hgS (by omega)
     have hO2:=hO2.kept_lt hgS (by omega)
     have hO3:=hO3.kept_lt hgS (by omega)
     have hO4:=hO4.kept_lt hgS (by omega)
     have hI4:RB B r L 51 #[Value.slice none 0 0,Value.slice none 0 0,Value.slice none 0 0,Value.slice none 0 0] w (w4.setCell ⟨w.heap.size+1,3,none⟩ (.slice A4 v4.length c4)) q4 #[Value.slice A1 v1.length c1,Value.slice A2 v2.length c2,Value.slice A3 v3.length c3,Value.slice A4 v4.length c4]:=hJ.set 3 (.slice A4 v4.length c4)
     clear hJ hI3 hg hR hgS
     have hfin:eH L p= .ok (⟨v1,v2,v3,v4⟩,q4):=by unfold eH;rw [aR hx1,aR hx2,aR hx3,aR hx4]
     have hgR:(w4.setCell ⟨w.heap.size+1,3,none⟩ (.slice A4 v4.length c4)).grownBy ((w4.setCell ⟨w.heap.size+1,3,none⟩ (.slice A4 v4.length c4)).setRow w.heap.size #[Value.slice A1 v1.length c1,Value.slice A2 v2.length c2,Value.slice A3 v3.length c3,Value.slice A4 v4.length c4]) (some w.heap.size):=aJ _ _ _
     have hO1:=hO1.kept_lt hgR (by omega)
     have hO2:=hO2.kept_lt hgR (by omega)
     have hO3:=hO3.kept_lt hgR (by omega)
     have hO4:=hO4.kept_lt hgR (by omega)
     have k0:(w4.setCell ⟨w.heap.size+1,3,none⟩ (.slice A4 v4.length c4)).cell? ⟨w.heap.size+1,0,none⟩=some (Value.slice A1 v1.length c1):=hI4.cell 0 rfl
     have k1:(w4.setCell ⟨w.heap.size+1,3,none⟩ (.slice A4 v4.length c4)).cell? ⟨w.heap.size+1,1,none⟩=some (Value.slice A2 v2.length c2):=hI4.cell 1 rfl
     have k2:(w4.setCell ⟨w.heap.size+1,3,none⟩ (.slice A4 v4.length c4)).cell? ⟨w.heap.size+1,2,none⟩=some (Value.slice A3 v3.length c3):=hI4.cell 2 rfl
     have k3:(w4.setCell ⟨w.heap.size+1,3,none⟩ (.slice A4 v4.length c4)).cell? ⟨w.heap.size+1,3,none⟩=some (Value.slice A4 v4.length c4):=hI4.cell 3 rfl
     have H2:=Lib.hid hI4.b2
     have HI:=Lib.hid hI4
     clear hI4 hgR
     go_wp2_with (refine aC rfl 51 _ _ rfl w.heap.size 51 _ _ rfl rfl H2.out (by kernel_rfl) rfl (by simp [Value.oneCell']) ?_)
     refine bodyPost_ret (bH rfl rfl (aB (setRow_heap _ _ _ _ _ _ H2.out) Tryz.underlying51 rfl (by kernel_rfl))) rfl ?_
     unfold aW
     rw [hfin]
     exact ⟨⟨_,rfl,A1,c1,A2,c2,A3,c3,A4,c4,rfl,hO1.weak (by omega),hO2.weak (by omega),hO3.weak (by omega),hO4.weak (by omega)⟩,HI.out.end_ _⟩
end Go.Proofs.YtiblijmngokcgaaGreatDoor
namespace Go.Proofs.YtiblijmngokcgaaGreatDoor
open Go.RowKit
set_option maxRecDepth 100000
set_option linter.unusedVariables false
theorem oK (x:PgV):∀u∈gZ x,u.oneCell' =true:=by
 intro u hu
 simp [gZ] at hu
 rcases hu with rfl|rfl<;>rfl
def PgsOwn (base:Nat) (w:World) (v:Value) (ts:List Pg):Prop:=∃xs,OwnR gZ 2 w base 163 v xs∧xs.length=ts.length∧∀(i:Nat) (x:PgV) (t:Pg),xs[i]? =some x→ts[i]? =some t→x.num=t.num∧Recs bJ (fun b=>base≤b∧v.ownBlock≠some b) w (.slice x.A x.n x.c) t.cells
theorem PgsOwn.nil_ (base:Nat) (w:World):PgsOwn base w (.slice none 0 0) []:=⟨[],OwnR.nil_ _ _ _,rfl,fun i x t hx=>by simp at hx⟩
theorem PgsOwn.pgs {base:Nat} {w:World} {v:Value} {ts:List Pg} (h:PgsOwn base w v ts):Pgs (base≤·) w v ts:=by
 obtain ⟨xs,h1,h2,h3⟩:=h
 exact ⟨xs,h1.recs.mono (fun _ _ h=>h.1),h2,fun i x t hx ht=>⟨(h3 i x t hx ht).1,(h3 i x t hx ht).2.mono (fun _ _ h=>h.1)⟩⟩
theorem PgsOwn.len {base:Nat} {w:World} {A:Option Addr} {n c:Nat} {ts:List Pg} (h:PgsOwn base w (.slice A n c) ts):ts.length=n∧n≤c∧c≤9223372036854775807:=h.pgs.len
theorem PgsOwn.kept {base g:Nat} {w w' :World} {v:Value} {ts:List Pg} (h:PgsOwn base w v ts) (hg:w.grownBy w' (some g)) (hlt:g<base):PgsOwn base w' v ts:=by
 obtain ⟨xs,h1,h2,h3⟩:=h
 refine ⟨xs,h1.kept hg ?_,h2,fun i x t hx ht=>⟨(h3 i x t hx ht).1,(h3 i x t hx ht).2.keep (fun b hb hs=>hg.block b hb (fun e=>by cases e;omega))⟩⟩
 exact Tzc5
theorem rP {base:Nat} {w w' :World} {v v' :Value} {u:Value} {l:List Int} (h:Recs bJ (fun b=>base≤b∧v.ownBlock≠some b) w u l) (hg:w.grownBy w' v.ownBlock) (hat:v'.ownBlock=v.ownBlock∨v'.ownBlock=some w.heap.size):
 Recs bJ (fun b=>base≤b∧v'.ownBlock≠some b) w' u l:=by
 have h1:Recs bJ (fun b=>base≤b∧v.ownBlock≠some b∧b<w.heap.size) w u l:=h.mono (fun b hb hs=>⟨hs.1,hs.2,hb⟩)
 exact Tzcs
theorem PgsOwn.push {base:Nat} {w w' :World} {v v' :Value} {ts:List Pg} {xs:List PgV} (hx:xs.length=ts.length∧∀(i:Nat) (x:PgV) (t:Pg),xs[i]? =some x→ts[i]? =some t→x.num=t.num∧Recs bJ (fun b=>base≤b∧v.ownBlock≠some b) w (.slice x.A x.n x.c) t.cells)
 (x:PgV) (t:Pg) (h1:x.num=t.num) (h2:Recs bJ (fun b=>base≤b∧v.ownBlock≠some b) w (.slice x.A x.n x.c) t.cells) (hown:OwnR gZ 2 w' base 163 v' (xs++ [x])) (hg:w.grownBy w' v.ownBlock) (hat:v'.ownBlock=v.ownBlock∨v'.ownBlock=some w.heap.size):PgsOwn base w' v' (ts++ [t]):=by
 refine ⟨_,hown,by simp [hx.1],fun i x' t' hx' ht' => ?_⟩
 rcases Nat.lt_or_ge i xs.length with hi|hi
 ·rw [List.getElem?_append_left hi] at hx'
  rw [List.getElem?_append_left (by omega)] at ht'
  obtain ⟨g1,g2⟩:=hx.2 i x' t' hx' ht'
  exact ⟨g1,rP g2 hg hat⟩
 ·rw [List.getElem?_append_right hi] at hx'
  rw [List.getElem?_append_right (by omega)] at ht'
  have hi' :i-xs.length=0:=by
   exact Tzdc
  rw [hi'] at hx'
  rw [←hx.1,hi'] at ht'
  cases hx'
  cases ht'
  exact ⟨h1,rP h2 hg hat⟩
theorem vC:(Tryz.prog.info? 163).map (fun i=>(i.zero,i.size,i.bytes))=some (some (.agg #[.int .i64 0,.slice none 0 0]),2,32):=by kernel_rfl
set_option maxHeartbeats 2000000 in
theorem BT (B r p:Nat) (L:List UInt8) (w:World) (h:Rdr B w r L p):
 Calls Tryz.prog 175 #[.pointer (some ⟨r,0,none⟩),.func (.func 176) #[] #[]] w fun e w' =>aW B r L w (bB (eR L) L p) (fun a w' v=>∃A c,v= .slice A a.length c∧PgsOwn w.heap.size w' v a) e w' :=by
 have hlt:=h.lt
 go_enter Tryz.func175,Tryz.ntmps175
 go_wp2_with fail
 refine (cW B r p L w h).mono ?_
 intro e w1 h1
 unfold aW at h1
 cases hx:bA L p with
 |error k=>
  rw [hx] at h1
  obtain ⟨rfl,hg⟩:=h1
  have hfin:bB (eR L) L p= .error k:=by unfold bB;rw [cL hx]
  go_wp2
  refine ⟨rfl,?_⟩
  unfold aW
  rw [hfin]
  exact ⟨rfl,hg⟩
 |ok vq=>
  obtain ⟨n,q⟩:=vq
  rw [hx] at h1
  obtain ⟨⟨_,rfl,rfl⟩,hR1,hg1⟩:=h1
  have HR:=Lib.hid hR1
  obtain ⟨hB,A,c,hrow,hby,hq,hL⟩:=hR1
  have h0:w1.cell? ⟨r,0,none⟩=some (.slice A L.length c):=by rw [cell_of_row _ _ _ _ _ _ hrow];rfl
  have h1:w1.cell? ⟨r,1,none⟩=some (.int .i64 (q:Int)):=by rw [cell_of_row _ _ _ _ _ _ hrow];rfl
  clear hrow hby h
  by_cases hneg:n<0
  ·have d0:decide (n<0)=true:=by simp;omega
   have hfin:bB (eR L) L p= .error 9:=eO hx (.inl hneg)
   exact Tza4
  ·have d0:decide (n<0)=false:=by simp;omega
   by_cases hbig:(L.length:Int)-(q:Int)<n
   ·have d1:decide ((L.length:Int)-(q:Int)<n)=true:=by simp;omega
    have hfin:bB (eR L) L p= .error 9:=eO hx (.inr hbig)
    exact Tzat
   ·have d1:decide ((L.length:Int)-(q:Int)<n)=false:=by simp;omega
    obtain ⟨m,rfl⟩:∃m:Nat,n=(m:Int):=⟨n.toNat,by omega⟩
    have hstart:bB (eR L) L p=_:=fT hx hbig
    have HS:=Lib.hid hstart
    have hm:m≤1000000000:=by omega
    clear hstart
    go_wp2_with fail
    refine aP (fun _=>True) (by kernel_rfl) (by kernel_rfl) trivial ?_
    refine TkG ?_
    refine lex_e rfl ?_
    go_wp2_with fail
    refine lex_go trivial ?_
    refine TkG ?_
    refine lex_e rfl ?_
    go_wp2_with fail
    refine lex_go trivial ?_
    refine TkG ?_
    refine bG ?_
    go_wp2_with fail
    go_wp2
    go_loopw [6,28] (fun v i wr=>∃(k q' :Nat) (A' :Option Addr) (c' :Nat) (acc:List (Pg)),i= .int .i64 k∧v= .slice A' k c'∧k≤m∧PgsOwn w.heap.size wr (.slice A' k c') acc∧Rdr B wr r L q'∧w.grownBy wr (some r)∧bB (eR L) L p=bnd (dD (eR L) (m-k) q') (fun l q'' => .ok (acc++l,q''))) (fun _ i _=>m-(intOf i).toNat)
    case atStart=>exact ⟨0,q,none,0,[],rfl,rfl,by omega,PgsOwn.nil_ _ _,HR.out.drew,bN hg1,HS.out⟩
    case round=>
     clear HR hg1 HS h0 h1
     obtain ⟨k,q',A',c',acc,rfl,rfl,hk,hown,hR,hg,heq⟩:=hrel
     have HE:=Lib.hid heq
     have HOW:RowKit.Hid (∃xs,OwnR gZ 2 wr w.heap.size 163 (.slice A' k c') xs):=Lib.hid (by obtain ⟨xs,hxo,_⟩:=hown;exact ⟨xs,hxo⟩)
     clear heq
     by_cases hlt2:k<m
     ·have dk:decide ((k:Int)<(m:Int))=true:=by simp;omega
      have dk' :decide (k<m)=true:=by simp;omega
      obtain ⟨j,hj⟩:∃j,m-k=j+1:=⟨m-k-1,by omega⟩
      go_wp2_with fail
      refine (AJ B r q' L wr hR).mono ?_
      intro e w2 h2
      unfold aW at h2
      cases hy:eR L q' with
      |error x=>
       rw [hy] at h2
       obtain ⟨rfl,hg2⟩:=h2
       have hfin:bB (eR L) L p= .error x:=by rw [HE.out,hj];exact jS hy
       go_wp2
       refine ⟨rfl,?_⟩
       unfold aW
       rw [hfin]
       exact ⟨rfl,bD hg hg2⟩
      |ok aq=>
       obtain ⟨a,q2⟩:=aq
       rw [hy] at h2
       obtain ⟨⟨_,rfl,Ac,cc,rfl,hOc⟩,hR2,hg2⟩:=h2
       have hstep:bB (eR L) L p=bnd (dD (eR L) (m-(k+1)) q2) (fun l q'' => .ok ((acc++ [a])++l,q'')):=by rw [HE.out,hj,iM hy,show m-(k+1)=j by omega]
       have HST:=Lib.hid hstep
       have hown1:=hown.kept hg2 hlt
       have hl2:=hown1.len
       obtain ⟨xs,hown2,hxl,hxe⟩:=hown1
       have hlx:xs.length=k:=by omega
       have Hl2:=Lib.hid hlx
       have sz:=hg.size
       have sz2:=hg2.size
       have ha:Below w2.heap.size w2 (w2.alloc (.cells #[.int .i64 a.num,.slice Ac a.cells.length cc] 163)):=(Below.refl _ _).alloc (Nat.le_refl _) _
       have hone:Recs gZ (fun _=>True) (w2.alloc (.cells #[.int .i64 a.num,.slice Ac a.cells.length cc] 163)) (.slice (some ⟨w2.heap.size,0,none⟩) 1 1) [⟨a.num,Ac,a.cells.length,cc⟩]:=⟨_,1,rfl,by simp,by simp [maxLen],Cs.lit _ _ _ _ _ trivial rfl⟩
       have hcl:Recs bJ (fun b=>w.heap.size≤b∧(Value.slice A' k c').ownBlock≠some b) w2 (.slice Ac a.cells.length cc) a.cells:=hOc.recs.mono (fun b _ hs=>⟨by have:=hs.1;omega,fun e=>by
        obtain ⟨ys,hyo⟩:=HOW.out
        have:=(World.ownsRow.lt hyo _ e).2
        have:=hs.1
        omega⟩)
       clear hstep
       go_wp2_with (refine aV (o:=⟨some 35,_,_,_,_,_⟩) lU oK (.agg #[.int .i64 0,.slice none 0 0]) 32 _ _ 101 163 w.heap.size xs [⟨a.num,Ac,a.cells.length,cc⟩] (some ⟨w2.heap.size,0,none⟩) 1 1 (.slice A' k c') (k+1) rfl rfl Tryz.underlying101 vC rfl (by omega) rfl rfl (hown2.ext ha) hone (by rw [Hl2.out]) (by have:=Hl2.out;omega) (by have:=Hl2.out;omega) (by simp;omega) ?_;intro A9 c9 w9 hown9 hgr9 hat9 hc91 hc92)
       have hrow9:∀b,(Value.slice A' k c').ownBlock=some b→w.heap.size≤b:=fun b e=>(World.ownsRow.lt hown2 _ e).1
       have hR9:=(hR2.ext ha).grown hgr9 (fun b hb=>by have:=hrow9 b hb;omega)
       have hG9:=jE (bD (bD hg hg2) (jF ha (some r))) hgr9 (fun b hb=> .inl (hrow9 b hb))
       refine ⟨⟨k+1,q2,A9,c9,acc++ [a],by congr 1,rfl,by omega,PgsOwn.push ⟨hxl,fun i x' t' hx' ht' =>⟨(hxe i x' t' hx' ht').1,(hxe i x' t' hx' ht').2.ext ha⟩⟩ ⟨a.num,Ac,a.cells.length,cc⟩ a rfl (hcl.ext ha) hown9 hgr9 hat9,hR9,hG9,HST.out⟩,by simp [intOf];omega⟩
     ·obtain rfl:k=m:=by omega
      have dk:decide ((k:Int)<(k:Int))=false:=by simp
      have hfin:bB (eR L) L p= .ok (acc,q'):=by rw [HE.out,Nat.sub_self];show Except.ok (acc++ [],q')=_;rw [List.append_nil]
      exact Tzbq
set_option maxHeartbeats 1000000 in
theorem yJ (B r p:Nat) (L:List UInt8) (w:World) (h:Rdr B w r L p):
 Calls Tryz.prog 147 #[.pointer (some ⟨r,0,none⟩)] w fun e w' =>aW B r L w (eJ L p) (fun a w' v=>∃A c,v= .slice A a.length c∧PgsOwn w.heap.size w' v a) e w' :=by
 unfold eJ
 go_enter Tryz.func147,Tryz.ntmps147
 go_wp2_with fail
 refine (BT B r p L w h).mono ?_
 intro e w1 h1
 unfold aW at h1
 cases hx:bB (eR L) L p with
 |error k=>
  rw [hx] at h1
  obtain ⟨rfl,hg⟩:=h1
  go_wp2
  refine ⟨rfl,?_⟩
  unfold aW
  rw [hx]
  exact ⟨rfl,hg⟩
 |ok vq=>
  obtain ⟨v,q⟩:=vq
  rw [hx] at h1
  obtain ⟨⟨_,rfl,A,c,rfl,hO⟩,hR,hg⟩:=h1
  go_wp2
  go_ret
  unfold aW
  rw [hx]
  exact ⟨⟨_,rfl,A,c,rfl,hO⟩,hR,hg⟩
end Go.Proofs.YtiblijmngokcgaaGreatDoor
namespace Go.Proofs.YtiblijmngokcgaaGreatDoor
open Go.RowKit
set_option maxRecDepth 100000
set_option linter.unusedVariables false
theorem eQ {P:Program} {fn:Func} {tmps:Array Value} {R:Ending→World→Prop} {u:FrameMode} {w:World} {v:Value} (hu:settle u= .returning) (hres:(results fn tmps).run P w= .ok v w) (h:R (.returned v) w):Leaves P fn tmps R [] (settle u) w:=by
 rw [hu]
 exact ⟨v,hres,h⟩
theorem fB {P:Program} {fn:Func} {tmps:Array Value} {w:World} {a b c:Tmp} {t t' t2:TypeId} {A A' A2:Addr} {x y z:Value} (h:fn.results= #[.cell a t,.cell b t',.cell c t2]) (ha:tmps.getD a undef= .pointer (some A)) (hb:tmps.getD b undef= .pointer (some A')) (hc:tmps.getD c undef= .pointer (some A2)) (hl:(loadVar t A).run P w= .ok x w) (hl' :(loadVar t' A').run P w= .ok y w) (hl2:(loadVar t2 A2).run P w= .ok z w):(results fn tmps).run P w= .ok (.tuple #[x,y,z]) w:=by
 have ha' :tmps[a]?.getD undef= .pointer (some A):=by simpa using ha
 have hb' :tmps[b]?.getD undef= .pointer (some A'):=by simpa using hb
 have hc' :tmps[c]?.getD undef= .pointer (some A2):=by simpa using hc
 simp [results,h,asAddr,ha',hb',hc',hl,hl',hl2]
def jM {α:Type} (x:Except Nat (α×Nat)) (z:Value) (V:α→World→Value→Prop) (e:Ending) (w' :World):Prop:=
 match x with
 | .ok (a,q)=>∃v,e= .returned (.tuple #[v,.int .i64 (q:Int),.int .i64 0])∧V a w' v
 | .error k=>e= .returned (.tuple #[z,.int .i64 0,.int .i64 (k:Int)])
theorem wU (p q s:Addr) (w:World):CallsD Tryz.prog 177 #[.pointer (some p),.pointer (some q),.pointer (some s)] .returning w fun e u' w' =>e= .returned (.tuple #[])∧u' = .returning∧w' =w:=by
 refine callsD_of_wpS Tryz.func177 rfl fun c₀ cs hu=> ?_
 apply wpS_seq
 apply wpS_region
 generalize hQ:Exit.thenS _ _=Q0
 simp [wpOpsS,go_sem,recoverD,hu,Tryz.ntmps177,Array.replicate]
 subst hQ
 refine wpS_of_wp ?_
 go_wp2
 cases c₀
 simp_all [bodyPostS,results,Tryz.results177]
set_option maxHeartbeats 1000000 in
theorem pV (k b6 b7 b8:Nat) (x6:Array Value) (x7 x8:Int) (w w0:World) (B:Nat) (h6:w.heap[b6]? =some (.cells x6 51 (0,0))) (hx6:x6.size=4) (h7:w.heap[b7]? =some (.cells #[.int .i64 x7] 3 (0,0))) (h8:w.heap[b8]? =some (.cells #[.int .i64 x8] 37 (0,0))) (hne:b6≠b7∧b6≠b8∧b7≠b8) (hB:B≤b6∧B≤b7∧B≤b8) (hw:Below B w0 w):
 CallsD Tryz.prog 177 #[.pointer (some ⟨b6,0,none⟩),.pointer (some ⟨b7,0,none⟩),.pointer (some ⟨b8,0,none⟩)] (.panicking (jK k)) w fun e u' w' =>e= .returned (.tuple #[])∧u' = .panicking [{v:=nG k,recovered:=true}]∧w'.heap[b6]? =some (.cells #[Value.slice none 0 0,Value.slice none 0 0,Value.slice none 0 0,Value.slice none 0 0] 51 (0,0))∧w'.cell? ⟨b7,0,none⟩=some (.int .i64 0)∧w'.cell? ⟨b8,0,none⟩=some (.int .i64 (k:Int))∧Below B w0 w' :=by
 have l6:=(Array.getElem?_eq_some_iff.1 h6).1
 have l7:=(Array.getElem?_eq_some_iff.1 h7).1
 have l8:=(Array.getElem?_eq_some_iff.1 h8).1
 obtain ⟨n1,n2,n3⟩:=hne
 have n1' :=n1.symm
 have n2' :=n2.symm
 have n3' :=n3.symm
 have ha:Below w.heap.size w (w.alloc (.cells #[Value.slice none 0 0,Value.slice none 0 0,Value.slice none 0 0,Value.slice none 0 0] 51)):=(Below.refl _ _).alloc (Nat.le_refl _) _
 have a6:=(ha.block b6 l6).trans h6
 have A6:=Lib.hid a6
 have w6:((w.alloc (.cells #[Value.slice none 0 0,Value.slice none 0 0,Value.slice none 0 0,Value.slice none 0 0] 51)).setRow b6 #[Value.slice none 0 0,Value.slice none 0 0,Value.slice none 0 0,Value.slice none 0 0]).heap[b6]? =some (.cells #[Value.slice none 0 0,Value.slice none 0 0,Value.slice none 0 0,Value.slice none 0 0] 51 (0,0)):=setRow_heap _ _ _ _ _ _ a6
 have w7:((w.alloc (.cells #[Value.slice none 0 0,Value.slice none 0 0,Value.slice none 0 0,Value.slice none 0 0] 51)).setRow b6 #[Value.slice none 0 0,Value.slice none 0 0,Value.slice none 0 0,Value.slice none 0 0]).heap[b7]? =some (.cells #[.int .i64 x7] 3 (0,0)):=(setRow_other _ _ _ _ n1').trans ((ha.block b7 l7).trans h7)
 have w8:((w.alloc (.cells #[Value.slice none 0 0,Value.slice none 0 0,Value.slice none 0 0,Value.slice none 0 0] 51)).setRow b6 #[Value.slice none 0 0,Value.slice none 0 0,Value.slice none 0 0,Value.slice none 0 0]).heap[b8]? =some (.cells #[.int .i64 x8] 37 (0,0)):=(setRow_other _ _ _ _ n2').trans ((ha.block b8 l8).trans h8)
 have hw2:Below B w0 ((w.alloc (.cells #[Value.slice none 0 0,Value.slice none 0 0,Value.slice none 0 0,Value.slice none 0 0] 51)).setRow b6 #[Value.slice none 0 0,Value.slice none 0 0,Value.slice none 0 0,Value.slice none 0 0]):=Below.setRow (hw.alloc (by omega) _) hB.1 _
 have c7:((w.alloc (.cells #[Value.slice none 0 0,Value.slice none 0 0,Value.slice none 0 0,Value.slice none 0 0] 51)).setRow b6 #[Value.slice none 0 0,Value.slice none 0 0,Value.slice none 0 0,Value.slice none 0 0]).cell? ⟨b7,0,none⟩=some (.int .i64 x7):=by rw [cell_of_row _ _ _ _ _ _ w7];rfl
 have c8:((w.alloc (.cells #[Value.slice none 0 0,Value.slice none 0 0,Value.slice none 0 0,Value.slice none 0 0] 51)).setRow b6 #[Value.slice none 0 0,Value.slice none 0 0,Value.slice none 0 0,Value.slice none 0 0]).cell? ⟨b8,0,none⟩=some (.int .i64 x8):=by rw [cell_of_row _ _ _ _ _ _ w8];rfl
 have f7:=frozen_of_row _ _ 0 _ _ w7
 have f8:=frozen_of_row _ _ 0 _ _ w8
 have hsz:((w.alloc (.cells #[Value.slice none 0 0,Value.slice none 0 0,Value.slice none 0 0,Value.slice none 0 0] 51)).setRow b6 #[Value.slice none 0 0,Value.slice none 0 0,Value.slice none 0 0,Value.slice none 0 0]).heap.size=w.heap.size+1:=by rw [setRow_size];simp
 have H6:=Lib.hid w6
 have H7:=Lib.hid w7
 have H8:=Lib.hid w8
 have HW:=Lib.hid hw2
 clear h6 h7 h8 a6 w6 w7 w8 ha hw2
 unfold jK
 refine callsD_of_wpS Tryz.func177 rfl fun c₀ cs hu=> ?_
 apply wpS_seq
 apply wpS_region
 generalize hQ:Exit.thenS _ _=Q0
 simp [wpOpsS,go_sem,recoverD,hu,Tryz.ntmps177,Array.replicate]
 subst hQ
 refine wpS_of_wp ?_
 unfold nG
 have hta:=mV (.agg #[.int .i64 (k:Int)])
 go_wp2_with (refine aC rfl 51 _ _ rfl b6 51 _ _ rfl rfl A6.out (by kernel_rfl) (by rw [hx6];rfl) (by simp [Value.oneCell']) ?_;generalize (w.alloc (.cells #[Value.slice none 0 0,Value.slice none 0 0,Value.slice none 0 0,Value.slice none 0 0] 51)).setRow b6 #[Value.slice none 0 0,Value.slice none 0 0,Value.slice none 0 0,Value.slice none 0 0]=W2 at *)
 refine ⟨rfl,_,rfl,_,results_none rfl _ _ _,rfl,rfl,?_,?_,?_,?_⟩
 ·have r1:(((W2.setCell ⟨b7,0,none⟩ (.int .i64 0)).setCell ⟨b8,0,none⟩ (.int .i64 9)).setCell ⟨b8,0,none⟩ (.int .i64 (k:Int))).heap[b6]? =some (.cells #[Value.slice none 0 0,Value.slice none 0 0,Value.slice none 0 0,Value.slice none 0 0] 51 (0,0)):=by
   rw [heap_setCell_other _ _ _ _ n2,heap_setCell_other _ _ _ _ n2,heap_setCell_other _ _ _ _ n1]
   exact H6.out
  exact (((Below.refl _ _).alloc (Nat.le_refl _) _).block b6 (Array.getElem?_eq_some_iff.1 r1).1).trans r1
 ·go_simp
 ·have r2:((W2.setCell ⟨b7,0,none⟩ (.int .i64 0)).setCell ⟨b8,0,none⟩ (.int .i64 9)).heap[b8]? =some (.cells #[.int .i64 9] 37 (0,0)):=heap_setCell_same _ b8 0 _ _ _ ((heap_setCell_other _ ⟨b7,0,none⟩ _ _ n3').trans H8.out)
  have r3:(((W2.setCell ⟨b7,0,none⟩ (.int .i64 0)).setCell ⟨b8,0,none⟩ (.int .i64 9)).setCell ⟨b8,0,none⟩ (.int .i64 (k:Int))).heap[b8]? =some (.cells #[.int .i64 (k:Int)] 37 (0,0)):=heap_setCell_same _ b8 0 _ _ _ r2
  have r4:=cell_of_row _ _ 0 _ _ _ r3
  go_simp
 ·exact Below.alloc (Below.setCell (p:=⟨b8,0,none⟩) (Below.setCell (p:=⟨b8,0,none⟩) (Below.setCell (p:=⟨b7,0,none⟩) HW.out hB.2.1 _) hB.2.2 _) hB.2.2 _) (by simp;omega) _
set_option maxHeartbeats 2000000 in
theorem AL (A:Option Addr) (n c:Nat) (k:Int) (L:List UInt8) (S:Nat→Prop) (w:World) (hb:Bytes S w (.slice A n c) L) (hn:n≤100000000):
 Calls Tryz.prog 150 #[.slice A n c,.int .i64 k,.func (.func 151) #[] #[]] w fun e w' =>jM (fM eH L k) (.agg #[Value.slice none 0 0,Value.slice none 0 0,Value.slice none 0 0,Value.slice none 0 0]) (fun a w' v=>StO w' w.heap.size v a) e w'∧Below w.heap.size w w' :=by
 have hmf:∀(fn:Fn) (first cap:Array Value) (w:World),(Instr.makeFunc fn first cap).run Tryz.prog w= .ok (.func fn first cap) w:=fun _ _ _ _=>rfl
 have hag:∀w:World,(isAgg 3).run Tryz.prog w= .ok false w:=fun w=>by simp [isAgg,run_underlying Tryz.underlying3]
 have hae:∀w:World,(isAgg 37).run Tryz.prog w= .ok false w:=fun w=>by simp [isAgg,run_underlying Tryz.underlying37]
 have hln:=hb.len
 obtain ⟨W,hW,hbW,hsW,r6,r7,r8⟩:=vY w (.cells #[Value.slice none 0 0,Value.slice none 0 0,Value.slice none 0 0,Value.slice none 0 0] 51) (.cells #[.int .i64 0] 3) (.cells #[.int .i64 0] 37)
 by_cases hk:k<0∨(L.length:Int)<k
 ·have hcat:=pV 3 w.heap.size (w.heap.size+1) (w.heap.size+1+1) _ _ _ W w w.heap.size r6 rfl r7 r8 ⟨by omega,by omega,by omega⟩ ⟨by omega,by omega,by omega⟩ hbW
  have Hcat:=Lib.hid hcat
  clear hcat r6 r7 r8
  have hfin:fM eH L k= .error 3:=if_pos hk
  rw [hfin]
  by_cases h0:k<0
  ·have d0:decide (k<0)=true:=by simpa using h0
   exact Tzbw
  ·have d0:decide (k<0)=false:=by simpa using h0
   have d1:decide ((n:Int)<k)=true:=by simp;omega
   exact Tzbw
 ·obtain ⟨p,rfl⟩:=Int.eq_ofNat_of_zero_le (show 0≤k by omega)
  have hp:p≤n:=by omega
  have hfin:fM eH L (p:Int)=eH L p:=(if_neg hk).trans (by rw [Int.toNat_natCast])
  rw [hfin]
  clear hfin hk
  have d0:decide ((p:Int)<0)=false:=by simp
  have d1:decide ((n:Int)<(p:Int))=false:=by simp;omega
  have d2:decide (n<p)=false:=by simp;omega
  obtain ⟨W2,hW2⟩:∃W2,W2=W.alloc (.cells #[.slice A n c,.int .i64 (p:Int)] 224):=⟨_,rfl⟩
  have hb2:Below W.heap.size W W2:=by rw [hW2];exact (Below.refl _ _).alloc (Nat.le_refl _) _
  have r9:W2.heap[W.heap.size]? =some (.cells #[.slice A n c,.int .i64 (p:Int)] 224 (0,0)):=by rw [hW2];exact heap_alloc_new _ _
  have hRd:Rdr w.heap.size W2 W.heap.size L p:=by
   exact Tzcp
  go_enter_defers Tryz.func150,Tryz.ntmps150
  go_wp2_with fail
  rw [←hW,←hsW,←hW2]
  refine (yI w.heap.size W.heap.size p L W2 hRd).mono ?_
  intro e w3 h3
  have s2:=hb2.size
  have hs3:w.heap.size+1+1<W.heap.size:=by omega
  clear hsW hW hW2
  have hlt9:W.heap.size<W2.heap.size:=hRd.lt
  unfold aW at h3
  cases hx:eH L p with
  |error x=>
   rw [hx] at h3
   obtain ⟨rfl,hg3⟩:=h3
   have k6:=(hg3.block w.heap.size (by omega) (by simp;omega)).trans ((hb2.block _ (by omega)).trans r6)
   have k7:=(hg3.block (w.heap.size+1) (by omega) (by simp;omega)).trans ((hb2.block _ (by omega)).trans r7)
   have k8:=(hg3.block (w.heap.size+1+1) (by omega) (by simp;omega)).trans ((hb2.block _ (by omega)).trans r8)
   have hcat:=pV x w.heap.size (w.heap.size+1) (w.heap.size+1+1) _ _ _ w3 w w.heap.size k6 rfl k7 k8 ⟨by omega,by omega,by omega⟩ ⟨by omega,by omega,by omega⟩ (Below.grow (Below.ext hbW hb2) hg3 (by omega))
   have Hcat:=Lib.hid hcat
   clear hcat r6 r7 r8 k6 k7 k8 hRd r9
   go_wp2
   refine leaves_cons (f:=177) (args:= #[.pointer (some ⟨w.heap.size,0,none⟩),.pointer (some ⟨w.heap.size+1,0,none⟩),.pointer (some ⟨w.heap.size+1+1,0,none⟩)]) (by simp [jK]) (by simp [go_sem]) ?_
   refine Hcat.out.mono ?_
   rintro e u' w'' ⟨rfl,rfl,g6,g7,g8,hbb⟩
   refine eQ rfl (fB rfl rfl rfl rfl (aB g6 Tryz.underlying51 rfl (by kernel_rfl)) (aG (hag _) g7) (aG (hae _) g8)) ?_
   rw [hx]
   exact ⟨rfl,hbb⟩
  |ok vq=>
   obtain ⟨v,q⟩:=vq
   rw [hx] at h3
   obtain ⟨⟨_,rfl,hV⟩,hR3,hg3⟩:=h3
   obtain ⟨A1,c1,A2,c2,A3,c3,A4,c4,rfl,hO1,hO2,hO3,hO4⟩:=hV
   have k6:=(hg3.block w.heap.size (by omega) (by simp;omega)).trans ((hb2.block _ (by omega)).trans r6)
   have k7:=(hg3.block (w.heap.size+1) (by omega) (by simp;omega)).trans ((hb2.block _ (by omega)).trans r7)
   have k8:=(hg3.block (w.heap.size+1+1) (by omega) (by simp;omega)).trans ((hb2.block _ (by omega)).trans r8)
   have b3:=Below.grow (Below.ext hbW hb2) hg3 (by omega)
   have hs33:=hg3.size
   have k9:∃A' c',w3.heap[W.heap.size]? =some (.cells #[.slice A' L.length c',.int .i64 (q:Int)] 224 (0,0)):=by obtain ⟨_,A',c',h1,_⟩:=hR3;exact ⟨A',c',h1⟩
   obtain ⟨Ar,cr,k9⟩:=k9
   have K6:=Lib.hid k6
   have m6:(w3.setRow w.heap.size #[Value.slice A1 v.cells.length c1,Value.slice A2 v.evs.length c2,Value.slice A3 v.sent.length c3,Value.slice A4 v.outs.length c4]).heap[w.heap.size]? =some (.cells #[Value.slice A1 v.cells.length c1,Value.slice A2 v.evs.length c2,Value.slice A3 v.sent.length c3,Value.slice A4 v.outs.length c4] 51 (0,0)):=setRow_heap _ _ _ _ _ _ k6
   have m7:=(setRow_other w3 w.heap.size (w.heap.size+1) #[Value.slice A1 v.cells.length c1,Value.slice A2 v.evs.length c2,Value.slice A3 v.sent.length c3,Value.slice A4 v.outs.length c4] (by omega)).trans k7
   have m8:=(setRow_other w3 w.heap.size (w.heap.size+1+1) #[Value.slice A1 v.cells.length c1,Value.slice A2 v.evs.length c2,Value.slice A3 v.sent.length c3,Value.slice A4 v.outs.length c4] (by omega)).trans k8
   have m9:=(setRow_other w3 w.heap.size W.heap.size #[Value.slice A1 v.cells.length c1,Value.slice A2 v.evs.length c2,Value.slice A3 v.sent.length c3,Value.slice A4 v.outs.length c4] (by omega)).trans k9
   have mb:Below w.heap.size w (w3.setRow w.heap.size #[Value.slice A1 v.cells.length c1,Value.slice A2 v.evs.length c2,Value.slice A3 v.sent.length c3,Value.slice A4 v.outs.length c4]):=Below.setRow b3 (Nat.le_refl _) _
   have mg:w3.grownBy (w3.setRow w.heap.size #[Value.slice A1 v.cells.length c1,Value.slice A2 v.evs.length c2,Value.slice A3 v.sent.length c3,Value.slice A4 v.outs.length c4]) (some w.heap.size):=aJ _ _ _
   have hO1:=hO1.kept_lt mg (by omega)
   have hO2:=hO2.kept_lt mg (by omega)
   have hO3:=hO3.kept_lt mg (by omega)
   have hO4:=hO4.kept_lt mg (by omega)
   have ms:(w3.setRow w.heap.size #[Value.slice A1 v.cells.length c1,Value.slice A2 v.evs.length c2,Value.slice A3 v.sent.length c3,Value.slice A4 v.outs.length c4]).heap.size=w3.heap.size:=setRow_size _ _ _
   have M6:=Lib.hid m6
   have M7:=Lib.hid m7
   have M8:=Lib.hid m8
   have M9:=Lib.hid m9
   clear r6 r7 r8 k6 k7 k8 k9 hRd r9 m6 m7 m8 m9 b3 mg
   have n9:W.heap.size≠w.heap.size:=by omega
   go_wp2_with (refine aC rfl 51 _ _ rfl w.heap.size 51 _ _ rfl rfl K6.out (by kernel_rfl) rfl (by simp [Value.oneCell']) ?_)
   generalize w3.setRow w.heap.size #[Value.slice A1 v.cells.length c1,Value.slice A2 v.evs.length c2,Value.slice A3 v.sent.length c3,Value.slice A4 v.outs.length c4]=W4 at*
   have e9:W4.cell? ⟨W.heap.size,1,none⟩=some (.int .i64 (q:Int)):=by rw [cell_of_row _ _ _ _ _ _ M9.out];rfl
   have E9:=Lib.hid e9
   clear e9
   refine aM (fun w' =>w'.heap[w.heap.size]? =some (.cells #[Value.slice A1 v.cells.length c1,Value.slice A2 v.evs.length c2,Value.slice A3 v.sent.length c3,Value.slice A4 v.outs.length c4] 51 (0,0))∧w'.cell? ⟨W.heap.size,1,none⟩=some (.int .i64 (q:Int))) (by kernel_rfl) (by kernel_rfl) ⟨M6.out,E9.out⟩ ?_
   refine TkA ?_
   refine aE (⟨w.heap.size,0,none⟩) (.agg #[Value.slice A1 v.cells.length c1,Value.slice A2 v.evs.length c2,Value.slice A3 v.sent.length c3,Value.slice A4 v.outs.length c4]) rfl rfl rfl (fun w' hw' =>aB hw'.1 Tryz.underlying51 rfl (by kernel_rfl)) ?_
   refine TkI ?_
   refine TkA ?_
   refine aE (⟨W.heap.size,1,none⟩) (.int .i64 (q:Int)) rfl rfl rfl (fun w' hw' =>aG (hag _) hw'.2) ?_
   refine TkI ?_
   refine TkA ?_
   have D6:RowKit.Hid (W4.drew.heap[w.heap.size]? =some (.cells #[Value.slice A1 v.cells.length c1,Value.slice A2 v.evs.length c2,Value.slice A3 v.sent.length c3,Value.slice A4 v.outs.length c4] 51 (0,0))):=Lib.hid M6.out
   refine aL rfl ?_
   refine aC rfl 51 _ _ rfl w.heap.size 51 _ _ rfl rfl D6.out (by kernel_rfl) rfl (by simp [Value.oneCell']) ?_
   have u6:(W4.drew.setRow w.heap.size #[Value.slice A1 v.cells.length c1,Value.slice A2 v.evs.length c2,Value.slice A3 v.sent.length c3,Value.slice A4 v.outs.length c4]).heap[w.heap.size]? =some (.cells #[Value.slice A1 v.cells.length c1,Value.slice A2 v.evs.length c2,Value.slice A3 v.sent.length c3,Value.slice A4 v.outs.length c4] 51 (0,0)):=setRow_heap _ _ _ _ _ _ D6.out
   have u7:=(setRow_other W4.drew w.heap.size (w.heap.size+1) #[Value.slice A1 v.cells.length c1,Value.slice A2 v.evs.length c2,Value.slice A3 v.sent.length c3,Value.slice A4 v.outs.length c4] (by omega)).trans M7.out
   have u8:=(setRow_other W4.drew w.heap.size (w.heap.size+1+1) #[Value.slice A1 v.cells.length c1,Value.slice A2 v.evs.length c2,Value.slice A3 v.sent.length c3,Value.slice A4 v.outs.length c4] (by omega)).trans M8.out
   have u9:=(setRow_other W4.drew w.heap.size W.heap.size #[Value.slice A1 v.cells.length c1,Value.slice A2 v.evs.length c2,Value.slice A3 v.sent.length c3,Value.slice A4 v.outs.length c4] (by omega)).trans M9.out
   have ub:Below w.heap.size w (W4.drew.setRow w.heap.size #[Value.slice A1 v.cells.length c1,Value.slice A2 v.evs.length c2,Value.slice A3 v.sent.length c3,Value.slice A4 v.outs.length c4]):=Below.setRow mb.drew (Nat.le_refl _) _
   have ug:W4.drew.grownBy (W4.drew.setRow w.heap.size #[Value.slice A1 v.cells.length c1,Value.slice A2 v.evs.length c2,Value.slice A3 v.sent.length c3,Value.slice A4 v.outs.length c4]) (some w.heap.size):=aJ _ _ _
   have hO1:=(hO1.ext (w' :=W4.drew) (Below.refl _ _).drew).kept_lt ug (by omega)
   have hO2:=(hO2.ext (w' :=W4.drew) (Below.refl _ _).drew).kept_lt ug (by omega)
   have hO3:=(hO3.ext (w' :=W4.drew) (Below.refl _ _).drew).kept_lt ug (by omega)
   have hO4:=(hO4.ext (w' :=W4.drew) (Below.refl _ _).drew).kept_lt ug (by omega)
   generalize W4.drew.setRow w.heap.size #[Value.slice A1 v.cells.length c1,Value.slice A2 v.evs.length c2,Value.slice A3 v.sent.length c3,Value.slice A4 v.outs.length c4]=W5 at*
   have c9:W5.cell? ⟨W.heap.size,1,none⟩=some (.int .i64 (q:Int)):=by rw [cell_of_row _ _ _ _ _ _ u9];rfl
   have c7:W5.cell? ⟨w.heap.size+1,0,none⟩=some (.int .i64 0):=by rw [cell_of_row _ _ _ _ _ _ u7];rfl
   have c8:W5.cell? ⟨w.heap.size+1+1,0,none⟩=some (.int .i64 0):=by rw [cell_of_row _ _ _ _ _ _ u8];rfl
   have f7:=frozen_of_row _ _ 0 _ _ u7
   have f8:=frozen_of_row _ _ 0 _ _ u8
   have U6:=Lib.hid u6
   clear u6 u7 u8 u9 ug
   refine aI ⟨U6.out,c9⟩ ?_
   simp only [Act.put]
   refine TkA ?_
   refine aL rfl ?_
   go_wp2_with fail
   go_wp2_with fail
   refine aI (⟨(heap_setCell_other _ ⟨w.heap.size+1,0,none⟩ _ _ (show w.heap.size≠w.heap.size+1 by omega)).trans U6.out,by go_simp⟩) ?_
   refine TkA ?_
   refine aL rfl ?_
   go_wp2_with fail
   go_wp2_with fail
   refine aI (⟨(heap_setCell_other _ ⟨w.heap.size+1+1,0,none⟩ _ _ (show w.heap.size≠w.heap.size+1+1 by omega)).trans ((heap_setCell_other _ ⟨w.heap.size+1,0,none⟩ _ _ (show w.heap.size≠w.heap.size+1 by omega)).trans U6.out),by go_simp⟩) ?_
   refine TkA ?_
   refine aZ ?_
   go_wp2_with fail
   have g6:((W5.setCell ⟨w.heap.size+1,0,none⟩ (.int .i64 (q:Int))).setCell ⟨w.heap.size+1+1,0,none⟩ (.int .i64 0)).heap[w.heap.size]? =some (.cells #[Value.slice A1 v.cells.length c1,Value.slice A2 v.evs.length c2,Value.slice A3 v.sent.length c3,Value.slice A4 v.outs.length c4] 51 (0,0)):=(heap_setCell_other _ ⟨w.heap.size+1+1,0,none⟩ _ _ (show w.heap.size≠w.heap.size+1+1 by omega)).trans ((heap_setCell_other _ ⟨w.heap.size+1,0,none⟩ _ _ (show w.heap.size≠w.heap.size+1 by omega)).trans U6.out)
   have g7:((W5.setCell ⟨w.heap.size+1,0,none⟩ (.int .i64 (q:Int))).setCell ⟨w.heap.size+1+1,0,none⟩ (.int .i64 0)).cell? ⟨w.heap.size+1,0,none⟩=some (.int .i64 (q:Int)):=by go_simp
   have g8:((W5.setCell ⟨w.heap.size+1,0,none⟩ (.int .i64 (q:Int))).setCell ⟨w.heap.size+1+1,0,none⟩ (.int .i64 0)).cell? ⟨w.heap.size+1+1,0,none⟩=some (.int .i64 0):=by go_simp
   have b7:=(ub.setCell (p:=⟨w.heap.size+1,0,none⟩) (show _≤w.heap.size+1 by omega) (.int .i64 (q:Int))).setCell (p:=⟨w.heap.size+1+1,0,none⟩) (show _≤w.heap.size+1+1 by omega) (.int .i64 0)
   have vg1:W5.grownBy (W5.setCell ⟨w.heap.size+1,0,none⟩ (.int .i64 (q:Int))) (some (w.heap.size+1)):=aO ⟨rfl,rfl,rfl,Nat.le_refl _,fun _ _ _=>rfl⟩
   have vg2:(W5.setCell ⟨w.heap.size+1,0,none⟩ (.int .i64 (q:Int))).grownBy ((W5.setCell ⟨w.heap.size+1,0,none⟩ (.int .i64 (q:Int))).setCell ⟨w.heap.size+1+1,0,none⟩ (.int .i64 0)) (some (w.heap.size+1+1)):=aO ⟨rfl,rfl,rfl,Nat.le_refl _,fun _ _ _=>rfl⟩
   have hO1:=(hO1.kept_lt vg1 (by omega)).kept_lt vg2 (by omega)
   have hO2:=(hO2.kept_lt vg1 (by omega)).kept_lt vg2 (by omega)
   have hO3:=(hO3.kept_lt vg1 (by omega)).kept_lt vg2 (by omega)
   have hO4:=(hO4.kept_lt vg1 (by omega)).kept_lt vg2 (by omega)
   generalize ((W5.setCell ⟨w.heap.size+1,0,none⟩ (.int .i64 (q:Int))).setCell ⟨w.heap.size+1+1,0,none⟩ (.int .i64 0))=W7 at*
   refine leaves_cons (f:=177) (args:= #[.pointer (some ⟨w.heap.size,0,none⟩),.pointer (some ⟨w.heap.size+1,0,none⟩),.pointer (some ⟨w.heap.size+1+1,0,none⟩)]) (by simp) (by simp [go_sem]) ?_
   refine (wU _ _ _ W7).mono ?_
   rintro e u' w'' ⟨rfl,rfl,rfl⟩
   refine eQ rfl (fB rfl rfl rfl rfl (aB g6 Tryz.underlying51 rfl (by kernel_rfl)) (aG (hag _) g7) (aG (hae _) g8)) ?_
   refine ⟨?_,b7⟩
   rw [hx]
   exact ⟨_,rfl,A1,c1,A2,c2,A3,c3,A4,c4,rfl,hO1.weak (by omega),hO2.weak (by omega),hO3.weak (by omega),hO4.weak (by omega)⟩
theorem PgsOwn.dr {base:Nat} {w:World} {v:Value} {ts:List Pg} (h:PgsOwn base w v ts):PgsOwn base w.drew v ts:=by
 obtain ⟨xs,h1,h2,h3⟩:=h
 exact ⟨xs,h1.ext (Below.refl _ _).drew,h2,fun i x t hx ht=>⟨(h3 i x t hx ht).1,(h3 i x t hx ht).2.ext (Below.refl _ _).drew⟩⟩
theorem PgsOwn.weak {base base' :Nat} {w:World} {v:Value} {ts:List Pg} (h:PgsOwn base w v ts) (hle:base'≤base):PgsOwn base' w v ts:=by
 obtain ⟨xs,h1,h2,h3⟩:=h
 exact ⟨xs,h1.weak hle,h2,fun i x t hx ht=>⟨(h3 i x t hx ht).1,(h3 i x t hx ht).2.mono (fun _ _ h=>⟨by have:=h.1;omega,h.2⟩)⟩⟩
theorem wV (p q s:Addr) (w:World):CallsD Tryz.prog 174 #[.pointer (some p),.pointer (some q),.pointer (some s)] .returning w fun e u' w' =>e= .returned (.tuple #[])∧u' = .returning∧w' =w:=by
 refine callsD_of_wpS Tryz.func174 rfl fun c₀ cs hu=> ?_
 apply wpS_seq
 apply wpS_region
 generalize hQ:Exit.thenS _ _=Q0
 simp [wpOpsS,go_sem,recoverD,hu,Tryz.ntmps174,Array.replicate]
 subst hQ
 refine wpS_of_wp ?_
 go_wp2
 cases c₀
 simp_all [bodyPostS,results,Tryz.results174]
theorem pW (k b6 b7 b8:Nat) (x6:Value) (x7 x8:Int) (w w0:World) (B:Nat) (h6:w.heap[b6]? =some (.cells #[x6] 101 (0,0))) (h7:w.heap[b7]? =some (.cells #[.int .i64 x7] 3 (0,0))) (h8:w.heap[b8]? =some (.cells #[.int .i64 x8] 37 (0,0))) (hne:b6≠b7∧b6≠b8∧b7≠b8) (hB:B≤b6∧B≤b7∧B≤b8) (hw:Below B w0 w):
 CallsD Tryz.prog 174 #[.pointer (some ⟨b6,0,none⟩),.pointer (some ⟨b7,0,none⟩),.pointer (some ⟨b8,0,none⟩)] (.panicking (jK k)) w fun e u' w' =>e= .returned (.tuple #[])∧u' = .panicking [{v:=nG k,recovered:=true}]∧w'.cell? ⟨b6,0,none⟩=some (.slice none 0 0)∧w'.cell? ⟨b7,0,none⟩=some (.int .i64 0)∧w'.cell? ⟨b8,0,none⟩=some (.int .i64 (k:Int))∧Below B w0 w' :=by
 have c6:w.cell? ⟨b6,0,none⟩=some x6:=by rw [cell_of_row _ _ _ _ _ _ h6];rfl
 have c7:w.cell? ⟨b7,0,none⟩=some (.int .i64 x7):=by rw [cell_of_row _ _ _ _ _ _ h7];rfl
 have c8:w.cell? ⟨b8,0,none⟩=some (.int .i64 x8):=by rw [cell_of_row _ _ _ _ _ _ h8];rfl
 have f6:=frozen_of_row _ _ 0 _ _ h6
 have f7:=frozen_of_row _ _ 0 _ _ h7
 have f8:=frozen_of_row _ _ 0 _ _ h8
 have l6:=(Array.getElem?_eq_some_iff.1 h6).1
 have l7:=(Array.getElem?_eq_some_iff.1 h7).1
 have l8:=(Array.getElem?_eq_some_iff.1 h8).1
 obtain ⟨n1,n2,n3⟩:=hne
 have n1' :=n1.symm
 have n2' :=n2.symm
 have n3' :=n3.symm
 have H6:=Lib.hid h6
 have H7:=Lib.hid h7
 have H8:=Lib.hid h8
 clear h6 h7 h8
 unfold jK
 refine callsD_of_wpS Tryz.func174 rfl fun c₀ cs hu=> ?_
 apply wpS_seq
 apply wpS_region
 generalize hQ:Exit.thenS _ _=Q0
 simp [wpOpsS,go_sem,recoverD,hu,Tryz.ntmps174,Array.replicate]
 subst hQ
 refine wpS_of_wp ?_
 unfold nG
 have hta:=mV (.agg #[.int .i64 (k:Int)])
 go_wp2
 refine ⟨rfl,_,rfl,_,results_none rfl _ _ _,rfl,rfl,?_,?_,?_,?_⟩
 ·go_simp
 ·go_simp
 ·have r1:((w.setCell ⟨b6,0,none⟩ (.slice none 0 0)).setCell ⟨b7,0,none⟩ (.int .i64 0)).heap[b8]? =some (.cells #[.int .i64 x8] 37 (0,0)):=by
   rw [heap_setCell_other _ _ _ _ n3',heap_setCell_other _ _ _ _ n2']
   exact H8.out
  have r2:(((w.setCell ⟨b6,0,none⟩ (.slice none 0 0)).setCell ⟨b7,0,none⟩ (.int .i64 0)).setCell ⟨b8,0,none⟩ (.int .i64 9)).heap[b8]? =some (.cells #[.int .i64 9] 37 (0,0)):=heap_setCell_same _ b8 0 _ _ _ r1
  have r3:((((w.setCell ⟨b6,0,none⟩ (.slice none 0 0)).setCell ⟨b7,0,none⟩ (.int .i64 0)).setCell ⟨b8,0,none⟩ (.int .i64 9)).setCell ⟨b8,0,none⟩ (.int .i64 (k:Int))).heap[b8]? =some (.cells #[.int .i64 (k:Int)] 37 (0,0)):=heap_setCell_same _ b8 0 _ _ _ r2
  have r4:=cell_of_row _ _ 0 _ _ _ r3
  go_simp
 ·exact Tzcu
set_option maxHeartbeats 2000000 in
theorem AM (A:Option Addr) (n c:Nat) (k:Int) (L:List UInt8) (S:Nat→Prop) (w:World) (hb:Bytes S w (.slice A n c) L) (hn:n≤100000000):
 Calls Tryz.prog 146 #[.slice A n c,.int .i64 k,.func (.func 147) #[] #[]] w fun e w' =>jM (fM eJ L k) (.slice none 0 0) (fun a w' v=>∃A c,v= .slice A a.length c∧PgsOwn w.heap.size w' v a) e w'∧Below w.heap.size w w' :=by
 have hmf:∀(fn:Fn) (first cap:Array Value) (w:World),(Instr.makeFunc fn first cap).run Tryz.prog w= .ok (.func fn first cap) w:=fun _ _ _ _=>rfl
 have hag:∀w:World,(isAgg 3).run Tryz.prog w= .ok false w:=fun w=>by simp [isAgg,run_underlying Tryz.underlying3]
 have hae:∀w:World,(isAgg 37).run Tryz.prog w= .ok false w:=fun w=>by simp [isAgg,run_underlying Tryz.underlying37]
 have hap:∀w:World,(isAgg 101).run Tryz.prog w= .ok false w:=fun w=>by simp [isAgg,run_underlying Tryz.underlying101]
 have hln:=hb.len
 obtain ⟨W,hW,hbW,hsW,r6,r7,r8⟩:=vY w (.cells #[.slice none 0 0] 101) (.cells #[.int .i64 0] 3) (.cells #[.int .i64 0] 37)
 by_cases hk:k<0∨(L.length:Int)<k
 ·have hcat:=pW 3 w.heap.size (w.heap.size+1) (w.heap.size+1+1) _ _ _ W w w.heap.size r6 r7 r8 ⟨by omega,by omega,by omega⟩ ⟨by omega,by omega,by omega⟩ hbW
  have Hcat:=Lib.hid hcat
  clear hcat r6 r7 r8
  have hfin:fM eJ L k= .error 3:=if_pos hk
  rw [hfin]
  by_cases h0:k<0
  ·have d0:decide (k<0)=true:=by simpa using h0
   exact Tzbz
  ·have d0:decide (k<0)=false:=by simpa using h0
   have d1:decide ((n:Int)<k)=true:=by simp;omega
   exact Tzbz
 ·obtain ⟨p,rfl⟩:=Int.eq_ofNat_of_zero_le (show 0≤k by omega)
  have hp:p≤n:=by omega
  have hfin:fM eJ L (p:Int)=eJ L p:=(if_neg hk).trans (by rw [Int.toNat_natCast])
  rw [hfin]
  clear hfin hk
  have d0:decide ((p:Int)<0)=false:=by simp
  have d1:decide ((n:Int)<(p:Int))=false:=by simp;omega
  have d2:decide (n<p)=false:=by simp;omega
  obtain ⟨W2,hW2⟩:∃W2,W2=W.alloc (.cells #[.slice A n c,.int .i64 (p:Int)] 224):=⟨_,rfl⟩
  have hb2:Below W.heap.size W W2:=by rw [hW2];exact (Below.refl _ _).alloc (Nat.le_refl _) _
  have r9:W2.heap[W.heap.size]? =some (.cells #[.slice A n c,.int .i64 (p:Int)] 224 (0,0)):=by rw [hW2];exact heap_alloc_new _ _
  have hRd:Rdr w.heap.size W2 W.heap.size L p:=by
   exact Tzcp
  go_enter_defers Tryz.func146,Tryz.ntmps146
  go_wp2_with fail
  rw [←hW,←hsW,←hW2]
  refine (yJ w.heap.size W.heap.size p L W2 hRd).mono ?_
  intro e w3 h3
  have s2:=hb2.size
  have hs3:w.heap.size+1+1<W.heap.size:=by omega
  clear hsW hW hW2
  have hlt9:W.heap.size<W2.heap.size:=hRd.lt
  unfold aW at h3
  cases hx:eJ L p with
  |error x=>
   rw [hx] at h3
   obtain ⟨rfl,hg3⟩:=h3
   have k6:=(hg3.block w.heap.size (by omega) (by simp;omega)).trans ((hb2.block _ (by omega)).trans r6)
   have k7:=(hg3.block (w.heap.size+1) (by omega) (by simp;omega)).trans ((hb2.block _ (by omega)).trans r7)
   have k8:=(hg3.block (w.heap.size+1+1) (by omega) (by simp;omega)).trans ((hb2.block _ (by omega)).trans r8)
   have hcat:=pW x w.heap.size (w.heap.size+1) (w.heap.size+1+1) _ _ _ w3 w w.heap.size k6 k7 k8 ⟨by omega,by omega,by omega⟩ ⟨by omega,by omega,by omega⟩ (Below.grow (Below.ext hbW hb2) hg3 (by omega))
   have Hcat:=Lib.hid hcat
   clear hcat r6 r7 r8 k6 k7 k8 hRd r9
   go_wp2
   refine leaves_cons (f:=174) (args:= #[.pointer (some ⟨w.heap.size,0,none⟩),.pointer (some ⟨w.heap.size+1,0,none⟩),.pointer (some ⟨w.heap.size+1+1,0,none⟩)]) (by simp [jK]) (by simp [go_sem]) ?_
   refine Hcat.out.mono ?_
   rintro e u' w'' ⟨rfl,rfl,g6,g7,g8,hbb⟩
   refine eQ rfl (fB rfl rfl rfl rfl (aG (hap _) g6) (aG (hag _) g7) (aG (hae _) g8)) ?_
   rw [hx]
   exact ⟨rfl,hbb⟩
  |ok vq=>
   obtain ⟨v,q⟩:=vq
   rw [hx] at h3
   obtain ⟨⟨_,rfl,Av,cv,rfl,hO⟩,hR3,hg3⟩:=h3
   have k6:=(hg3.block w.heap.size (by omega) (by simp;omega)).trans ((hb2.block _ (by omega)).trans r6)
   have k7:=(hg3.block (w.heap.size+1) (by omega) (by simp;omega)).trans ((hb2.block _ (by omega)).trans r7)
   have k8:=(hg3.block (w.heap.size+1+1) (by omega) (by simp;omega)).trans ((hb2.block _ (by omega)).trans r8)
   have c6:w3.cell? ⟨w.heap.size,0,none⟩=some (.slice none 0 0):=by rw [cell_of_row _ _ _ _ _ _ k6];rfl
   have c7:w3.cell? ⟨w.heap.size+1,0,none⟩=some (.int .i64 0):=by rw [cell_of_row _ _ _ _ _ _ k7];rfl
   have c8:w3.cell? ⟨w.heap.size+1+1,0,none⟩=some (.int .i64 0):=by rw [cell_of_row _ _ _ _ _ _ k8];rfl
   have f6:=frozen_of_row _ _ 0 _ _ k6
   have f7:=frozen_of_row _ _ 0 _ _ k7
   have f8:=frozen_of_row _ _ 0 _ _ k8
   have b3:=Below.grow (Below.ext hbW hb2) hg3 (by omega)
   have c9:w3.cell? ⟨W.heap.size,1,none⟩=some (.int .i64 (q:Int)):=by
    obtain ⟨_,A',c',h1,_⟩:=hR3
    rw [cell_of_row _ _ _ _ _ _ h1];rfl
   clear r6 r7 r8 k6 k7 k8 hRd r9
   have n9:W.heap.size≠w.heap.size:=by omega
   go_wp2_with fail
   have e6:(w3.setCell ⟨w.heap.size,0,none⟩ (.slice Av v.length cv)).cell? ⟨w.heap.size,0,none⟩=some (.slice Av v.length cv):=by go_simp
   have e9:(w3.setCell ⟨w.heap.size,0,none⟩ (.slice Av v.length cv)).cell? ⟨W.heap.size,1,none⟩=some (.int .i64 (q:Int)):=by go_simp
   have f6' :(w3.setCell ⟨w.heap.size,0,none⟩ (.slice Av v.length cv)).frozen? ⟨w.heap.size,0,none⟩=false:=by go_simp
   have bS:=b3.setCell (p:=⟨w.heap.size,0,none⟩) (Nat.le_refl _) (.slice Av v.length cv)
   have e7:(w3.setCell ⟨w.heap.size,0,none⟩ (.slice Av v.length cv)).cell? ⟨w.heap.size+1,0,none⟩=some (.int .i64 0):=by go_simp
   have e8:(w3.setCell ⟨w.heap.size,0,none⟩ (.slice Av v.length cv)).cell? ⟨w.heap.size+1+1,0,none⟩=some (.int .i64 0):=by go_simp
   have f7' :(w3.setCell ⟨w.heap.size,0,none⟩ (.slice Av v.length cv)).frozen? ⟨w.heap.size+1,0,none⟩=false:=by go_simp
   have f8' :(w3.setCell ⟨w.heap.size,0,none⟩ (.slice Av v.length cv)).frozen? ⟨w.heap.size+1+1,0,none⟩=false:=by go_simp
   clear c6 c7 c8 f6 f7 f8 c9 b3
   have hO:=hO.kept (aO (j:=0) (v:= .slice Av v.length cv) ⟨rfl,rfl,rfl,Nat.le_refl _,fun _ _ _=>rfl⟩:w3.grownBy (w3.setCell ⟨w.heap.size,0,none⟩ (.slice Av v.length cv)) (some w.heap.size)) (by omega)
   generalize w3.setCell ⟨w.heap.size,0,none⟩ (.slice Av v.length cv)=W4 at*
   refine aM (fun w' =>w'.cell? ⟨w.heap.size,0,none⟩=some (.slice Av v.length cv)∧w'.cell? ⟨W.heap.size,1,none⟩=some (.int .i64 (q:Int))) (by kernel_rfl) (by kernel_rfl) ⟨e6,e9⟩ ?_
   refine TkA ?_
   refine aE (⟨w.heap.size,0,none⟩) (.slice Av v.length cv) rfl rfl rfl (fun w' hw' =>aG (hap _) hw'.1) ?_
   refine TkI ?_
   refine TkA ?_
   refine aE (⟨W.heap.size,1,none⟩) (.int .i64 (q:Int)) rfl rfl rfl (fun w' hw' =>aG (hag _) hw'.2) ?_
   refine TkI ?_
   refine TkA ?_
   refine aL rfl ?_
   go_wp2_with fail
   go_wp2_with fail
   refine aI (⟨by go_simp,by go_simp⟩) ?_
   refine TkA ?_
   refine aL rfl ?_
   go_wp2_with fail
   go_wp2_with fail
   refine aI (⟨by go_simp,by go_simp⟩) ?_
   refine TkA ?_
   refine aL rfl ?_
   go_wp2_with fail
   go_wp2_with fail
   refine aI (⟨by go_simp,by go_simp⟩) ?_
   refine TkA ?_
   refine aZ ?_
   go_wp2_with fail
   have g6:(((W4.setCell ⟨w.heap.size,0,none⟩ (.slice Av v.length cv)).setCell ⟨w.heap.size+1,0,none⟩ (.int .i64 (q:Int))).setCell ⟨w.heap.size+1+1,0,none⟩ (.int .i64 0)).drew.cell? ⟨w.heap.size,0,none⟩=some (.slice Av v.length cv):=by go_simp
   have g7:(((W4.setCell ⟨w.heap.size,0,none⟩ (.slice Av v.length cv)).setCell ⟨w.heap.size+1,0,none⟩ (.int .i64 (q:Int))).setCell ⟨w.heap.size+1+1,0,none⟩ (.int .i64 0)).drew.cell? ⟨w.heap.size+1,0,none⟩=some (.int .i64 (q:Int)):=by go_simp
   have g8:(((W4.setCell ⟨w.heap.size,0,none⟩ (.slice Av v.length cv)).setCell ⟨w.heap.size+1,0,none⟩ (.int .i64 (q:Int))).setCell ⟨w.heap.size+1+1,0,none⟩ (.int .i64 0)).drew.cell? ⟨w.heap.size+1+1,0,none⟩=some (.int .i64 0):=by go_simp
   have b7:=(((bS.setCell (p:=⟨w.heap.size,0,none⟩) (Nat.le_refl _) (.slice Av v.length cv)).setCell (p:=⟨w.heap.size+1,0,none⟩) (show _≤w.heap.size+1 by omega) (.int .i64 (q:Int))).setCell (p:=⟨w.heap.size+1+1,0,none⟩) (show _≤w.heap.size+1+1 by omega) (.int .i64 0)).drew
   have vg0:W4.grownBy (W4.setCell ⟨w.heap.size,0,none⟩ (.slice Av v.length cv)) (some w.heap.size):=aO ⟨rfl,rfl,rfl,Nat.le_refl _,fun _ _ _=>rfl⟩
   have vg1:(W4.setCell ⟨w.heap.size,0,none⟩ (.slice Av v.length cv)).grownBy ((W4.setCell ⟨w.heap.size,0,none⟩ (.slice Av v.length cv)).setCell ⟨w.heap.size+1,0,none⟩ (.int .i64 (q:Int))) (some (w.heap.size+1)):=aO ⟨rfl,rfl,rfl,Nat.le_refl _,fun _ _ _=>rfl⟩
   have vg2:((W4.setCell ⟨w.heap.size,0,none⟩ (.slice Av v.length cv)).setCell ⟨w.heap.size+1,0,none⟩ (.int .i64 (q:Int))).grownBy (((W4.setCell ⟨w.heap.size,0,none⟩ (.slice Av v.length cv)).setCell ⟨w.heap.size+1,0,none⟩ (.int .i64 (q:Int))).setCell ⟨w.heap.size+1+1,0,none⟩ (.int .i64 0)) (some (w.heap.size+1+1)):=aO ⟨rfl,rfl,rfl,Nat.le_refl _,fun _ _ _=>rfl⟩
   have hO:=(((hO.kept vg0 (by omega)).kept vg1 (by omega)).kept vg2 (by omega)).dr
   clear vg0 vg1 vg2
   generalize (((W4.setCell ⟨w.heap.size,0,none⟩ (.slice Av v.length cv)).setCell ⟨w.heap.size+1,0,none⟩ (.int .i64 (q:Int))).setCell ⟨w.heap.size+1+1,0,none⟩ (.int .i64 0)).drew=W7 at*
   refine leaves_cons (f:=174) (args:= #[.pointer (some ⟨w.heap.size,0,none⟩),.pointer (some ⟨w.heap.size+1,0,none⟩),.pointer (some ⟨w.heap.size+1+1,0,none⟩)]) (by simp) (by simp [go_sem]) ?_
   refine (wV _ _ _ W7).mono ?_
   rintro e u' w'' ⟨rfl,rfl,rfl⟩
   refine eQ rfl (fB rfl rfl rfl rfl (aG (hap _) g6) (aG (hag _) g7) (aG (hae _) g8)) ?_
   refine ⟨?_,b7⟩
   rw [hx]
   exact ⟨_,rfl,Av,cv,rfl,hO.weak (by omega)⟩
theorem sE (A:Option Addr) (n c:Nat) (k:Int) (L:List UInt8) (S:Nat→Prop) (w:World) (hb:Bytes S w (.slice A n c) L) (hn:n≤100000000):
 Calls Tryz.prog 88 #[.slice A n c,.int .i64 k] w fun e w' =>jM (fM eJ L k) (.slice none 0 0) (fun a w' v=>∃A c,v= .slice A a.length c∧PgsOwn w.heap.size w' v a) e w'∧Below w.heap.size w w' :=by
 go_enter Tryz.func88,Tryz.ntmps88
 go_wp2_with fail
 refine (AM A n c k L S w hb hn).mono ?_
 rintro e w1 ⟨h1,hb1⟩
 unfold jM at h1
 cases hx:fM eJ L k with
 |error x=>
  rw [hx] at h1
  subst h1
  go_wp2
  refine bodyPost_ret (results_tmp3 rfl _ _ _) rfl ?_
  rw [hx]
  exact ⟨rfl,hb1⟩
 |ok vq=>
  obtain ⟨v,q⟩:=vq
  rw [hx] at h1
  obtain ⟨u,rfl,hV⟩:=h1
  go_wp2
  refine bodyPost_ret (results_tmp3 rfl _ _ _) rfl ?_
  rw [hx]
  exact ⟨⟨_,rfl,hV⟩,hb1⟩
end Go.Proofs.YtiblijmngokcgaaGreatDoor
namespace Go.Proofs.YtiblijmngokcgaaGreatDoor
open Go.RowKit
set_option maxRecDepth 100000
set_option linter.unusedVariables false
set_option maxHeartbeats 1000000 in
theorem sD (A:Option Addr) (n c:Nat) (k:Int) (L:List UInt8) (S:Nat→Prop) (w:World) (hb:Bytes S w (.slice A n c) L) (hn:n≤100000000):
 Calls Tryz.prog 91 #[.slice A n c,.int .i64 k] w fun e w' =>jM (fM eH L k) (.agg #[Value.slice none 0 0,Value.slice none 0 0,Value.slice none 0 0,Value.slice none 0 0]) (fun a w' v=>StO w' w.heap.size v a) e w'∧Below w.heap.size w w' :=by
 obtain ⟨W,hW⟩:∃W,W=w.alloc (.cells #[Value.slice none 0 0,Value.slice none 0 0,Value.slice none 0 0,Value.slice none 0 0] 51):=⟨_,rfl⟩
 have hbW:Below w.heap.size w W:=by rw [hW];exact (Below.refl _ _).alloc (Nat.le_refl _) _
 have r0:W.heap[w.heap.size]? =some (.cells #[Value.slice none 0 0,Value.slice none 0 0,Value.slice none 0 0,Value.slice none 0 0] 51 (0,0)):=by rw [hW];exact heap_alloc_new _ _
 have hsW:W.heap.size=w.heap.size+1:=by rw [hW];simp
 go_enter Tryz.func91,Tryz.ntmps91
 go_wp2_with fail
 rw [←hW]
 clear hW
 refine (AL A n c k L S W (hb.ext hbW) hn).mono ?_
 rintro e w1 ⟨h1,hb1⟩
 have R1:=Lib.hid ((hb1.block w.heap.size (by omega)).trans r0)
 have b1:=Below.ext hbW hb1
 clear r0 hb1
 unfold jM at h1
 cases hx:fM eH L k with
 |error x=>
  rw [hx] at h1
  subst h1
  go_wp2_with (refine aC rfl 51 _ _ rfl w.heap.size 51 _ _ rfl rfl R1.out (by kernel_rfl) rfl (by simp [Value.oneCell']) ?_)
  refine bodyPost_ret (pJ rfl rfl (aB (setRow_heap _ _ _ _ _ _ R1.out) Tryz.underlying51 rfl (by kernel_rfl))) rfl ?_
  rw [hx]
  exact ⟨rfl,Below.setRow b1 (Nat.le_refl _) _⟩
 |ok vq=>
  obtain ⟨v,q⟩:=vq
  rw [hx] at h1
  obtain ⟨u,rfl,hV⟩:=h1
  obtain ⟨A1,c1,A2,c2,A3,c3,A4,c4,rfl,hO1,hO2,hO3,hO4⟩:=hV
  have hg:w1.grownBy (w1.setRow w.heap.size #[Value.slice A1 v.cells.length c1,Value.slice A2 v.evs.length c2,Value.slice A3 v.sent.length c3,Value.slice A4 v.outs.length c4]) (some w.heap.size):=aJ _ _ _
  have hO1:=hO1.kept_lt hg (by omega)
  have hO2:=hO2.kept_lt hg (by omega)
  have hO3:=hO3.kept_lt hg (by omega)
  have hO4:=hO4.kept_lt hg (by omega)
  go_wp2_with (refine aC rfl 51 _ _ rfl w.heap.size 51 _ _ rfl rfl R1.out (by kernel_rfl) rfl (by simp [Value.oneCell']) ?_)
  refine bodyPost_ret (pJ rfl rfl (aB (setRow_heap _ _ _ _ _ _ R1.out) Tryz.underlying51 rfl (by kernel_rfl))) rfl ?_
  rw [hx]
  exact ⟨⟨_,rfl,A1,c1,A2,c2,A3,c3,A4,c4,rfl,hO1.weak (by omega),hO2.weak (by omega),hO3.weak (by omega),hO4.weak (by omega)⟩,Below.setRow b1 (Nat.le_refl _) _⟩
end Go.Proofs.YtiblijmngokcgaaGreatDoor
