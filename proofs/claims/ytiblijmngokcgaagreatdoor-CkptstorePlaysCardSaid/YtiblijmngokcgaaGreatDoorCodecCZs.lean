import Derived.Test.YtiblijmngokcgaaGreatDoorCodecBZs
set_option linter.unusedVariables false
set_option maxHeartbeats 4000000
set_option maxRecDepth 100000
namespace Go.Proofs.YtiblijmngokcgaaGreatDoor
open Go.Proofs.Tryz
open Go.RowKit
theorem KO (B r p:Nat) (L:List UInt8) (w:World) (h:om B w r L p):
 Calls Tryz.prog 183 #[.pointer (some ⟨r,0,none⟩)] w λe w' =>aZ B r L w (eC L p) (λa _ v=>v=ouV a) e w' :=by
 obtain ⟨W0,hW,ky⟩:=RB.new (T:=129) (c2:= #[Value.int .i64 0,Value.int .i64 0]) (c3:= #[Value.int .i64 0,Value.int .i64 0]) h;go_enter func183,ntmps183;go_wp2_with fail;rw [<-hW];clear hW;refine (dH B r p L W0 ky.rd).mono ?_;intro e w1 h1;unfold aZ at h1;cases ev:aQ L p with
 |error k=>
  rw [ev] at h1;obtain ⟨rfl,hg⟩:=h1;have ja:=bD ky.gr hg;have a9:eC L p= .error k:=by unfold eC;rw [cV ev]
  clear ky;exact Tza4
 |ok vq=>
  obtain ⟨v1,q1⟩:=vq;rw [ev] at h1;obtain ⟨⟨_,rfl,rfl⟩,hR,hg⟩:=h1;have hJ:=ky.call hR hg;have hc:=hJ.cell 0 (v:= .int .i64 0) rfl;have hf:=hJ.frz 0;have mv:RB B r L 129 #[Value.int .i64 0,Value.int .i64 0] w (w1.setCell ⟨w.heap.size+1,0,none⟩ (.int .i64 v1)) q1 #[Value.int .i64 v1,Value.int .i64 0]:=hJ.set 0 (.int .i64 v1);clear hJ ky hg hR;go_wp2_with fail;clear hc hf;generalize w1.setCell ⟨w.heap.size+1,0,none⟩ (.int .i64 v1)=W1 at*;refine (dH B r q1 L W1 mv.rd).mono ?_;intro e w2 h2;unfold aZ at h2;cases ew:aQ L q1 with
  |error k=>
   rw [ew] at h2;obtain ⟨rfl,hg⟩:=h2;have ja:=bD mv.gr hg;have a9:eC L p= .error k:=by unfold eC;rw [aY ev,cV ew]
   clear mv;exact Tza4
  |ok vq=>
   obtain ⟨v2,q2⟩:=vq;rw [ew] at h2;obtain ⟨⟨_,rfl,rfl⟩,hR,hg⟩:=h2;have hJ:=mv.call hR hg;have hc:=hJ.cell 1 (v:= .int .i64 0) rfl;have hf:=hJ.frz 1;have jy:RB B r L 129 #[Value.int .i64 0,Value.int .i64 0] w (w2.setCell ⟨w.heap.size+1,1,none⟩ (.int .i64 v2)) q2 #[Value.int .i64 v1,Value.int .i64 v2]:=hJ.set 1 (.int .i64 v2);clear hJ mv hg hR;have a9:eC L p= .ok (⟨v1,v2⟩,q2):=by unfold eC;rw [aY ev,aY ew]
   have k0:(w2.setCell ⟨w.heap.size+1,1,none⟩ (.int .i64 v2)).cell? ⟨w.heap.size+1,0,none⟩=some (.int .i64 v1):=jy.cell 0 rfl
   have k1:(w2.setCell ⟨w.heap.size+1,1,none⟩ (.int .i64 v2)).cell? ⟨w.heap.size+1,1,none⟩=some (.int .i64 v2):=jy.cell 1 rfl
   have H2:=aA jy.b2;have HI:=aA jy;clear jy;exact Tzdb
theorem GF (B r p:Nat) (L:List UInt8) (w:World) (h:om B w r L p):
 Calls Tryz.prog 181 #[.pointer (some ⟨r,0,none⟩)] w λe w' =>aZ B r L w (dO L p) (λa _ v=>v=snV a) e w' :=by
 obtain ⟨W0,hW,ky⟩:=RB.new (T:=127) (c2:= #[Value.int .i64 0,Value.int .i64 0,Value.int .i64 0,Value.int .i64 0]) (c3:= #[Value.int .i64 0,Value.int .i64 0,Value.int .i64 0,Value.int .i64 0]) h;go_enter func181,ntmps181;go_wp2_with fail;rw [<-hW];clear hW;refine (dH B r p L W0 ky.rd).mono ?_;intro e w1 h1;unfold aZ at h1;cases ev:aQ L p with
 |error k=>
  rw [ev] at h1;obtain ⟨rfl,hg⟩:=h1;have ja:=bD ky.gr hg;have a9:dO L p= .error k:=by unfold dO;rw [cV ev]
  clear ky;exact Tza4
 |ok vq=>
  obtain ⟨v1,q1⟩:=vq;rw [ev] at h1;obtain ⟨⟨_,rfl,rfl⟩,hR,hg⟩:=h1;have hJ:=ky.call hR hg;have hc:=hJ.cell 0 (v:= .int .i64 0) rfl;have hf:=hJ.frz 0;have mv:RB B r L 127 #[Value.int .i64 0,Value.int .i64 0,Value.int .i64 0,Value.int .i64 0] w (w1.setCell ⟨w.heap.size+1,0,none⟩ (.int .i64 v1)) q1 #[Value.int .i64 v1,Value.int .i64 0,Value.int .i64 0,Value.int .i64 0]:=hJ.set 0 (.int .i64 v1);clear hJ ky hg hR;go_wp2_with fail;clear hc hf;generalize w1.setCell ⟨w.heap.size+1,0,none⟩ (.int .i64 v1)=W1 at*;refine (dH B r q1 L W1 mv.rd).mono ?_;intro e w2 h2;unfold aZ at h2;cases ew:aQ L q1 with
  |error k=>
   rw [ew] at h2;obtain ⟨rfl,hg⟩:=h2;have ja:=bD mv.gr hg;have a9:dO L p= .error k:=by unfold dO;rw [aY ev,cV ew]
   clear mv;exact Tza4
  |ok vq=>
   obtain ⟨v2,q2⟩:=vq;rw [ew] at h2;obtain ⟨⟨_,rfl,rfl⟩,hR,hg⟩:=h2;have hJ:=mv.call hR hg;have hc:=hJ.cell 1 (v:= .int .i64 0) rfl;have hf:=hJ.frz 1;have jy:RB B r L 127 #[Value.int .i64 0,Value.int .i64 0,Value.int .i64 0,Value.int .i64 0] w (w2.setCell ⟨w.heap.size+1,1,none⟩ (.int .i64 v2)) q2 #[Value.int .i64 v1,Value.int .i64 v2,Value.int .i64 0,Value.int .i64 0]:=hJ.set 1 (.int .i64 v2);clear hJ mv hg hR;go_wp2_with fail;clear hc hf;generalize w2.setCell ⟨w.heap.size+1,1,none⟩ (.int .i64 v2)=W2 at*;refine (dH B r q2 L W2 jy.rd).mono ?_;intro e w3 h3;unfold aZ at h3;cases rh:aQ L q2 with
   |error k=>
    rw [rh] at h3;obtain ⟨rfl,hg⟩:=h3;have ja:=bD jy.gr hg;have a9:dO L p= .error k:=by unfold dO;rw [aY ev,aY ew,cV rh]
    clear jy;exact Tza4
   |ok vq=>
    obtain ⟨v3,q3⟩:=vq;rw [rh] at h3;obtain ⟨⟨_,rfl,rfl⟩,hR,hg⟩:=h3;have hJ:=jy.call hR hg;have hc:=hJ.cell 2 (v:= .int .i64 0) rfl;have hf:=hJ.frz 2;have uf:RB B r L 127 #[Value.int .i64 0,Value.int .i64 0,Value.int .i64 0,Value.int .i64 0] w (w3.setCell ⟨w.heap.size+1,2,none⟩ (.int .i64 v3)) q3 #[Value.int .i64 v1,Value.int .i64 v2,Value.int .i64 v3,Value.int .i64 0]:=hJ.set 2 (.int .i64 v3);clear hJ jy hg hR;go_wp2_with fail;clear hc hf;generalize w3.setCell ⟨w.heap.size+1,2,none⟩ (.int .i64 v3)=W3 at*;refine (dH B r q3 L W3 uf.rd).mono ?_;intro e w4 h4;unfold aZ at h4;cases Cr:aQ L q3 with
    |error k=>
     rw [Cr] at h4;obtain ⟨rfl,hg⟩:=h4;have ja:=bD uf.gr hg;have a9:dO L p= .error k:=by unfold dO;rw [aY ev,aY ew,aY rh,cV Cr]
     clear uf;exact Tza4
    |ok vq=>
     obtain ⟨v4,q4⟩:=vq;rw [Cr] at h4;obtain ⟨⟨_,rfl,rfl⟩,hR,hg⟩:=h4;have hJ:=uf.call hR hg;have hc:=hJ.cell 3 (v:= .int .i64 0) rfl;have hf:=hJ.frz 3;have ue:RB B r L 127 #[Value.int .i64 0,Value.int .i64 0,Value.int .i64 0,Value.int .i64 0] w (w4.setCell ⟨w.heap.size+1,3,none⟩ (.int .i64 v4)) q4 #[Value.int .i64 v1,Value.int .i64 v2,Value.int .i64 v3,Value.int .i64 v4]:=hJ.set 3 (.int .i64 v4);clear hJ uf hg hR;have a9:dO L p= .ok (⟨v1,v2,v3,v4⟩,q4):=by unfold dO;rw [aY ev,aY ew,aY rh,aY Cr]
     have k0:(w4.setCell ⟨w.heap.size+1,3,none⟩ (.int .i64 v4)).cell? ⟨w.heap.size+1,0,none⟩=some (.int .i64 v1):=ue.cell 0 rfl
     have k1:(w4.setCell ⟨w.heap.size+1,3,none⟩ (.int .i64 v4)).cell? ⟨w.heap.size+1,1,none⟩=some (.int .i64 v2):=ue.cell 1 rfl
     have k2:(w4.setCell ⟨w.heap.size+1,3,none⟩ (.int .i64 v4)).cell? ⟨w.heap.size+1,2,none⟩=some (.int .i64 v3):=ue.cell 2 rfl
     have k3:(w4.setCell ⟨w.heap.size+1,3,none⟩ (.int .i64 v4)).cell? ⟨w.heap.size+1,3,none⟩=some (.int .i64 v4):=ue.cell 3 rfl
     have H2:=aA ue.b2;have HI:=aA ue;clear ue;exact Tzdb
theorem EE (B r p:Nat) (L:List UInt8) (w:World) (h:om B w r L p):
 Calls Tryz.prog 140 #[.pointer (some ⟨r,0,none⟩)] w λe w' =>aZ B r L w (cU L p) (λa _ v=>v=N9 a) e w' :=by
 obtain ⟨W0,hW,ky⟩:=RB.new (T:=78) (c2:= #[Value.int .i64 0,Value.int .i64 0,Value.int .i64 0,Value.int .i64 0,Value.int .i64 0,Value.int .i64 0,Value.int .i64 0]) (c3:= #[Value.int .i64 0,Value.int .i64 0,Value.int .i64 0,Value.int .i64 0,Value.int .i64 0,Value.int .i64 0,Value.int .i64 0]) h;go_enter func140,ntmps140;go_wp2_with fail;rw [<-hW];clear hW;refine (dH B r p L W0 ky.rd).mono ?_;intro e w1 h1;unfold aZ at h1;cases ev:aQ L p with
 |error k=>
  rw [ev] at h1;obtain ⟨rfl,hg⟩:=h1;have ja:=bD ky.gr hg;have a9:cU L p= .error k:=by unfold cU;rw [cV ev]
  clear ky;exact Tza4
 |ok vq=>
  obtain ⟨v1,q1⟩:=vq;rw [ev] at h1;obtain ⟨⟨_,rfl,rfl⟩,hR,hg⟩:=h1;have hJ:=ky.call hR hg;have hc:=hJ.cell 0 (v:= .int .i64 0) rfl;have hf:=hJ.frz 0;have mv:RB B r L 78 #[Value.int .i64 0,Value.int .i64 0,Value.int .i64 0,Value.int .i64 0,Value.int .i64 0,Value.int .i64 0,Value.int .i64 0] w (w1.setCell ⟨w.heap.size+1,0,none⟩ (.int .i64 v1)) q1 #[Value.int .i64 v1,Value.int .i64 0,Value.int .i64 0,Value.int .i64 0,Value.int .i64 0,Value.int .i64 0,Value.int .i64 0]:=hJ.set 0 (.int .i64 v1);clear hJ ky hg hR;go_wp2_with fail;clear hc hf;generalize w1.setCell ⟨w.heap.size+1,0,none⟩ (.int .i64 v1)=W1 at*;refine (dH B r q1 L W1 mv.rd).mono ?_;intro e w2 h2;unfold aZ at h2;cases ew:aQ L q1 with
  |error k=>
   rw [ew] at h2;obtain ⟨rfl,hg⟩:=h2;have ja:=bD mv.gr hg;have a9:cU L p= .error k:=by unfold cU;rw [aY ev,cV ew]
   clear mv;exact Tza4
  |ok vq=>
   obtain ⟨v2,q2⟩:=vq;rw [ew] at h2;obtain ⟨⟨_,rfl,rfl⟩,hR,hg⟩:=h2;have hJ:=mv.call hR hg;have hc:=hJ.cell 1 (v:= .int .i64 0) rfl;have hf:=hJ.frz 1;have jy:RB B r L 78 #[Value.int .i64 0,Value.int .i64 0,Value.int .i64 0,Value.int .i64 0,Value.int .i64 0,Value.int .i64 0,Value.int .i64 0] w (w2.setCell ⟨w.heap.size+1,1,none⟩ (.int .i64 v2)) q2 #[Value.int .i64 v1,Value.int .i64 v2,Value.int .i64 0,Value.int .i64 0,Value.int .i64 0,Value.int .i64 0,Value.int .i64 0]:=hJ.set 1 (.int .i64 v2);clear hJ mv hg hR;go_wp2_with fail;clear hc hf;generalize w2.setCell ⟨w.heap.size+1,1,none⟩ (.int .i64 v2)=W2 at*;refine (dH B r q2 L W2 jy.rd).mono ?_;intro e w3 h3;unfold aZ at h3;cases rh:aQ L q2 with
   |error k=>
    rw [rh] at h3;obtain ⟨rfl,hg⟩:=h3;have ja:=bD jy.gr hg;have a9:cU L p= .error k:=by unfold cU;rw [aY ev,aY ew,cV rh]
    clear jy;exact Tza4
   |ok vq=>
    obtain ⟨v3,q3⟩:=vq;rw [rh] at h3;obtain ⟨⟨_,rfl,rfl⟩,hR,hg⟩:=h3;have hJ:=jy.call hR hg;have hc:=hJ.cell 2 (v:= .int .i64 0) rfl;have hf:=hJ.frz 2;have uf:RB B r L 78 #[Value.int .i64 0,Value.int .i64 0,Value.int .i64 0,Value.int .i64 0,Value.int .i64 0,Value.int .i64 0,Value.int .i64 0] w (w3.setCell ⟨w.heap.size+1,2,none⟩ (.int .i64 v3)) q3 #[Value.int .i64 v1,Value.int .i64 v2,Value.int .i64 v3,Value.int .i64 0,Value.int .i64 0,Value.int .i64 0,Value.int .i64 0]:=hJ.set 2 (.int .i64 v3);clear hJ jy hg hR;go_wp2_with fail;clear hc hf;generalize w3.setCell ⟨w.heap.size+1,2,none⟩ (.int .i64 v3)=W3 at*;refine (dH B r q3 L W3 uf.rd).mono ?_;intro e w4 h4;unfold aZ at h4;cases Cr:aQ L q3 with
    |error k=>
     rw [Cr] at h4;obtain ⟨rfl,hg⟩:=h4;have ja:=bD uf.gr hg;have a9:cU L p= .error k:=by unfold cU;rw [aY ev,aY ew,aY rh,cV Cr]
     clear uf;exact Tza4
    |ok vq=>
     obtain ⟨v4,q4⟩:=vq;rw [Cr] at h4;obtain ⟨⟨_,rfl,rfl⟩,hR,hg⟩:=h4;have hJ:=uf.call hR hg;have hc:=hJ.cell 3 (v:= .int .i64 0) rfl;have hf:=hJ.frz 3;have ue:RB B r L 78 #[Value.int .i64 0,Value.int .i64 0,Value.int .i64 0,Value.int .i64 0,Value.int .i64 0,Value.int .i64 0,Value.int .i64 0] w (w4.setCell ⟨w.heap.size+1,3,none⟩ (.int .i64 v4)) q4 #[Value.int .i64 v1,Value.int .i64 v2,Value.int .i64 v3,Value.int .i64 v4,Value.int .i64 0,Value.int .i64 0,Value.int .i64 0]:=hJ.set 3 (.int .i64 v4);clear hJ uf hg hR;go_wp2_with fail;clear hc hf;generalize w4.setCell ⟨w.heap.size+1,3,none⟩ (.int .i64 v4)=W4 at*;refine (dH B r q4 L W4 ue.rd).mono ?_;intro e w5 h5;unfold aZ at h5;cases TS:aQ L q4 with
     |error k=>
      rw [TS] at h5;obtain ⟨rfl,hg⟩:=h5;have ja:=bD ue.gr hg;have a9:cU L p= .error k:=by unfold cU;rw [aY ev,aY ew,aY rh,aY Cr,cV TS]
      clear ue;exact Tza4
     |ok vq=>
      obtain ⟨v5,q5⟩:=vq;rw [TS] at h5;obtain ⟨⟨_,rfl,rfl⟩,hR,hg⟩:=h5;have hJ:=ue.call hR hg;have hc:=hJ.cell 4 (v:= .int .i64 0) rfl;have hf:=hJ.frz 4;have Uz:RB B r L 78 #[Value.int .i64 0,Value.int .i64 0,Value.int .i64 0,Value.int .i64 0,Value.int .i64 0,Value.int .i64 0,Value.int .i64 0] w (w5.setCell ⟨w.heap.size+1,4,none⟩ (.int .i64 v5)) q5 #[Value.int .i64 v1,Value.int .i64 v2,Value.int .i64 v3,Value.int .i64 v4,Value.int .i64 v5,Value.int .i64 0,Value.int .i64 0]:=hJ.set 4 (.int .i64 v5);clear hJ ue hg hR;go_wp2_with fail;clear hc hf;generalize w5.setCell ⟨w.heap.size+1,4,none⟩ (.int .i64 v5)=W5 at*;refine (dH B r q5 L W5 Uz.rd).mono ?_;intro e w6 h6;unfold aZ at h6;cases Rv:aQ L q5 with
      |error k=>
       rw [Rv] at h6;obtain ⟨rfl,hg⟩:=h6;have ja:=bD Uz.gr hg;have a9:cU L p= .error k:=by unfold cU;rw [aY ev,aY ew,aY rh,aY Cr,aY TS,cV Rv]
       clear Uz;exact Tza4
      |ok vq=>
       obtain ⟨v6,q6⟩:=vq;rw [Rv] at h6;obtain ⟨⟨_,rfl,rfl⟩,hR,hg⟩:=h6;have hJ:=Uz.call hR hg;have hc:=hJ.cell 5 (v:= .int .i64 0) rfl;have hf:=hJ.frz 5;have Uy:RB B r L 78 #[Value.int .i64 0,Value.int .i64 0,Value.int .i64 0,Value.int .i64 0,Value.int .i64 0,Value.int .i64 0,Value.int .i64 0] w (w6.setCell ⟨w.heap.size+1,5,none⟩ (.int .i64 v6)) q6 #[Value.int .i64 v1,Value.int .i64 v2,Value.int .i64 v3,Value.int .i64 v4,Value.int .i64 v5,Value.int .i64 v6,Value.int .i64 0]:=hJ.set 5 (.int .i64 v6);clear hJ Uz hg hR;go_wp2_with fail;clear hc hf;generalize w6.setCell ⟨w.heap.size+1,5,none⟩ (.int .i64 v6)=W6 at*;refine (dH B r q6 L W6 Uy.rd).mono ?_;intro e w7 h7;unfold aZ at h7;cases Zn:aQ L q6 with
       |error k=>
        rw [Zn] at h7;obtain ⟨rfl,hg⟩:=h7;have ja:=bD Uy.gr hg;have a9:cU L p= .error k:=by unfold cU;rw [aY ev,aY ew,aY rh,aY Cr,aY TS,aY Rv,cV Zn]
        clear Uy;exact Tza4
       |ok vq=>
        obtain ⟨v7,q7⟩:=vq;rw [Zn] at h7;obtain ⟨⟨_,rfl,rfl⟩,hR,hg⟩:=h7;have hJ:=Uy.call hR hg;have hc:=hJ.cell 6 (v:= .int .i64 0) rfl;have hf:=hJ.frz 6;have zm:RB B r L 78 #[Value.int .i64 0,Value.int .i64 0,Value.int .i64 0,Value.int .i64 0,Value.int .i64 0,Value.int .i64 0,Value.int .i64 0] w (w7.setCell ⟨w.heap.size+1,6,none⟩ (.int .i64 v7)) q7 #[Value.int .i64 v1,Value.int .i64 v2,Value.int .i64 v3,Value.int .i64 v4,Value.int .i64 v5,Value.int .i64 v6,Value.int .i64 v7]:=hJ.set 6 (.int .i64 v7);clear hJ Uy hg hR;have a9:cU L p= .ok (⟨v1,v2,v3,v4,v5,v6,v7⟩,q7):=by unfold cU;rw [aY ev,aY ew,aY rh,aY Cr,aY TS,aY Rv,aY Zn]
        have k0:(w7.setCell ⟨w.heap.size+1,6,none⟩ (.int .i64 v7)).cell? ⟨w.heap.size+1,0,none⟩=some (.int .i64 v1):=zm.cell 0 rfl
        have k1:(w7.setCell ⟨w.heap.size+1,6,none⟩ (.int .i64 v7)).cell? ⟨w.heap.size+1,1,none⟩=some (.int .i64 v2):=zm.cell 1 rfl
        have k2:(w7.setCell ⟨w.heap.size+1,6,none⟩ (.int .i64 v7)).cell? ⟨w.heap.size+1,2,none⟩=some (.int .i64 v3):=zm.cell 2 rfl
        have k3:(w7.setCell ⟨w.heap.size+1,6,none⟩ (.int .i64 v7)).cell? ⟨w.heap.size+1,3,none⟩=some (.int .i64 v4):=zm.cell 3 rfl
        have k4:(w7.setCell ⟨w.heap.size+1,6,none⟩ (.int .i64 v7)).cell? ⟨w.heap.size+1,4,none⟩=some (.int .i64 v5):=zm.cell 4 rfl
        have k5:(w7.setCell ⟨w.heap.size+1,6,none⟩ (.int .i64 v7)).cell? ⟨w.heap.size+1,5,none⟩=some (.int .i64 v6):=zm.cell 5 rfl
        have k6:(w7.setCell ⟨w.heap.size+1,6,none⟩ (.int .i64 v7)).cell? ⟨w.heap.size+1,6,none⟩=some (.int .i64 v7):=zm.cell 6 rfl
        have H2:=aA zm.b2;have HI:=aA zm;clear zm;exact Tzdb
theorem kL {a b c:World} {g:Nat} {row:Option Nat} (h:a.grownBy b (some g)) (k:b.grownBy c row) (hr:∀m,row=some m->a.heap.size<=m∨m=g):a.grownBy c (some g):=
 ⟨k.os.trans h.os,k.tape.trans h.tape,k.output.trans h.output,Nat.le_trans h.size k.size,λi hi fb=>(k.block i (Nat.lt_of_lt_of_le hi h.size) (λe=>by
  rcases hr i e.symm with h' |h'
  ·omega
  ·exact fb (by rw [h']))).trans (h.block i hi fb)⟩
theorem kN {a b:World} (h:Below a.heap.size a b) (row:Option Nat):a.grownBy b row:=⟨h.os,h.tape,h.output,h.size,λi hi _=>h.block i hi⟩
theorem a8.kept_lt {α:Type} {enc:α->List Value} {k:Nat} {w w' :World} {base g:Nat} {e:TypeId} {v:Value} {l:List α} (h:a8 enc k w base e v l) (hg:w.grownBy w' (some g)) (af:g<base):a8 enc k w' base e v l:=by
 refine h.kept hg ?_;rcases Option.eq_none_or_eq_some v.ownBlock with h0|⟨m,h0⟩
 ·exact .inl h0
 ·refine .inr (λe=> ?_);rw [h0] at e;cases e;have:=(World.ownsRow.lt h _ h0).1;omega
theorem iA (x:Ev):∀u∈cH x,u.oneCell' =true:=by
 intro u hu;simp [cH] at hu;rcases hu with rfl|rfl|rfl|rfl|rfl|rfl|rfl<;>rfl
theorem iP (x:n7):∀u∈cW x,u.oneCell' =true:=by
 intro u hu;simp [cW] at hu;rcases hu with rfl|rfl|rfl|rfl<;>rfl
theorem iQ (x:Ou):∀u∈cX x,u.oneCell' =true:=by
 intro u hu;simp [cX] at hu;rcases hu with rfl|rfl<;>rfl
theorem AK:(Tryz.prog.info? 3).map (λi=>(i.zero,i.size,i.bytes))=some (some (.int .i64 0),1,8):=by kernel_rfl
theorem xI (B r p:Nat) (L:List UInt8) (w:World) (h:om B w r L p):
 Calls Tryz.prog 178 #[.pointer (some ⟨r,0,none⟩),.func (.func 138) #[] #[]] w λe w' =>aZ B r L w (bF (aQ L) L p) (λa w' v=>∃A c,v= .slice A a.length c/\a8 bB 1 w' w.heap.size 3 v a) e w' :=by
 have af:=h.lt;go_enter func178,ntmps178;go_wp2_with fail;refine (dH B r p L w h).mono ?_;intro e w1 h1;unfold aZ at h1;cases hx:aQ L p with
 |error k=>
  rw [hx] at h1;obtain ⟨rfl,hg⟩:=h1;have a9:bF (aQ L) L p= .error k:=by unfold bF;rw [cV hx]
  exact Tzdh
 |ok vq=>
  obtain ⟨n,q⟩:=vq;rw [hx] at h1;obtain ⟨⟨_,rfl,rfl⟩,o9,fj⟩:=h1;have HR:=aA o9;obtain ⟨hB,A,c,az,dy,hq,hL⟩:=o9;have h0:=bn az;have h1:=fi az;clear az dy h;by_cases zj:n<0
  ·have d0:decide (n<0)=true:=by simp;omega
   have a9:bF (aQ L) L p= .error 9:=fL hx (.inl zj);exact Tzcb
  ·have d0:decide (n<0)=false:=by simp;omega
   by_cases vi:(L.length:Int)-(q:Int)<n
   ·have d1:decide ((L.length:Int)-(q:Int)<n)=true:=by simp;omega
    have a9:bF (aQ L) L p= .error 9:=fL hx (.inr vi);exact Tzbf
   ·have d1:decide ((L.length:Int)-(q:Int)<n)=false:=by simp;omega
    obtain ⟨m,rfl⟩:∃m:Nat,n=(m:Int):=⟨n.toNat,by omega⟩
    have je:bF (aQ L) L p=_:=iM hx vi;have HS:=aA je;have hm:m<=1000000000:=by omega
    clear je;go_wp2_with fail;refine Tyad ?_;go_wp2_with fail;refine Tyaj ?_;go_wp2_with fail;refine Tyam ?_;go_wp2_with fail;go_wp2;go_loopw [6,28] (λv i wr=>∃(k q' :Nat) (A' :Option Addr) (c' :Nat) (acc:List (Int)),i= .int .i64 k/\v= .slice A' k c'/\k<=m/\a8 bB 1 wr w.heap.size 3 (.slice A' k c') acc/\om B wr r L q'/\w.grownBy wr (some r)/\bF (aQ L) L p=ft (bI (aQ L) (m-k) q') (λl Dq => .ok (acc++l,Dq))) (λ_ i _=>m-(intOf i).toNat);case atStart=>exact ⟨0,q,none,0,[],rfl,rfl,by omega,a8.nil_ _ _ _,HR.out.drew,aU fj,HS.out⟩
    case round=>
     clear HR fj HS h0 h1;obtain ⟨k,q',A',c',acc,rfl,rfl,hk,aj,hR,hg,heq⟩:=hrel;have HE:=aA heq;clear heq;by_cases eu:k<m
     ·have dk:decide ((k:Int)<(m:Int))=true:=by simp;omega
      have dk' :decide (k<m)=true:=by simp;omega
      obtain ⟨j,hj⟩:∃j,m-k=j+1:=⟨m-k-1,by omega⟩
      go_wp2_with fail;refine (dH B r q' L wr hR).mono ?_;intro e w2 h2;unfold aZ at h2;cases hy:aQ L q' with
      |error x=>
       rw [hy] at h2;obtain ⟨rfl,da⟩:=h2;have a9:bF (aQ L) L p= .error x:=by rw [HE.out,hj];exact mU hy
       exact Tzcq
      |ok aq=>
       obtain ⟨a,q2⟩:=aq;rw [hy] at h2;obtain ⟨⟨_,rfl,hv⟩,sf,da⟩:=h2;subst hv;have cn:bF (aQ L) L p=ft (bI (aQ L) (m-(k+1)) q2) (λl Dq => .ok ((acc++ [a])++l,Dq)):=by rw [HE.out,hj,lI hy,show m-(k+1)=j by omega]
       have lf:=aA cn;have dh:=aj.kept_lt da af;have dd:=dh.len;have xu:=aA dd.1;have sz:=hg.size;have WT:=da.size;have ha:Below w2.heap.size w2 (w2.alloc (.cells #[.int .i64 a] 3)):=(Below.refl _ _).alloc (Nat.le_refl _) _;have ax:a7 bB (λ_=>True) (w2.alloc (.cells #[.int .i64 a] 3)) (.slice (some ⟨w2.heap.size,0,none⟩) 1 1) [a]:=⟨_,1,rfl,by simp,by simp [maxLen],Cs.lit _ _ _ _ _ trivial rfl⟩
       clear cn aj;go_wp2_with (refine aJ (o:=⟨some 35,_,_,_,_,_⟩) cD gK (.int .i64 0) 8 _ _ 23 3 w.heap.size acc [a] (some ⟨w2.heap.size,0,none⟩) 1 1 (.slice A' k c') (k+1) rfl rfl underlying23 AK rfl (by omega) rfl rfl (dh.ext ha) ax (by rw [xu.out]) (by have:=xu.out;omega) (by have:=xu.out;omega) (by simp;omega) ?_;intro A9 c9 w9 ao ai ck gq gp)
       exact Tza8
     ·obtain rfl:k=m:=by omega
      have dk:decide ((k:Int)<(k:Int))=false:=by simp
      have a9:bF (aQ L) L p= .ok (acc,q'):=by rw [HE.out,Nat.sub_self];show Except.ok (acc++ [],q')=_;rw [List.append_nil]
      exact Tzb5
theorem rX:(Tryz.prog.info? 78).map (λi=>(i.zero,i.size,i.bytes))=some (some (.agg #[.int .i64 0,.int .i64 0,.int .i64 0,.int .i64 0,.int .i64 0,.int .i64 0,.int .i64 0]),7,56):=by kernel_rfl
theorem IW (B r p:Nat) (L:List UInt8) (w:World) (h:om B w r L p):
 Calls Tryz.prog 179 #[.pointer (some ⟨r,0,none⟩),.func (.func 140) #[] #[]] w λe w' =>aZ B r L w (bF (cU L) L p) (λa w' v=>∃A c,v= .slice A a.length c/\a8 cH 7 w' w.heap.size 78 v a) e w' :=by
 have af:=h.lt;go_enter func179,ntmps179;go_wp2_with fail;refine (dH B r p L w h).mono ?_;intro e w1 h1;unfold aZ at h1;cases hx:aQ L p with
 |error k=>
  rw [hx] at h1;obtain ⟨rfl,hg⟩:=h1;have a9:bF (cU L) L p= .error k:=by unfold bF;rw [cV hx]
  exact Tzdh
 |ok vq=>
  obtain ⟨n,q⟩:=vq;rw [hx] at h1;obtain ⟨⟨_,rfl,rfl⟩,o9,fj⟩:=h1;have HR:=aA o9;obtain ⟨hB,A,c,az,dy,hq,hL⟩:=o9;have h0:=bn az;have h1:=fi az;clear az dy h;by_cases zj:n<0
  ·have d0:decide (n<0)=true:=by simp;omega
   have a9:bF (cU L) L p= .error 9:=fL hx (.inl zj);exact Tzcb
  ·have d0:decide (n<0)=false:=by simp;omega
   by_cases vi:(L.length:Int)-(q:Int)<n
   ·have d1:decide ((L.length:Int)-(q:Int)<n)=true:=by simp;omega
    have a9:bF (cU L) L p= .error 9:=fL hx (.inr vi);exact Tzbf
   ·have d1:decide ((L.length:Int)-(q:Int)<n)=false:=by simp;omega
    obtain ⟨m,rfl⟩:∃m:Nat,n=(m:Int):=⟨n.toNat,by omega⟩
    have je:bF (cU L) L p=_:=iM hx vi;have HS:=aA je;have hm:m<=1000000000:=by omega
    clear je;go_wp2_with fail;refine Tyad ?_;go_wp2_with fail;refine Tyaj ?_;go_wp2_with fail;refine Tyam ?_;go_wp2_with fail;go_wp2;go_loopw [6,28] (λv i wr=>∃(k q' :Nat) (A' :Option Addr) (c' :Nat) (acc:List (Ev)),i= .int .i64 k/\v= .slice A' k c'/\k<=m/\a8 cH 7 wr w.heap.size 78 (.slice A' k c') acc/\om B wr r L q'/\w.grownBy wr (some r)/\bF (cU L) L p=ft (bI (cU L) (m-k) q') (λl Dq => .ok (acc++l,Dq))) (λ_ i _=>m-(intOf i).toNat);case atStart=>exact ⟨0,q,none,0,[],rfl,rfl,by omega,a8.nil_ _ _ _,HR.out.drew,aU fj,HS.out⟩
    case round=>
     clear HR fj HS h0 h1;obtain ⟨k,q',A',c',acc,rfl,rfl,hk,aj,hR,hg,heq⟩:=hrel;have HE:=aA heq;clear heq;by_cases eu:k<m
     ·have dk:decide ((k:Int)<(m:Int))=true:=by simp;omega
      have dk' :decide (k<m)=true:=by simp;omega
      obtain ⟨j,hj⟩:∃j,m-k=j+1:=⟨m-k-1,by omega⟩
      go_wp2_with fail;refine (EE B r q' L wr hR).mono ?_;intro e w2 h2;unfold aZ at h2;cases hy:cU L q' with
      |error x=>
       rw [hy] at h2;obtain ⟨rfl,da⟩:=h2;have a9:bF (cU L) L p= .error x:=by rw [HE.out,hj];exact mU hy
       exact Tzcq
      |ok aq=>
       obtain ⟨a,q2⟩:=aq;rw [hy] at h2;obtain ⟨⟨_,rfl,hv⟩,sf,da⟩:=h2;unfold N9 at hv;subst hv;have cn:bF (cU L) L p=ft (bI (cU L) (m-(k+1)) q2) (λl Dq => .ok ((acc++ [a])++l,Dq)):=by rw [HE.out,hj,lI hy,show m-(k+1)=j by omega]
       have lf:=aA cn;have dh:=aj.kept_lt da af;have dd:=dh.len;have xu:=aA dd.1;have sz:=hg.size;have WT:=da.size;have ha:Below w2.heap.size w2 (w2.alloc (.cells #[.int .i64 a.k0,.int .i64 a.k1,.int .i64 a.k2,.int .i64 a.k3,.int .i64 a.k4,.int .i64 a.k5,.int .i64 a.k6] 78)):=(Below.refl _ _).alloc (Nat.le_refl _) _;have ax:a7 cH (λ_=>True) (w2.alloc (.cells #[.int .i64 a.k0,.int .i64 a.k1,.int .i64 a.k2,.int .i64 a.k3,.int .i64 a.k4,.int .i64 a.k5,.int .i64 a.k6] 78)) (.slice (some ⟨w2.heap.size,0,none⟩) 1 1) [a]:=⟨_,1,rfl,by simp,by simp [maxLen],Cs.lit _ _ _ _ _ trivial rfl⟩
       clear cn aj;go_wp2_with (refine aJ (o:=⟨some 35,_,_,_,_,_⟩) cN iA (.agg #[.int .i64 0,.int .i64 0,.int .i64 0,.int .i64 0,.int .i64 0,.int .i64 0,.int .i64 0]) 56 _ _ 30 78 w.heap.size acc [a] (some ⟨w2.heap.size,0,none⟩) 1 1 (.slice A' k c') (k+1) rfl rfl underlying30 rX rfl (by omega) rfl rfl (dh.ext ha) ax (by rw [xu.out]) (by have:=xu.out;omega) (by have:=xu.out;omega) (by simp;omega) ?_;intro A9 c9 w9 ao ai ck gq gp)
       exact Tza8
     ·obtain rfl:k=m:=by omega
      have dk:decide ((k:Int)<(k:Int))=false:=by simp
      have a9:bF (cU L) L p= .ok (acc,q'):=by rw [HE.out,Nat.sub_self];show Except.ok (acc++ [],q')=_;rw [List.append_nil]
      exact Tzb5
theorem rS:(Tryz.prog.info? 127).map (λi=>(i.zero,i.size,i.bytes))=some (some (.agg #[.int .i64 0,.int .i64 0,.int .i64 0,.int .i64 0]),4,32):=by kernel_rfl
theorem IT (B r p:Nat) (L:List UInt8) (w:World) (h:om B w r L p):
 Calls Tryz.prog 180 #[.pointer (some ⟨r,0,none⟩),.func (.func 181) #[] #[]] w λe w' =>aZ B r L w (bF (dO L) L p) (λa w' v=>∃A c,v= .slice A a.length c/\a8 cW 4 w' w.heap.size 127 v a) e w' :=by
 have af:=h.lt;go_enter func180,ntmps180;go_wp2_with fail;refine (dH B r p L w h).mono ?_;intro e w1 h1;unfold aZ at h1;cases hx:aQ L p with
 |error k=>
  rw [hx] at h1;obtain ⟨rfl,hg⟩:=h1;have a9:bF (dO L) L p= .error k:=by unfold bF;rw [cV hx]
  exact Tzdh
 |ok vq=>
  obtain ⟨n,q⟩:=vq;rw [hx] at h1;obtain ⟨⟨_,rfl,rfl⟩,o9,fj⟩:=h1;have HR:=aA o9;obtain ⟨hB,A,c,az,dy,hq,hL⟩:=o9;have h0:=bn az;have h1:=fi az;clear az dy h;by_cases zj:n<0
  ·have d0:decide (n<0)=true:=by simp;omega
   have a9:bF (dO L) L p= .error 9:=fL hx (.inl zj);exact Tzcb
  ·have d0:decide (n<0)=false:=by simp;omega
   by_cases vi:(L.length:Int)-(q:Int)<n
   ·have d1:decide ((L.length:Int)-(q:Int)<n)=true:=by simp;omega
    have a9:bF (dO L) L p= .error 9:=fL hx (.inr vi);exact Tzbf
   ·have d1:decide ((L.length:Int)-(q:Int)<n)=false:=by simp;omega
    obtain ⟨m,rfl⟩:∃m:Nat,n=(m:Int):=⟨n.toNat,by omega⟩
    have je:bF (dO L) L p=_:=iM hx vi;have HS:=aA je;have hm:m<=1000000000:=by omega
    clear je;go_wp2_with fail;refine Tyad ?_;go_wp2_with fail;refine Tyaj ?_;go_wp2_with fail;refine Tyam ?_;go_wp2_with fail;go_wp2;go_loopw [6,28] (λv i wr=>∃(k q' :Nat) (A' :Option Addr) (c' :Nat) (acc:List (n7)),i= .int .i64 k/\v= .slice A' k c'/\k<=m/\a8 cW 4 wr w.heap.size 127 (.slice A' k c') acc/\om B wr r L q'/\w.grownBy wr (some r)/\bF (dO L) L p=ft (bI (dO L) (m-k) q') (λl Dq => .ok (acc++l,Dq))) (λ_ i _=>m-(intOf i).toNat);case atStart=>exact ⟨0,q,none,0,[],rfl,rfl,by omega,a8.nil_ _ _ _,HR.out.drew,aU fj,HS.out⟩
    case round=>
     clear HR fj HS h0 h1;obtain ⟨k,q',A',c',acc,rfl,rfl,hk,aj,hR,hg,heq⟩:=hrel;have HE:=aA heq;clear heq;by_cases eu:k<m
     ·have dk:decide ((k:Int)<(m:Int))=true:=by simp;omega
      have dk' :decide (k<m)=true:=by simp;omega
      obtain ⟨j,hj⟩:∃j,m-k=j+1:=⟨m-k-1,by omega⟩
      go_wp2_with fail;refine (GF B r q' L wr hR).mono ?_;intro e w2 h2;unfold aZ at h2;cases hy:dO L q' with
      |error x=>
       rw [hy] at h2;obtain ⟨rfl,da⟩:=h2;have a9:bF (dO L) L p= .error x:=by rw [HE.out,hj];exact mU hy
       exact Tzcq
      |ok aq=>
       obtain ⟨a,q2⟩:=aq;rw [hy] at h2;obtain ⟨⟨_,rfl,hv⟩,sf,da⟩:=h2;unfold snV at hv;subst hv;have cn:bF (dO L) L p=ft (bI (dO L) (m-(k+1)) q2) (λl Dq => .ok ((acc++ [a])++l,Dq)):=by rw [HE.out,hj,lI hy,show m-(k+1)=j by omega]
       have lf:=aA cn;have dh:=aj.kept_lt da af;have dd:=dh.len;have xu:=aA dd.1;have sz:=hg.size;have WT:=da.size;have ha:Below w2.heap.size w2 (w2.alloc (.cells #[.int .i64 a.a,.int .i64 a.b,.int .i64 a.c,.int .i64 a.d] 127)):=(Below.refl _ _).alloc (Nat.le_refl _) _;have ax:a7 cW (λ_=>True) (w2.alloc (.cells #[.int .i64 a.a,.int .i64 a.b,.int .i64 a.c,.int .i64 a.d] 127)) (.slice (some ⟨w2.heap.size,0,none⟩) 1 1) [a]:=⟨_,1,rfl,by simp,by simp [maxLen],Cs.lit _ _ _ _ _ trivial rfl⟩
       clear cn aj;go_wp2_with (refine aJ (o:=⟨some 35,_,_,_,_,_⟩) cZ iP (.agg #[.int .i64 0,.int .i64 0,.int .i64 0,.int .i64 0]) 32 _ _ 48 127 w.heap.size acc [a] (some ⟨w2.heap.size,0,none⟩) 1 1 (.slice A' k c') (k+1) rfl rfl underlying48 rS rfl (by omega) rfl rfl (dh.ext ha) ax (by rw [xu.out]) (by have:=xu.out;omega) (by have:=xu.out;omega) (by simp;omega) ?_;intro A9 c9 w9 ao ai ck gq gp)
       exact Tza8
     ·obtain rfl:k=m:=by omega
      have dk:decide ((k:Int)<(k:Int))=false:=by simp
      have a9:bF (dO L) L p= .ok (acc,q'):=by rw [HE.out,Nat.sub_self];show Except.ok (acc++ [],q')=_;rw [List.append_nil]
      exact Tzb5
theorem rV:(Tryz.prog.info? 129).map (λi=>(i.zero,i.size,i.bytes))=some (some (.agg #[.int .i64 0,.int .i64 0]),2,16):=by kernel_rfl
theorem IV (B r p:Nat) (L:List UInt8) (w:World) (h:om B w r L p):
 Calls Tryz.prog 182 #[.pointer (some ⟨r,0,none⟩),.func (.func 183) #[] #[]] w λe w' =>aZ B r L w (bF (eC L) L p) (λa w' v=>∃A c,v= .slice A a.length c/\a8 cX 2 w' w.heap.size 129 v a) e w' :=by
 have af:=h.lt;go_enter func182,ntmps182;go_wp2_with fail;refine (dH B r p L w h).mono ?_;intro e w1 h1;unfold aZ at h1;cases hx:aQ L p with
 |error k=>
  rw [hx] at h1;obtain ⟨rfl,hg⟩:=h1;have a9:bF (eC L) L p= .error k:=by unfold bF;rw [cV hx]
  exact Tzdh
 |ok vq=>
  obtain ⟨n,q⟩:=vq;rw [hx] at h1;obtain ⟨⟨_,rfl,rfl⟩,o9,fj⟩:=h1;have HR:=aA o9;obtain ⟨hB,A,c,az,dy,hq,hL⟩:=o9;have h0:=bn az;have h1:=fi az;clear az dy h;by_cases zj:n<0
  ·have d0:decide (n<0)=true:=by simp;omega
   have a9:bF (eC L) L p= .error 9:=fL hx (.inl zj);exact Tzcb
  ·have d0:decide (n<0)=false:=by simp;omega
   by_cases vi:(L.length:Int)-(q:Int)<n
   ·have d1:decide ((L.length:Int)-(q:Int)<n)=true:=by simp;omega
    have a9:bF (eC L) L p= .error 9:=fL hx (.inr vi);exact Tzbf
   ·have d1:decide ((L.length:Int)-(q:Int)<n)=false:=by simp;omega
    obtain ⟨m,rfl⟩:∃m:Nat,n=(m:Int):=⟨n.toNat,by omega⟩
    have je:bF (eC L) L p=_:=iM hx vi;have HS:=aA je;have hm:m<=1000000000:=by omega
    clear je;go_wp2_with fail;refine Tyad ?_;go_wp2_with fail;refine Tyaj ?_;go_wp2_with fail;refine Tyam ?_;go_wp2_with fail;go_wp2;go_loopw [6,28] (λv i wr=>∃(k q' :Nat) (A' :Option Addr) (c' :Nat) (acc:List (Ou)),i= .int .i64 k/\v= .slice A' k c'/\k<=m/\a8 cX 2 wr w.heap.size 129 (.slice A' k c') acc/\om B wr r L q'/\w.grownBy wr (some r)/\bF (eC L) L p=ft (bI (eC L) (m-k) q') (λl Dq => .ok (acc++l,Dq))) (λ_ i _=>m-(intOf i).toNat);case atStart=>exact ⟨0,q,none,0,[],rfl,rfl,by omega,a8.nil_ _ _ _,HR.out.drew,aU fj,HS.out⟩
    case round=>
     clear HR fj HS h0 h1;obtain ⟨k,q',A',c',acc,rfl,rfl,hk,aj,hR,hg,heq⟩:=hrel;have HE:=aA heq;clear heq;by_cases eu:k<m
     ·have dk:decide ((k:Int)<(m:Int))=true:=by simp;omega
      have dk' :decide (k<m)=true:=by simp;omega
      obtain ⟨j,hj⟩:∃j,m-k=j+1:=⟨m-k-1,by omega⟩
      go_wp2_with fail;refine (KO B r q' L wr hR).mono ?_;intro e w2 h2;unfold aZ at h2;cases hy:eC L q' with
      |error x=>
       rw [hy] at h2;obtain ⟨rfl,da⟩:=h2;have a9:bF (eC L) L p= .error x:=by rw [HE.out,hj];exact mU hy
       exact Tzcq
      |ok aq=>
       obtain ⟨a,q2⟩:=aq;rw [hy] at h2;obtain ⟨⟨_,rfl,hv⟩,sf,da⟩:=h2;unfold ouV at hv;subst hv;have cn:bF (eC L) L p=ft (bI (eC L) (m-(k+1)) q2) (λl Dq => .ok ((acc++ [a])++l,Dq)):=by rw [HE.out,hj,lI hy,show m-(k+1)=j by omega]
       have lf:=aA cn;have dh:=aj.kept_lt da af;have dd:=dh.len;have xu:=aA dd.1;have sz:=hg.size;have WT:=da.size;have ha:Below w2.heap.size w2 (w2.alloc (.cells #[.int .i64 a.a,.int .i64 a.b] 129)):=(Below.refl _ _).alloc (Nat.le_refl _) _;have ax:a7 cX (λ_=>True) (w2.alloc (.cells #[.int .i64 a.a,.int .i64 a.b] 129)) (.slice (some ⟨w2.heap.size,0,none⟩) 1 1) [a]:=⟨_,1,rfl,by simp,by simp [maxLen],Cs.lit _ _ _ _ _ trivial rfl⟩
       clear cn aj;go_wp2_with (refine aJ (o:=⟨some 35,_,_,_,_,_⟩) dA iQ (.agg #[.int .i64 0,.int .i64 0]) 16 _ _ 49 129 w.heap.size acc [a] (some ⟨w2.heap.size,0,none⟩) 1 1 (.slice A' k c') (k+1) rfl rfl underlying49 rV rfl (by omega) rfl rfl (dh.ext ha) ax (by rw [xu.out]) (by have:=xu.out;omega) (by have:=xu.out;omega) (by simp;omega) ?_;intro A9 c9 w9 ao ai ck gq gp)
       exact Tza8
     ·obtain rfl:k=m:=by omega
      have dk:decide ((k:Int)<(k:Int))=false:=by simp
      have a9:bF (eC L) L p= .ok (acc,q'):=by rw [HE.out,Nat.sub_self];show Except.ok (acc++ [],q')=_;rw [List.append_nil]
      exact Tzb5
structure Stop (p:Prop):Prop where
 out:p
theorem eY {P:Program} {ops:Array Oper} {Q:Exit->Act->World->Prop} {rest:List Oper} {o:Oper} {a:Act} {w:World} (d:Nat) (hd:o.dst=some d) (h:Stop (wpList P ops Q (o::rest) a w)):wpList P ops Q (o::rest) a w:=h.out
theorem GH (B r p:Nat) (L:List UInt8) (w:World) (h:om B w r L p):
 Calls Tryz.prog 176 #[.pointer (some ⟨r,0,none⟩)] w λe w' =>aZ B r L w (eJ L p) (λa w' v=>∃A c,v= .agg #[.int .i64 a.num,.slice A a.cells.length c]/\a8 bB 1 w' w.heap.size 3 (.slice A a.cells.length c) a.cells) e w' :=by
 have af:=h.lt;obtain ⟨W0,hW,ky⟩:=RB.new (T:=163) (c2:= #[Value.int .i64 0,Value.slice none 0 0]) (c3:= #[Value.int .i64 0,Value.slice none 0 0]) h;go_enter func176,ntmps176;go_wp2_with fail;rw [<-hW];clear hW;refine (dH B r p L W0 ky.rd).mono ?_;intro e w1 h1;unfold aZ at h1;cases ev:aQ L p with
 |error k=>
  rw [ev] at h1;obtain ⟨rfl,hg⟩:=h1;have ja:=bD ky.gr hg;have a9:eJ L p= .error k:=by unfold eJ;rw [cV ev]
  clear ky;exact Tza4
 |ok vq=>
  obtain ⟨v1,q1⟩:=vq;rw [ev] at h1;obtain ⟨⟨_,rfl,rfl⟩,hR,hg⟩:=h1;have iz:=ky.sz;have hJ:=ky.call hR hg;have hc:=hJ.cell 0 (v:= .int .i64 0) rfl;have hf:=hJ.frz 0;have ie:w1.grownBy (w1.setCell ⟨w.heap.size+1,0,none⟩ (.int .i64 v1)) (some (w.heap.size+1)):=aL ⟨rfl,rfl,rfl,Nat.le_refl _,λ_ _ _=>rfl⟩;have mv:RB B r L 163 #[Value.int .i64 0,Value.slice none 0 0] w (w1.setCell ⟨w.heap.size+1,0,none⟩ (.int .i64 v1)) q1 #[Value.int .i64 v1,Value.slice none 0 0]:=hJ.set 0 (.int .i64 v1);clear hJ ky hg hR ie;go_wp2_with fail;clear hc hf;generalize w1.setCell ⟨w.heap.size+1,0,none⟩ (.int .i64 v1)=W1 at*;refine (xI B r q1 L W1 mv.rd).mono ?_;intro e w2 h2;unfold aZ at h2;cases ew:bF (aQ L) L q1 with
  |error k=>
   rw [ew] at h2;obtain ⟨rfl,hg⟩:=h2;have ja:=bD mv.gr hg;have a9:eJ L p= .error k:=by unfold eJ;rw [aY ev,cV ew]
   clear mv;exact Tza4
  |ok vq=>
   obtain ⟨v2,q2⟩:=vq;rw [ew] at h2;obtain ⟨⟨_,rfl,A2,c2,rfl,dw⟩,hR,hg⟩:=h2;have Ds:=mv.sz;have dw:a8 bB 1 w2 (w.heap.size+2) 3 (.slice A2 v2.length c2) v2:=dw.weak (by omega);have hJ:=mv.call hR hg;have hc:=hJ.cell 1 (v:= .slice none 0 0) rfl;have hf:=hJ.frz 1;have ie:w2.grownBy (w2.setCell ⟨w.heap.size+1,1,none⟩ (.slice A2 v2.length c2)) (some (w.heap.size+1)):=aL ⟨rfl,rfl,rfl,Nat.le_refl _,λ_ _ _=>rfl⟩;have dw:=dw.kept_lt ie (by omega);have jy:RB B r L 163 #[Value.int .i64 0,Value.slice none 0 0] w (w2.setCell ⟨w.heap.size+1,1,none⟩ (.slice A2 v2.length c2)) q2 #[Value.int .i64 v1,Value.slice A2 v2.length c2]:=hJ.set 1 (.slice A2 v2.length c2);clear hJ mv hg hR ie;have a9:eJ L p= .ok (⟨v1,v2⟩,q2):=by unfold eJ;rw [aY ev,aY ew]
   have VT:(w2.setCell ⟨w.heap.size+1,1,none⟩ (.slice A2 v2.length c2)).grownBy ((w2.setCell ⟨w.heap.size+1,1,none⟩ (.slice A2 v2.length c2)).setRow w.heap.size #[Value.int .i64 v1,Value.slice A2 v2.length c2]) (some w.heap.size):=aC _ _ _;have dw:=dw.kept_lt VT (by omega);have k0:(w2.setCell ⟨w.heap.size+1,1,none⟩ (.slice A2 v2.length c2)).cell? ⟨w.heap.size+1,0,none⟩=some (Value.int .i64 v1):=jy.cell 0 rfl
   have k1:(w2.setCell ⟨w.heap.size+1,1,none⟩ (.slice A2 v2.length c2)).cell? ⟨w.heap.size+1,1,none⟩=some (Value.slice A2 v2.length c2):=jy.cell 1 rfl
   have H2:=aA jy.b2;have HI:=aA jy;clear jy VT;go_wp2_with (refine sR H2 ?_)
   refine rC H2 ?_;unfold aZ;rw [a9];exact ⟨⟨_,rfl,A2,c2,rfl,dw.weak (by omega)⟩,HI.out.end_ _⟩
def StO (w:World) (base:Nat) (v:Value) (s:bj):Prop:=∃A1 c1 A2 c2 A3 c3 A4 c4,v= .agg #[.slice A1 s.cells.length c1,.slice A2 s.evs.length c2,.slice A3 s.sent.length c3,.slice A4 s.outs.length c4]/\a8 bB 1 w base 3 (.slice A1 s.cells.length c1) s.cells/\a8 cH 7 w base 78 (.slice A2 s.evs.length c2) s.evs/\a8 cW 4 w base 127 (.slice A3 s.sent.length c3) s.sent/\a8 cX 2 w base 129 (.slice A4 s.outs.length c4) s.outs
theorem EC (B r p:Nat) (L:List UInt8) (w:World) (h:om B w r L p):
 Calls Tryz.prog 151 #[.pointer (some ⟨r,0,none⟩)] w λe w' =>aZ B r L w (eN L p) (λa w' v=>StO w' w.heap.size v a) e w' :=by
 have af:=h.lt;obtain ⟨W0,hW,ky⟩:=RB.new (T:=51) (c2:= #[Value.slice none 0 0,Value.slice none 0 0,Value.slice none 0 0,Value.slice none 0 0]) (c3:= #[Value.slice none 0 0,Value.slice none 0 0,Value.slice none 0 0,Value.slice none 0 0]) h;go_enter func151,ntmps151;go_wp2_with fail;rw [<-hW];clear hW;refine (xI B r p L W0 ky.rd).mono ?_;intro e w1 h1;unfold aZ at h1;cases ev:bF (aQ L) L p with
 |error k=>
  rw [ev] at h1;obtain ⟨rfl,hg⟩:=h1;have ja:=bD ky.gr hg;have a9:eN L p= .error k:=by unfold eN;rw [cV ev]
  clear ky;exact Tza4
 |ok vq=>
  obtain ⟨v1,q1⟩:=vq;rw [ev] at h1;obtain ⟨⟨_,rfl,A1,c1,rfl,lv⟩,hR,hg⟩:=h1;have iz:=ky.sz;have lv:a8 bB 1 w1 (w.heap.size+2) 3 (.slice A1 v1.length c1) v1:=lv.weak (by omega);have hJ:=ky.call hR hg;have hc:=hJ.cell 0 (v:= .slice none 0 0) rfl;have hf:=hJ.frz 0;have ie:w1.grownBy (w1.setCell ⟨w.heap.size+1,0,none⟩ (.slice A1 v1.length c1)) (some (w.heap.size+1)):=aL ⟨rfl,rfl,rfl,Nat.le_refl _,λ_ _ _=>rfl⟩;have lv:=lv.kept_lt ie (by omega);have mv:RB B r L 51 #[Value.slice none 0 0,Value.slice none 0 0,Value.slice none 0 0,Value.slice none 0 0] w (w1.setCell ⟨w.heap.size+1,0,none⟩ (.slice A1 v1.length c1)) q1 #[Value.slice A1 v1.length c1,Value.slice none 0 0,Value.slice none 0 0,Value.slice none 0 0]:=hJ.set 0 (.slice A1 v1.length c1);clear hJ ky hg hR ie;go_wp2_with fail;clear hc hf;generalize w1.setCell ⟨w.heap.size+1,0,none⟩ (.slice A1 v1.length c1)=W1 at*;refine (IW B r q1 L W1 mv.rd).mono ?_;intro e w2 h2;unfold aZ at h2;cases ew:bF (cU L) L q1 with
  |error k=>
   rw [ew] at h2;obtain ⟨rfl,hg⟩:=h2;have ja:=bD mv.gr hg;have a9:eN L p= .error k:=by unfold eN;rw [aY ev,cV ew]
   clear mv;exact Tza4
  |ok vq=>
   obtain ⟨v2,q2⟩:=vq;rw [ew] at h2;obtain ⟨⟨_,rfl,A2,c2,rfl,dw⟩,hR,hg⟩:=h2;have Ds:=mv.sz;have lv:=lv.kept_lt hg (by omega);have dw:a8 cH 7 w2 (w.heap.size+2) 78 (.slice A2 v2.length c2) v2:=dw.weak (by omega);have hJ:=mv.call hR hg;have hc:=hJ.cell 1 (v:= .slice none 0 0) rfl;have hf:=hJ.frz 1;have ie:w2.grownBy (w2.setCell ⟨w.heap.size+1,1,none⟩ (.slice A2 v2.length c2)) (some (w.heap.size+1)):=aL ⟨rfl,rfl,rfl,Nat.le_refl _,λ_ _ _=>rfl⟩;have lv:=lv.kept_lt ie (by omega);have dw:=dw.kept_lt ie (by omega);have jy:RB B r L 51 #[Value.slice none 0 0,Value.slice none 0 0,Value.slice none 0 0,Value.slice none 0 0] w (w2.setCell ⟨w.heap.size+1,1,none⟩ (.slice A2 v2.length c2)) q2 #[Value.slice A1 v1.length c1,Value.slice A2 v2.length c2,Value.slice none 0 0,Value.slice none 0 0]:=hJ.set 1 (.slice A2 v2.length c2);clear hJ mv hg hR ie;go_wp2_with fail;clear hc hf;generalize w2.setCell ⟨w.heap.size+1,1,none⟩ (.slice A2 v2.length c2)=W2 at*;refine (IT B r q2 L W2 jy.rd).mono ?_;intro e w3 h3;unfold aZ at h3;cases rh:bF (dO L) L q2 with
   |error k=>
    rw [rh] at h3;obtain ⟨rfl,hg⟩:=h3;have ja:=bD jy.gr hg;have a9:eN L p= .error k:=by unfold eN;rw [aY ev,aY ew,cV rh]
    clear jy;exact Tza4
   |ok vq=>
    obtain ⟨v3,q3⟩:=vq;rw [rh] at h3;obtain ⟨⟨_,rfl,A3,c3,rfl,gg⟩,hR,hg⟩:=h3;have Aj:=jy.sz;have lv:=lv.kept_lt hg (by omega);have dw:=dw.kept_lt hg (by omega);have gg:a8 cW 4 w3 (w.heap.size+2) 127 (.slice A3 v3.length c3) v3:=gg.weak (by omega);have hJ:=jy.call hR hg;have hc:=hJ.cell 2 (v:= .slice none 0 0) rfl;have hf:=hJ.frz 2;have ie:w3.grownBy (w3.setCell ⟨w.heap.size+1,2,none⟩ (.slice A3 v3.length c3)) (some (w.heap.size+1)):=aL ⟨rfl,rfl,rfl,Nat.le_refl _,λ_ _ _=>rfl⟩;have lv:=lv.kept_lt ie (by omega);have dw:=dw.kept_lt ie (by omega);have gg:=gg.kept_lt ie (by omega);have uf:RB B r L 51 #[Value.slice none 0 0,Value.slice none 0 0,Value.slice none 0 0,Value.slice none 0 0] w (w3.setCell ⟨w.heap.size+1,2,none⟩ (.slice A3 v3.length c3)) q3 #[Value.slice A1 v1.length c1,Value.slice A2 v2.length c2,Value.slice A3 v3.length c3,Value.slice none 0 0]:=hJ.set 2 (.slice A3 v3.length c3);clear hJ jy hg hR ie;go_wp2_with fail;clear hc hf;generalize w3.setCell ⟨w.heap.size+1,2,none⟩ (.slice A3 v3.length c3)=W3 at*;refine (IV B r q3 L W3 uf.rd).mono ?_;intro e w4 h4;unfold aZ at h4;cases Cr:bF (eC L) L q3 with
    |error k=>
     rw [Cr] at h4;obtain ⟨rfl,hg⟩:=h4;have ja:=bD uf.gr hg;have a9:eN L p= .error k:=by unfold eN;rw [aY ev,aY ew,aY rh,cV Cr]
     clear uf;exact Tza4
    |ok vq=>
     obtain ⟨v4,q4⟩:=vq;rw [Cr] at h4;obtain ⟨⟨_,rfl,A4,c4,rfl,jq⟩,hR,hg⟩:=h4;have Io:=uf.sz;have lv:=lv.kept_lt hg (by omega);have dw:=dw.kept_lt hg (by omega);have gg:=gg.kept_lt hg (by omega);have jq:a8 cX 2 w4 (w.heap.size+2) 129 (.slice A4 v4.length c4) v4:=jq.weak (by omega);have hJ:=uf.call hR hg;have hc:=hJ.cell 3 (v:= .slice none 0 0) rfl;have hf:=hJ.frz 3;have ie:w4.grownBy (w4.setCell ⟨w.heap.size+1,3,none⟩ (.slice A4 v4.length c4)) (some (w.heap.size+1)):=aL ⟨rfl,rfl,rfl,Nat.le_refl _,λ_ _ _=>rfl⟩;have lv:=lv.kept_lt ie (by omega);have dw:=dw.kept_lt ie (by omega);have gg:=gg.kept_lt ie (by omega);have jq:=jq.kept_lt ie (by omega);have ue:RB B r L 51 #[Value.slice none 0 0,Value.slice none 0 0,Value.slice none 0 0,Value.slice none 0 0] w (w4.setCell ⟨w.heap.size+1,3,none⟩ (.slice A4 v4.length c4)) q4 #[Value.slice A1 v1.length c1,Value.slice A2 v2.length c2,Value.slice A3 v3.length c3,Value.slice A4 v4.length c4]:=hJ.set 3 (.slice A4 v4.length c4);clear hJ uf hg hR ie;have a9:eN L p= .ok (⟨v1,v2,v3,v4⟩,q4):=by unfold eN;rw [aY ev,aY ew,aY rh,aY Cr]
     have VT:(w4.setCell ⟨w.heap.size+1,3,none⟩ (.slice A4 v4.length c4)).grownBy ((w4.setCell ⟨w.heap.size+1,3,none⟩ (.slice A4 v4.length c4)).setRow w.heap.size #[Value.slice A1 v1.length c1,Value.slice A2 v2.length c2,Value.slice A3 v3.length c3,Value.slice A4 v4.length c4]) (some w.heap.size):=aC _ _ _;have lv:=lv.kept_lt VT (by omega);have dw:=dw.kept_lt VT (by omega);have gg:=gg.kept_lt VT (by omega);have jq:=jq.kept_lt VT (by omega);have k0:(w4.setCell ⟨w.heap.size+1,3,none⟩ (.slice A4 v4.length c4)).cell? ⟨w.heap.size+1,0,none⟩=some (Value.slice A1 v1.length c1):=ue.cell 0 rfl
     have k1:(w4.setCell ⟨w.heap.size+1,3,none⟩ (.slice A4 v4.length c4)).cell? ⟨w.heap.size+1,1,none⟩=some (Value.slice A2 v2.length c2):=ue.cell 1 rfl
     have k2:(w4.setCell ⟨w.heap.size+1,3,none⟩ (.slice A4 v4.length c4)).cell? ⟨w.heap.size+1,2,none⟩=some (Value.slice A3 v3.length c3):=ue.cell 2 rfl
     have k3:(w4.setCell ⟨w.heap.size+1,3,none⟩ (.slice A4 v4.length c4)).cell? ⟨w.heap.size+1,3,none⟩=some (Value.slice A4 v4.length c4):=ue.cell 3 rfl
     have H2:=aA ue.b2;have HI:=aA ue;clear ue VT;go_wp2_with (refine sR H2 ?_)
     refine rC H2 ?_;unfold aZ;rw [a9];exact ⟨⟨_,rfl,A1,c1,A2,c2,A3,c3,A4,c4,rfl,lv.weak (by omega),dw.weak (by omega),gg.weak (by omega),jq.weak (by omega)⟩,HI.out.end_ _⟩
theorem lE (x:Ix):∀u∈iJ x,u.oneCell' =true:=by
 intro u hu;simp [iJ] at hu;rcases hu with rfl|rfl<;>rfl
def cg (base:Nat) (w:World) (v:Value) (ts:List Pg):Prop:=∃xs,a8 iJ 2 w base 163 v xs/\xs.length=ts.length/\∀(i:Nat) (x:Ix) (t:Pg),xs[i]? =some x->ts[i]? =some t->x.num=t.num/\a7 bB (λb=>base<=b/\v.ownBlock≠some b) w (.slice x.A x.n x.c) t.cells
theorem cg.nil_ (base:Nat) (w:World):cg base w (.slice none 0 0) []:=⟨[],a8.nil_ _ _ _,rfl,λi x t hx=>by simp at hx⟩
theorem cg.pgs {base:Nat} {w:World} {v:Value} {ts:List Pg} (h:cg base w v ts):Dg (base<=·) w v ts:=by
 obtain ⟨xs,h1,h2,h3⟩:=h;exact ⟨xs,h1.recs.mono (λ_ _ h=>h.1),h2,λi x t hx ht=>⟨(h3 i x t hx ht).1,(h3 i x t hx ht).2.mono (λ_ _ h=>h.1)⟩⟩
theorem cg.len {base:Nat} {w:World} {A:Option Addr} {n c:Nat} {ts:List Pg} (h:cg base w (.slice A n c) ts):ts.length=n/\n<=c/\c<=9223372036854775807:=h.pgs.len
theorem cg.kept {base g:Nat} {w w' :World} {v:Value} {ts:List Pg} (h:cg base w v ts) (hg:w.grownBy w' (some g)) (af:g<base):cg base w' v ts:=by
 obtain ⟨xs,h1,h2,h3⟩:=h;refine ⟨xs,h1.kept hg ?_,h2,λi x t hx ht=>⟨(h3 i x t hx ht).1,(h3 i x t hx ht).2.keep (λb hb hs=>hg.block b hb (λe=>by cases e;omega))⟩⟩;exact Tzeg
theorem vP {base:Nat} {w w' :World} {v v' :Value} {u:Value} {l:List Int} (h:a7 bB (λb=>base<=b/\v.ownBlock≠some b) w u l) (hg:w.grownBy w' v.ownBlock) (jx:v'.ownBlock=v.ownBlock∨v'.ownBlock=some w.heap.size):
 a7 bB (λb=>base<=b/\v'.ownBlock≠some b) w' u l:=by
 have h1:a7 bB (λb=>base<=b/\v.ownBlock≠some b/\b<w.heap.size) w u l:=h.mono (λb hb hs=>⟨hs.1,hs.2,hb⟩);exact Tzd1
theorem cg.push {base:Nat} {w w' :World} {v v' :Value} {ts:List Pg} {xs:List Ix} (hx:xs.length=ts.length/\∀(i:Nat) (x:Ix) (t:Pg),xs[i]? =some x->ts[i]? =some t->x.num=t.num/\a7 bB (λb=>base<=b/\v.ownBlock≠some b) w (.slice x.A x.n x.c) t.cells)
 (x:Ix) (t:Pg) (h1:x.num=t.num) (h2:a7 bB (λb=>base<=b/\v.ownBlock≠some b) w (.slice x.A x.n x.c) t.cells) (aj:a8 iJ 2 w' base 163 v' (xs++ [x])) (hg:w.grownBy w' v.ownBlock) (jx:v'.ownBlock=v.ownBlock∨v'.ownBlock=some w.heap.size):cg base w' v' (ts++ [t]):=by
 refine ⟨_,aj,by simp [hx.1],λi x' t' o6 Ec => ?_⟩;rcases Nat.lt_or_ge i xs.length with hi|hi
 ·rw [List.getElem?_append_left hi] at o6;rw [List.getElem?_append_left (by omega)] at Ec;obtain ⟨g1,g2⟩:=hx.2 i x' t' o6 Ec;exact ⟨g1,vP g2 hg jx⟩
 ·rw [List.getElem?_append_right hi] at o6;rw [List.getElem?_append_right (by omega)] at Ec;have Ej :i-xs.length=0:=by
   exact Tze1
  rw [Ej] at o6;rw [<-hx.1,Ej] at Ec;cases o6;cases Ec;exact ⟨h1,vP h2 hg jx⟩
theorem pQ:(Tryz.prog.info? 163).map (λi=>(i.zero,i.size,i.bytes))=some (some (.agg #[.int .i64 0,.slice none 0 0]),2,32):=by kernel_rfl
theorem IU (B r p:Nat) (L:List UInt8) (w:World) (h:om B w r L p):
 Calls Tryz.prog 175 #[.pointer (some ⟨r,0,none⟩),.func (.func 176) #[] #[]] w λe w' =>aZ B r L w (bF (eJ L) L p) (λa w' v=>∃A c,v= .slice A a.length c/\cg w.heap.size w' v a) e w' :=by
 have af:=h.lt;go_enter func175,ntmps175;go_wp2_with fail;refine (dH B r p L w h).mono ?_;intro e w1 h1;unfold aZ at h1;cases hx:aQ L p with
 |error k=>
  rw [hx] at h1;obtain ⟨rfl,hg⟩:=h1;have a9:bF (eJ L) L p= .error k:=by unfold bF;rw [cV hx]
  exact Tzdh
 |ok vq=>
  obtain ⟨n,q⟩:=vq;rw [hx] at h1;obtain ⟨⟨_,rfl,rfl⟩,o9,fj⟩:=h1;have HR:=aA o9;obtain ⟨hB,A,c,az,dy,hq,hL⟩:=o9;have h0:=bn az;have h1:=fi az;clear az dy h;by_cases zj:n<0
  ·have d0:decide (n<0)=true:=by simp;omega
   have a9:bF (eJ L) L p= .error 9:=fL hx (.inl zj);exact Tzcb
  ·have d0:decide (n<0)=false:=by simp;omega
   by_cases vi:(L.length:Int)-(q:Int)<n
   ·have d1:decide ((L.length:Int)-(q:Int)<n)=true:=by simp;omega
    have a9:bF (eJ L) L p= .error 9:=fL hx (.inr vi);exact Tzbf
   ·have d1:decide ((L.length:Int)-(q:Int)<n)=false:=by simp;omega
    obtain ⟨m,rfl⟩:∃m:Nat,n=(m:Int):=⟨n.toNat,by omega⟩
    have je:bF (eJ L) L p=_:=iM hx vi;have HS:=aA je;have hm:m<=1000000000:=by omega
    clear je;go_wp2_with fail;refine Tyad ?_;go_wp2_with fail;refine Tyaj ?_;go_wp2_with fail;refine Tyam ?_;go_wp2_with fail;go_wp2;go_loopw [6,28] (λv i wr=>∃(k q' :Nat) (A' :Option Addr) (c' :Nat) (acc:List (Pg)),i= .int .i64 k/\v= .slice A' k c'/\k<=m/\cg w.heap.size wr (.slice A' k c') acc/\om B wr r L q'/\w.grownBy wr (some r)/\bF (eJ L) L p=ft (bI (eJ L) (m-k) q') (λl Dq => .ok (acc++l,Dq))) (λ_ i _=>m-(intOf i).toNat);case atStart=>exact ⟨0,q,none,0,[],rfl,rfl,by omega,cg.nil_ _ _,HR.out.drew,aU fj,HS.out⟩
    case round=>
     clear HR fj HS h0 h1;obtain ⟨k,q',A',c',acc,rfl,rfl,hk,aj,hR,hg,heq⟩:=hrel;have HE:=aA heq;have HOW:RowKit.Hid (∃xs,a8 iJ 2 wr w.heap.size 163 (.slice A' k c') xs):=aA (by obtain ⟨xs,Lc,_⟩:=aj;exact ⟨xs,Lc⟩);clear heq;by_cases eu:k<m
     ·have dk:decide ((k:Int)<(m:Int))=true:=by simp;omega
      have dk' :decide (k<m)=true:=by simp;omega
      obtain ⟨j,hj⟩:∃j,m-k=j+1:=⟨m-k-1,by omega⟩
      go_wp2_with fail;refine (GH B r q' L wr hR).mono ?_;intro e w2 h2;unfold aZ at h2;cases hy:eJ L q' with
      |error x=>
       rw [hy] at h2;obtain ⟨rfl,da⟩:=h2;have a9:bF (eJ L) L p= .error x:=by rw [HE.out,hj];exact mU hy
       exact Tzcq
      |ok aq=>
       obtain ⟨a,q2⟩:=aq;rw [hy] at h2;obtain ⟨⟨_,rfl,Ac,cc,rfl,hOc⟩,sf,da⟩:=h2;have cn:bF (eJ L) L p=ft (bI (eJ L) (m-(k+1)) q2) (λl Dq => .ok ((acc++ [a])++l,Dq)):=by rw [HE.out,hj,lI hy,show m-(k+1)=j by omega]
       have lf:=aA cn;have ec:=aj.kept da af;have dd:=ec.len;obtain ⟨xs,dh,oo,Gg⟩:=ec;have ic:xs.length=k:=by omega
       have xu:=aA ic;have sz:=hg.size;have WT:=da.size;have ha:Below w2.heap.size w2 (w2.alloc (.cells #[.int .i64 a.num,.slice Ac a.cells.length cc] 163)):=(Below.refl _ _).alloc (Nat.le_refl _) _;have ax:a7 iJ (λ_=>True) (w2.alloc (.cells #[.int .i64 a.num,.slice Ac a.cells.length cc] 163)) (.slice (some ⟨w2.heap.size,0,none⟩) 1 1) [⟨a.num,Ac,a.cells.length,cc⟩]:=⟨_,1,rfl,by simp,by simp [maxLen],Cs.lit _ _ _ _ _ trivial rfl⟩
       have gy:a7 bB (λb=>w.heap.size<=b/\(Value.slice A' k c').ownBlock≠some b) w2 (.slice Ac a.cells.length cc) a.cells:=hOc.recs.mono (λb _ hs=>⟨by have:=hs.1;omega,λe=>by
        obtain ⟨ys,hyo⟩:=HOW.out;have:=(World.ownsRow.lt hyo _ e).2;have:=hs.1;omega⟩)
       clear cn;go_wp2_with (refine aJ (o:=⟨some 35,_,_,_,_,_⟩) jT lE (.agg #[.int .i64 0,.slice none 0 0]) 32 _ _ 101 163 w.heap.size xs [⟨a.num,Ac,a.cells.length,cc⟩] (some ⟨w2.heap.size,0,none⟩) 1 1 (.slice A' k c') (k+1) rfl rfl underlying101 pQ rfl (by omega) rfl rfl (dh.ext ha) ax (by rw [xu.out]) (by have:=xu.out;omega) (by have:=xu.out;omega) (by simp;omega) ?_;intro A9 c9 w9 ao ai ck gq gp)
       have tw:∀b,(Value.slice A' k c').ownBlock=some b->w.heap.size<=b:=λb e=>(World.ownsRow.lt dh _ e).1
       have Yg:=(sf.ext ha).grown ai (λb hb=>by have:=tw b hb;omega);have hG9:=kL (bD (bD hg da) (kN ha (some r))) ai (λb hb=> .inl (tw b hb));refine ⟨⟨k+1,q2,A9,c9,acc++ [a],by congr 1,rfl,by omega,cg.push ⟨oo,λi x' t' o6 Ec =>⟨(Gg i x' t' o6 Ec).1,(Gg i x' t' o6 Ec).2.ext ha⟩⟩ ⟨a.num,Ac,a.cells.length,cc⟩ a rfl (gy.ext ha) ao ai ck,Yg,hG9,lf.out⟩,by simp [intOf];omega⟩
     ·obtain rfl:k=m:=by omega
      have dk:decide ((k:Int)<(k:Int))=false:=by simp
      have a9:bF (eJ L) L p= .ok (acc,q'):=by rw [HE.out,Nat.sub_self];show Except.ok (acc++ [],q')=_;rw [List.append_nil]
      exact Tzb5
theorem ED (B r p:Nat) (L:List UInt8) (w:World) (h:om B w r L p):
 Calls Tryz.prog 147 #[.pointer (some ⟨r,0,none⟩)] w λe w' =>aZ B r L w (eF L p) (λa w' v=>∃A c,v= .slice A a.length c/\cg w.heap.size w' v a) e w' :=by
 unfold eF;go_enter func147,ntmps147;go_wp2_with fail;refine (IU B r p L w h).mono ?_;intro e w1 h1;unfold aZ at h1;cases hx:bF (eJ L) L p with
 |error k=>
  rw [hx] at h1;obtain ⟨rfl,hg⟩:=h1;go_wp2;refine ⟨rfl,?_⟩;unfold aZ;rw [hx];exact ⟨rfl,hg⟩
 |ok vq=>
  obtain ⟨v,q⟩:=vq;rw [hx] at h1;obtain ⟨⟨_,rfl,A,c,rfl,hO⟩,hR,hg⟩:=h1;go_wp2;go_ret;unfold aZ;rw [hx];exact ⟨⟨_,rfl,A,c,rfl,hO⟩,hR,hg⟩
theorem fN {P:Program} {fn:Func} {tmps:Array Value} {R:Ending->World->Prop} {u:FrameMode} {w:World} {v:Value} (hu:settle u= .returning) (hres:(results fn tmps).run P w= .ok v w) (h:R (.returned v) w):Leaves P fn tmps R [] (settle u) w:=by
 rw [hu];exact ⟨v,hres,h⟩
theorem gF {P:Program} {fn:Func} {tmps:Array Value} {w:World} {a b c:Tmp} {t t' t2:TypeId} {A A' A2:Addr} {x y z:Value} (h:fn.results= #[.cell a t,.cell b t',.cell c t2]) (ha:tmps.getD a undef= .pointer (some A)) (hb:tmps.getD b undef= .pointer (some A')) (hc:tmps.getD c undef= .pointer (some A2)) (hl:(loadVar t A).run P w= .ok x w) (hl' :(loadVar t' A').run P w= .ok y w) (dd:(loadVar t2 A2).run P w= .ok z w):(results fn tmps).run P w= .ok (.tuple #[x,y,z]) w:=by
 have N5 :tmps[a]?.getD undef= .pointer (some A):=by simpa using ha
 have gv :tmps[b]?.getD undef= .pointer (some A'):=by simpa using hb
 have XV :tmps[c]?.getD undef= .pointer (some A2):=by simpa using hc
 simp [results,h,asAddr,N5,gv,XV,hl,hl',dd]
def iE {α:Type} (x:Except Nat (α×Nat)) (z:Value) (V:α->World->Value->Prop) (e:Ending) (w' :World):Prop:=
 match x with
 | .ok (a,q)=>∃v,e= .returned (.tuple #[v,.int .i64 (q:Int),.int .i64 0])/\V a w' v
 | .error k=>e= .returned (.tuple #[z,.int .i64 0,.int .i64 (k:Int)])
theorem CH (p q s:Addr) (w:World):CallsD Tryz.prog 177 #[.pointer (some p),.pointer (some q),.pointer (some s)] .returning w λe u' w' =>e= .returned (.tuple #[])/\u' = .returning/\w' =w:=by
 refine callsD_of_wpS func177 rfl λc₀ cs hu=> ?_
 apply wpS_seq;apply wpS_region;generalize hQ:Exit.thenS _ _=Q0;simp [wpOpsS,go_sem,recoverD,hu,ntmps177,Array.replicate];subst hQ;refine wpS_of_wp ?_;go_wp2;cases c₀
 simp_all [bodyPostS,results,Tryz.results177]
theorem tO (k b6 b7 b8:Nat) (x6:Array Value) (x7 x8:Int) (w w0:World) (B:Nat) (h6:w.heap[b6]? =some (.cells x6 51 (0,0))) (Rv:x6.size=4) (h7:w.heap[b7]? =some (.cells #[.int .i64 x7] 3 (0,0))) (h8:w.heap[b8]? =some (.cells #[.int .i64 x8] 37 (0,0))) (fb:b6≠b7/\b6≠b8/\b7≠b8) (hB:B<=b6/\B<=b7/\B<=b8) (hw:Below B w0 w):
 CallsD Tryz.prog 177 #[.pointer (some ⟨b6,0,none⟩),.pointer (some ⟨b7,0,none⟩),.pointer (some ⟨b8,0,none⟩)] (.panicking (mK k)) w λe u' w' =>e= .returned (.tuple #[])/\u' = .panicking [{v:=qM k,recovered:=true}]/\w'.heap[b6]? =some (.cells #[Value.slice none 0 0,Value.slice none 0 0,Value.slice none 0 0,Value.slice none 0 0] 51 (0,0))/\w'.cell? ⟨b7,0,none⟩=some (.int .i64 0)/\w'.cell? ⟨b8,0,none⟩=some (.int .i64 (k:Int))/\Below B w0 w' :=by
 have l6:=(Array.getElem?_eq_some_iff.1 h6).1;have l7:=(Array.getElem?_eq_some_iff.1 h7).1;have l8:=(Array.getElem?_eq_some_iff.1 h8).1;obtain ⟨n1,n2,n3⟩:=fb;have n1' :=n1.symm;have n2' :=n2.symm;have n3' :=n3.symm;have ha:Below w.heap.size w (w.alloc (.cells #[Value.slice none 0 0,Value.slice none 0 0,Value.slice none 0 0,Value.slice none 0 0] 51)):=(Below.refl _ _).alloc (Nat.le_refl _) _;have a6:=(ha.block b6 l6).trans h6;have A6:=aA a6;have w6:((w.alloc (.cells #[Value.slice none 0 0,Value.slice none 0 0,Value.slice none 0 0,Value.slice none 0 0] 51)).setRow b6 #[Value.slice none 0 0,Value.slice none 0 0,Value.slice none 0 0,Value.slice none 0 0]).heap[b6]? =some (.cells #[Value.slice none 0 0,Value.slice none 0 0,Value.slice none 0 0,Value.slice none 0 0] 51 (0,0)):=setRow_heap _ _ _ _ _ _ a6
 have w7:((w.alloc (.cells #[Value.slice none 0 0,Value.slice none 0 0,Value.slice none 0 0,Value.slice none 0 0] 51)).setRow b6 #[Value.slice none 0 0,Value.slice none 0 0,Value.slice none 0 0,Value.slice none 0 0]).heap[b7]? =some (.cells #[.int .i64 x7] 3 (0,0)):=(setRow_other _ _ _ _ n1').trans ((ha.block b7 l7).trans h7)
 have w8:((w.alloc (.cells #[Value.slice none 0 0,Value.slice none 0 0,Value.slice none 0 0,Value.slice none 0 0] 51)).setRow b6 #[Value.slice none 0 0,Value.slice none 0 0,Value.slice none 0 0,Value.slice none 0 0]).heap[b8]? =some (.cells #[.int .i64 x8] 37 (0,0)):=(setRow_other _ _ _ _ n2').trans ((ha.block b8 l8).trans h8)
 have Kg:Below B w0 ((w.alloc (.cells #[Value.slice none 0 0,Value.slice none 0 0,Value.slice none 0 0,Value.slice none 0 0] 51)).setRow b6 #[Value.slice none 0 0,Value.slice none 0 0,Value.slice none 0 0,Value.slice none 0 0]):=Below.setRow (hw.alloc (by omega) _) hB.1 _;have c7:((w.alloc (.cells #[Value.slice none 0 0,Value.slice none 0 0,Value.slice none 0 0,Value.slice none 0 0] 51)).setRow b6 #[Value.slice none 0 0,Value.slice none 0 0,Value.slice none 0 0,Value.slice none 0 0]).cell? ⟨b7,0,none⟩=some (.int .i64 x7):=by rw [cell_of_row _ _ _ _ _ _ w7];rfl
 have c8:((w.alloc (.cells #[Value.slice none 0 0,Value.slice none 0 0,Value.slice none 0 0,Value.slice none 0 0] 51)).setRow b6 #[Value.slice none 0 0,Value.slice none 0 0,Value.slice none 0 0,Value.slice none 0 0]).cell? ⟨b8,0,none⟩=some (.int .i64 x8):=by rw [cell_of_row _ _ _ _ _ _ w8];rfl
 have f7:=frozen_of_row _ _ 0 _ _ w7;have f8:=frozen_of_row _ _ 0 _ _ w8;have ef:((w.alloc (.cells #[Value.slice none 0 0,Value.slice none 0 0,Value.slice none 0 0,Value.slice none 0 0] 51)).setRow b6 #[Value.slice none 0 0,Value.slice none 0 0,Value.slice none 0 0,Value.slice none 0 0]).heap.size=w.heap.size+1:=by rw [setRow_size];simp
 have H6:=aA w6;have H7:=aA w7;have H8:=aA w8;have HW:=aA Kg;clear h6 h7 h8 a6 w6 w7 w8 ha Kg;unfold mK;refine callsD_of_wpS func177 rfl λc₀ cs hu=> ?_
 apply wpS_seq;apply wpS_region;generalize hQ:Exit.thenS _ _=Q0;simp [wpOpsS,go_sem,recoverD,hu,ntmps177,Array.replicate];subst hQ;refine wpS_of_wp ?_;unfold qM;have hta:=qA (.agg #[.int .i64 (k:Int)]);go_wp2_with (refine dW rfl 51 _ _ rfl b6 51 _ _ rfl rfl A6.out (by kernel_rfl) (by rw [Rv];rfl) (by simp [Value.oneCell']) ?_;generalize (w.alloc (.cells #[Value.slice none 0 0,Value.slice none 0 0,Value.slice none 0 0,Value.slice none 0 0] 51)).setRow b6 #[Value.slice none 0 0,Value.slice none 0 0,Value.slice none 0 0,Value.slice none 0 0]=W2 at *)
 refine ⟨rfl,_,rfl,_,results_none rfl _ _ _,rfl,rfl,?_,?_,?_,?_⟩
 ·have r1:(((W2.setCell ⟨b7,0,none⟩ (.int .i64 0)).setCell ⟨b8,0,none⟩ (.int .i64 9)).setCell ⟨b8,0,none⟩ (.int .i64 (k:Int))).heap[b6]? =some (.cells #[Value.slice none 0 0,Value.slice none 0 0,Value.slice none 0 0,Value.slice none 0 0] 51 (0,0)):=by
   rw [heap_setCell_other _ _ _ _ n2,heap_setCell_other _ _ _ _ n2,heap_setCell_other _ _ _ _ n1];exact H6.out
  exact (((Below.refl _ _).alloc (Nat.le_refl _) _).block b6 (Array.getElem?_eq_some_iff.1 r1).1).trans r1
 ·go_simp
 ·have r2:((W2.setCell ⟨b7,0,none⟩ (.int .i64 0)).setCell ⟨b8,0,none⟩ (.int .i64 9)).heap[b8]? =some (.cells #[.int .i64 9] 37 (0,0)):=heap_setCell_same _ b8 0 _ _ _ ((heap_setCell_other _ ⟨b7,0,none⟩ _ _ n3').trans H8.out)
  have r3:(((W2.setCell ⟨b7,0,none⟩ (.int .i64 0)).setCell ⟨b8,0,none⟩ (.int .i64 9)).setCell ⟨b8,0,none⟩ (.int .i64 (k:Int))).heap[b8]? =some (.cells #[.int .i64 (k:Int)] 37 (0,0)):=heap_setCell_same _ b8 0 _ _ _ r2
  have r4:=cell_of_row _ _ 0 _ _ _ r3;go_simp
 ·exact Below.alloc (Below.setCell (p:=⟨b8,0,none⟩) (Below.setCell (p:=⟨b8,0,none⟩) (Below.setCell (p:=⟨b7,0,none⟩) HW.out hB.2.1 _) hB.2.2 _) hB.2.2 _) (by simp;omega) _
theorem GN (A:Option Addr) (n c:Nat) (k:Int) (L:List UInt8) (S:Nat->Prop) (w:World) (hb:Bytes S w (.slice A n c) L) (hn:n<=100000000):
 Calls Tryz.prog 150 #[.slice A n c,.int .i64 k,.func (.func 151) #[] #[]] w λe w' =>iE (eK eN L k) (.agg #[Value.slice none 0 0,Value.slice none 0 0,Value.slice none 0 0,Value.slice none 0 0]) (λa w' v=>StO w' w.heap.size v a) e w'/\Below w.heap.size w w' :=by
 have hmf:∀(fn:Fn) (first cap:Array Value) (w:World),(Instr.makeFunc fn first cap).run Tryz.prog w= .ok (.func fn first cap) w:=λ_ _ _ _=>rfl
 have VZ:∀w:World,(isAgg 3).run Tryz.prog w= .ok false w:=λw=>by simp [isAgg,run_underlying underlying3]
 have hae:∀w:World,(isAgg 37).run Tryz.prog w= .ok false w:=λw=>by simp [isAgg,run_underlying underlying37]
 have yg:=hb.len;obtain ⟨W,hW,aw,fo,r6,r7,r8⟩:=BI w (.cells #[Value.slice none 0 0,Value.slice none 0 0,Value.slice none 0 0,Value.slice none 0 0] 51) (.cells #[.int .i64 0] 3) (.cells #[.int .i64 0] 37);by_cases hk:k<0∨(L.length:Int)<k
 ·have rz:=tO 3 w.heap.size (w.heap.size+1) (w.heap.size+1+1) _ _ _ W w w.heap.size r6 rfl r7 r8 ⟨by omega,by omega,by omega⟩ ⟨by omega,by omega,by omega⟩ aw;have xw:=aA rz;clear rz r6 r7 r8;have a9:eK eN L k= .error 3:=if_pos hk;rw [a9];by_cases h0:k<0
  ·have d0:decide (k<0)=true:=by simpa using h0
   exact Tzd6
  ·have d0:decide (k<0)=false:=by simpa using h0
   have d1:decide ((n:Int)<k)=true:=by simp;omega
   exact Tzd6
 ·obtain ⟨p,rfl⟩:=Int.eq_ofNat_of_zero_le (show 0<=k by omega);have hp:p<=n:=by omega
  have a9:eK eN L (p:Int)=eN L p:=(if_neg hk).trans (by rw [Int.toNat_natCast]);rw [a9];clear a9 hk;have d0:decide ((p:Int)<0)=false:=by simp
  have d1:decide ((n:Int)<(p:Int))=false:=by simp;omega
  have d2:decide (n<p)=false:=by simp;omega
  obtain ⟨W2,fv⟩:=eX (W.alloc (.cells #[.slice A n c,.int .i64 (p:Int)] 224));have ar:Below W.heap.size W W2:=by rw [fv];exact (Below.refl _ _).alloc (Nat.le_refl _) _
  have r9:W2.heap[W.heap.size]? =some (.cells #[.slice A n c,.int .i64 (p:Int)] 224 (0,0)):=by rw [fv];exact heap_alloc_new _ _
  have Kq:om w.heap.size W2 W.heap.size L p:=by
   exact Tzdt
  go_enter_defers func150,ntmps150;go_wp2_with fail;rw [<-hW,<-fo,<-fv];refine (EC w.heap.size W.heap.size p L W2 Kq).mono ?_;intro e w3 h3;have s2:=ar.size;have Aj:w.heap.size+1+1<W.heap.size:=by omega
  clear fo hW fv;have Ll:W.heap.size<W2.heap.size:=Kq.lt;unfold aZ at h3;cases hx:eN L p with
  |error x=>
   rw [hx] at h3;obtain ⟨rfl,ee⟩:=h3;have k6:=(ee.block w.heap.size (by omega) (by simp;omega)).trans ((ar.block _ (by omega)).trans r6);have k7:=(ee.block (w.heap.size+1) (by omega) (by simp;omega)).trans ((ar.block _ (by omega)).trans r7);have k8:=(ee.block (w.heap.size+1+1) (by omega) (by simp;omega)).trans ((ar.block _ (by omega)).trans r8);have rz:=tO x w.heap.size (w.heap.size+1) (w.heap.size+1+1) _ _ _ w3 w w.heap.size k6 rfl k7 k8 ⟨by omega,by omega,by omega⟩ ⟨by omega,by omega,by omega⟩ (Below.grow (Below.ext aw ar) ee (by omega));have xw:=aA rz;clear rz r6 r7 r8 k6 k7 k8 Kq r9;go_wp2;refine leaves_cons (f:=177) (args:= #[.pointer (some ⟨w.heap.size,0,none⟩),.pointer (some ⟨w.heap.size+1,0,none⟩),.pointer (some ⟨w.heap.size+1+1,0,none⟩)]) (by simp [mK]) (by simp [go_sem]) ?_;refine xw.out.mono ?_;rintro e u' Jz ⟨rfl,rfl,g6,g7,g8,fe⟩;refine Tybg ?_;rw [hx];exact ⟨rfl,fe⟩
  |ok vq=>
   obtain ⟨v,q⟩:=vq;rw [hx] at h3;obtain ⟨⟨_,rfl,hV⟩,Hk,ee⟩:=h3;obtain ⟨A1,c1,A2,c2,A3,c3,A4,c4,rfl,lv,dw,gg,jq⟩:=hV;have k6:=(ee.block w.heap.size (by omega) (by simp;omega)).trans ((ar.block _ (by omega)).trans r6);have k7:=(ee.block (w.heap.size+1) (by omega) (by simp;omega)).trans ((ar.block _ (by omega)).trans r7);have k8:=(ee.block (w.heap.size+1+1) (by omega) (by simp;omega)).trans ((ar.block _ (by omega)).trans r8);have b3:=Below.grow (Below.ext aw ar) ee (by omega);have hs33:=ee.size;have k9:∃A' c',w3.heap[W.heap.size]? =some (.cells #[.slice A' L.length c',.int .i64 (q:Int)] 224 (0,0)):=by obtain ⟨_,A',c',h1,_⟩:=Hk;exact ⟨A',c',h1⟩
   obtain ⟨Ar,cr,k9⟩:=k9;have K6:=aA k6;have m6:(w3.setRow w.heap.size #[Value.slice A1 v.cells.length c1,Value.slice A2 v.evs.length c2,Value.slice A3 v.sent.length c3,Value.slice A4 v.outs.length c4]).heap[w.heap.size]? =some (.cells #[Value.slice A1 v.cells.length c1,Value.slice A2 v.evs.length c2,Value.slice A3 v.sent.length c3,Value.slice A4 v.outs.length c4] 51 (0,0)):=setRow_heap _ _ _ _ _ _ k6
   have m7:=(setRow_other w3 w.heap.size (w.heap.size+1) #[Value.slice A1 v.cells.length c1,Value.slice A2 v.evs.length c2,Value.slice A3 v.sent.length c3,Value.slice A4 v.outs.length c4] (by omega)).trans k7;have m8:=(setRow_other w3 w.heap.size (w.heap.size+1+1) #[Value.slice A1 v.cells.length c1,Value.slice A2 v.evs.length c2,Value.slice A3 v.sent.length c3,Value.slice A4 v.outs.length c4] (by omega)).trans k8;have m9:=(setRow_other w3 w.heap.size W.heap.size #[Value.slice A1 v.cells.length c1,Value.slice A2 v.evs.length c2,Value.slice A3 v.sent.length c3,Value.slice A4 v.outs.length c4] (by omega)).trans k9;have mb:Below w.heap.size w (w3.setRow w.heap.size #[Value.slice A1 v.cells.length c1,Value.slice A2 v.evs.length c2,Value.slice A3 v.sent.length c3,Value.slice A4 v.outs.length c4]):=Below.setRow b3 (Nat.le_refl _) _;have mg:w3.grownBy (w3.setRow w.heap.size #[Value.slice A1 v.cells.length c1,Value.slice A2 v.evs.length c2,Value.slice A3 v.sent.length c3,Value.slice A4 v.outs.length c4]) (some w.heap.size):=aC _ _ _;have lv:=lv.kept_lt mg (by omega);have dw:=dw.kept_lt mg (by omega);have gg:=gg.kept_lt mg (by omega);have jq:=jq.kept_lt mg (by omega);have ms:(w3.setRow w.heap.size #[Value.slice A1 v.cells.length c1,Value.slice A2 v.evs.length c2,Value.slice A3 v.sent.length c3,Value.slice A4 v.outs.length c4]).heap.size=w3.heap.size:=setRow_size _ _ _;have M6:=aA m6;have M7:=aA m7;have M8:=aA m8;have M9:=aA m9;clear r6 r7 r8 k6 k7 k8 k9 Kq r9 m6 m7 m8 m9 b3 mg;have n9:W.heap.size≠w.heap.size:=by omega
   go_wp2_with (refine sR K6 ?_)
   generalize w3.setRow w.heap.size #[Value.slice A1 v.cells.length c1,Value.slice A2 v.evs.length c2,Value.slice A3 v.sent.length c3,Value.slice A4 v.outs.length c4]=W4 at*;have e9:=fi M9.out;have E9:=aA e9;clear e9;refine aH (λw' =>w'.heap[w.heap.size]? =some (.cells #[Value.slice A1 v.cells.length c1,Value.slice A2 v.evs.length c2,Value.slice A3 v.sent.length c3,Value.slice A4 v.outs.length c4] 51 (0,0))/\w'.cell? ⟨W.heap.size,1,none⟩=some (.int .i64 (q:Int))) (by kernel_rfl) (by kernel_rfl) ⟨M6.out,E9.out⟩ ?_;refine TkA ?_;refine lL (λw' ah =>lB (t:=51) ah.1) ?_;refine Tyac ?_;refine lL (λw' ah =>aB (VZ _) ah.2) ?_;refine Tyac ?_;have D6:RowKit.Hid (W4.drew.heap[w.heap.size]? =some (.cells #[Value.slice A1 v.cells.length c1,Value.slice A2 v.evs.length c2,Value.slice A3 v.sent.length c3,Value.slice A4 v.outs.length c4] 51 (0,0))):=aA M6.out;refine aF rfl ?_;refine sR D6 ?_;have u6:(W4.drew.setRow w.heap.size #[Value.slice A1 v.cells.length c1,Value.slice A2 v.evs.length c2,Value.slice A3 v.sent.length c3,Value.slice A4 v.outs.length c4]).heap[w.heap.size]? =some (.cells #[Value.slice A1 v.cells.length c1,Value.slice A2 v.evs.length c2,Value.slice A3 v.sent.length c3,Value.slice A4 v.outs.length c4] 51 (0,0)):=setRow_heap _ _ _ _ _ _ D6.out
   have u7:=(setRow_other W4.drew w.heap.size (w.heap.size+1) #[Value.slice A1 v.cells.length c1,Value.slice A2 v.evs.length c2,Value.slice A3 v.sent.length c3,Value.slice A4 v.outs.length c4] (by omega)).trans M7.out;have u8:=(setRow_other W4.drew w.heap.size (w.heap.size+1+1) #[Value.slice A1 v.cells.length c1,Value.slice A2 v.evs.length c2,Value.slice A3 v.sent.length c3,Value.slice A4 v.outs.length c4] (by omega)).trans M8.out;have u9:=(setRow_other W4.drew w.heap.size W.heap.size #[Value.slice A1 v.cells.length c1,Value.slice A2 v.evs.length c2,Value.slice A3 v.sent.length c3,Value.slice A4 v.outs.length c4] (by omega)).trans M9.out;have ub:Below w.heap.size w (W4.drew.setRow w.heap.size #[Value.slice A1 v.cells.length c1,Value.slice A2 v.evs.length c2,Value.slice A3 v.sent.length c3,Value.slice A4 v.outs.length c4]):=Below.setRow mb.drew (Nat.le_refl _) _;have ug:W4.drew.grownBy (W4.drew.setRow w.heap.size #[Value.slice A1 v.cells.length c1,Value.slice A2 v.evs.length c2,Value.slice A3 v.sent.length c3,Value.slice A4 v.outs.length c4]) (some w.heap.size):=aC _ _ _;have lv:=(lv.ext (w' :=W4.drew) (Below.refl _ _).drew).kept_lt ug (by omega);have dw:=(dw.ext (w' :=W4.drew) (Below.refl _ _).drew).kept_lt ug (by omega);have gg:=(gg.ext (w' :=W4.drew) (Below.refl _ _).drew).kept_lt ug (by omega);have jq:=(jq.ext (w' :=W4.drew) (Below.refl _ _).drew).kept_lt ug (by omega);generalize W4.drew.setRow w.heap.size #[Value.slice A1 v.cells.length c1,Value.slice A2 v.evs.length c2,Value.slice A3 v.sent.length c3,Value.slice A4 v.outs.length c4]=W5 at*;have c9:=fi u9;have c7:=bn u7;have c8:=bn u8;have f7:=frozen_of_row _ _ 0 _ _ u7;have f8:=frozen_of_row _ _ 0 _ _ u8;have U6:=aA u6;clear u6 u7 u8 u9 ug;refine aD ⟨U6.out,c9⟩ ?_;simp only [Act.put];refine Tyah ?_;go_wp2_with fail;go_wp2_with fail;refine aD (⟨(heap_setCell_other _ ⟨w.heap.size+1,0,none⟩ _ _ (show w.heap.size≠w.heap.size+1 by omega)).trans U6.out,by go_simp⟩) ?_;refine Tyah ?_;go_wp2_with fail;go_wp2_with fail;refine aD (⟨(heap_setCell_other _ ⟨w.heap.size+1+1,0,none⟩ _ _ (show w.heap.size≠w.heap.size+1+1 by omega)).trans ((heap_setCell_other _ ⟨w.heap.size+1,0,none⟩ _ _ (show w.heap.size≠w.heap.size+1 by omega)).trans U6.out),by go_simp⟩) ?_;refine Tyan ?_;go_wp2_with fail;have g6:((W5.setCell ⟨w.heap.size+1,0,none⟩ (.int .i64 (q:Int))).setCell ⟨w.heap.size+1+1,0,none⟩ (.int .i64 0)).heap[w.heap.size]? =some (.cells #[Value.slice A1 v.cells.length c1,Value.slice A2 v.evs.length c2,Value.slice A3 v.sent.length c3,Value.slice A4 v.outs.length c4] 51 (0,0)):=(heap_setCell_other _ ⟨w.heap.size+1+1,0,none⟩ _ _ (show w.heap.size≠w.heap.size+1+1 by omega)).trans ((heap_setCell_other _ ⟨w.heap.size+1,0,none⟩ _ _ (show w.heap.size≠w.heap.size+1 by omega)).trans U6.out)
   have g7:((W5.setCell ⟨w.heap.size+1,0,none⟩ (.int .i64 (q:Int))).setCell ⟨w.heap.size+1+1,0,none⟩ (.int .i64 0)).cell? ⟨w.heap.size+1,0,none⟩=some (.int .i64 (q:Int)):=by go_simp
   have g8:((W5.setCell ⟨w.heap.size+1,0,none⟩ (.int .i64 (q:Int))).setCell ⟨w.heap.size+1+1,0,none⟩ (.int .i64 0)).cell? ⟨w.heap.size+1+1,0,none⟩=some (.int .i64 0):=by go_simp
   have b7:=(ub.setCell (p:=⟨w.heap.size+1,0,none⟩) (show _<=w.heap.size+1 by omega) (.int .i64 (q:Int))).setCell (p:=⟨w.heap.size+1+1,0,none⟩) (show _<=w.heap.size+1+1 by omega) (.int .i64 0);have WN:W5.grownBy (W5.setCell ⟨w.heap.size+1,0,none⟩ (.int .i64 (q:Int))) (some (w.heap.size+1)):=aL ⟨rfl,rfl,rfl,Nat.le_refl _,λ_ _ _=>rfl⟩;have WM:(W5.setCell ⟨w.heap.size+1,0,none⟩ (.int .i64 (q:Int))).grownBy ((W5.setCell ⟨w.heap.size+1,0,none⟩ (.int .i64 (q:Int))).setCell ⟨w.heap.size+1+1,0,none⟩ (.int .i64 0)) (some (w.heap.size+1+1)):=aL ⟨rfl,rfl,rfl,Nat.le_refl _,λ_ _ _=>rfl⟩;have lv:=(lv.kept_lt WN (by omega)).kept_lt WM (by omega);have dw:=(dw.kept_lt WN (by omega)).kept_lt WM (by omega);have gg:=(gg.kept_lt WN (by omega)).kept_lt WM (by omega);have jq:=(jq.kept_lt WN (by omega)).kept_lt WM (by omega);generalize ((W5.setCell ⟨w.heap.size+1,0,none⟩ (.int .i64 (q:Int))).setCell ⟨w.heap.size+1+1,0,none⟩ (.int .i64 0))=W7 at*;refine Tyax ?_;refine (CH _ _ _ W7).mono ?_;rintro e u' Jz ⟨rfl,rfl,rfl⟩;refine Tybg ?_;refine ⟨?_,b7⟩;rw [hx];exact ⟨_,rfl,A1,c1,A2,c2,A3,c3,A4,c4,rfl,lv.weak (by omega),dw.weak (by omega),gg.weak (by omega),jq.weak (by omega)⟩
theorem cg.dr {base:Nat} {w:World} {v:Value} {ts:List Pg} (h:cg base w v ts):cg base w.drew v ts:=by
 obtain ⟨xs,h1,h2,h3⟩:=h;exact ⟨xs,h1.ext (Below.refl _ _).drew,h2,λi x t hx ht=>⟨(h3 i x t hx ht).1,(h3 i x t hx ht).2.ext (Below.refl _ _).drew⟩⟩
theorem cg.weak {base yp :Nat} {w:World} {v:Value} {ts:List Pg} (h:cg base w v ts) (hle:yp<=base):cg yp w v ts:=by
 obtain ⟨xs,h1,h2,h3⟩:=h;exact ⟨xs,h1.weak hle,h2,λi x t hx ht=>⟨(h3 i x t hx ht).1,(h3 i x t hx ht).2.mono (λ_ _ h=>⟨by have:=h.1;omega,h.2⟩)⟩⟩
theorem CI (p q s:Addr) (w:World):CallsD Tryz.prog 174 #[.pointer (some p),.pointer (some q),.pointer (some s)] .returning w λe u' w' =>e= .returned (.tuple #[])/\u' = .returning/\w' =w:=by
 refine callsD_of_wpS func174 rfl λc₀ cs hu=> ?_
 apply wpS_seq;apply wpS_region;generalize hQ:Exit.thenS _ _=Q0;simp [wpOpsS,go_sem,recoverD,hu,ntmps174,Array.replicate];subst hQ;refine wpS_of_wp ?_;go_wp2;cases c₀
 simp_all [bodyPostS,results,Tryz.results174]
theorem tP (k b6 b7 b8:Nat) (x6:Value) (x7 x8:Int) (w w0:World) (B:Nat) (h6:w.heap[b6]? =some (.cells #[x6] 101 (0,0))) (h7:w.heap[b7]? =some (.cells #[.int .i64 x7] 3 (0,0))) (h8:w.heap[b8]? =some (.cells #[.int .i64 x8] 37 (0,0))) (fb:b6≠b7/\b6≠b8/\b7≠b8) (hB:B<=b6/\B<=b7/\B<=b8) (hw:Below B w0 w):
 CallsD Tryz.prog 174 #[.pointer (some ⟨b6,0,none⟩),.pointer (some ⟨b7,0,none⟩),.pointer (some ⟨b8,0,none⟩)] (.panicking (mK k)) w λe u' w' =>e= .returned (.tuple #[])/\u' = .panicking [{v:=qM k,recovered:=true}]/\w'.cell? ⟨b6,0,none⟩=some (.slice none 0 0)/\w'.cell? ⟨b7,0,none⟩=some (.int .i64 0)/\w'.cell? ⟨b8,0,none⟩=some (.int .i64 (k:Int))/\Below B w0 w' :=by
 have c6:w.cell? ⟨b6,0,none⟩=some x6:=by rw [cell_of_row _ _ _ _ _ _ h6];rfl
 have c7:=bn h7;have c8:=bn h8;have f6:=frozen_of_row _ _ 0 _ _ h6;have f7:=frozen_of_row _ _ 0 _ _ h7;have f8:=frozen_of_row _ _ 0 _ _ h8;have l6:=(Array.getElem?_eq_some_iff.1 h6).1;have l7:=(Array.getElem?_eq_some_iff.1 h7).1;have l8:=(Array.getElem?_eq_some_iff.1 h8).1;obtain ⟨n1,n2,n3⟩:=fb;have n1' :=n1.symm;have n2' :=n2.symm;have n3' :=n3.symm;have H6:=aA h6;have H7:=aA h7;have H8:=aA h8;clear h6 h7 h8;unfold mK;refine callsD_of_wpS func174 rfl λc₀ cs hu=> ?_
 apply wpS_seq;apply wpS_region;generalize hQ:Exit.thenS _ _=Q0;simp [wpOpsS,go_sem,recoverD,hu,ntmps174,Array.replicate];subst hQ;refine wpS_of_wp ?_;unfold qM;have hta:=qA (.agg #[.int .i64 (k:Int)]);go_wp2;refine ⟨rfl,_,rfl,_,results_none rfl _ _ _,rfl,rfl,?_,?_,?_,?_⟩
 ·go_simp
 ·go_simp
 ·have r1:((w.setCell ⟨b6,0,none⟩ (.slice none 0 0)).setCell ⟨b7,0,none⟩ (.int .i64 0)).heap[b8]? =some (.cells #[.int .i64 x8] 37 (0,0)):=by
   rw [heap_setCell_other _ _ _ _ n3',heap_setCell_other _ _ _ _ n2'];exact H8.out
  have r2:(((w.setCell ⟨b6,0,none⟩ (.slice none 0 0)).setCell ⟨b7,0,none⟩ (.int .i64 0)).setCell ⟨b8,0,none⟩ (.int .i64 9)).heap[b8]? =some (.cells #[.int .i64 9] 37 (0,0)):=heap_setCell_same _ b8 0 _ _ _ r1
  have r3:((((w.setCell ⟨b6,0,none⟩ (.slice none 0 0)).setCell ⟨b7,0,none⟩ (.int .i64 0)).setCell ⟨b8,0,none⟩ (.int .i64 9)).setCell ⟨b8,0,none⟩ (.int .i64 (k:Int))).heap[b8]? =some (.cells #[.int .i64 (k:Int)] 37 (0,0)):=heap_setCell_same _ b8 0 _ _ _ r2
  have r4:=cell_of_row _ _ 0 _ _ _ r3;go_simp
 ·exact Tzd3
theorem GO (A:Option Addr) (n c:Nat) (k:Int) (L:List UInt8) (S:Nat->Prop) (w:World) (hb:Bytes S w (.slice A n c) L) (hn:n<=100000000):
 Calls Tryz.prog 146 #[.slice A n c,.int .i64 k,.func (.func 147) #[] #[]] w λe w' =>iE (eK eF L k) (.slice none 0 0) (λa w' v=>∃A c,v= .slice A a.length c/\cg w.heap.size w' v a) e w'/\Below w.heap.size w w' :=by
 have hmf:∀(fn:Fn) (first cap:Array Value) (w:World),(Instr.makeFunc fn first cap).run Tryz.prog w= .ok (.func fn first cap) w:=λ_ _ _ _=>rfl
 have VZ:∀w:World,(isAgg 3).run Tryz.prog w= .ok false w:=λw=>by simp [isAgg,run_underlying underlying3]
 have hae:∀w:World,(isAgg 37).run Tryz.prog w= .ok false w:=λw=>by simp [isAgg,run_underlying underlying37]
 have fm:∀w:World,(isAgg 101).run Tryz.prog w= .ok false w:=λw=>by simp [isAgg,run_underlying underlying101]
 have yg:=hb.len;obtain ⟨W,hW,aw,fo,r6,r7,r8⟩:=BI w (.cells #[.slice none 0 0] 101) (.cells #[.int .i64 0] 3) (.cells #[.int .i64 0] 37);by_cases hk:k<0∨(L.length:Int)<k
 ·have rz:=tP 3 w.heap.size (w.heap.size+1) (w.heap.size+1+1) _ _ _ W w w.heap.size r6 r7 r8 ⟨by omega,by omega,by omega⟩ ⟨by omega,by omega,by omega⟩ aw;have xw:=aA rz;clear rz r6 r7 r8;have a9:eK eF L k= .error 3:=if_pos hk;rw [a9];by_cases h0:k<0
  ·have d0:decide (k<0)=true:=by simpa using h0
   exact Tzd7
  ·have d0:decide (k<0)=false:=by simpa using h0
   have d1:decide ((n:Int)<k)=true:=by simp;omega
   exact Tzd7
 ·obtain ⟨p,rfl⟩:=Int.eq_ofNat_of_zero_le (show 0<=k by omega);have hp:p<=n:=by omega
  have a9:eK eF L (p:Int)=eF L p:=(if_neg hk).trans (by rw [Int.toNat_natCast]);rw [a9];clear a9 hk;have d0:decide ((p:Int)<0)=false:=by simp
  have d1:decide ((n:Int)<(p:Int))=false:=by simp;omega
  have d2:decide (n<p)=false:=by simp;omega
  obtain ⟨W2,fv⟩:=eX (W.alloc (.cells #[.slice A n c,.int .i64 (p:Int)] 224));have ar:Below W.heap.size W W2:=by rw [fv];exact (Below.refl _ _).alloc (Nat.le_refl _) _
  have r9:W2.heap[W.heap.size]? =some (.cells #[.slice A n c,.int .i64 (p:Int)] 224 (0,0)):=by rw [fv];exact heap_alloc_new _ _
  have Kq:om w.heap.size W2 W.heap.size L p:=by
   exact Tzdt
  go_enter_defers func146,ntmps146;go_wp2_with fail;rw [<-hW,<-fo,<-fv];refine (ED w.heap.size W.heap.size p L W2 Kq).mono ?_;intro e w3 h3;have s2:=ar.size;have Aj:w.heap.size+1+1<W.heap.size:=by omega
  clear fo hW fv;have Ll:W.heap.size<W2.heap.size:=Kq.lt;unfold aZ at h3;cases hx:eF L p with
  |error x=>
   rw [hx] at h3;obtain ⟨rfl,ee⟩:=h3;have k6:=(ee.block w.heap.size (by omega) (by simp;omega)).trans ((ar.block _ (by omega)).trans r6);have k7:=(ee.block (w.heap.size+1) (by omega) (by simp;omega)).trans ((ar.block _ (by omega)).trans r7);have k8:=(ee.block (w.heap.size+1+1) (by omega) (by simp;omega)).trans ((ar.block _ (by omega)).trans r8);have rz:=tP x w.heap.size (w.heap.size+1) (w.heap.size+1+1) _ _ _ w3 w w.heap.size k6 k7 k8 ⟨by omega,by omega,by omega⟩ ⟨by omega,by omega,by omega⟩ (Below.grow (Below.ext aw ar) ee (by omega));have xw:=aA rz;clear rz r6 r7 r8 k6 k7 k8 Kq r9;go_wp2;refine leaves_cons (f:=174) (args:= #[.pointer (some ⟨w.heap.size,0,none⟩),.pointer (some ⟨w.heap.size+1,0,none⟩),.pointer (some ⟨w.heap.size+1+1,0,none⟩)]) (by simp [mK]) (by simp [go_sem]) ?_;refine xw.out.mono ?_;rintro e u' Jz ⟨rfl,rfl,g6,g7,g8,fe⟩;refine Tybh ?_;rw [hx];exact ⟨rfl,fe⟩
  |ok vq=>
   obtain ⟨v,q⟩:=vq;rw [hx] at h3;obtain ⟨⟨_,rfl,Av,cv,rfl,hO⟩,Hk,ee⟩:=h3;have k6:=(ee.block w.heap.size (by omega) (by simp;omega)).trans ((ar.block _ (by omega)).trans r6);have k7:=(ee.block (w.heap.size+1) (by omega) (by simp;omega)).trans ((ar.block _ (by omega)).trans r7);have k8:=(ee.block (w.heap.size+1+1) (by omega) (by simp;omega)).trans ((ar.block _ (by omega)).trans r8);have c6:=bn k6;have c7:=bn k7;have c8:=bn k8;have f6:=frozen_of_row _ _ 0 _ _ k6;have f7:=frozen_of_row _ _ 0 _ _ k7;have f8:=frozen_of_row _ _ 0 _ _ k8;have b3:=Below.grow (Below.ext aw ar) ee (by omega);have c9:w3.cell? ⟨W.heap.size,1,none⟩=some (.int .i64 (q:Int)):=by
    obtain ⟨_,A',c',h1,_⟩:=Hk;rw [cell_of_row _ _ _ _ _ _ h1];rfl
   clear r6 r7 r8 k6 k7 k8 Kq r9;have n9:W.heap.size≠w.heap.size:=by omega
   go_wp2_with fail;have e6:(w3.setCell ⟨w.heap.size,0,none⟩ (.slice Av v.length cv)).cell? ⟨w.heap.size,0,none⟩=some (.slice Av v.length cv):=by go_simp
   have e9:(w3.setCell ⟨w.heap.size,0,none⟩ (.slice Av v.length cv)).cell? ⟨W.heap.size,1,none⟩=some (.int .i64 (q:Int)):=by go_simp
   have f6' :(w3.setCell ⟨w.heap.size,0,none⟩ (.slice Av v.length cv)).frozen? ⟨w.heap.size,0,none⟩=false:=by go_simp
   have bS:=b3.setCell (p:=⟨w.heap.size,0,none⟩) (Nat.le_refl _) (.slice Av v.length cv);have e7:(w3.setCell ⟨w.heap.size,0,none⟩ (.slice Av v.length cv)).cell? ⟨w.heap.size+1,0,none⟩=some (.int .i64 0):=by go_simp
   have e8:(w3.setCell ⟨w.heap.size,0,none⟩ (.slice Av v.length cv)).cell? ⟨w.heap.size+1+1,0,none⟩=some (.int .i64 0):=by go_simp
   have f7' :(w3.setCell ⟨w.heap.size,0,none⟩ (.slice Av v.length cv)).frozen? ⟨w.heap.size+1,0,none⟩=false:=by go_simp
   have f8' :(w3.setCell ⟨w.heap.size,0,none⟩ (.slice Av v.length cv)).frozen? ⟨w.heap.size+1+1,0,none⟩=false:=by go_simp
   clear c6 c7 c8 f6 f7 f8 c9 b3;have hO:=hO.kept (aL (j:=0) (v:= .slice Av v.length cv) ⟨rfl,rfl,rfl,Nat.le_refl _,λ_ _ _=>rfl⟩:w3.grownBy (w3.setCell ⟨w.heap.size,0,none⟩ (.slice Av v.length cv)) (some w.heap.size)) (by omega);generalize w3.setCell ⟨w.heap.size,0,none⟩ (.slice Av v.length cv)=W4 at*;refine aH (λw' =>w'.cell? ⟨w.heap.size,0,none⟩=some (.slice Av v.length cv)/\w'.cell? ⟨W.heap.size,1,none⟩=some (.int .i64 (q:Int))) (by kernel_rfl) (by kernel_rfl) ⟨e6,e9⟩ ?_;refine TkA ?_;refine lL (λw' ah =>aB (fm _) ah.1) ?_;refine Tyac ?_;refine lL (λw' ah =>aB (VZ _) ah.2) ?_;refine Tyai ?_;go_wp2_with fail;go_wp2_with fail;refine Tybu ?_;refine Tyah ?_;go_wp2_with fail;go_wp2_with fail;refine Tybu ?_;refine Tyah ?_;go_wp2_with fail;go_wp2_with fail;refine Tybu ?_;refine Tyan ?_;go_wp2_with fail;have g6:(((W4.setCell ⟨w.heap.size,0,none⟩ (.slice Av v.length cv)).setCell ⟨w.heap.size+1,0,none⟩ (.int .i64 (q:Int))).setCell ⟨w.heap.size+1+1,0,none⟩ (.int .i64 0)).drew.cell? ⟨w.heap.size,0,none⟩=some (.slice Av v.length cv):=by go_simp
   have g7:(((W4.setCell ⟨w.heap.size,0,none⟩ (.slice Av v.length cv)).setCell ⟨w.heap.size+1,0,none⟩ (.int .i64 (q:Int))).setCell ⟨w.heap.size+1+1,0,none⟩ (.int .i64 0)).drew.cell? ⟨w.heap.size+1,0,none⟩=some (.int .i64 (q:Int)):=by go_simp
   have g8:(((W4.setCell ⟨w.heap.size,0,none⟩ (.slice Av v.length cv)).setCell ⟨w.heap.size+1,0,none⟩ (.int .i64 (q:Int))).setCell ⟨w.heap.size+1+1,0,none⟩ (.int .i64 0)).drew.cell? ⟨w.heap.size+1+1,0,none⟩=some (.int .i64 0):=by go_simp
   have b7:=(((bS.setCell (p:=⟨w.heap.size,0,none⟩) (Nat.le_refl _) (.slice Av v.length cv)).setCell (p:=⟨w.heap.size+1,0,none⟩) (show _<=w.heap.size+1 by omega) (.int .i64 (q:Int))).setCell (p:=⟨w.heap.size+1+1,0,none⟩) (show _<=w.heap.size+1+1 by omega) (.int .i64 0)).drew;have vg0:W4.grownBy (W4.setCell ⟨w.heap.size,0,none⟩ (.slice Av v.length cv)) (some w.heap.size):=aL ⟨rfl,rfl,rfl,Nat.le_refl _,λ_ _ _=>rfl⟩;have WN:(W4.setCell ⟨w.heap.size,0,none⟩ (.slice Av v.length cv)).grownBy ((W4.setCell ⟨w.heap.size,0,none⟩ (.slice Av v.length cv)).setCell ⟨w.heap.size+1,0,none⟩ (.int .i64 (q:Int))) (some (w.heap.size+1)):=aL ⟨rfl,rfl,rfl,Nat.le_refl _,λ_ _ _=>rfl⟩;have WM:((W4.setCell ⟨w.heap.size,0,none⟩ (.slice Av v.length cv)).setCell ⟨w.heap.size+1,0,none⟩ (.int .i64 (q:Int))).grownBy (((W4.setCell ⟨w.heap.size,0,none⟩ (.slice Av v.length cv)).setCell ⟨w.heap.size+1,0,none⟩ (.int .i64 (q:Int))).setCell ⟨w.heap.size+1+1,0,none⟩ (.int .i64 0)) (some (w.heap.size+1+1)):=aL ⟨rfl,rfl,rfl,Nat.le_refl _,λ_ _ _=>rfl⟩;have hO:=(((hO.kept vg0 (by omega)).kept WN (by omega)).kept WM (by omega)).dr;clear vg0 WN WM;generalize (((W4.setCell ⟨w.heap.size,0,none⟩ (.slice Av v.length cv)).setCell ⟨w.heap.size+1,0,none⟩ (.int .i64 (q:Int))).setCell ⟨w.heap.size+1+1,0,none⟩ (.int .i64 0)).drew=W7 at*;refine Tyay ?_;refine (CI _ _ _ W7).mono ?_;rintro e u' Jz ⟨rfl,rfl,rfl⟩;refine Tybh ?_;refine ⟨?_,b7⟩;rw [hx];exact ⟨_,rfl,Av,cv,rfl,hO.weak (by omega)⟩
theorem wJ (A:Option Addr) (n c:Nat) (k:Int) (L:List UInt8) (S:Nat->Prop) (w:World) (hb:Bytes S w (.slice A n c) L) (hn:n<=100000000):
 Calls Tryz.prog 88 #[.slice A n c,.int .i64 k] w λe w' =>iE (eK eF L k) (.slice none 0 0) (λa w' v=>∃A c,v= .slice A a.length c/\cg w.heap.size w' v a) e w'/\Below w.heap.size w w' :=by
 go_enter func88,ntmps88;go_wp2_with fail;refine (GO A n c k L S w hb hn).mono ?_;rintro e w1 ⟨h1,al⟩;unfold iE at h1;cases hx:eK eF L k with
 |error x=>
  rw [hx] at h1;subst h1;go_wp2;refine Tya8 ?_;rw [hx];exact ⟨rfl,al⟩
 |ok vq=>
  obtain ⟨v,q⟩:=vq;rw [hx] at h1;obtain ⟨u,rfl,hV⟩:=h1;go_wp2;refine Tya8 ?_;rw [hx];exact ⟨⟨_,rfl,hV⟩,al⟩
theorem wI (A:Option Addr) (n c:Nat) (k:Int) (L:List UInt8) (S:Nat->Prop) (w:World) (hb:Bytes S w (.slice A n c) L) (hn:n<=100000000):
 Calls Tryz.prog 91 #[.slice A n c,.int .i64 k] w λe w' =>iE (eK eN L k) (.agg #[Value.slice none 0 0,Value.slice none 0 0,Value.slice none 0 0,Value.slice none 0 0]) (λa w' v=>StO w' w.heap.size v a) e w'/\Below w.heap.size w w' :=by
 obtain ⟨W,hW⟩:=eX (w.alloc (.cells #[Value.slice none 0 0,Value.slice none 0 0,Value.slice none 0 0,Value.slice none 0 0] 51));have aw:Below w.heap.size w W:=by rw [hW];exact (Below.refl _ _).alloc (Nat.le_refl _) _
 have r0:W.heap[w.heap.size]? =some (.cells #[Value.slice none 0 0,Value.slice none 0 0,Value.slice none 0 0,Value.slice none 0 0] 51 (0,0)):=by rw [hW];exact heap_alloc_new _ _
 have fo:W.heap.size=w.heap.size+1:=by rw [hW];simp
 go_enter func91,ntmps91;go_wp2_with fail;rw [<-hW];clear hW;refine (GN A n c k L S W (hb.ext aw) hn).mono ?_;rintro e w1 ⟨h1,al⟩;have R1:=aA ((al.block w.heap.size (by omega)).trans r0);have b1:=Below.ext aw al;clear r0 al;unfold iE at h1;cases hx:eK eN L k with
 |error x=>
  rw [hx] at h1;subst h1;go_wp2_with (refine sR R1 ?_)
  refine rU R1 ?_;rw [hx];exact ⟨rfl,Below.setRow b1 (Nat.le_refl _) _⟩
 |ok vq=>
  obtain ⟨v,q⟩:=vq;rw [hx] at h1;obtain ⟨u,rfl,hV⟩:=h1;obtain ⟨A1,c1,A2,c2,A3,c3,A4,c4,rfl,lv,dw,gg,jq⟩:=hV;have hg:w1.grownBy (w1.setRow w.heap.size #[Value.slice A1 v.cells.length c1,Value.slice A2 v.evs.length c2,Value.slice A3 v.sent.length c3,Value.slice A4 v.outs.length c4]) (some w.heap.size):=aC _ _ _;have lv:=lv.kept_lt hg (by omega);have dw:=dw.kept_lt hg (by omega);have gg:=gg.kept_lt hg (by omega);have jq:=jq.kept_lt hg (by omega);go_wp2_with (refine sR R1 ?_)
  refine rU R1 ?_;rw [hx];exact ⟨⟨_,rfl,A1,c1,A2,c2,A3,c3,A4,c4,rfl,lv.weak (by omega),dw.weak (by omega),gg.weak (by omega),jq.weak (by omega)⟩,Below.setRow b1 (Nat.le_refl _) _⟩
end Go.Proofs.YtiblijmngokcgaaGreatDoor
