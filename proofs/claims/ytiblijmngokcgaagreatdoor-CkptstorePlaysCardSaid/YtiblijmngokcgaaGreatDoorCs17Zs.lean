import Derived.Test.YtiblijmngokcgaaGreatDoorG29Zs
set_option linter.unusedVariables false
set_option linter.unusedSimpArgs false
set_option maxHeartbeats 4000000
set_option maxRecDepth 100000
namespace Go.Proofs.YtiblijmngokcgaaGreatDoor
open Go.Proofs.Tryz
open Go.RowKit
def kD (x:Nat×Nat):List Value:=[.int .i64 (x.1:Int),.int .i64 (x.2:Int)]
theorem lC (x:Nat×Nat):(kD x).length=2:=rfl
theorem xY (x:Nat×Nat):∀u∈kD x,u.oneCell' =true:=by
 intro u hu;simp only [kD,List.mem_cons,List.not_mem_nil,or_false] at hu;rcases hu with rfl|rfl<;>rfl
theorem JA:(Tryz.prog.info? 118).map (λi=>(i.zero,i.size,i.bytes))=some (some (.agg #[.int .i64 0,.int .i64 0]),2,16):=by kernel_rfl
theorem zZ {fs:List au} {i e:Nat} (h:Ea fs (i:Int)= .error e):dR fs (i+1)=dR fs i:=by simp [dR,LH,h]
theorem CZ {fs:List au} {i:Nat} {s:bj} (h:Ea fs (i:Int)= .ok s):dR fs (i+1)=dR fs i++ [(i,s.evs.length)]:=by simp [dR,LH,h]
theorem yB (A:Option Addr) (n c:Nat) (fs:List au) (S:Nat->Prop) (w:World) (hD:fh S w (.slice A n c) fs) (hn:n<=1000) (hf:eD fs):
 Calls Tryz.prog 38 #[.agg #[.slice A n c]] w λe w' =>∃A' k c',e= .returned (.slice A' k c')/\k<=n/\a8 kD 2 w' w.heap.size 118 (.slice A' k c') (dR fs n)/\Below w.heap.size w w' :=by
 have HF:=aA hf;have ez:=aA hD.len.1;obtain ⟨W,hW,bW,kW,SW,R0⟩:=bX w w #[.slice A n c] 36 (Below.refl _ _);have sW:w.heap.size<W.heap.size:=by have:=SW.out;omega
 have q0:=bn R0.out;have Bp:=hD.ext kW;clear hD hf;go_enter func38,ntmps38;go_upto_region 1 with fail;rw [<-hW];clear hW;go_wp2;go_loopw [3,10] (λv i wr=>∃(iv k:Nat) (B:Option Addr) (d:Nat),i= .int .i64 iv/\iv<=n/\v= .slice B k d/\k<=iv/\a8 kD 2 wr W.heap.size 118 (.slice B k d) (dR fs iv)/\Below W.heap.size W wr) (λ_ i _=>n-(intOf i).toNat);case atStart=>exact ⟨0,0,none,0,rfl,by omega,rfl,by omega,a8.nil_ _ _ _,Below.refl _ _⟩
 case round=>
  obtain ⟨iv,k,B,d,rfl,hiv,rfl,hk,hO,ag⟩:=hrel;have Ng:=ag.size;by_cases af:iv<n
  ·have C8:=aA ((iT fs HF.out _ _ _ (iZ fs (iv:Int)) (by have:=ez.out;omega)).2 A n c _ wr (Bp.ext ag) hn);have E6:=bT ag R0;go_wp2_with (refine lD (t:=36) E6 ?_)
   refine C8.out.mono ?_;rintro e wa ⟨gd,ba⟩;have sza:=ba.size;cases hr:Ea fs (iv:Int) with
   |error e0=>
    rw [hr] at gd;unfold Dh at gd;dsimp only at gd;obtain ⟨Jg,rfl⟩:=gd;have dx:((e0:Int)==0)=false:=by simpa using Jg
    have HP:=aA (zZ hr);clear hr Jg;obtain ⟨Wb,su,kg,Sg,bg,pj,Rg,zq,lg,_⟩:=bE wa #[.slice none 0 0,.slice none 0 0,.slice none 0 0,.slice none 0 0] 51;go_upto_region 6 with (refine sN ?_)
    try dsimp only
    rw [<-su,<-zq.out];clear su;exact Tzdv
   |ok s=>
    rw [hr] at gd;unfold Dh at gd;dsimp only at gd;obtain ⟨E1,p1,q1,E2,p2,q2,E3,p3,q3,E4,p4,q4,rfl,hU⟩:=gd;have dd:=hU.2.len.1;have Lm:=((iT fs HF.out _ _ _ (iZ fs (iv:Int)) (by have:=ez.out;omega)).1 s hr).2.1;have HP:=aA (show dR fs (iv+1)=dR fs iv++ [(iv,p2)] by rw [CZ hr,dd]);rw [dd] at Lm;clear hr hU dd;obtain ⟨Wb,su,kg,Sg,bg,pj,Rg,zq,lg,_⟩:=bE wa #[.slice E1 p1 q1,.slice E2 p2 q2,.slice E3 p3 q3,.slice E4 p4 q4] 51;have qg:=fi Rg.out;have y:=Below.ext ba kg;have sy:=y.size;have hl:=hO.len.1;have dw:=(hO.ext y).ext ((Below.refl _ Wb).alloc (Nat.le_refl _) (.cells #[.int .i64 (iv:Int),.int .i64 (p2:Int)] 118));have ax:a7 kD (λ_=>True) (Wb.alloc (.cells #[.int .i64 (iv:Int),.int .i64 (p2:Int)] 118)) (.slice (some ⟨Wb.heap.size,0,none⟩) 1 1) [(iv,p2)]:=⟨_,1,rfl,by simp,by simp [maxLen],Cs.lit _ _ _ _ _ trivial rfl⟩
    clear pj;go_upto_region 6 with (refine sN ?_)
    try dsimp only
    rw [<-su,<-zq.out];clear su;refine Tyal ?_;go_wp2_with (refine aJ (o:=⟨some 28,_,_,_,_,_⟩) lC xY (.agg #[.int .i64 0,.int .i64 0]) 16 _ _ 73 118 W.heap.size (dR fs iv) [(iv,p2)] (some ⟨Wb.heap.size,0,none⟩) 1 1 (.slice B k d) (k+1) rfl rfl underlying73 JA rfl (by omega) rfl rfl dw ax (by rw [hl]) (by omega) (by omega) (by simp;omega) ?_;intro A5 c5 w5 bf bk jm qx qw)
    have b5:Below W.heap.size W w5:=((Below.ext ag y).alloc (by omega) _).grown bk (by simp;omega) (λo e=>(World.ownsRow.lt dw o e).1);exact Tzet
  ·obtain rfl:iv=n:=by omega
   go_wp2;go_ret;exact ⟨_,_,_,rfl,hk,hO.weak (by omega),Below.ext kW ag⟩
theorem yE (ay:Int) (l:List (Nat×Nat)) (j:Nat) (p:Nat×Nat) (h:l[j]? =some p):(l.take (j+1)).foldl (bY ay) none=bY ay ((l.take j).foldl (bY ay) none) p:=by
 rw [List.take_add_one,h,List.foldl_append];rfl
theorem JX (A:Option Addr) (n c:Nat) (fs:List au) (S:Nat->Prop) (w:World) (hD:fh S w (.slice A n c) fs) (hn:n<=1000) (hf:eD fs) (ay:Int):
 Calls Tryz.prog 31 #[.agg #[.slice A n c],.int .i64 ay] w λe w' =>e= .returned (.tuple #[.int .i64 (((nB ay (dR fs n)).getD (0,0)).1:Int),.bool (nB ay (dR fs n)).isSome])/\Below w.heap.size w w' :=by
 obtain ⟨W,hW,aw,SW,R0,R1⟩:∃W,W=(w.alloc (.cells #[.slice A n c] 36)).alloc (.cells #[.int .i64 0,.int .i64 0] 118)/\Below w.heap.size w W/\RowKit.Hid (W.heap.size=w.heap.size+2)/\
  RowKit.Hid (W.heap[w.heap.size]? =some (.cells #[.slice A n c] 36 (0,0)))/\RowKit.Hid (W.heap[w.heap.size+1]? =some (.cells #[.int .i64 0,.int .i64 0] 118 (0,0))):=by
  refine ⟨_,rfl,((Below.refl _ w).alloc (Nat.le_refl _) _).alloc (by simp) _,aA (by simp),aA ?_,aA ?_⟩
  ·exact Tzap
  ·have:=heap_alloc_new (w.alloc (.cells #[.slice A n c] 36)) (.cells #[.int .i64 0,.int .i64 0] 118);rw [World.size_alloc] at this;exact this
 have sW:w.heap.size+1<W.heap.size:=by have:=SW.out;omega
 have HL:=aA (yB A n c fs _ W (hD.ext aw) hn hf);clear hD hf;go_enter func31,ntmps31;go_upto_region 2 with (refine sN ?_)
 try dsimp only
 rw [<-hW];clear hW;go_wp2_with (refine lD (t:=36) R0 ?_)
 refine HL.out.mono ?_;rintro e w1 ⟨B,k,d,rfl,hk,hO,al⟩;have s1:=al.size;have Yf:=hO.recs.mono (S' :=λb=>b≠w.heap.size+1) (λb _ h=>by have h2:W.heap.size<=b:=h.1;omega);have HK:=aA hO.len.1;have yw:=bT al R1 sW;clear hO;go_wp2;go_loopw [7,14] (λv i wr=>∃(j:Nat) (o:Option (Nat×Nat)),i= .int .i64 j/\j<=k/\v= .bool o.isSome/\RowKit.Hid (o=((dR fs n).take j).foldl (bY ay) none)/\RowKit.Hid (wr.heap[w.heap.size+1]? =some (.cells #[.int .i64 ((o.getD (0,0)).1:Int),.int .i64 ((o.getD (0,0)).2:Int)] 118 (0,0)))/\w1.grownBy wr (some (w.heap.size+1))) (λ_ i _=>k-(intOf i).toNat);case atStart=>exact ⟨0,none,rfl,by omega,rfl,aA rfl,yw,mJ _ _⟩
 case round=>
  obtain ⟨j,o,rfl,hj,rfl,HO,RB0,ja⟩:=hrel;have Ng:w1.heap.size<=wr.heap.size:=ja.size;by_cases af:j<k
  ·obtain ⟨b,off,⟨a,x⟩,rfl,_,hb,hx,hc⟩:=(Yf.keep (ae.of_grown ja)).at_ lC (j:=j) (by have:=HK.out;omega) (by omega);have gd:(loadVar 118 ⟨b,off+j*2,none⟩).run Tryz.prog wr= .ok (.agg #[.int .i64 (a:Int),.int .i64 (x:Int)]) wr:=by
    have:=run_loadVar_mid (P:=Tryz.prog) wr b (off+j*2) 118 (kD (a,x)) _ (λi u hu=>hc i u hu) underlying118 rfl (by kernel_rfl);simpa [kD] using this
   have C8:=aA gd;have cn:=yE ay _ j _ hx;rw [<-HO.out] at cn;clear hx hc gd;obtain ⟨Wb,su,kg,Sg,bg,pj,Rg,zq,lg,_⟩:=bE wr #[.int .i64 (a:Int),.int .i64 (x:Int)] 118;have RB:=bT kg RB0;have qa:=fi Rg.out;have qb:=fi RB.out;have gb:w1.grownBy Wb (some (w.heap.size+1)):=aE ja (aN kg _);clear pj ja;have stay:RowKit.Hid (bY ay o (a,x)=o)->RowKit.Hid (o=((dR fs n).take (j+1)).foldl (bY ay) none):=λh=>aA (by rw [cn,h.out])
   have take_:RowKit.Hid (bY ay o (a,x)=some (a,x))->RowKit.Hid (some (a,x)=((dR fs n).take (j+1)).foldl (bY ay) none):=λh=>aA (by rw [cn,h.out])
   have Qb:=aA stay;have YC:=aA take_;have RT:=aA (show (Wb.setRow (w.heap.size+1) #[.int .i64 (a:Int),.int .i64 (x:Int)]).heap[w.heap.size+1]? =some (.cells #[.int .i64 (a:Int),.int .i64 (x:Int)] 118 (0,0)) from setRow_heap _ _ _ _ _ _ RB.out);have GT:w1.grownBy (Wb.setRow (w.heap.size+1) #[.int .i64 (a:Int),.int .i64 (x:Int)]) (some (w.heap.size+1)):=aE gb (aC _ _ _);clear cn stay take_;by_cases h1:(x:Int)<=ay
   ·have d1:decide ((x:Int)<=ay)=true:=by simpa using h1
    cases o with
    |none=>
     have HN:=aA (show bY ay none (a,x)=some (a,x) by simp [bY,h1]);dsimp only [Option.isSome_none,Option.getD_none] at qb RB RB0 ⊢;clear h1;exact Tzcn
    |some q=>
     obtain ⟨q1,q2⟩:=q;dsimp only [Option.isSome_some,Option.getD_some] at qb RB RB0 ⊢;by_cases h2:q2<x
     ·have d2:decide (q2<x)=true:=by simpa using h2
      have HN:=aA (show bY ay (some (q1,q2)) (a,x)=some (a,x) by simp [bY,h1,h2]);clear h1 h2;exact Tzcn
     ·have d2:decide (q2<x)=false:=by simpa using h2
      have HN:=aA (show bY ay (some (q1,q2)) (a,x)=some (q1,q2) by simp [bY,h1,h2]);clear h1 h2;go_upto_region 5 with (first|(refine aK (t:=118) (A:=⟨b,off+j*2,none⟩) rfl rfl rfl C8.out ?_)|(refine sN ?_))
      try dsimp only
      rw [<-su,<-zq.out];clear su;refine Tyal ?_;go_wp2;go_roundw;case rel=>exact ⟨j+1,some (q1,q2),by go_num,by omega,rfl,Qb.out HN,RB,gb⟩
      case measure=>simp [intOf];omega
   ·have d1:decide ((x:Int)<=ay)=false:=by simpa using h1
    have HN:=aA (show bY ay o (a,x)=o by simp [bY,h1]);clear h1;go_upto_region 5 with (first|(refine aK (t:=118) (A:=⟨b,off+j*2,none⟩) rfl rfl rfl C8.out ?_)|(refine sN ?_))
    try dsimp only
    rw [<-su,<-zq.out];clear su;refine Tyal ?_;go_wp2;go_roundw;case rel=>exact ⟨j+1,o,by go_num,by omega,rfl,Qb.out HN,RB,gb⟩
    case measure=>simp [intOf];omega
  ·obtain rfl:j=k:=by omega
   have q0:=bn RB0.out
   have an:=aA (show nB ay (dR fs n)=o by
    have h:=HO.out;rw [List.take_of_length_le (by have:=HK.out;omega)] at h;exact h.symm)
   go_wp2;rw [an.out];go_ret2;exact ⟨rfl,aw.grown (aE (aN al _) ja) aw.size (λo e=>by cases e;omega)⟩
end Go.Proofs.YtiblijmngokcgaaGreatDoor
