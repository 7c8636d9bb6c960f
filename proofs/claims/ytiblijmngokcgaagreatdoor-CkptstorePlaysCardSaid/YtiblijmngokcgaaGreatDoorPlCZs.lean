import Derived.Test.YtiblijmngokcgaaGreatDoorG41Zs
import Derived.Test.YtiblijmngokcgaaGreatDoorPl9Zs
set_option linter.unusedVariables false
set_option linter.unusedSimpArgs false
set_option maxHeartbeats 8000000
set_option maxRecDepth 100000
namespace Go.Proofs.YtiblijmngokcgaaGreatDoor
open Go.Proofs.Tryz
open Go.RowKit
def jI (fs:List au) (slot:Int):Except Nat (List au):=if 0<=slot/\slot<(fs.length:Int) then .ok (fs.set slot.toNat ⟨[],[]⟩) else .error 11
theorem MP {fs Cl :List au} {slot:Int} (h:jI fs slot= .ok Cl):Cl.length=fs.length/\(eD fs->eD Cl):=by
 unfold jI at h;split at h
 ·cases h;refine ⟨by simp,λhf f hm=> ?_⟩;rcases List.mem_or_eq_of_mem_set hm with h3|h3
  ·exact hf f h3
  ·subst h3;simp
 ·cases h
theorem FK (A:Option Addr) (n c:Nat) (fs:List au) (S:Nat->Prop) (w:World) (hD:fh S w (.slice A n c) fs) (hn:n<=1000) (slot:Int):
 Calls Tryz.prog 15 #[.agg #[.slice A n c],.int .i64 slot] w λe w' =>Vn (λb=>S b∨w.heap.size<=b) n w' (jI fs slot) e/\Below w.heap.size w w' :=by
 have hlen:=hD.len.1;obtain ⟨W,hW,aw,fo,vd,iy⟩:=fQ w (.slice A n c);have SW:=aA fo;have R0:=aA vd;have R1:=aA iy;have sx:=(hD.mono (S' :=λb=>S b/\b<w.heap.size) (λb hb hs=>⟨hs,hb⟩)).ext aw;have sW:w.heap.size+1<W.heap.size:=by omega
 clear fo vd iy hD;by_cases ho:slot<0∨(n:Int)<=slot
 ·have Qv:=aA (EG A n c slot ho hn none 0 0 W);have an:=aA (show jI fs slot= .error 11 by unfold jI;rw [if_neg (by omega)]);clear ho sx;go_enter func15,ntmps15;exact Tzcx
 ·obtain ⟨k,rfl⟩:=Int.eq_ofNat_of_zero_le (show 0<=slot by omega);have hk:k<n:=by omega
  have an:=aA (show jI fs (k:Int)= .ok (fs.set k ⟨[],[]⟩) by unfold jI;rw [if_pos (by omega)];rfl);have Qv:=aA (qB A n c fs _ W sx hn k hk none 0 0 [] (λ_=>True) (a7.nil_ _ _) (by omega));clear ho sx;go_enter func15,ntmps15;exact Tzbo
theorem EK (A:Option Addr) (n c:Nat) (fs:List au) (S:Nat->Prop) (w:World) (hD:fh S w (.slice A n c) fs) (hn:n<=1000) (slot:Int):
 Calls Tryz.prog 16 #[.agg #[.slice A n c],.int .i64 slot] w λe w' =>Vn (λb=>S b∨w.heap.size<=b) n w' (jI fs slot) e/\Below w.heap.size w w' :=by
 have hlen:=hD.len.1;obtain ⟨W,hW,aw,fo,vd,iy⟩:=fQ w (.slice A n c);have SW:=aA fo;have R0:=aA vd;have R1:=aA iy;have sx:=(hD.mono (S' :=λb=>S b/\b<w.heap.size) (λb hb hs=>⟨hs,hb⟩)).ext aw;have sW:w.heap.size+1<W.heap.size:=by omega
 clear fo vd iy hD;by_cases ho:slot<0∨(n:Int)<=slot
 ·have Qv:=aA (yJ A n c slot ho hn none 0 0 W);have an:=aA (show jI fs slot= .error 11 by unfold jI;rw [if_neg (by omega)]);clear ho sx;go_enter func16,ntmps16;exact Tzcx
 ·obtain ⟨k,rfl⟩:=Int.eq_ofNat_of_zero_le (show 0<=slot by omega);have hk:k<n:=by omega
  have an:=aA (show jI fs (k:Int)= .ok (fs.set k ⟨[],[]⟩) by unfold jI;rw [if_pos (by omega)];rfl);have Qv:=aA (nC A n c fs _ W sx hn k hk none 0 0 [] (λ_=>True) (a7.nil_ _ _) (by omega));clear ho sx;go_enter func16,ntmps16;exact Tzbo
theorem wY (A:Option Addr) (n c:Nat) (fs:List au) (S:Nat->Prop) (w:World) (hD:fh S w (.slice A n c) fs) (hn:n<=1000) (hf:eD fs):
 Calls Tryz.prog 64 #[.agg #[.slice A n c]] w λe w' =>∃A' k c',e= .returned (.slice A' k c')/\k<=n/\a8 kD 2 w' w.heap.size 118 (.slice A' k c') (dR fs n)/\Below w.heap.size w w' :=by
 have HF:=aA hf;have ez:=aA hD.len.1;obtain ⟨W,hW,bW,kW,SW,R0⟩:=bX w w #[.slice A n c] 36 (Below.refl _ _);have sW:w.heap.size<W.heap.size:=by have:=SW.out;omega
 have Bp:=hD.ext kW;clear hD hf;go_enter func64,ntmps64;go_upto_region 1 with fail;rw [<-hW];clear hW;go_wp2;go_loopw [3,4] (λv i wr=>∃(iv k:Nat) (B:Option Addr) (d:Nat),i= .int .i64 iv/\iv<=n/\v= .slice B k d/\k<=iv/\a8 kD 2 wr W.heap.size 118 (.slice B k d) (dR fs iv)/\Below W.heap.size W wr) (λ_ i _=>n-(intOf i).toNat);case atStart=>exact ⟨0,0,none,0,rfl,by omega,rfl,by omega,a8.nil_ _ _ _,Below.refl _ _⟩
 case round=>
  obtain ⟨iv,k,B,d,rfl,hiv,rfl,hk,hO,ag⟩:=hrel;have Ng:=ag.size;have E6:=bT ag R0;have qd:=bn E6.out;by_cases af:iv<n
  ·have C8:=aA ((mP fs HF.out _ _ _ (iZ fs (iv:Int)) (by have:=ez.out;omega)).2 A n c _ wr (Bp.ext ag) hn);go_wp2_with (refine lD (t:=36) E6 ?_)
   refine C8.out.mono ?_;rintro e wa ⟨gd,ba⟩;have sza:=ba.size;clear qd;cases hr:Ea fs (iv:Int) with
   |error e0=>
    rw [hr] at gd;unfold Dh at gd;dsimp only at gd;obtain ⟨Jg,rfl⟩:=gd;have dx:((e0:Int)==0)=false:=by simpa using Jg
    have HP:=aA (zZ hr);clear hr Jg;obtain ⟨Wb,su,kg,Sg,bg,pj,Rg,zq,lg,mg⟩:=bE wa #[.slice none 0 0,.slice none 0 0,.slice none 0 0,.slice none 0 0] 51;go_upto_region 6 with (refine sN ?_)
    try dsimp only
    rw [<-su,<-zq.out];clear su pj;exact Tzdv
   |ok s=>
    rw [hr] at gd;unfold Dh at gd;dsimp only at gd;obtain ⟨E1,p1,q1,E2,p2,q2,E3,p3,q3,E4,p4,q4,rfl,hU⟩:=gd;have dd:=hU.2.len.1;have Lm:=((mP fs HF.out _ _ _ (iZ fs (iv:Int)) (by have:=ez.out;omega)).1 s hr).2.1;have HP:=aA (show dR fs (iv+1)=dR fs iv++ [(iv,p2)] by rw [CZ hr,dd]);rw [dd] at Lm;clear hr hU dd;obtain ⟨Wb,su,kg,Sg,bg,pj,Rg,zq,lg,mg⟩:=bE wa #[.slice E1 p1 q1,.slice E2 p2 q2,.slice E3 p3 q3,.slice E4 p4 q4] 51;have qg:=fi Rg.out;have y:=Below.ext ba kg;have sy:=y.size;have hl:=hO.len.1;have dw:=(hO.ext y).ext ((Below.refl _ Wb).alloc (Nat.le_refl _) (.cells #[.int .i64 (iv:Int),.int .i64 (p2:Int)] 118));have ax:a7 kD (λ_=>True) (Wb.alloc (.cells #[.int .i64 (iv:Int),.int .i64 (p2:Int)] 118)) (.slice (some ⟨Wb.heap.size,0,none⟩) 1 1) [(iv,p2)]:=⟨_,1,rfl,by simp,by simp [maxLen],Cs.lit _ _ _ _ _ trivial rfl⟩
    go_upto_region 6 with (refine sN ?_)
    try dsimp only
    rw [<-su,<-zq.out];clear su pj;refine Tyal ?_;go_wp2_with (refine eY 29 rfl ?_)
    refine ⟨?_⟩;refine aJ lC xY (.agg #[.int .i64 0,.int .i64 0]) 16 _ _ 73 118 W.heap.size (dR fs iv) [(iv,p2)] (some ⟨Wb.heap.size,0,none⟩) 1 1 (.slice B k d) (k+1) rfl rfl underlying73 JA rfl (by omega) rfl rfl dw ax (by rw [hl]) (by omega) (by omega) (by simp;omega) ?_;intro A5 c5 w5 bf bk jm qx qw;have b5:Below W.heap.size W w5:=((Below.ext ag y).alloc (by omega) _).grown bk (by simp;omega) (λo e=>(World.ownsRow.lt dw o e).1);go_wp2;exact Tzet
  ·obtain rfl:iv=n:=by omega
   go_wp2;go_ret;exact ⟨_,_,_,rfl,hk,hO.weak (by omega),Below.ext kW ag⟩
theorem GU (A:Option Addr) (n c:Nat) (fs:List au) (S:Nat->Prop) (w:World) (hD:fh S w (.slice A n c) fs) (hn:n<=1000) (hf:eD fs) (ay:Int):
 Calls Tryz.prog 62 #[.agg #[.slice A n c],.int .i64 ay] w λe w' =>e= .returned (.tuple #[.int .i64 (((nB ay (dR fs n)).getD (0,0)).1:Int),.bool (nB ay (dR fs n)).isSome])/\Below w.heap.size w w' :=by
 obtain ⟨W,hW,bW,kW,SW,R0⟩:=bX w w #[.slice A n c] 36 (Below.refl _ _);have HL:=aA (wY A n c fs _ W (hD.ext kW) hn hf);clear hD hf;go_enter func62,ntmps62;go_upto_region 1 with fail;rw [<-hW];clear hW;go_wp2_with (refine lD (t:=36) R0 ?_)
 refine HL.out.mono ?_;rintro e w1 ⟨B,k,d,rfl,hk,hO,al⟩;have Yf:=hO.recs;have HK:=aA hO.len.1;have Es :=Below.ext kW al;clear hO;go_wp2;go_loopw [7,8,9,10] (λv1 v2 v3 i wr=>∃(j:Nat) (o:Option (Nat×Nat)),i= .int .i64 j/\j<=k/\v1= .int .i64 ((o.getD (0,0)).1:Int)/\v2= .int .i64 ((o.getD (0,0)).2:Int)/\v3= .bool o.isSome/\RowKit.Hid (o=((dR fs n).take j).foldl (bY ay) none)/\Below w1.heap.size w1 wr) (λ_ _ _ i _=>k-(intOf i).toNat);case atStart=>exact ⟨0,none,rfl,by omega,rfl,rfl,rfl,aA rfl,Below.refl _ _⟩
 case round=>
  obtain ⟨j,o,rfl,hj,rfl,rfl,rfl,HO,ag⟩:=hrel;by_cases af:j<k
  ·obtain ⟨b,off,⟨a,x⟩,rfl,_,hb,hx,hc⟩:=(Yf.ext ag).at_ lC (j:=j) (by have:=HK.out;omega) (by omega);have p0:wr.cell? ⟨b,off+j*2,none⟩=some (.int .i64 (a:Int)):=by have:=hc 0 _ rfl;simpa using this
   have p1:wr.cell? ⟨b,off+j*2+1,none⟩=some (.int .i64 (x:Int)):=hc 1 _ rfl
   have cn:=yE ay _ j _ hx;rw [<-HO.out] at cn;clear hx hc;have stay:RowKit.Hid (bY ay o (a,x)=o)->RowKit.Hid (o=((dR fs n).take (j+1)).foldl (bY ay) none):=λh=>aA (by rw [cn,h.out])
   have take_:RowKit.Hid (bY ay o (a,x)=some (a,x))->RowKit.Hid (some (a,x)=((dR fs n).take (j+1)).foldl (bY ay) none):=λh=>aA (by rw [cn,h.out])
   have Qb:=aA stay;have YC:=aA take_;clear cn stay take_;by_cases h1:(x:Int)<=ay
   ·have d1:decide ((x:Int)<=ay)=true:=by simpa using h1
    cases o with
    |none=>
     have HN:=aA (show bY ay none (a,x)=some (a,x) by simp [bY,h1]);dsimp only [Option.isSome_none,Option.getD_none];clear h1;exact Tzda
    |some q=>
     obtain ⟨q1,q2⟩:=q;dsimp only [Option.isSome_some,Option.getD_some];by_cases h2:q2<x
     ·have d2:decide (q2<x)=true:=by simpa using h2
      have HN:=aA (show bY ay (some (q1,q2)) (a,x)=some (a,x) by simp [bY,h1,h2]);clear h1 h2;exact Tzda
     ·have d2:decide (q2<x)=false:=by simpa using h2
      have HN:=aA (show bY ay (some (q1,q2)) (a,x)=some (q1,q2) by simp [bY,h1,h2]);clear h1 h2;go_wp2;go_roundw;case rel=>exact ⟨j+1,some (q1,q2),by go_num,by omega,rfl,rfl,rfl,Qb.out HN,ag⟩
      case measure=>simp [intOf];omega
   ·have d1:decide ((x:Int)<=ay)=false:=by simpa using h1
    have HN:=aA (show bY ay o (a,x)=o by simp [bY,h1]);clear h1;go_wp2;go_roundw;case rel=>exact ⟨j+1,o,by go_num,by omega,rfl,rfl,rfl,Qb.out HN,ag⟩
    case measure=>simp [intOf];omega
  ·obtain rfl:j=k:=by omega
   have an:=aA (show nB ay (dR fs n)=o by
    have h:=HO.out;rw [List.take_of_length_le (by have:=HK.out;omega)] at h;exact h.symm)
   go_wp2;rw [an.out];go_ret2;exact ⟨rfl,Below.ext Es ag⟩
theorem BY (A:Option Addr) (n c:Nat) (fs:List au) (S:Nat->Prop) (w:World) (hD:fh S w (.slice A n c) fs) (hn:n<=1000) (hf:eD fs) (L:Option Addr) (ln lc:Nat) (zs:List Int) (Sl:Nat->Prop) (hE:a7 bB Sl w (.slice L ln lc) zs):
 Calls Tryz.prog 66 #[.agg #[.slice A n c],.slice L ln lc] w λe w' =>∃A' k c',e= .returned (.slice A' k c')/\a8 bB 1 w' w.heap.size 3 (.slice A' k c') (fO (cE fs n zs) n)/\Below w.heap.size w w' :=by
 have HF:=aA hf;have ez:=aA hD.len.1;obtain ⟨W,hW,bW,kW,SW,R0⟩:=bX w w #[.slice A n c] 36 (Below.refl _ _);have sW:w.heap.size<W.heap.size:=by have:=SW.out;omega
 have q0:=bn R0.out;have Bp:=hD.ext kW;have Jp:=hE.ext kW;have Kl:=LQ n hn W;have Kk:=DG n hn W;obtain ⟨W1,px⟩:=eX (W.alloc (.cells (madeCells (jH false).toArray (n*1)) 4));rw [<-px] at Kk Kl;have k1:Below W.heap.size W W1:=by rw [px];exact (Below.refl _ _).alloc (Nat.le_refl _) _
 have s1:W1.heap.size=W.heap.size+1:=by rw [px];simp
 obtain ⟨gm,VS⟩:=eX W.heap.size;have lgm:gm<W1.heap.size:=by omega
 have mgm:w.heap.size<gm:=by omega
 have D1:=(Bp.mono (S' :=λb=>b<gm) (λb h _=>by omega)).ext k1;have E1:=(Jp.mono (S' :=λb=>b<gm) (λb h _=>by omega)).ext k1;have uh:=bT k1 R0 sW;have B1:=Below.ext kW k1;rw [<-VS] at Kk Kl;clear hE hD hf Bp Jp s1 px VS;go_enter func66,ntmps66;go_upto_region 1 with fail;rw [<-hW];clear hW;go_wp2;clear Kl q0;go_loopg [6] (n+1) (λgk i wr=>∃(k:Nat) (bs:List Bool),i= .int .i64 (k:Int)/\k<=n/\n+1<=k+gk/\RowKit.Hid (bs=cE fs n (eZ fs zs k))/\a8 jH 1 wr gm 4 (.slice (some ⟨gm,0,none⟩) n n) bs/\W1.grownBy wr (some gm));case atStart=>exact ⟨0,_,rfl,by omega,by omega,aA rfl,Kk,bC _ _⟩
 case round=>
  obtain ⟨k,bs,rfl,hk,XG,HB,hO,ja⟩:=hrel;have Ng:W1.heap.size<=wr.heap.size:=ja.size;have j6:=hO.len.1;have rj:=gT ja uh;have qd:=bn rj.out;obtain ⟨g0,El⟩:=eX gk;rw [<-El] at XG;have Vj:=aA El;clear El;by_cases af:k<n
  ·have D2:=D1.keep (w' :=wr) (λb hb hs=>ja.block b hb (by simp;omega));have C8:=aA ((mP fs HF.out _ _ _ (iZ fs (k:Int)) (by have:=ez.out;omega)).2 A n c _ wr D2 hn);go_wp2_with (refine lD (t:=36) rj ?_)
   refine C8.out.mono ?_;rintro e w3 ⟨gd,b3⟩;have gg:=hO.ext b3;have UE:W1.grownBy w3 (some gm):=aE ja (aN b3 _);clear qd;cases hr:Ea fs (k:Int) with
   |error x0=>
    rw [hr] at gd;unfold Dh at gd;dsimp only at gd;obtain ⟨fa,rfl⟩:=gd;have dx:((x0:Int) != 0)=true:=by simpa using fa
    have HN:=aA (show bs=cE fs n (eZ fs zs (k+1)) by rw [GJ hr];exact HB.out);clear hr fa;obtain ⟨W4,ng,kg,Sg,bg,pj,Rg,zq,lg,mg⟩:=bE w3 #[.slice none 0 0,.slice none 0 0,.slice none 0 0,.slice none 0 0] 51;have Sy:W1.grownBy W4 (some gm):=aE UE (aN kg _);have jq:=gg.ext kg;go_upto_region 6 with (refine sN ?_)
    try dsimp only
    rw [<-ng,<-zq.out];clear ng pj;refine Tyal ?_;go_wp2;go_roundg (g0-1);case rel=>exact ⟨k+1,bs,by go_num,by omega,by omega,HN,jq,Sy⟩
    case measure=>have:=Vj.out;omega
   |ok s=>
    rw [hr] at gd;unfold Dh at gd;dsimp only at gd;obtain ⟨E1_,p1,q1,E2,p2,q2,E3,p3,q3,E4,p4,q4,rfl,hU⟩:=gd;have HRK:=aA hr;clear hr hU;obtain ⟨W4,ng,kg,Sg,bg,pj,Rg,zq,lg,mg⟩:=bE w3 #[.slice E1_ p1 q1,.slice E2 p2 q2,.slice E3 p3 q3,.slice E4 p4 q4] 51;have Sy:W1.grownBy W4 (some gm):=aE UE (aN kg _);have jq:=gg.ext kg;have L6:=aA (OD L ln lc zs _ W4 (E1.keep (w' :=W4) (λb hb hs=>Sy.block b hb (by simp;omega))) (k:Int));go_upto_region 6 with (refine sN ?_)
    try dsimp only
    rw [<-ng,<-zq.out];clear ng pj;refine Tyal ?_;obtain ⟨gi,Jd⟩:=eX (decide ((k:Int)∈zs));rw [<-Jd] at L6;have HGI:=aA Jd;clear Jd gg UE;go_wp2_with fail;refine L6.out.mono ?_;rintro e w5 ⟨rfl,b5⟩;have ux:=jq.ext b5;have Mf:W1.grownBy w5 (some gm):=aE Sy (aN b5 _);clear jq Sy;cases gi with
    |false=>
     have HN:=aA (show bs=cE fs n (eZ fs zs (k+1)) by rw [KP (by have:=HGI.out;simpa using this.symm)];exact HB.out);go_wp2;go_roundg (g0-1);case rel=>exact ⟨k+1,bs,by go_num,by omega,by omega,HN,ux,Mf⟩
     case measure=>have:=Vj.out;omega
    |true=>
    have lf:=aA (show eA fs (bs.count false) bs (k:Int)=cE fs n (eZ fs zs (k+1)) by rw [KQ HRK.out (by have:=HGI.out;simpa using this.symm),EX,<-HB.out]);have Ay:=aA (show 0<=(k:Int)->Ld fs (k:Int) from λ_=>⟨s,HRK.out⟩);have XO:=List.count_le_length (a:=false) (l:=bs);go_wp2_with fail;go_loopg [9] (n+1) (λgj v wr=>∃(z1:Int) (zo:List Bool),v= .int .i64 z1/\av z1/\RowKit.Hid (0<=z1->Ld fs z1)/\zo.count false+1<=gj/\RowKit.Hid (eA fs (zo.count false) zo z1=cE fs n (eZ fs zs (k+1)))/\a8 jH 1 wr gm 4 (.slice (some ⟨gm,0,none⟩) n n) zo/\W1.grownBy wr (some gm));case atStart=>exact ⟨(k:Int),bs,rfl,⟨by omega,by omega⟩,Ay,by omega,lf,ux,Mf⟩
    case round=>
     clear ja hO XO j6 ux Mf rj D2;obtain ⟨z1,zo,rfl,od,HLD1,hgj,HT,dw,ji⟩:=hrel;obtain ⟨g1,fj⟩:=eX gk;rw [<-fj] at hgj;have HG1:=aA fj;clear fj;unfold av at od;have szr2:W1.heap.size<=wr.heap.size:=ji.size;have j6:=dw.len.1;by_cases h0:z1<0
     ·have d0:decide (0<=z1)=false:=by simp;omega
      have HN:=aA (show zo=cE fs n (eZ fs zs (k+1)) by rw [<-HT.out];exact (nA (.inl h0)).symm);clear h0;exact Tzb8
     obtain ⟨j,rfl⟩:=Int.eq_ofNat_of_zero_le (show 0<=z1 by omega);have hLD:=HLD1.out (by omega);have h1:j<n:=by have:=hLD.at_;have:=ez.out;omega
     obtain ⟨b,hb,VY,Jk⟩:=dw.cellBl h1;cases b with
     |true=>
      have HN:=aA (show zo=cE fs n (eZ fs zs (k+1)) by rw [<-HT.out];exact (nA (.inr (by rw [Int.toNat_natCast,hb];simp))).symm);clear hb h0 hLD;exact Tzb8
     |false=>
      have qj:eA fs (zo.count false) zo (j:Int)=eA fs ((zo.set j true).count false) (zo.set j true) (dZ fs (j:Int)):=by
       obtain ⟨s',hs'⟩:=hLD;exact BG hs' hb
      rw [HT.out] at qj;have HGO:=aA qj.symm;have hct:=pF hb;have HLB:=aA hLD.base;obtain ⟨W5,nj⟩:=eX (wr.setCell ⟨gm,j,none⟩ (.bool true));have ux:=dw.setBl j true;rw [<-nj] at ux;have Mf:W1.grownBy W5 (some gm):=by rw [nj];exact aL ji
      have I6:=gT Mf uh;have D5:=D1.keep (w' :=W5) (λb hb hs=>Mf.block b hb (by simp;omega));have WC:=aA (mS A n c fs _ W5 D5 hn (j:Int) HF.out);have nx:=jS HF.out (j:Int);have s5:W1.heap.size<=W5.heap.size:=Mf.size;clear hb h0 hLD qj;go_upto_region 10 with fail;rw [<-nj];clear nj VY Jk dw ji;go_wp2_with (refine lD (t:=36) I6 ?_)
      refine WC.out.mono ?_;rintro e w6 ⟨A6,m6,c6,rfl,X9,b6⟩;have hm6:=X9.len.1;have HRG:=aA (mR A6 m6 c6 _ _ w6 X9 (by omega));clear X9 hm6 nx;go_wp2_with fail;refine HRG.out.mono ?_;rintro e w7 ⟨h,qq,x,rfl,Zt,b7⟩;have jl:h.base=dZ fs (j:Int):=by
       unfold dZ;rcases Zt with ⟨oi,_⟩|⟨oi,fa,rfl,_⟩
       ·rw [oi]
       ·rw [oi]
      have Y6:=xS (fs:=fs) (z:=(j:Int));have Jc:=HGO.out;have Xt:=HLB.out;rw [<-jl] at Y6 Jc Xt;have Mn:=aA Jc;have oc:=aA (show 0<=h.base->Ld fs h.base from λh0=>Xt.resolve_left (by omega));clear Zt jl Jc Xt;obtain ⟨W8,sw,ke,Se,be,VX,Re,YZ,le,me⟩:=bE w7 #[.int .i64 h.kind,.int .i64 h.stamp,.int .i64 h.base,.int .i64 h.under] 96;have k8:=Below.ext b6 (Below.ext b7 ke);have hO8:=ux.ext k8;have gr8:W1.grownBy W8 (some gm):=aE Mf (aN k8 _);have qe:=gn Re.out;go_upto_region 11 with (refine sN ?_)
      try dsimp only
      rw [<-sw,<-YZ.out];clear sw VX;refine Tyal ?_;go_wp2;go_roundg (g1-1);case rel=>exact ⟨h.base,zo.set j true,rfl,Y6,oc,by omega,Mn,hO8,gr8⟩
      case measure=>have:=HG1.out;omega
  ·obtain rfl:k=n:=by omega
   have an:=aA (show cE fs k zs=bs by rw [HB.out];exact (CC (by rw [ez.out]) zs).symm);obtain ⟨wq,hwq⟩:=eX wr;subst hwq;clear HB;go_wp2;go_loopw [13,14] (λv i w2=>∃(j m:Nat) (A' :Option Addr) (c' :Nat),i= .int .i64 (j:Int)/\j<=k/\v= .slice A' m c'/\m<=j/\a8 bB 1 w2 wq.heap.size 3 (.slice A' m c') (fO bs j)/\Below wq.heap.size wq w2) (λ_ i _=>k-(intOf i).toNat);case atStart=>exact ⟨0,0,none,0,rfl,by omega,rfl,by omega,a8.nil_ _ _ _,Below.refl _ _⟩
   case round=>
    obtain ⟨j,m,A',c',rfl,hj,rfl,hmj,Ck,gf⟩:=hrel;have s9:=gf.size;by_cases VP:j<k
    ·obtain ⟨b,hb,VY,_⟩:=(hO.ext gf).cellBl VP;have O6:=Ck.len.1;have cn:fO bs (j+1)=fO bs j++(if bs[j]? =some true then [(j:Int)] else []):=rfl;rw [hb] at cn;cases b with
     |false=>
      exact Tzdg
     |true=>
      have lf:=aA (show fO bs (j+1)=fO bs j++ [(j:Int)] by rw [cn];simp);have dw:=Ck.ext ((Below.refl _ wr).alloc (Nat.le_refl _) (.cells #[.int .i64 (j:Int)] 3));have ax:a7 bB (λ_=>True) (wr.alloc (.cells #[.int .i64 (j:Int)] 3)) (.slice (some ⟨wr.heap.size,0,none⟩) 1 1) [(j:Int)]:=⟨_,1,rfl,by simp,by simp [maxLen],Cs.lit _ _ _ _ _ trivial rfl⟩
      clear cn hb;go_wp2_with (refine eY 76 rfl ?_)
      refine ⟨?_⟩;refine aJ cD gK (.int .i64 0) 8 _ _ 23 3 wq.heap.size (fO bs j) [(j:Int)] (some ⟨wr.heap.size,0,none⟩) 1 1 (.slice A' m c') (m+1) rfl rfl underlying23 kZ rfl (by omega) rfl rfl dw ax (by rw [O6]) (by omega) (by omega) (by simp;omega) ?_;intro A5 c5 w5 bf bk jm qx qw;have b5:Below wq.heap.size wq w5:=(gf.alloc (by omega) _).grown bk (by simp;omega) (λo e=>(World.ownsRow.lt dw o e).1);go_wp2;exact Tzel
    ·obtain rfl:j=k:=by omega
     exact Tzdr
theorem EA (A1 A2:Option Addr) (n c1 c2:Nat) (l:List (Nat×Nat)) (S1 S2:Nat->Prop) (w:World) (h1:a7 kD S1 w (.slice A1 n c1) l) (h2:a7 kD S2 w (.slice A2 n c2) l):
 Calls Tryz.prog 63 #[.slice A1 n c1,.slice A2 n c2] w λe w' =>e= .returned (.bool true)/\Below w.heap.size w w' :=by
 have dv:=h1.len;go_enter func63,ntmps63;go_wp2;go_loopw [5] (λa wr=>∃k:Nat,a= .int .i64 k/\k<=n/\Below w.heap.size w wr) (λa _=>n-(intOf a).toNat);case atStart=>exact ⟨0,rfl,by omega,Below.refl _ _⟩
 case round=>
  obtain ⟨k,rfl,hk,ag⟩:=hrel;by_cases af:k<n
  ·obtain ⟨b1,o1,⟨x1,y1⟩,rfl,_,al,ev,ej⟩:=(h1.ext ag).at_ lC (j:=k) (by omega) (by omega);obtain ⟨b2,o2,⟨x2,y2⟩,rfl,_,ar,ew,ed⟩:=(h2.ext ag).at_ lC (j:=k) (by omega) (by omega);obtain ⟨rfl,rfl⟩:x1=x2/\y1=y2:=by rw [ev] at ew;cases ew;exact ⟨rfl,rfl⟩
   have p0:wr.cell? ⟨b1,o1+k*2,none⟩=some (.int .i64 (x1:Int)):=ej 0 _ rfl
   have p1:wr.cell? ⟨b1,o1+k*2+1,none⟩=some (.int .i64 (y1:Int)):=ej 1 _ rfl
   have q0:wr.cell? ⟨b2,o2+k*2,none⟩=some (.int .i64 (x1:Int)):=ed 0 _ rfl
   have q1:wr.cell? ⟨b2,o2+k*2+1,none⟩=some (.int .i64 (y1:Int)):=ed 1 _ rfl
   clear ev ew ej ed;exact Tzbi
  ·obtain rfl:k=n:=by omega
   go_wp2;go_ret;exact ⟨rfl,ag⟩
end Go.Proofs.YtiblijmngokcgaaGreatDoor
