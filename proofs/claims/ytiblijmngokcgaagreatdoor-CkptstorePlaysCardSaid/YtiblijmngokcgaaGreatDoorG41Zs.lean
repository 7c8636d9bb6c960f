import Derived.Test.YtiblijmngokcgaaGreatDoorG39Zs
import Derived.Test.YtiblijmngokcgaaGreatDoorCs17Zs
set_option linter.unusedVariables false
set_option linter.unusedSimpArgs false
set_option maxHeartbeats 8000000
set_option maxRecDepth 100000
namespace Go.Proofs.YtiblijmngokcgaaGreatDoor
open Go.Proofs.Tryz
open Go.RowKit
theorem QU (s:bj) (A1:Option Addr) (An1 Ac1:Nat) (A2:Option Addr) (An2 Ac2:Nat) (A3:Option Addr) (An3 Ac3:Nat) (A4:Option Addr) (An4 Ac4:Nat) (B1:Option Addr) (Bn1 Bc1:Nat) (B2:Option Addr) (Bn2 Bc2:Nat) (B3:Option Addr) (Bn3 Bc3:Nat) (B4:Option Addr) (Bn4 Bc4:Nat) (S1 S2:Nat->Prop) (w:World) (h1:j7 S1 w s A1 An1 Ac1 A2 An2 Ac2 A3 An3 Ac3 A4 An4 Ac4) (h2:j7 S2 w s B1 Bn1 Bc1 B2 Bn2 Bc2 B3 Bn3 Bc3 B4 Bn4 Bc4):
 Calls Tryz.prog 32 #[.agg #[.slice A1 An1 Ac1,.slice A2 An2 Ac2,.slice A3 An3 Ac3,.slice A4 An4 Ac4],.agg #[.slice B1 Bn1 Bc1,.slice B2 Bn2 Bc2,.slice B3 Bn3 Bc3,.slice B4 Bn4 Bc4]] w λe w' =>e= .returned (.bool true)/\Below w.heap.size w w' :=by
 obtain rfl:=h1.1.len.1;obtain rfl:=h1.2.len.1;obtain rfl:=h1.3.len.1;obtain rfl:=h1.4.len.1;obtain rfl:=h2.1.len.1;obtain rfl:=h2.2.len.1;obtain rfl:=h2.3.len.1;obtain rfl:=h2.4.len.1;exact zM _ _ s S1 S2 w ⟨A1,Ac1,A2,Ac2,A3,Ac3,A4,Ac4,rfl,h1.1,h1.2,h1.3,h1.4⟩ ⟨B1,Bc1,B2,Bc2,B3,Bc3,B4,Bc4,rfl,h2.1,h2.2,h2.3,h2.4⟩
def jH (b:Bool):List Value:=[.bool b]
theorem pC (b:Bool):(jH b).length=1:=rfl
theorem RX:(Tryz.prog.info? 4).map (λi=>(i.zero,i.size,i.bytes))=some (some (.bool false),1,1):=by kernel_rfl
theorem LQ (n:Nat) (hn:n<=1000) (w:World):(Instr.makeSlice 70 (.int .i64 (n:Int)) (.int .i64 (n:Int))).run Tryz.prog w= .ok (.slice (some ⟨w.heap.size,0,none⟩) n n) (w.alloc (.cells (madeCells (jH false).toArray (n*1)) 4)):=by
 obtain ⟨i,hi,hz,hs,hb⟩:=info_parts RX;have h:=run_make (P:=Tryz.prog) w 70 4 i (.bool false) underlying70 hi hz .i64 .i64 n n (by omega) (by omega) (by rw [hb];omega) (by omega);rw [h,hs];simp only [Int.toNat_natCast];rfl
theorem DG (n:Nat) (hn:n<=1000) (w:World):a8 jH 1 (w.alloc (.cells (madeCells (jH false).toArray (n*1)) 4)) w.heap.size 4 (.slice (some ⟨w.heap.size,0,none⟩) n n) (List.replicate n false):=by
 unfold a8;rw [List.length_replicate];refine ⟨by rw [gG pC];simp,.inr ⟨w.heap.size,n,_,rfl,Nat.le_refl _,heap_alloc_new w _,Nat.le_refl _,by unfold maxLen;omega,by simp [madeCells],?_⟩⟩;rw [xW pC false (by omega) n];exact List.take_of_length_le (by rw [gG pC];simp)
theorem a8.cellBl {w:World} {base:Nat} {e:TypeId} {g n c:Nat} {l:List Bool} (h:a8 jH 1 w base e (.slice (some ⟨g,0,none⟩) n c) l) {j:Nat} (hj:j<n):∃b,l[j]? =some b/\w.cell? ⟨g,j,none⟩=some (.bool b)/\w.frozen? ⟨g,j,none⟩=false:=by
 have hl:=h.len.1;obtain ⟨b,off,x,e1,_,_,hx,hc⟩:=h.recs.at_ pC (j:=j) (by omega) (by omega);cases e1;have h2:=hc 0 _ rfl;refine ⟨x,hx,by simpa using h2,?_⟩;subst hl;exact World.ownsRow.frozenAt h _
theorem a8.setBl {w:World} {base:Nat} {e:TypeId} {g n c:Nat} {l:List Bool} (h:a8 jH 1 w base e (.slice (some ⟨g,0,none⟩) n c) l) (j:Nat) (x:Bool):a8 jH 1 (w.setCell ⟨g,j,none⟩ (.bool x)) base e (.slice (some ⟨g,0,none⟩) n c) (l.set j x):=by
 have hl:=h.len.1;have hf:∀k:List Bool,k.flatMap jH=k.map (λz=>Value.bool z):=λk=>by
  induction k with
  |nil=>rfl
  |cons a k ih=>rw [List.flatMap_cons,ih,List.map_cons];rfl
 unfold a8 at*;rw [List.length_set,hf,List.map_set,<-hf];subst hl;exact (World.ownsRow.stored h _ _).1
def dZ (fs:List au) (z:Int):Int:=match cA (bV fs z) with| .ok (h,_)=>h.base| .error _=>0
noncomputable def eA (fs:List au):Nat->List Bool->Int->List Bool
 |0,bs,_=>bs
 |m+1,bs,z=>if 0<=z/\bs[z.toNat]? =some false then (match Ea fs z with| .ok _=>eA fs m (bs.set z.toNat true) (dZ fs z)| .error _=>bs) else bs
noncomputable def cE (fs:List au) (n:Nat) (zs:List Int):List Bool:=zs.foldl (λbs z=>eA fs (bs.count false) bs z) (List.replicate n false)
def fO (bs:List Bool):Nat->List Int
 |0=> []
 |j+1=>fO bs j++(if bs[j]? =some true then [(j:Int)] else [])
theorem CD {fs:List au} {n k:Nat} {zs:List Int} {z:Int} (h:zs[k]? =some z):cE fs n (zs.take (k+1))=eA fs ((cE fs n (zs.take k)).count false) (cE fs n (zs.take k)) z:=by
 unfold cE;rw [List.take_add_one,h,List.foldl_append];rfl
theorem nA {fs:List au} {m:Nat} {bs:List Bool} {z:Int} (h:z<0∨bs[z.toNat]?≠some false):eA fs m bs z=bs:=by
 cases m with
 |zero=>rfl
 |succ m=>
  unfold eA;rw [if_neg (by rintro ⟨h1,h2⟩;rcases h with h|h;omega;exact h h2)]
theorem pF {bs:List Bool} {j:Nat} (h:bs[j]? =some false):bs.count false=(bs.set j true).count false+1:=by
 induction bs generalizing j with
 |nil=>simp at h
 |cons b bs ih=>
  cases j with
  |zero=>
   simp at h;subst h;simp
  |succ j=>
   have:=ih (j:=j) (by simpa using h);rw [List.set_cons_succ,List.count_cons,List.count_cons,this];omega
theorem JW {fs:List au} {bs:List Bool} {z:Int} {e:Nat} (h:Ea fs z= .error e) (m:Nat):eA fs m bs z=bs:=by
 cases m with
 |zero=>rfl
 |succ m=>
  unfold eA;split
  ·rw [h]
  ·rfl
theorem BG {fs:List au} {bs:List Bool} {j:Nat} {s:bj} (h:Ea fs (j:Int)= .ok s) (hb:bs[j]? =some false):eA fs (bs.count false) bs (j:Int)=eA fs ((bs.set j true).count false) (bs.set j true) (dZ fs (j:Int)):=by
 rw [pF hb,eA,if_pos ⟨by omega,by simpa using hb⟩,h];rfl
theorem xS {fs:List au} {z:Int}:av (dZ fs z):=by
 unfold dZ;split
 ·rename_i h q e;exact (jP e).1 h.base (by simp [Hd.l])
 ·exact ⟨by omega,by omega⟩
theorem ET (A:Option Addr) (n c:Nat) (fs:List au) (S:Nat->Prop) (w:World) (hD:fh S w (.slice A n c) fs) (hn:n<=1000) (hf:eD fs) (L:Option Addr) (ln lc:Nat) (zs:List Int) (Sl:Nat->Prop) (hE:a7 bB Sl w (.slice L ln lc) zs) (eg:∀z∈zs,av z):
 Calls Tryz.prog 36 #[.agg #[.slice A n c],.slice L ln lc] w λe w' =>∃A' k c',e= .returned (.slice A' k c')/\a8 bB 1 w' w.heap.size 3 (.slice A' k c') (fO (cE fs n zs) n)/\Below w.heap.size w w' :=by
 have HF:=aA hf;have ez:=aA hD.len.1;have hlE:=hE.len;have HLE:=aA hlE.1;have hle2:=hlE.2;have L6:=aA eg;obtain ⟨W,hW,bW,kW,SW,R0⟩:=bX w w #[.slice A n c] 36 (Below.refl _ _);have sW:w.heap.size<W.heap.size:=by have:=SW.out;omega
 have q0:=bn R0.out;have Bp:=hD.ext kW;have Jp:=hE.ext kW;have HMK:=aA (LQ n hn W);have Kl:=LQ n hn W;have Kk:=DG n hn W;obtain ⟨W1,px⟩:=eX (W.alloc (.cells (madeCells (jH false).toArray (n*1)) 4));rw [<-px] at Kk Kl;have k1:Below W.heap.size W W1:=by rw [px];exact (Below.refl _ _).alloc (Nat.le_refl _) _
 have s1:W1.heap.size=W.heap.size+1:=by rw [px];simp
 obtain ⟨gm,VS⟩:=eX W.heap.size;have lgm:gm<W1.heap.size:=by omega
 have mgm:w.heap.size<gm:=by omega
 have D1:=(Bp.mono (S' :=λb=>b<gm) (λb h _=>by omega)).ext k1;have E1:=(Jp.mono (S' :=λb=>b<gm) (λb h _=>by omega)).ext k1;have uh:=bT k1 R0 sW;have B1:=Below.ext kW k1;rw [<-VS] at Kk Kl;have HGM:=aA VS;clear hE hD hf eg hlE Bp Jp s1 px VS HMK;go_enter func36,ntmps36;go_upto_region 1 with fail;rw [<-hW];clear hW;go_wp2;clear Kl q0;go_loopg [23] (ln+1) (λgk i wr=>∃(k:Nat) (bs:List Bool),i= .int .i64 (k:Int)/\k<=ln/\ln+1<=k+gk/\RowKit.Hid (bs=cE fs n (zs.take k))/\a8 jH 1 wr gm 4 (.slice (some ⟨gm,0,none⟩) n n) bs/\W1.grownBy wr (some gm));case atStart=>exact ⟨0,_,rfl,by omega,by omega,aA rfl,Kk,bC _ _⟩
 case round=>
  obtain ⟨k,bs,rfl,hk,XG,HB,hO,ja⟩:=hrel;have Ng:W1.heap.size<=wr.heap.size:=ja.size;have j6:=hO.len.1;by_cases af:k<ln
  ·obtain ⟨cb,co,z,rfl,_,hcb,kn,Dy⟩:=(E1.keep (λb hb hs=>ja.block b hb (by simp;omega))).at_ cD (j:=k) (by have:=HLE.out;omega) (by omega);have e0:wr.cell? ⟨cb,co+k,none⟩=some (.int .i64 z):=by have:=Dy 0 _ rfl;simpa using this
   have Fk:=L6.out z (List.mem_of_getElem? kn);have en:=CD (fs:=fs) (n:=n) kn;rw [<-HB.out] at en;have lf:=aA en;obtain ⟨g0,El⟩:=eX gk;rw [<-El] at XG;have Vj:=aA El;have XO:=List.count_le_length (a:=false) (l:=bs);clear El kn Dy en;unfold av at Fk;go_wp2_with fail;go_loopg [7] (n+1) (λgj v wr=>∃(z1:Int) (zo:List Bool),v= .int .i64 z1/\av z1/\zo.count false+1<=gj/\RowKit.Hid (eA fs (zo.count false) zo z1=cE fs n (zs.take (k+1)))/\a8 jH 1 wr gm 4 (.slice (some ⟨gm,0,none⟩) n n) zo/\W1.grownBy wr (some gm));case atStart=>exact ⟨z,bs,rfl,Fk,by omega,aA lf.out.symm,hO,ja⟩
   case round=>
    clear e0 ja hO XO j6;obtain ⟨z1,zo,rfl,od,hgj,HT,dw,ji⟩:=hrel;obtain ⟨g1,fj⟩:=eX gk;rw [<-fj] at hgj;have HG1:=aA fj;clear fj;unfold av at od;have szr2:W1.heap.size<=wr.heap.size:=ji.size;have j6:=dw.len.1;by_cases h0:z1<0
    ·have d0:decide (0<=z1)=false:=by simp;omega
     have HN:=aA (show zo=cE fs n (zs.take (k+1)) by rw [<-HT.out];exact (nA (.inl h0)).symm);clear h0;exact Tzb8
    obtain ⟨j,rfl⟩:=Int.eq_ofNat_of_zero_le (show 0<=z1 by omega);by_cases h1:j<n;case neg=>
     have d1:decide (j<n)=false:=by simpa using h1
     have HN:=aA (show zo=cE fs n (zs.take (k+1)) by rw [<-HT.out];exact (nA (.inr (by rw [Int.toNat_natCast,List.getElem?_eq_none (by omega)];simp))).symm);clear h1 h0;exact Tzb8
    obtain ⟨b,hb,VY,Jk⟩:=dw.cellBl h1;cases b with
    |true=>
     have HN:=aA (show zo=cE fs n (zs.take (k+1)) by rw [<-HT.out];exact (nA (.inr (by rw [Int.toNat_natCast,hb];simp))).symm);clear hb h0;exact Tzb8
    |false=>
     have rj:=gT ji uh;have D2:=D1.keep (w' :=wr) (λb hb hs=>ji.block b hb (by simp;omega));have C8:=aA ((iT fs HF.out _ _ _ (iZ fs (j:Int)) (by have:=ez.out;omega)).2 A n c _ wr D2 hn);have HB1:=aA hb;clear hb h0;go_wp2_with (refine lD (t:=36) rj ?_)
     refine C8.out.mono ?_;rintro e w3 ⟨gd,b3⟩;have s3:=b3.size;have gg:=dw.ext b3;have UE:W1.grownBy w3 (some gm):=aE ji (aN b3 _);cases hr:Ea fs (j:Int) with
     |error x0=>
      rw [hr] at gd;unfold Dh at gd;dsimp only at gd;obtain ⟨fa,rfl⟩:=gd;have dx:((x0:Int) != 0)=true:=by simpa using fa
      have HN:=aA (show zo=cE fs n (zs.take (k+1)) by rw [<-HT.out];exact (JW hr _).symm);clear hr fa;obtain ⟨W4,ng,kg,Sg,bg,pj,Rg,zq,lg,mg⟩:=bE w3 #[.slice none 0 0,.slice none 0 0,.slice none 0 0,.slice none 0 0] 51;have Sy:W1.grownBy W4 (some gm):=aE UE (aN kg _);have jq:=gg.ext kg;clear pj;go_wp2_with (refine sN ?_)
      try dsimp only
      try rw [<-ng]
      go_roundg (g0-1);case rel=>exact ⟨k+1,zo,by go_num,by omega,by omega,HN,jq,Sy⟩
      case measure=>have:=Vj.out;omega
     |ok s=>
      rw [hr] at gd;unfold Dh at gd;dsimp only at gd;obtain ⟨E1_,p1,q1,E2,p2,q2,E3,p3,q3,E4,p4,q4,rfl,hU⟩:=gd;have qj:=BG hr HB1.out;rw [HT.out] at qj;have HGO:=aA qj.symm;have hct:=pF HB1.out;clear hr hU qj;obtain ⟨W4,ng,kg,Sg,bg,pj,Rg,zq,lg,mg⟩:=bE w3 #[.slice E1_ p1 q1,.slice E2 p2 q2,.slice E3 p3 q3,.slice E4 p4 q4] 51;have jq:=gg.ext kg;have Sy:W1.grownBy W4 (some gm):=aE UE (aN kg _);obtain ⟨b',gv,hbc4,hbf4⟩:=jq.cellBl h1;obtain ⟨W5,nj⟩:=eX (W4.setCell ⟨gm,j,none⟩ (.bool true));have ux:=jq.setBl j true;rw [<-nj] at ux;have Mf:W1.grownBy W5 (some gm):=by rw [nj];exact aL Sy
      have I6:=gT Mf uh;have D5:=D1.keep (w' :=W5) (λb hb hs=>Mf.block b hb (by simp;omega));have HBE:=aA (kG A n c fs _ W5 D5 hn (j:Int) HF.out);have s5:W1.heap.size<=W5.heap.size:=Mf.size;clear gv gg UE dw ji VY Jk D2 rj;go_upto_region 7 with (refine sN ?_)
      try dsimp only
      rw [<-ng,<-zq.out];clear ng;refine Tyal ?_;clear pj;go_upto_region 9 with fail;rw [<-nj];clear nj hbc4 hbf4 jq Sy;go_wp2_with (refine lD (t:=36) I6 ?_)
      refine HBE.out.mono ?_;rintro e w6 ⟨g',V,qq,x,rfl,Lv,b6⟩;have s6:=b6.size;have jl:g'.base=dZ fs (j:Int):=by
       unfold dZ;rcases Lv with ⟨p,oi,_⟩|⟨oi,fa,rfl,_⟩
       ·rw [oi]
       ·rw [oi]
      have Y6:=xS (fs:=fs) (z:=(j:Int));have Jc:=HGO.out;rw [<-jl] at Y6 Jc;have Mn:=aA Jc;clear Lv jl Jc;obtain ⟨W7,oy,ke,Se,be,VX,Re,YZ,le,me⟩:=bE w6 #[.int .i64 g'.kind,.int .i64 g'.stamp,.int .i64 g'.base,.int .i64 g'.under] 90;have Yk:=ux.ext (Below.ext b6 ke);have gr7:W1.grownBy W7 (some gm):=aE Mf (aN (Below.ext b6 ke) _);have qe:=gn Re.out;go_upto_region 10 with (refine sN ?_)
      try dsimp only
      rw [<-oy,<-YZ.out];clear oy VX;refine Tyal ?_;go_wp2;go_roundg (g1-1);case rel=>exact ⟨g'.base,zo.set j true,rfl,Y6,by omega,Mn,Yk,gr7⟩
      case measure=>have:=HG1.out;omega
  ·obtain rfl:k=ln:=by omega
   have an:=aA (show cE fs n zs=bs by
    have h:=HB.out;rw [List.take_of_length_le (by have:=HLE.out;omega)] at h;exact h.symm)
   obtain ⟨wq,hwq⟩:=eX wr;subst hwq;clear HB;go_wp2;go_loopw [14,66] (λv i w2=>∃(j m:Nat) (A' :Option Addr) (c' :Nat),i= .int .i64 (j:Int)/\j<=n/\v= .slice A' m c'/\m<=j/\a8 bB 1 w2 wq.heap.size 3 (.slice A' m c') (fO bs j)/\Below wq.heap.size wq w2) (λ_ i _=>n-(intOf i).toNat);case atStart=>exact ⟨0,0,none,0,rfl,by omega,rfl,by omega,a8.nil_ _ _ _,Below.refl _ _⟩
   case round=>
    obtain ⟨j,m,A',c',rfl,hj,rfl,hmj,Ck,gf⟩:=hrel;have s9:=gf.size;by_cases VP:j<n
    ·obtain ⟨b,hb,VY,_⟩:=(hO.ext gf).cellBl VP;have O6:=Ck.len.1;have cn:fO bs (j+1)=fO bs j++(if bs[j]? =some true then [(j:Int)] else []):=rfl;rw [hb] at cn;cases b with
     |false=>
      exact Tzdg
     |true=>
      have lf:=aA (show fO bs (j+1)=fO bs j++ [(j:Int)] by rw [cn];simp);have dw:=Ck.ext ((Below.refl _ wr).alloc (Nat.le_refl _) (.cells #[.int .i64 (j:Int)] 3));have ax:a7 bB (λ_=>True) (wr.alloc (.cells #[.int .i64 (j:Int)] 3)) (.slice (some ⟨wr.heap.size,0,none⟩) 1 1) [(j:Int)]:=⟨_,1,rfl,by simp,by simp [maxLen],Cs.lit _ _ _ _ _ trivial rfl⟩
      clear cn hb;go_wp2_with (refine aJ (o:=⟨some 75,_,_,_,_,_⟩) cD gK (.int .i64 0) 8 _ _ 23 3 wq.heap.size (fO bs j) [(j:Int)] (some ⟨wr.heap.size,0,none⟩) 1 1 (.slice A' m c') (m+1) rfl rfl underlying23 kZ rfl (by omega) rfl rfl dw ax (by rw [O6]) (by omega) (by omega) (by simp;omega) ?_;intro A5 c5 w5 bf bk jm qx qw)
      have b5:Below wq.heap.size wq w5:=(gf.alloc (by omega) _).grown bk (by simp;omega) (λo e=>(World.ownsRow.lt dw o e).1);exact Tzel
    ·obtain rfl:j=n:=by omega
     exact Tzdr
def Ld (fs:List au) (z:Int):Prop:=∃s,Ea fs z= .ok s
theorem Ld.head {fs:List au} {z:Int} (h:Ld fs z):∃g q,cA (bV fs z)= .ok (g,q):=by
 obtain ⟨s,hs⟩:=h;have hl:=iZ fs z;rw [hs] at hl;generalize fs.length=nn at hl;cases hl with
 |full h1=>
  obtain ⟨g,q,h2,_⟩:=nK h1;exact ⟨g,q,h2⟩
 |grown h1 _ _ _ _=>
  obtain ⟨q,h2,_⟩:=mV h1;exact ⟨_,q,h2⟩
theorem Ld.at_ {fs:List au} {z:Int} (h:Ld fs z):0<=z/\z<(fs.length:Int):=by
 obtain ⟨g,q,h⟩:=h.head;exact uB h
theorem Ld.base {fs:List au} {z:Int} (h:Ld fs z):dZ fs z<0∨Ld fs (dZ fs z):=by
 obtain ⟨s,hs⟩:=h;have hl:=iZ fs z;rw [hs] at hl;generalize fs.length=nn at hl;cases hl with
 |full h1=>
  obtain ⟨g,q,h2,_,_,hk,_⟩:=nK h1;have hg:=(pJ (uA h2).2.1).1;refine .inl ?_;unfold dZ;rw [h2];dsimp only;rcases hg.2 with h3|h3<;>omega
 |grown h1 _ _ h4 _=>
  obtain ⟨q,h2,_⟩:=mV h1;refine .inr ?_;unfold dZ;rw [h2];exact ⟨_,RO h4⟩
def Mk (bs:List Bool) (z:Int):Prop:=0<=z/\bs[z.toNat]? =some true
structure ChI (fs:List au) (n:Nat) (bs:List Bool) (z:Int):Prop where
 len:bs.length=n
 ld:∀j,Mk bs j->Ld fs j
 cl:∀j,Mk bs j->dZ fs j<0∨Mk bs (dZ fs j)∨dZ fs j=z
structure Za (fs:List au) (n:Nat) (bs:List Bool):Prop where
 len:bs.length=n
 ld:∀j,Mk bs j->Ld fs j
 cl:∀j,Mk bs j->dZ fs j<0∨Mk bs (dZ fs j)
theorem Za.chi {fs:List au} {n:Nat} {bs:List Bool} (h:Za fs n bs) (z:Int):ChI fs n bs z:=
 ⟨h.len,h.ld,λj hj=>(h.cl j hj).elim .inl (λh=> .inr (.inl h))⟩
theorem Mk.set_ {bs:List Bool} {j z:Int} (hz:0<=z) (h:Mk bs j):Mk (bs.set z.toNat true) j:=by
 refine ⟨h.1,?_⟩;rw [List.getElem?_set];split
 ·have:=(List.getElem?_eq_some_iff.1 h.2).1;rw [if_pos (by omega)]
 ·exact h.2
theorem Mk.new {bs:List Bool} {z:Int} {b:Bool} (hz:0<=z) (h:bs[z.toNat]? =some b):Mk (bs.set z.toNat true) z:=by
 refine ⟨hz,?_⟩;have:=(List.getElem?_eq_some_iff.1 h).1;rw [List.getElem?_set,if_pos rfl,if_pos this]
theorem Mk.of_set {bs:List Bool} {j z:Int} (hz:0<=z) (h:Mk (bs.set z.toNat true) j):Mk bs j∨j=z:=by
 obtain ⟨h0,h1⟩:=h;rw [List.getElem?_set] at h1;split at h1
 ·exact .inr (by omega)
 ·exact .inl ⟨h0,h1⟩
theorem FJ {fs:List au} {n:Nat} (hn:n=fs.length):∀(m:Nat) (bs:List Bool) (z:Int),bs.count false=m->ChI fs n bs z->
 Za fs n (eA fs m bs z)/\(∀j,Mk bs j->Mk (eA fs m bs z) j)/\(Ld fs z->Mk (eA fs m bs z) z)/\∀R:Int->Prop,(∀j,Mk bs j->R j)->(Ld fs z->R z)->(∀j,Ld fs j->R j->0<=dZ fs j->R (dZ fs j))->∀j,Mk (eA fs m bs z) j->R j:=by
 have stay:∀(bs:List Bool) (z:Int),ChI fs n bs z->(Ld fs z->Mk bs z)->(0<=z->bs[z.toNat]? =some false->¬Ld fs z)->Za fs n bs:=by
  intro bs z hI hL hF;refine ⟨hI.len,hI.ld,λj hj=> ?_⟩;rcases hI.cl j hj with h|h|h
  ·exact .inl h
  ·exact .inr h
  ·rcases (hI.ld j hj).base with h2|h2
   ·exact .inl h2
   ·rw [h] at h2 ⊢;exact .inr (hL h2)
 intro m;induction m with
 |zero=>
  intro bs z hm hI;have hL:Ld fs z->Mk bs z:=by
   intro h;have ha:=h.at_;refine ⟨ha.1,?_⟩;have af:z.toNat<bs.length:=by rw [hI.len,hn];omega
   rw [List.getElem?_eq_getElem af];cases hb:bs[z.toNat] with
   |true=>rfl
   |false=>
    have:false∈bs:=by rw [<-hb];exact List.getElem_mem af
    have:=List.count_pos_iff.2 this;omega
  refine ⟨stay bs z hI hL (λ_ h _=> ?_),λj h=>h,hL,λR h1 h2 h3 j h=>h1 j h⟩;have:false∈bs:=List.mem_of_getElem? h
  have:=List.count_pos_iff.2 this;omega
 |succ m ih=>
  intro bs z hm hI;unfold eA;by_cases hc:0<=z/\bs[z.toNat]? =some false
  ·rw [if_pos hc];obtain ⟨hz,hb⟩:=hc;cases hr:Ea fs z with
   |error e=>
    have xe:¬Ld fs z:=by rintro ⟨s,hs⟩;rw [hr] at hs;cases hs
    exact ⟨stay bs z hI (λh=>absurd h xe) (λ_ _=>xe),λj h=>h,λh=>absurd h xe,λR h1 h2 h3 j h=>h1 j h⟩
   |ok s=>
    have hLd:Ld fs z:=⟨s,hr⟩
    have fq:=pF hb
    obtain ⟨i1,i2,i3,i4⟩:=ih (bs.set z.toNat true) (dZ fs z) (by omega) ⟨by rw [List.length_set];exact hI.len,λj hj=>by
     rcases Mk.of_set hz hj with h|h
     ·exact hI.ld j h
     ·rw [h];exact hLd,λj hj=>by
     rcases Mk.of_set hz hj with h|h
     ·rcases hI.cl j h with h2|h2|h2
      ·exact .inl h2
      ·exact .inr (.inl (h2.set_ hz))
      ·rw [h2];exact .inr (.inl (Mk.new hz hb))
     ·rw [h];exact .inr (.inr rfl)⟩
    refine ⟨i1,λj h=>i2 j (h.set_ hz),λ_=>i2 z (Mk.new hz hb),λR h1 h2 h3 j h=> ?_⟩;refine i4 R (λj hj=> ?_) (λhb=> ?_) h3 j h
    ·rcases Mk.of_set hz hj with h|h
     ·exact h1 j h
     ·rw [h];exact h2 hLd
    ·exact h3 z hLd (h2 hLd) hb.at_.1
  ·rw [if_neg hc];have hL:Ld fs z->Mk bs z:=by
    intro h;have ha:=h.at_;refine ⟨ha.1,?_⟩;have af:z.toNat<bs.length:=by rw [hI.len,hn];omega
    rw [List.getElem?_eq_getElem af];cases hb:bs[z.toNat] with
    |true=>rfl
    |false=>exact absurd ⟨ha.1,by rw [List.getElem?_eq_getElem af,hb]⟩ hc
   exact ⟨stay bs z hI hL (λh0 h=>absurd ⟨h0,h⟩ hc),λj h=>h,hL,λR h1 h2 h3 j h=>h1 j h⟩
theorem EX (fs:List au) (n:Nat) (zs:List Int) (z:Int):cE fs n (zs++ [z])=eA fs ((cE fs n zs).count false) (cE fs n zs) z:=by
 unfold cE;rw [List.foldl_append];rfl
theorem vE {fs:List au} {n:Nat} (hn:n=fs.length):∀(zs:List Int) (bs:List Bool),Za fs n bs->Za fs n (zs.foldl (λbs z=>eA fs (bs.count false) bs z) bs)/\(∀j,Mk bs j->Mk (zs.foldl (λbs z=>eA fs (bs.count false) bs z) bs) j)/\(∀z∈zs,Ld fs z->Mk (zs.foldl (λbs z=>eA fs (bs.count false) bs z) bs) z)/\∀R:Int->Prop,(∀j,Mk bs j->R j)->(∀z∈zs,Ld fs z->R z)->(∀j,Ld fs j->R j->0<=dZ fs j->R (dZ fs j))->∀j,Mk (zs.foldl (λbs z=>eA fs (bs.count false) bs z) bs) j->R j
 |[],bs,h=>⟨h,λj hj=>hj,λz hz=>by simp at hz,λR h1 _ _ j hj=>h1 j hj⟩
 |z::zs,bs,h=>by
  obtain ⟨i1,i2,i3,i4⟩:=FJ hn _ bs z rfl (h.chi z);obtain ⟨j1,j2,j3,j4⟩:=vE hn zs _ i1;rw [List.foldl_cons];refine ⟨j1,λj hj=>j2 j (i2 j hj),λy hy hl=> ?_,λR h1 h2 h3 j hj=>j4 R (λy hy=>i4 R h1 (h2 z (by simp)) h3 y hy) (λy hy=>h2 y (by simp [hy])) h3 j hj⟩;rcases List.mem_cons.1 hy with e|hy
  ·subst e;exact j2 _ (i3 hl)
  ·exact j3 y hy hl
theorem oW {fs:List au} {n:Nat} (hn:n=fs.length) (zs:List Int):Za fs n (cE fs n zs)/\(∀z∈zs,Ld fs z->Mk (cE fs n zs) z)/\∀R:Int->Prop,(∀z∈zs,Ld fs z->R z)->(∀j,Ld fs j->R j->0<=dZ fs j->R (dZ fs j))->∀j,Mk (cE fs n zs) j->R j:=by
 have xe:∀j,¬Mk (List.replicate n false) j:=by
  rintro j ⟨_,h2⟩;rw [List.getElem?_replicate] at h2;split at h2<;>simp at h2
 obtain ⟨j1,_,j3,j4⟩:=vE hn zs (List.replicate n false) ⟨by simp,λj h=>absurd h (xe j),λj h=>absurd h (xe j)⟩;exact ⟨j1,j3,λR h1 h2 j hj=>j4 R (λy hy=>absurd hy (xe y)) h1 h2 j hj⟩
theorem EY {fs:List au} {n:Nat} (hn:n=fs.length) {zs ys:List Int} (h:∀z,Ld fs z->(z∈zs↔z∈ys)):cE fs n zs=cE fs n ys:=by
 have half:∀(zs ys:List Int),(∀z,Ld fs z->(z∈zs↔z∈ys))->∀j,Mk (cE fs n zs) j->Mk (cE fs n ys) j:=by
  intro zs ys h;obtain ⟨j1,j2,j3⟩:=oW hn ys;refine (oW hn zs).2.2 _ (λz hz hl=>j2 z ((h z hl).1 hz) hl) (λj hl hj h0=> ?_);rcases j1.cl j hj with h2|h2
  ·omega
  ·exact h2
 have l1:=(oW hn zs).1.len;have l2:=(oW hn ys).1.len;apply List.ext_getElem?
 intro i;by_cases hi:i<n
 ·have a:=half zs ys h (i:Int);have b:=half ys zs (λz hl=>(h z hl).symm) (i:Int);unfold Mk at a b;rw [Int.toNat_natCast] at a b;rw [List.getElem?_eq_getElem (by omega),List.getElem?_eq_getElem (by omega)] at*;cases h1:(cE fs n zs)[i]<;>cases h2:(cE fs n ys)[i]<;>simp_all
 ·exact Tze7
noncomputable def eZ (fs:List au) (zs:List Int):Nat->List Int
 |0=> []
 |i+1=>eZ fs zs i++(match Ea fs (i:Int) with| .ok _=>if (i:Int)∈zs then [(i:Int)] else []| .error _=> [])
theorem GJ {fs:List au} {zs:List Int} {i e:Nat} (h:Ea fs (i:Int)= .error e):eZ fs zs (i+1)=eZ fs zs i:=by rw [eZ,h];simp
theorem KP {fs:List au} {zs:List Int} {i:Nat} (h:(i:Int)∉zs):eZ fs zs (i+1)=eZ fs zs i:=by
 rw [eZ];split
 ·rw [if_neg h,List.append_nil]
 ·rw [List.append_nil]
theorem KQ {fs:List au} {zs:List Int} {i:Nat} {s:bj} (h:Ea fs (i:Int)= .ok s) (h2:(i:Int)∈zs):eZ fs zs (i+1)=eZ fs zs i++ [(i:Int)]:=by rw [eZ,h];simp [h2]
theorem GI {fs:List au} {zs:List Int} (n:Nat) (z:Int):z∈eZ fs zs n↔Ld fs z/\z∈zs/\0<=z/\z<(n:Int):=by
 induction n with
 |zero=>simp [eZ]<;>omega
 |succ i ih=>
  rw [eZ,List.mem_append,ih];constructor
  ·rintro (⟨h1,h2,h3,h4⟩|h)
   ·exact ⟨h1,h2,h3,by omega⟩
   ·split at h
    ·rename_i s hs;split at h
     ·rename_i hz;rw [List.mem_singleton] at h;subst h;exact ⟨⟨s,hs⟩,hz,by omega,by omega⟩
     ·simp at h
    ·simp at h
  ·rintro ⟨h1,h2,h3,h4⟩;by_cases hz:z<(i:Int)
   ·exact .inl ⟨h1,h2,h3,hz⟩
   ·obtain rfl:z=(i:Int):=by omega
    right;obtain ⟨s,hs⟩:=h1;rw [hs];simp [h2]
theorem CC {fs:List au} {n:Nat} (hn:n=fs.length) (zs:List Int):cE fs n (eZ fs zs n)=cE fs n zs:=
 EY hn (λz hl=>by
  rw [GI];have:=hl.at_;exact ⟨λh=>h.2.1,λh=>⟨hl,h,this.1,by omega⟩⟩)
theorem gh.ex (fs:List au) (s:bj) (k base:Int):∃r,gh fs s k base r:=by
 by_cases hk:k<0∨(fs.length:Int)<=k
 ·exact ⟨_,.none hk⟩
 ·obtain ⟨j,rfl⟩:=Int.eq_ofNat_of_zero_le (show 0<=k by omega);have hj:j<fs.length:=by omega
  by_cases hb:base= -1
  ·subst hb;exact ⟨_,.full hj⟩
  ·have hl:=iZ fs base;cases hr:Ea fs base with
   |error e=>rw [hr] at hl;exact ⟨_,.miss hj hb hl⟩
   |ok u=>
    obtain ⟨g,q,hg⟩:=Ld.head ⟨u,hr⟩;rw [hr] at hl;by_cases hx:base=(j:Int)∨¬tn s u
    ·exact ⟨_,.shape hj hb hl hx⟩
    ·exact ⟨_,.inc hj hb hl (λh=>hx (.inl h)) (Classical.byContradiction λh=>hx (.inr h)) hg⟩
theorem gh.view {fs:List au} {s:bj} {slot base:Int} {r:Except Nat (List au)} (h:gh fs s slot base r):((slot<0∨(fs.length:Int)<=slot)/\r= .error 11)∨∃k:Nat,slot=(k:Int)/\k<fs.length/\((base= -1/\r=gN fs k ⟨1,0,-1,0⟩ (aI s.l))∨(base≠-1/\((∃n e,bm fs n base (.error e)/\r= .error 11)∨∃n u,bm fs n base (.ok u)/\(((base=(k:Int)∨¬tn s u)/\r= .error 7)∨(base≠(k:Int)/\tn s u/\∃g q,cA (bV fs base)= .ok (g,q)/\r=gN fs k ⟨2,0,base,g.stamp⟩ (dY s u)))))):=by
 cases h with
 |none h0=>exact .inl ⟨h0,rfl⟩
 |full hk=>exact .inr ⟨_,rfl,hk,.inl ⟨rfl,rfl⟩⟩
 |miss hk hb hl=>exact .inr ⟨_,rfl,hk,.inr ⟨hb,.inl ⟨_,_,hl,rfl⟩⟩⟩
 |shape hk hb hl hx=>exact .inr ⟨_,rfl,hk,.inr ⟨hb,.inr ⟨_,_,hl,.inl ⟨hx,rfl⟩⟩⟩⟩
 |inc hk hb hl hn hx hg=>exact .inr ⟨_,rfl,hk,.inr ⟨hb,.inr ⟨_,_,hl,.inr ⟨hn,hx,_,_,hg,rfl⟩⟩⟩⟩
theorem zW {fs Cl :List au} {k:Nat} {h:Hd} {body:List UInt8} (hi:∀z,av z->∀y∈({h with stamp:=z}:Hd).l,av y) (e:gN fs k h body= .ok Cl):Cl.length=fs.length/\(eD fs->eD Cl):=by
 unfold gN at e;split at e
 ·cases e
 ·split at e
  ·cases e
  ·rename_i h1 h2;cases e;refine ⟨by simp,λhf f hm=> ?_⟩;rcases List.mem_or_eq_of_mem_set hm with h3|h3
   ·exact hf f h3
   ·subst h3;have:=JU {h with stamp:=bM fs+1} body;have hs:=iR fs;unfold nD at h1 hs;have:=rY (hi (bM fs+1) ⟨by omega,by omega⟩);simp only [List.length_nil];omega
theorem gh.len {fs Cl :List au} {s:bj} {k base:Int} (h:gh fs s k base (.ok Cl)) (hb:av base):Cl.length=fs.length/\(eD fs->eD Cl):=by
 generalize hr:(Except.ok Cl :Except Nat (List au))=r at h;cases h with
 |none _=>cases hr
 |full hk=>exact zW (λz hz y hy=>by
  simp only [Hd.l,List.mem_cons,List.not_mem_nil,or_false] at hy;rcases hy with rfl|rfl|rfl|rfl
  ·exact ⟨by omega,by omega⟩
  ·exact hz
  ·exact ⟨by omega,by omega⟩
  ·exact ⟨by omega,by omega⟩) hr.symm
 |miss _ _ _=>cases hr
 |shape _ _ _ _=>cases hr
 |inc hk _ _ _ _ hg=>exact zW (λz hz y hy=>by
  simp only [Hd.l,List.mem_cons,List.not_mem_nil,or_false] at hy;rcases hy with rfl|rfl|rfl|rfl
  ·exact ⟨by omega,by omega⟩
  ·exact hz
  ·exact hb
  ·exact (jP hg).1 _ (by simp [Hd.l])) hr.symm
theorem zX {fs:List au} {k:Nat} {h:Hd} {body:List UInt8} {e:Nat} (x:gN fs k h body= .error e):e≠0:=by
 unfold gN at x;split at x
 ·cases x;omega
 ·split at x<;>cases x;omega
theorem gh.err {fs:List au} {s:bj} {k base:Int} {e:Nat} (h:gh fs s k base (.error e)):e≠0:=by
 generalize hr:(Except.error e:Except Nat (List au))=r at h;cases h with
 |none _=>cases hr;omega
 |full hk=>exact zX hr.symm
 |miss _ _ _=>cases hr;omega
 |shape _ _ _ _=>cases hr;omega
 |inc hk _ _ _ _ hg=>exact zX hr.symm
theorem MR {fs:List au} (ts:List xp) (h:eD fs):eD (lS fs ts):=by
 intro f hf;obtain ⟨i,hi⟩:=List.getElem?_of_mem hf;unfold lS at hi;rw [List.getElem?_mapIdx] at hi;cases hg:fs[i]? with
 |none=>rw [hg] at hi;cases hi
 |some g=>
  rw [hg] at hi;cases hi;have h1:=h g (List.mem_of_getElem? hg);have h2:=qH g.p (jK ts i).keep;simp only [jU,oT,List.length_append,List.length_nil,IM,List.length_take];omega
theorem OD (A:Option Addr) (n c:Nat) (l:List Int) (S:Nat->Prop) (w:World) (hl:a7 bB S w (.slice A n c) l) (z:Int):
 Calls Tryz.prog 126 #[.slice A n c,.int .i64 z] w λe w' =>e= .returned (.bool (decide (z∈l)))/\Below w.heap.size w w' :=by
 have HL:=aA hl.len.1;have hb:=hl.len.2;go_enter func126,ntmps126;go_wp2;go_loopw [5] (λi wr=>∃j:Nat,i= .int .i64 (j:Int)/\j<=n/\RowKit.Hid (z∉l.take j)/\Below w.heap.size w wr) (λi _=>n-(intOf i).toNat);case atStart=>exact ⟨0,rfl,by omega,aA (by simp),Below.refl _ _⟩
 case round=>
  obtain ⟨j,rfl,hj,HN,ag⟩:=hrel;by_cases af:j<n
  ·obtain ⟨b,o,x,rfl,_,al,hx,hc⟩:=(hl.ext ag).at_ cD (j:=j) (by have:=HL.out;omega) (by omega);have e0:wr.cell? ⟨b,o+j,none⟩=some (.int .i64 x):=by have:=hc 0 _ rfl;simpa using this
   by_cases Zl:x=z
   ·have d:(x==z)=true:=by simpa using Zl
    have an:=aA (show decide (z∈l)=true by simp;rw [<-Zl];exact List.mem_of_getElem? hx);clear Zl hx hc;go_wp2;go_ret;rw [an.out];exact ⟨rfl,ag⟩
   ·have d:(x==z)=false:=by simpa using Zl
    have H2:=aA (show z∉l.take (j+1) by
     rw [List.take_add_one,hx];simp only [Option.toList_some,List.mem_append,List.mem_singleton];rintro (h|h)
     ·exact HN.out h
     ·exact Zl h.symm)
    clear Zl hx hc;go_wp2;go_roundw;case rel=>exact ⟨j+1,by go_num,by omega,H2,ag⟩
    case measure=>simp [intOf];omega
  ·obtain rfl:n=j:=by omega
   have an:=aA (show decide (z∈l)=false by
    have h:=HN.out;rw [List.take_of_length_le (by have:=HL.out;omega)] at h;simpa using h)
   go_wp2;go_ret;rw [an.out];exact ⟨rfl,ag⟩
end Go.Proofs.YtiblijmngokcgaaGreatDoor
