import Derived.Test.YtiblijmngokcgaaGreatDoorG32Zs
import Derived.Test.YtiblijmngokcgaaGreatDoorCs13Zs
import Derived.Test.YtiblijmngokcgaaGreatDoorRows
import Derived.Test.YtiblijmngokcgaaGreatDoorG15Zs
import Derived.ChangeSame
import Derived.ChangeVars
import Derived.JoinedOf
import Derived.Handed
import Derived.ChangeMaps5
import Derived.RowKit
import Derived.ProofKit
import Derived.WalkKit
namespace Go.Proofs.YtiblijmngokcgaaGreatDoor
open Go.RowKit
set_option linter.unusedVariables false
set_option linter.unusedSimpArgs false
def ckA (s:Stt):List UInt8:=ckF ⟨1,1,-1,0⟩ (aK s.l)
def ckB (s t:Stt):List UInt8:=ckF ⟨2,2,0,1⟩ (dN t s)
theorem wA:HdIn ⟨1,1,-1,0⟩:=JL (z:=0) (by omega) (by omega)
theorem GP:HdIn ⟨2,2,0,1⟩:=LJ (z:=1) (by omega) (by omega) (by omega) (by omega)
theorem vU {h:Hd} {b:List UInt8} (hh:∀z∈h.l,InR z) (hb:b.length≤4096):(ckF h b).length≤5000:=by
 have:=vI hh
 rw [vV]
 omega
theorem xE (n:Nat):bV (List.replicate n dP)=0:=by
 induction n with
 |zero=>rfl
 |succ n ih=>rw [List.replicate_succ,gK,ih,LY];rfl
theorem FO {f g:Fil} (h:f.s++f.p=g.s++g.p):stv f=stv g:=by unfold stv vJ;rw [h]
theorem LZ (s:Stt) {f:Fil} (h:f.s++f.p=ckA s):stv f=1:=by
 rw [FO (g:=⟨[],ckA s⟩) h]
 exact KL wA
theorem uA (f:Fil) (l:List Fil):cH (f::l) 0=f.s++f.p:=by
 have:=lS (fs:=f::l) (k:=0) rfl
 exact this
theorem HY (f g:Fil) (l:List Fil):cH (f::g::l) 1=g.s++g.p:=by
 have:=lS (fs:=f::g::l) (k:=1) rfl
 exact this
theorem GV {s:Stt} (h:(aK s.l).length≤4096) (n:Nat):SaveR (List.replicate (n+1) dP) s 0 (-1) (.ok (⟨[],ckA s⟩::List.replicate n dP)):=by
 have:=AH (fs:=List.replicate (n+1) dP) (k:=0) (s:=s) (z:=0) (by simp) h (xE _) (by omega)
 rw [List.replicate_succ,List.set_cons_zero,show (0:Int)+1=1 from rfl] at this
 exact this
theorem GZ {s:Stt} (h:(aK s.l).length≤4096) (hs:SvIn s) {f:Fil} (hf:f.s++f.p=ckA s) (l:List Fil):LoadR (f::l) 0 0 (.ok s):=
 BO (h:=⟨1,1,-1,0⟩) ((uA f l).trans hf) wA rfl hs h
theorem GU {s t:Stt} (h:(aK s.l).length≤4096) (hs:SvIn s) (h2:(dN t s).length≤4096) (hx:ExtM t s) {f:Fil} (hf:f.s++f.p=ckA s) (n:Nat):SaveR (f::List.replicate (n+1) dP) t 1 0 (.ok (f::⟨[],ckB s t⟩::List.replicate n dP)):=by
 have hst:bV (f::List.replicate (n+1) dP)=1:=by rw [gK,xE,LZ s hf];rfl
 have:=DQ (fs:=f::List.replicate (n+1) dP) (k:=1) (b:=0) (n:=0) (s:=t) (u:=s) (g:=⟨1,1,-1,0⟩) (gb:=aK s.l) (z:=1) (by simp) h2 hst (by omega) (by omega) (GZ h hs hf _) ((uA _ _).trans hf) wA hx
 rw [List.replicate_succ,List.set_cons_succ,List.set_cons_zero,show (1:Int)+1=2 from rfl] at this
 exact this
theorem MI {s t:Stt} (h:(aK s.l).length≤4096) (hs:SvIn s) (h2:(dN t s).length≤4096) (hx:ExtM t s) (ht:SvIn t) {f g:Fil} (hf:f.s++f.p=ckA s) (hg:g.s++g.p=ckB s t) (l:List Fil):LoadR (f::g::l) 1 1 (.ok t):=
 FG (h:=⟨2,2,0,1⟩) (g:=⟨1,1,-1,0⟩) (gb:=aK s.l) ((HY _ _ _).trans hg) GP rfl ((uA _ _).trans hf) wA rfl (GZ h hs hf _) ht hx h2
theorem MH {s t:Stt} (h2:(dN t s).length≤4096) {g:Fil} (hg:g.s++g.p=ckB s t) (l:List Fil):LoadR (⟨[],[]⟩::g::l) 0 1 (.error 11):=by
 refine .lost (h:=⟨2,2,0,1⟩) (body:=dN t s) ?_ (fun g' q hg' => ?_)
 ·rw [HY,hg]
  exact uN GP h2 (by decide)
 ·have h0:cF (cH (⟨[],[]⟩::g::l) 0)= .error 11:=by rw [uA];rfl
  rw [show (Hd.base ⟨2,2,0,1⟩)=0 from rfl,h0] at hg'
  cases hg'
theorem uP {a b:Fil} (ha:a.s.length+a.p.length≤5000) (hb:b.s.length+b.p.length≤5000) (n:Nat):iY (a::b::List.replicate n dP):=by
 intro f hf
 simp only [List.mem_cons,List.mem_replicate] at hf
 rcases hf with rfl|rfl|⟨_,rfl⟩
 ·omega
 ·omega
 ·decide
theorem FJ {s:Stt} (h:(aK s.l).length≤4096):(ckA s).length≤5000:=vU wA.inr h
theorem FI {s t:Stt} (h:(dN t s).length≤4096):(ckB s t).length≤5000:=vU GP.inr h
end Go.Proofs.YtiblijmngokcgaaGreatDoor
namespace Go.Proofs.YtiblijmngokcgaaGreatDoor
open Go.RowKit
set_option maxRecDepth 100000
set_option linter.unusedVariables false
set_option linter.unusedSimpArgs false
theorem mW {α:Type} {enc:α→List Value} (l:List α) {w:World} {X:Nat} {T:TypeId} {row:Array Value} (h:w.heap[X]? =some (.cells row T (0,0))) (hr:row.toList=l.flatMap enc) (hl:l.length≤1000) {S:Nat→Prop} (hS:S X) {n:Nat} (hn:n=l.length):Recs enc S w (.slice (some ⟨X,0,none⟩) n n) l:=by
 subst hn
 exact ⟨_,l.length,rfl,Nat.le_refl _,by unfold maxLen;omega,fun _=>⟨X,0,rfl,hS,fun j u hu=>by
  rw [cell_of_row _ _ _ _ _ _ h,Nat.zero_add]
  rw [←hr] at hu
  simpa using hu⟩⟩
def aS:Stt:=⟨[1,2],[⟨2,0,0,0,0,0,0⟩],[],[]⟩
def aT:Stt:=⟨[1,3],[⟨2,0,0,0,0,0,0⟩,⟨3,0,0,0,0,0,0⟩],[],[]⟩
theorem iA {l:List Int} (h:∀z∈l,0≤z∧z≤63):∀z∈l,InR z:=fun z hz=>⟨by have:=(h z hz).1;omega,by have:=(h z hz).2;omega⟩
theorem zP:SvIn aS:=⟨⟨iA (by decide),fun e he=>iA (by revert e;decide),fun e he=>absurd he (by simp [aS]),fun e he=>absurd he (by simp [aS]),by decide⟩,by decide,by decide,by decide,by decide⟩
theorem ID:SvIn aT:=⟨⟨iA (by decide),fun e he=>iA (by revert e;decide),fun e he=>absurd he (by simp [aT]),fun e he=>absurd he (by simp [aT]),by decide⟩,by decide,by decide,by decide,by decide⟩
theorem aX:ExtM aT aS:=⟨rfl,by decide,by decide,by decide⟩
theorem oR:(aK aS.l).length≤4096:=by
 have:=cE aS.l (iA (by decide))
 have h2:aS.l.length=13:=by decide
 omega
theorem oQ:(dN aT aS).length≤4096:=by
 have h1:=cE (pgL (cN aS.cells aT.cells)) (iA (by decide))
 have h2:=cE (dO aT aS).l (iA (by decide))
 have h3:(pgL (cN aS.cells aT.cells)).length=5:=by decide
 have h4:(dO aT aS).l.length=11:=by decide
 unfold dN
 rw [List.length_append]
 omega
theorem IC:iY [dP,dP]:=uP (a:=dP) (b:=dP) (by decide) (by decide) 0
theorem MZ:iY [⟨[],ckA aS⟩,dP]:=uP (a:=⟨[],ckA aS⟩) (b:=dP) (by have:=FJ oR;simpa using this) (by decide) 0
theorem MY:iY [⟨[],ckA aS⟩,⟨[],ckB aS aT⟩]:=uP (a:=⟨[],ckA aS⟩) (b:=⟨[],ckB aS aT⟩) (by have:=FJ oR;simpa using this) (by have:=FI oQ;simpa using this) 0
theorem MW:iY [⟨[],[]⟩,⟨[],ckB aS aT⟩]:=uP (a:=⟨[],[]⟩) (b:=⟨[],ckB aS aT⟩) (by decide) (by have:=FI oQ;simpa using this) 0
set_option maxHeartbeats 8000000 in
theorem xC (w:World):Calls Tryz.prog 9 #[] w fun e w' =>e= .returned (.bool true)∧Below w.heap.size w w' :=by
 have hnew:=BC 2 (by omega) w
 rw [show ((2:Nat):Int)=2 from rfl,show List.replicate 2 dP=[dP,dP] from rfl] at hnew
 have HNEW:=Lib.hid hnew
 clear hnew
 go_enter Tryz.func9,Tryz.ntmps9
 go_wp2_with fail
 refine HNEW.out.mono ?_
 rintro e v1 ⟨A1,c1,rfl,D1,hb1⟩
 obtain ⟨W1,hW1,_,kd,Sd,Rd⟩:=bP v1 v1 #[.slice A1 2 c1] 36 (Below.refl _ _)
 obtain ⟨bd,hbd⟩:∃b,b=v1.heap.size:=⟨_,rfl⟩
 rw [←hbd] at Rd
 have HBd:=Lib.hid hbd
 have ld:bd<W1.heap.size:=by have:=Sd.out;omega
 have hbW1:=Below.ext hb1 kd
 have wd:w.heap.size≤bd:=by have:=hb1.size;omega
 have dD1:=(D1.mono (S' :=fun b=>b≠bd) (fun b hb _=>by omega)).ext kd
 clear hbd
 go_upto_region 2 with (refine aF rfl 36 _ _ rfl 36 _ _ rfl rfl (by kernel_rfl) rfl (by simp [Value.oneCell']) ?_)
 try dsimp only
 rw [←hW1,←HBd.out]
 clear hW1
 try simp only [Act.put]
 obtain ⟨W2,hW2,kb2,S2,Rap,Rbp,Rcp⟩:=zN W1 #[.int .i64 1,.int .i64 2] #[.int .i64 2,.int .i64 0,.int .i64 0,.int .i64 0,.int .i64 0,.int .i64 0,.int .i64 0] #[.slice (some ⟨W1.heap.size,0,none⟩) 2 2,.slice (some ⟨W1.heap.size+1,0,none⟩) 1 1,.slice none 0 0,.slice none 0 0] 3 78 51
 obtain ⟨p,hp⟩:∃b,b=W1.heap.size:=⟨_,rfl⟩
 have Hp:=Lib.hid hp
 rw [←hp] at Rap Rbp Rcp
 have lp:p+2<W2.heap.size:=by have:=S2.out;omega
 go_upto_region 3 with (refine aF rfl 51 _ _ rfl 51 _ _ rfl rfl (by kernel_rfl) rfl (by simp [Value.oneCell']) ?_)
 try dsimp only
 rw [←hW2,←Hp.out,show p+1+1=p+2 from rfl]
 clear hW2
 try simp only [Act.put]
 have D2:=dD1.ext kb2
 have Rd2:=Lib.hid ((kb2.block bd ld).trans Rd.out)
 have B2:=Below.ext hbW1 kb2
 have pd:bd<p:=by omega
 obtain ⟨W3,hW3,kb3,S3,Raq,Rbq,Rcq⟩:=zN W2 #[.int .i64 1,.int .i64 3] #[.int .i64 2,.int .i64 0,.int .i64 0,.int .i64 0,.int .i64 0,.int .i64 0,.int .i64 0,.int .i64 3,.int .i64 0,.int .i64 0,.int .i64 0,.int .i64 0,.int .i64 0,.int .i64 0] #[.slice (some ⟨W2.heap.size,0,none⟩) 2 2,.slice (some ⟨W2.heap.size+1,0,none⟩) 2 2,.slice none 0 0,.slice none 0 0] 3 78 51
 obtain ⟨q,hq⟩:∃b,b=W2.heap.size:=⟨_,rfl⟩
 have Hq:=Lib.hid hq
 rw [←hq] at Raq Rbq Rcq
 have lq:q+2<W3.heap.size:=by have:=S3.out;omega
 go_upto_region 4 with (refine aF rfl 51 _ _ rfl 51 _ _ rfl rfl (by kernel_rfl) rfl (by simp [Value.oneCell']) ?_)
 try dsimp only
 rw [←hW3,←Hq.out,show q+1+1=q+2 from rfl]
 clear hW3
 try simp only [Act.put]
 have pq:p+2<q:=by omega
 have D3:=D2.ext kb3
 have Rd3:=Lib.hid ((kb3.block bd (by omega)).trans Rd2.out)
 have Rs3:=Lib.hid ((kb3.block (p+2) (by omega)).trans Rcp.out)
 have Rt3:=Rcq
 have B3:=Below.ext B2 kb3
 have MS:StM (fun b=>b≠bd) W3 aS (some ⟨p,0,none⟩) 2 2 (some ⟨p+1,0,none⟩) 1 1 none 0 0 none 0 0:=⟨mW [1,2] ((kb3.block p (by omega)).trans Rap.out) rfl (by decide) (by omega) rfl,mW aS.evs ((kb3.block (p+1) (by omega)).trans Rbp.out) rfl (by decide) (by omega) rfl,Recs.nil_ _ _,Recs.nil_ _ _⟩
 have MT:StM (fun b=>b≠bd) W3 aT (some ⟨q,0,none⟩) 2 2 (some ⟨q+1,0,none⟩) 2 2 none 0 0 none 0 0:=⟨mW [1,3] Raq.out rfl (by decide) (by omega) rfl,mW aT.evs Rbq.out rfl (by decide) (by omega) rfl,Recs.nil_ _ _,Recs.nil_ _ _⟩
 have HSV:=Lib.hid (mU A1 2 c1 [dP,dP] _ W3 D3 (by omega) IC 0 aS _ _ _ _ _ _ _ _ _ _ _ _ _ MS zP (-1) _ (GV oR 1))
 clear D2 dD1 D1 Rap Raq Rbp Rbq Rcp hp hq S2 S3
 go_wp2_with (first|(refine aD (t:=36) (A:=⟨bd,0,none⟩) rfl rfl rfl (aB Rd3.out Tryz.underlying36 rfl (by kernel_rfl)) ?_)|(refine aD (t:=51) (A:=⟨p+2,0,none⟩) rfl rfl rfl (aB Rs3.out Tryz.underlying51 rfl (by kernel_rfl)) ?_))
 refine HSV.out.mono ?_
 rintro e v4 ⟨⟨A4,c4,rfl,Dv4⟩,b4⟩
 have y4:=b4.size
 have MT4:=MT.ext b4
 have Bv4:=Below.ext B3 b4
 have Rdv4:=Lib.hid ((b4.block (bd) (by omega)).trans Rd3.out)
 have Rtv4:=Lib.hid ((b4.block (q+2) (by omega)).trans Rt3.out)
 obtain ⟨W5,hW5⟩:∃x,x=v4.setRow bd #[.slice A4 2 c4]:=⟨_,rfl⟩
 have g5:v4.grownBy W5 (some bd):=by rw [hW5];exact aJ _ _ _
 have Rd5:=Lib.hid (show W5.heap[bd]? =some (.cells #[.slice A4 2 c4] 36 (0,0)) by rw [hW5];exact setRow_heap _ _ _ _ _ _ Rdv4.out)
 have z5:v4.heap.size≤W5.heap.size:=g5.size
 have D5:=(Dv4.mono (S' :=fun b=>b≠bd) (fun b _ h=>by omega)).keep (w' :=W5) (fun b hb hs=>g5.block b hb (by simp;omega))
 have B5:Below w.heap.size w W5:=Bv4.grown g5 Bv4.size (fun o e=>by cases e;omega)
 have Rt5:=Lib.hid ((g5.block (q+2) (by omega) (by simp;omega)).trans Rtv4.out)
 go_upto_region 5 with (refine aC rfl 36 _ _ rfl (bd) 36 _ _ rfl rfl Rdv4.out (by kernel_rfl) rfl (by simp [Value.oneCell']) ?_)
 rw [←hW5]
 clear hW5 Dv4
 have MT5:=(MT4.kept (S' :=fun b=>b≠bd) (fun b hb hs=>g5.block b hb (by simp;omega)) (fun b h=>h))
 have HSW:=Lib.hid (mU A4 2 c4 _ _ W5 D5 (by omega) MZ 1 aT _ _ _ _ _ _ _ _ _ _ _ _ _ MT5 ID 0 _ (GU oR zP oQ aX (f:=⟨[],ckA aS⟩) rfl 0))
 clear MT MT4
 go_wp2_with (first|(refine aD (t:=36) (A:=⟨bd,0,none⟩) rfl rfl rfl (aB Rd5.out Tryz.underlying36 rfl (by kernel_rfl)) ?_)|(refine aD (t:=51) (A:=⟨q+2,0,none⟩) rfl rfl rfl (aB Rt5.out Tryz.underlying51 rfl (by kernel_rfl)) ?_))
 refine HSW.out.mono ?_
 rintro e v6 ⟨⟨A6,c6,rfl,Dv6⟩,b6⟩
 have y6:=b6.size
 have Bv6:=Below.ext B5 b6
 have Rdv6:=Lib.hid ((b6.block (bd) (by omega)).trans Rd5.out)
 obtain ⟨W7,hW7⟩:∃x,x=v6.setRow bd #[.slice A6 2 c6]:=⟨_,rfl⟩
 have g7:v6.grownBy W7 (some bd):=by rw [hW7];exact aJ _ _ _
 have Rd7:=Lib.hid (show W7.heap[bd]? =some (.cells #[.slice A6 2 c6] 36 (0,0)) by rw [hW7];exact setRow_heap _ _ _ _ _ _ Rdv6.out)
 have z7:v6.heap.size≤W7.heap.size:=g7.size
 have D7:=(Dv6.mono (S' :=fun b=>b≠bd) (fun b _ h=>by omega)).keep (w' :=W7) (fun b hb hs=>g7.block b hb (by simp;omega))
 have B7:Below w.heap.size w W7:=Bv6.grown g7 Bv6.size (fun o e=>by cases e;omega)
 go_upto_region 6 with (refine aC rfl 36 _ _ rfl (bd) 36 _ _ rfl rfl Rdv6.out (by kernel_rfl) rfl (by simp [Value.oneCell']) ?_)
 rw [←hW7]
 clear hW7 Dv6
 have HLD:=Lib.hid ((kY _ MY _ _ _ (MI oR zP oQ aX ID (f:=⟨[],ckA aS⟩) (g:=⟨[],ckB aS aT⟩) rfl rfl []) (by omega)).2 A6 2 c6 _ W7 D7 (by omega))
 clear MT5 D5
 go_wp2_with (refine aD (t:=36) (A:=⟨bd,0,none⟩) rfl rfl rfl (aB Rd7.out Tryz.underlying36 rfl (by kernel_rfl)) ?_)
 refine HLD.out.mono ?_
 rintro e v8 ⟨⟨E1,p1,q1,E2,p2,q2,E3,p3,q3,E4,p4,q4,rfl,hU⟩,b8⟩
 have y8:=b8.size
 obtain ⟨W9,hW9,_,ku,Su,Ru⟩:=bP v8 v8 #[.slice E1 p1 q1,.slice E2 p2 q2,.slice E3 p3 q3,.slice E4 p4 q4] 51 (Below.refl _ _)
 obtain ⟨bu,hbu⟩:∃b,b=v8.heap.size:=⟨_,rfl⟩
 rw [←hbu] at Ru
 have HBu:=Lib.hid hbu
 have lu:bu<W9.heap.size:=by have:=Su.out;omega
 have k9:=Below.ext b8 ku
 have B9:=Below.ext B7 k9
 have D9:=D7.ext k9
 have U9:=hU.ext ku
 have Rd9:=Lib.hid ((k9.block bd (by omega)).trans Rd7.out)
 have HDR:=Lib.hid (GC A6 2 c6 _ _ W9 D9 (by omega) 0 (by omega))
 go_upto_region 7 with (refine aF rfl 51 _ _ rfl 51 _ _ rfl rfl (by kernel_rfl) rfl (by simp [Value.oneCell']) ?_)
 try dsimp only
 rw [←hW9,←HBu.out]
 clear hW9 hbu
 try simp only [Act.put]
 go_wp2_with (refine aD (t:=36) (A:=⟨bd,0,none⟩) rfl rfl rfl (aB Rd9.out Tryz.underlying36 rfl (by kernel_rfl)) ?_)
 refine HDR.out.mono ?_
 rintro e v10 ⟨A10,c10,rfl,Dv10,b10⟩
 have y10:=b10.size
 obtain ⟨W11,hW11,_,kx,Sx,Rx⟩:=bP v10 v10 #[.slice A10 2 c10] 36 (Below.refl _ _)
 obtain ⟨bx,hbx⟩:∃b,b=v10.heap.size:=⟨_,rfl⟩
 rw [←hbx] at Rx
 have HBx:=Lib.hid hbx
 have lx:bx<W11.heap.size:=by have:=Sx.out;omega
 have k11:=Below.ext b10 kx
 have B11:=Below.ext B9 k11
 have D11:=Dv10.ext kx
 have U11:=U9.ext k11
 have Ru11:=Lib.hid ((k11.block bu lu).trans Ru.out)
 have HLE:=Lib.hid ((kY _ MW _ _ _ (MH oQ (g:=⟨[],ckB aS aT⟩) rfl []) (by omega)).2 A10 2 c10 _ W11 D11 (by omega))
 go_upto_region 8 with (refine aF rfl 36 _ _ rfl 36 _ _ rfl rfl (by kernel_rfl) rfl (by simp [Value.oneCell']) ?_)
 try dsimp only
 rw [←hW11,←HBx.out]
 clear hW11 hbx
 try simp only [Act.put]
 go_wp2_with (refine aD (t:=36) (A:=⟨bx,0,none⟩) rfl rfl rfl (aB Rx.out Tryz.underlying36 rfl (by kernel_rfl)) ?_)
 refine HLE.out.mono ?_
 rintro e v12 ⟨⟨_,rfl⟩,b12⟩
 have U12:=U11.ext b12
 obtain ⟨W13,hW13,_,kz,Sz,Rz⟩:=bP v12 v12 #[.slice none 0 0,.slice none 0 0,.slice none 0 0,.slice none 0 0] 51 (Below.refl _ _)
 obtain ⟨bz,hbz⟩:∃b,b=v12.heap.size:=⟨_,rfl⟩
 rw [←hbz] at Rz
 have HBz:=Lib.hid hbz
 have lz:bz<W13.heap.size:=by have:=Sz.out;omega
 have k13:=Below.ext b12 kz
 have y12:=b12.size
 have y11:=k11.size
 have B13:=Below.ext B11 k13
 have U13:=U12.ext kz
 have y13:=k13.size
 have Ru13:=Lib.hid ((k13.block bu (by omega)).trans Ru11.out)
 go_upto_region 9 with (refine aF rfl 51 _ _ rfl 51 _ _ rfl rfl (by kernel_rfl) rfl (by simp [Value.oneCell']) ?_)
 try dsimp only
 rw [←hW13,←HBz.out]
 clear hW13 hbz
 try simp only [Act.put]
 obtain rfl:p1=2:=U13.1.len.1.symm
 obtain rfl:p2=2:=U13.2.len.1.symm
 obtain ⟨cb,co,cx,rfl,_,hcb,hcx,hcc⟩:=U13.1.at_ dH (j:=1) (by decide) (by omega)
 have e0:W13.cell? ⟨bu,0,none⟩=some (.slice (some ⟨cb,co,none⟩) 2 q1):=aA Ru13.out 0 _ rfl
 have e1:W13.cell? ⟨bu,1,none⟩=some (.slice E2 2 q2):=aA Ru13.out 1 _ rfl
 obtain rfl:cx=3:=by simpa [aT] using hcx.symm
 have e2:W13.cell? ⟨cb,co+1,none⟩=some (.int .i64 3):=hcc 0 _ rfl
 clear hcx hcc
 go_wp2
 go_ret
 exact ⟨rfl,B13⟩
end Go.Proofs.YtiblijmngokcgaaGreatDoor
namespace Go.Proofs.YtiblijmngokcgaaGreatDoor
open Go.RowKit
set_option linter.unusedVariables false
theorem LK {w x:World} {B:Nat} (h:Glb 2 w) (hb:Below w.heap.size w x) (h1:w.heap.size≤B) (h2:B≤x.heap.size):Glb B x:=by
 have hl:=h.le
 have g:=h.ext hb
 exact ⟨by omega,h2,g.s0,g.s1,g.s2,g.a0,g.a1⟩
theorem StM.lo {S:Nat→Prop} {w:World} {s:Stt} {E1:Option Addr} {p1 q1:Nat} {E2:Option Addr} {p2 q2:Nat} {E3:Option Addr} {p3 q3:Nat} {E4:Option Addr} {p4 q4:Nat} (h:StM S w s E1 p1 q1 E2 p2 q2 E3 p3 q3 E4 p4 q4):StM (·<w.heap.size) w s E1 p1 q1 E2 p2 q2 E3 p3 q3 E4 p4 q4:=
 ⟨h.1.mono (fun b h _=>h),h.2.mono (fun b h _=>h),h.3.mono (fun b h _=>h),h.4.mono (fun b h _=>h)⟩
theorem OwnR.setZ {w:World} {base:Nat} {e:TypeId} {g n c:Nat} {l:List Int} (h:OwnR bJ 1 w base e (.slice (some ⟨g,0,none⟩) n c) l) (j:Nat) (x:Int):
 OwnR bJ 1 (w.setCell ⟨g,j,none⟩ (.int .i64 x)) base e (.slice (some ⟨g,0,none⟩) n c) (l.set j x):=by
 have hl:=h.len.1
 have hf:∀k:List Int,k.flatMap bJ=k.map (fun z=>Value.int .i64 z):=fun k=>by
  induction k with
  |nil=>rfl
  |cons a k ih=>rw [List.flatMap_cons,ih,List.map_cons];rfl
 unfold OwnR at*
 rw [List.length_set,hf,List.map_set,←hf]
 subst hl
 exact (World.ownsRow.stored h _ _).1
theorem OwnR.frozenZ {w:World} {base:Nat} {e:TypeId} {g n c:Nat} {l:List Int} (h:OwnR bJ 1 w base e (.slice (some ⟨g,0,none⟩) n c) l) (j:Nat):w.frozen? ⟨g,j,none⟩=false:=by
 have hl:=h.len.1
 unfold OwnR at h
 subst hl
 exact World.ownsRow.frozenAt h j
end Go.Proofs.YtiblijmngokcgaaGreatDoor
namespace Go.Proofs.YtiblijmngokcgaaGreatDoor
open Go.ChangeShapes Go.WideShapes Go.RowKit
set_option linter.unusedVariables false
set_option linter.unusedSimpArgs false
set_option maxRecDepth 100000
def rC : List (String × DataW Unit) := [("rollbacknet/rollbacknetmake.scalars", Rows.laid_rollbacknet_rollbacknetmake_scalars), ("rollbacknet/rollbacknetmake.arrays", Rows.laid_rollbacknet_rollbacknetmake_arrays)]
theorem gS : Tryz.prog.globalNamed "rollbacknet/rollbacknetmake.scalars" = some 0 := by kernel_rfl
theorem gA : Tryz.prog.globalNamed "rollbacknet/rollbacknetmake.arrays" = some 1 := by kernel_rfl
theorem gSt:(Tryz.prog.globals[0]?).map (·.type)=some 250:=by kernel_rfl
theorem gAt:(Tryz.prog.globals[1]?).map (·.type)=some 252:=by kernel_rfl
theorem c3s:Tryz.prog.cellsOf 250=3:=by kernel_rfl
theorem c2s:Tryz.prog.cellsOf 252=2:=by kernel_rfl
theorem c1s:Tryz.prog.cellsOf 9=1:=by kernel_rfl
theorem gU {H:Type} {enc:TypeId×Value→H} {w:World} {base:Nat} {sp:Nat→Bool} {held:Bool} {fuel:Nat} {c:Value} {y:DataW H×List MemPlace}
 (h:DataW.trod enc Tryz.prog w base sp held fuel 9 [c]=some y):∃s:ByteArray,c= .string s∧y=(.lit (.string s.data.toList),[]):=by
 obtain ⟨s,h1,h2,_⟩:=DataW.trod_string Tryz.underlying9 h
 cases h1
 exact ⟨s,rfl,h2⟩
theorem mI {s:ByteArray} {c:UInt8} (h:s.data.toList=[c]):s=nm c:=by
 obtain ⟨d⟩:=s
 have:d= #[c]:=by
  rw [←Array.toArray_toList (xs:=d),h]
 rw [this]
 rfl
theorem yG {W:World} {base:Nat} {sp:Nat→Bool} {held:Bool} {fuel:Nat} {cs:Array Value} {p:List MemPlace} (hd:DataW.trod (H:=Unit) (fun _=>()) Tryz.prog W base sp held fuel 250 cs.toList=some (Rows.laid_rollbacknet_rollbacknetmake_scalars,p)):cs= #[.string (nm 120),.string (nm 121),.string (nm 122)]:=by
 obtain ⟨l⟩:=cs
 cases fuel with
 |zero=>simp [DataW.trod] at hd
 |succ fuel=>
  simp only [DataW.trod,Tryz.underlying250,c3s,c1s] at hd
  split at hd
  ·rename_i hl
   obtain ⟨c0,c1,c2,rfl⟩:∃c0 c1 c2,l=[c0,c1,c2]:=by
    match l,hl with
    |[a,b,c],_=>exact ⟨a,b,c,rfl⟩
   have e:List.range 3=[0,1,2]:=rfl
   rw [e] at hd
   simp only [Option.map_eq_some_iff,List.mapM_cons,List.mapM_nil,Option.bind_eq_bind,Option.bind_eq_some_iff,Option.pure_def,Option.some.injEq] at hd
   obtain ⟨xs,⟨y0,h0,_,⟨y1,h1,_,⟨y2,h2,_,rfl,rfl⟩,rfl⟩,rfl⟩,hx⟩:=hd
   obtain ⟨n0,rfl,rfl⟩:=gU h0
   obtain ⟨n1,rfl,rfl⟩:=gU h1
   obtain ⟨n2,rfl,rfl⟩:=gU h2
   simp [Rows.laid_rollbacknet_rollbacknetmake_scalars] at hx
   obtain ⟨⟨e0,e1,e2⟩,_⟩:=hx
   rw [mI (s:=n0) (c:=120) (by simpa using e0),mI (s:=n1) (c:=121) (by simpa using e1),mI (s:=n2) (c:=122) (by simpa using e2)]
  ·cases hd
theorem DF {W:World} {base:Nat} {sp:Nat→Bool} {held:Bool} {fuel:Nat} {cs:Array Value} {p:List MemPlace} (hd:DataW.trod (H:=Unit) (fun _=>()) Tryz.prog W base sp held fuel 252 cs.toList=some (Rows.laid_rollbacknet_rollbacknetmake_arrays,p)):cs= #[.string (nm 97),.string (nm 98)]:=by
 obtain ⟨l⟩:=cs
 cases fuel with
 |zero=>simp [DataW.trod] at hd
 |succ fuel=>
  simp only [DataW.trod,Tryz.underlying252,c2s,c1s] at hd
  split at hd
  ·rename_i hl
   obtain ⟨c0,c1,rfl⟩:∃c0 c1,l=[c0,c1]:=by
    match l,hl with
    |[a,b],_=>exact ⟨a,b,rfl⟩
   have e:List.range 2=[0,1]:=rfl
   rw [e] at hd
   simp only [Option.map_eq_some_iff,List.mapM_cons,List.mapM_nil,Option.bind_eq_bind,Option.bind_eq_some_iff,Option.pure_def,Option.some.injEq] at hd
   obtain ⟨xs,⟨y0,h0,_,⟨y1,h1,_,rfl,rfl⟩,rfl⟩,hx⟩:=hd
   obtain ⟨n0,rfl,rfl⟩:=gU h0
   obtain ⟨n1,rfl,rfl⟩:=gU h1
   simp [Rows.laid_rollbacknet_rollbacknetmake_arrays] at hx
   obtain ⟨⟨e0,e1⟩,_⟩:=hx
   rw [mI (s:=n0) (c:=97) (by simpa using e0),mI (s:=n1) (c:=98) (by simpa using e1)]
  ·cases hd
theorem wS {W:World} (h:laidMet Tryz.prog rC W):Glb 2 W:=by
 obtain ⟨ps,⟨g,t,cs,fuel,p,q,hg,ht,hvar,hd,⟨g2,t2,cs2,fuel2,p2,q2,hg2,ht2,hvar2,hd2,_,_⟩,_⟩,_⟩:=h
 obtain rfl:=Option.some.inj (gS.symm.trans hg)
 obtain rfl:=Option.some.inj (gSt.symm.trans ht)
 obtain rfl:=Option.some.inj (gA.symm.trans hg2)
 obtain rfl:=Option.some.inj (gAt.symm.trans ht2)
 obtain rfl:=yG hd
 obtain rfl:=DF hd2
 have c:=fun i=>World.var?_cell hg hvar i
 have d:=fun i=>World.var?_cell hg2 hvar2 i
 have hsz:1<W.heap.size:=by
  have h0:=d 0
  unfold World.cell? at h0
  rcases Nat.lt_or_ge 1 W.heap.size with h1|h1
  ·exact h1
  ·rw [Array.getElem?_eq_none (by simpa using h1)] at h0
   simp at h0
 exact ⟨by omega,by omega,c 0,c 1,c 2,d 0,d 1⟩
def rQ:Array Value:= #[.string (nm 120),.string (nm 121),.string (nm 122)]
def rR:Array Value:= #[.string (nm 97),.string (nm 98)]
def uM (cs:Array Value):Obj→Obj
 | .cells _ t frozen=> .cells cs t frozen
 |o=>o
noncomputable def lN (os:Os):World:=
 {World.holding Tryz.prog os ⟨#[],#[],[]⟩ with heap:=((World.holding Tryz.prog os ⟨#[],#[],[]⟩).heap.modify 0 (uM rQ)).modify 1 (uM rR)}
theorem pP (os:Os) (args:Array Value):((lN os).forCall (fun _ _=>0) ⟨#[],args,[]⟩).memory.heap[0]? =some (.cells rQ 250 (0,0)):=by kernel_rfl
theorem pO (os:Os) (args:Array Value):((lN os).forCall (fun _ _=>0) ⟨#[],args,[]⟩).memory.heap[1]? =some (.cells rR 252 (0,0)):=by kernel_rfl
theorem tT (os:Os) (args:Array Value):laidMet Tryz.prog rC ((lN os).forCall (fun _ _=>0) ⟨#[],args,[]⟩).memory:=
 ⟨_,⟨0,250,rQ,8,[],_,by kernel_rfl,by kernel_rfl,by kernel_rfl,by kernel_rfl,⟨1,252,rR,8,[],[],by kernel_rfl,by kernel_rfl,by kernel_rfl,by kernel_rfl,rfl,rfl⟩,rfl⟩,by decide,fun b off h=>by
  have h' :MemPlace.cell b off∈ [MemPlace.cell 0 0,.cell 0 1,.cell 0 2,.cell 1 0,.cell 1 1]:=h
  have hb:b=0∨b=1:=by
   simp at h'
   omega
  rcases hb with rfl|rfl
  ·refine ⟨⟨_,_,pP os args⟩,fun u v hc=> ?_⟩
   simp only [World.cell?,pP os args] at hc
   simp at h'
   rcases h' with rfl|rfl|rfl<;>simp [rQ] at hc
  ·refine ⟨⟨_,_,pO os args⟩,fun u v hc=> ?_⟩
   simp only [World.cell?,pO os args] at hc
   simp at h'
   rcases h' with rfl|rfl<;>simp [rR] at hc⟩
end Go.Proofs.YtiblijmngokcgaaGreatDoor
