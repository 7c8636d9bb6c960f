import Derived.Test.YtiblijmngokcgaaGreatDoorMacZs
import Derived.Test.YtiblijmngokcgaaGreatDoorG28Zs
import Derived.Test.YtiblijmngokcgaaGreatDoorCs6Zs
namespace Go.Proofs.YtiblijmngokcgaaGreatDoor
open Go.RowKit
set_option maxRecDepth 100000
set_option linter.unusedVariables false
set_option linter.unusedSimpArgs false
theorem Bytes.avoid {S:Nat→Prop} {w:World} {v:Value} {l:List UInt8} {g:Nat} {row:Array Value} {T:TypeId} (h:Bytes S w v l) (hr:w.heap[g]? =some (.cells row T (0,0))) (hno:∀(j:Nat) (u:Value),row[j]? =some u→∀x:UInt8,u≠ .int .u8 (x.toNat:Int)):Bytes (fun b=>b≠g) w v l:=by
 have hb:=h.by_
 obtain ⟨A,c,rfl,h1,h2,h3⟩:=hb
 refine Recs.bytes ⟨A,c,rfl,h1,h2,fun h0=> ?_⟩
 obtain ⟨b,o,e,hS,h4⟩:=h3 h0
 refine ⟨b,o,e,fun hbg=> ?_,h4⟩
 subst hbg
 match l,h0 with
 |x::l,_=>
  have h5:=h4 0 (.int .u8 (x.toNat:Int)) rfl
  rw [cell_of_row _ _ _ _ _ _ hr] at h5
  exact hno _ _ h5 x rfl
theorem IR {L:List UInt8} {p q:Nat} {h:Hd} (e:iP L p= .ok (h,q)):∀z∈h.l,InR z:=by
 unfold iP bnd at e
 cases h1:bA L p with
 |error x=>rw [h1] at e;cases e
 |ok a=>
  rw [h1] at e
  dsimp only at e
  cases h2:bA L a.2 with
  |error x=>rw [h2] at e;cases e
  |ok b=>
   rw [h2] at e
   dsimp only at e
   cases h3:bA L b.2 with
   |error x=>rw [h3] at e;cases e
   |ok c=>
    rw [h3] at e
    dsimp only at e
    cases h4:bA L c.2 with
    |error x=>rw [h4] at e;cases e
    |ok d=>
     rw [h4] at e
     cases e
     have k1:=(cI h1).inr a.1 (by simp)
     have k2:=(cI h2).inr b.1 (by simp)
     have k3:=(cI h3).inr c.1 (by simp)
     have k4:=(cI h4).inr d.1 (by simp)
     intro z hz
     simp only [Hd.l,List.mem_cons,List.not_mem_nil,or_false] at hz
     rcases hz with rfl|rfl|rfl|rfl
     ·exact k1
     ·exact k2
     ·exact k3
     ·exact k4
theorem nD {b:List UInt8} {h:Hd} {q:Nat} (e:cF b= .ok (h,q)):(∀z∈h.l,InR z)∧1≤h.stamp:=by
 have h1:=pN (vG e).2.1
 exact ⟨IR h1.2,h1.1.1⟩
theorem vH {fs:List Fil} {k:Int} {h:Hd} {q:Nat} (e:cF (cH fs k)= .ok (h,q)):0≤k∧k<(fs.length:Int):=by
 by_cases hk:k<0∨(fs.length:Int)≤k
 ·rw [tG hk] at e
  cases e
 ·omega
theorem LoadR.at_ {fs:List Fil} {n:Nat} {k:Int} {s:Stt} (h:LoadR fs n k (.ok s)):0≤k∧k<(fs.length:Int):=by
 cases h with
 |full h1=>
  obtain ⟨_,_,h2,_⟩:=qV h1
  exact vH h2
 |grown h1 _ _ _ _=>
  obtain ⟨_,h2,_⟩:=nW h1
  exact vH h2
def stv (f:Fil):Int:=match vJ f with| .ok (h,_)=>h.stamp| .error _=>0
theorem gK (f:Fil) (l:List Fil):bV (f::l)=max (stv f) (bV l):=rfl
theorem AB (f:Fil):0≤stv f∧stv f≤oA:=by
 unfold stv
 split
 ·rename_i h q e
  have:=nD e
  have h2:=this.1 h.stamp (by simp [Hd.l])
  exact ⟨by omega,h2.2⟩
 ·unfold oA;omega
theorem mS:∀l:List Fil,0≤bV l∧bV l≤oA
 |[]=>by unfold bV oA;omega
 |f::l=>by
  have h1:=AB f
  have h2:=mS l
  rw [gK]
  omega
theorem nQ (f:Fil):∀l:List Fil,bV (l++ [f])=max (bV l) (stv f)
 |[]=>by
  have h1:=AB f
  show max (stv f) 0=max 0 (stv f)
  omega
 |g::l=>by
  rw [List.cons_append,gK,gK,nQ f l]
  omega
theorem nP {fs:List Fil} {i:Nat} {f:Fil} (h:fs[i]? =some f):bV (fs.take (i+1))=max (bV (fs.take i)) (stv f):=by
 rw [List.take_add_one,h]
 exact nQ f _
theorem AC {fs:List Fil} {i:Nat} {f:Fil} (h:fs[i]? =some f):stv f=(match cF (cH fs (i:Int)) with| .ok (h,_)=>h.stamp| .error _=>0):=by
 rw [lS h]
 rfl
theorem uF {s:Stt} (hc:s.cells.length≤1000) (he:s.evs.length≤400) (hs:s.sent.length≤400) (ho:s.outs.length≤400):s.l.length≤20000:=by
 have f1:=nE s.evs Ev.l 7 (fun _ _=>Nat.le_refl _)
 have f2:=nE s.sent Snd.l 4 (fun _ _=>Nat.le_refl _)
 have f3:=nE s.outs Ou.l 2 (fun _ _=>Nat.le_refl _)
 simp only [Stt.l,List.length_append,List.length_cons,List.length_nil]
 omega
theorem CX {s u:Stt} (hs:SvIn s) (hx:ExtM s u):(dN s u).length≤300000:=by
 have h1:=rM u.cells s.cells hs.ok.cells hs.c
 have hd:SttOk (dO s u):=⟨by simp [dO],fun e he=>hs.ok.evs e (List.mem_of_mem_drop he),fun e he=>hs.ok.sent e (List.mem_of_mem_drop he),fun e he=>hs.ok.outs e (List.mem_of_mem_drop he),by simp [dO]⟩
 have e1:(dO s u).cells.length≤1000:=by simp [dO]
 have e2:(dO s u).evs.length≤400:=by have:=hs.e;simp [dO];omega
 have e3:(dO s u).sent.length≤400:=by have:=hs.sn;simp [dO];omega
 have e4:(dO s u).outs.length≤400:=by have:=hs.o;simp [dO];omega
 have h2:=cE _ (rV hd (by omega) (by omega) (by omega))
 have h3:=uF e1 e2 e3 e4
 unfold dN
 rw [List.length_append]
 omega
set_option maxHeartbeats 16000000 in
theorem mU (A:Option Addr) (n c:Nat) (fs:List Fil) (S:Nat→Prop) (w:World) (hD:Dsk S w (.slice A n c) fs) (hn:n≤1000) (hf:iY fs) (slot:Int) (s:Stt) (A1:Option Addr) (n1 c1:Nat) (A2:Option Addr) (n2 c2:Nat) (A3:Option Addr) (n3 c3:Nat) (A4:Option Addr) (n4 c4:Nat) (Ss:Nat→Prop) (hM:StM Ss w s A1 n1 c1 A2 n2 c2 A3 n3 c3 A4 n4 c4) (hs:SvIn s) (base:Int) (r:Except Nat (List Fil)) (hr:SaveR fs s slot base r):
 Calls Tryz.prog 22 #[.agg #[.slice A n c],.int .i64 slot,.agg #[.slice A1 n1 c1,.slice A2 n2 c2,.slice A3 n3 c3,.slice A4 n4 c4],.int .i64 base] w fun e w' =>DkO (fun b=>S b∨w.heap.size≤b) n w' r e∧Below w.heap.size w w' :=by
 obtain ⟨W,hW,hbW,SW,R0,R1,R2⟩:=zN w #[.slice A n c] #[.slice A1 n1 c1,.slice A2 n2 c2,.slice A3 n3 c3,.slice A4 n4 c4] #[.slice none 0 0] 36 51 36
 have hlt:w.heap.size+2<W.heap.size:=by have:=SW.out;omega
 have hlen:=hD.len.1
 have HLEN:=Lib.hid hlen
 have hD0:Dsk (fun b=>S b∧b<w.heap.size) W (.slice A n c) fs:=(hD.mono (fun b h1 h2=>⟨h2,h1⟩)).ext hbW
 have hMW:StM (fun b=>b<w.heap.size) W s A1 n1 c1 A2 n2 c2 A3 n3 c3 A4 n4 c4:=StM.ext ⟨hM.1.mono (fun b h _=>h),hM.2.mono (fun b h _=>h),hM.3.mono (fun b h _=>h),hM.4.mono (fun b h _=>h)⟩ hbW
 have HF:=Lib.hid hf
 have HS:=Lib.hid hs
 have q0:W.cell? ⟨w.heap.size,0,none⟩=some (.slice A n c):=aA R0.out 0 _ rfl
 clear hD hf hM hs
 obtain ⟨r2,hr2⟩:∃r2,r2=r:=⟨_,rfl⟩
 rw [←hr2]
 go_enter Tryz.func22,Tryz.ntmps22
 go_upto_region 1 with fail
 rw [←hW]
 clear hW
 have hlk:∀(m:Nat) (r' :Except Nat Stt),LoadR fs m base r'→LdR fs base r' :=fun m r' h=>by
  obtain ⟨r3,h3⟩:=LoadR.ex fs base
  have:=LoadR.uniq h h3
  subst this
  exact kY fs HF.out _ _ _ h3 (by omega)
 have HLK:=Lib.hid hlk
 clear hlk hlen
 cases hr with
 |none h0=>
  have HR:=Lib.hid hr2
  clear hr2 HLK
  by_cases hk:slot<0
  ·have dk:decide (slot<0)=true:=by simpa using hk
   exact Tzb9
  ·have dk:decide (slot<0)=false:=by simpa using hk
   have dk2:decide ((n:Int)≤slot)=true:=by have:=HLEN.out;simp;omega
   exact Tzb9
 | @full k hk=>
  clear HLK
  obtain ⟨W2,hW2,_,kh,Sh,Rh⟩:=bP W W #[.int .i64 1,.int .i64 0,.int .i64 (-1),.int .i64 0] 90 (Below.refl _ _)
  obtain ⟨bh,hbh⟩:∃b,b=W.heap.size:=⟨_,rfl⟩
  rw [←hbh] at Rh
  have HBh:=Lib.hid hbh
  have lh:bh<W2.heap.size:=by have:=Sh.out;omega
  have RD2:=Lib.hid ((kh.block w.heap.size (by omega)).trans R0.out)
  have RS2:=Lib.hid ((kh.block (w.heap.size+1) (by omega)).trans R1.out)
  have RZ2:=Lib.hid ((kh.block (w.heap.size+2) hlt).trans R2.out)
  have hb2:=Below.ext hbW kh
  have hD2:=hD0.ext kh
  have hM2:=hMW.ext kh
  have hbh2:w.heap.size+2<bh:=by omega
  have dk:decide (n≤k)=false:=by simp;have:=HLEN.out;omega
  have hkn:k<n:=by have:=HLEN.out;omega
  have HR:=Lib.hid hr2
  clear hbh hr2
  have HPS:=Lib.hid (nT none 0 0 [] (fun _=>True) W2 (Bytes.nil_ _ _) s A1 A2 A3 A4 n1 c1 n2 c2 n3 c3 n4 c4 (hM2.1.mono (fun b h _=>h)) (hM2.2.mono (fun b h _=>h)) (hM2.3.mono (fun b h _=>h)) (hM2.4.mono (fun b h _=>h)) HS.out.ok (by omega) (by have:=hM2.2.len.1;have:=HS.out.e;omega) (by have:=hM2.3.len.1;have:=HS.out.sn;omega) (by have:=hM2.4.len.1;have:=HS.out.o;omega))
  clear hk hM2 hMW hD0
  go_upto_region 4 with (refine aF rfl 90 _ _ rfl 90 _ #[.int .i64 1,.int .i64 0,.int .i64 (-1),.int .i64 0] rfl rfl (by kernel_rfl) rfl (by simp [Value.oneCell']) ?_)
  try dsimp only
  rw [←hW2,←HBh.out]
  clear hW2
  try simp only [Act.put]
  go_wp2_with (refine aD (t:=51) (A:=⟨w.heap.size+1,0,none⟩) rfl rfl rfl (aB RS2.out Tryz.underlying51 rfl (by kernel_rfl)) ?_)
  refine HPS.out.mono ?_
  rintro e w3 ⟨v3,rfl,hv3,b3⟩
  rw [List.nil_append] at hv3
  have hel:=cE s.l (rV HS.out.ok (by have:=HS.out.e;omega) (by have:=HS.out.sn;omega) (by have:=HS.out.o;omega))
  have hsl:s.l.length≤20000:=uF HS.out.c HS.out.e HS.out.sn HS.out.o
  obtain ⟨C,cc,rfl,hc1,hc2,hcs⟩:=hv3
  obtain ⟨m,hm⟩:∃m,m=(aK s.l).length:=⟨_,rfl⟩
  rw [←hm] at hel hc1 ⊢
  have hv3:Bytes (fun _=>True) w3 (.slice C m cc) (aK s.l):=⟨C,cc,by rw [hm],by omega,hc2,hcs⟩
  have hmm:m≤200000:=by omega
  have RD3:=Lib.hid ((b3.block w.heap.size (by omega)).trans RD2.out)
  have RZ3:=Lib.hid ((b3.block (w.heap.size+2) (by omega)).trans RZ2.out)
  have RH3:=Lib.hid ((b3.block bh lh).trans Rh.out)
  have hD3:=hD2.ext b3
  have hb3:=Below.ext hb2 b3
  have q3:w3.cell? ⟨w.heap.size,0,none⟩=some (.slice A n c):=aA RD3.out 0 _ rfl
  have hb3s:=b3.size
  have HI:∀st:Int,InR st→∀z∈(Hd.l ⟨1,st,-1,0⟩),InR z:=by
   intro st hst z hz
   simp only [Hd.l,List.mem_cons,List.not_mem_nil,or_false] at hz
   rcases hz with rfl|rfl|rfl|rfl
   ·exact ⟨by omega,by omega⟩
   ·exact hst
   ·exact ⟨by omega,by omega⟩
   ·exact ⟨by omega,by omega⟩
  clear hm hc1 hc2 hcs hel hsl hD2 q0
  obtain ⟨wt,hwt⟩:∃x,x=w3:=⟨_,rfl⟩
  go_wp2
  go_loopw [18,76] (fun z i wr=>∃(iv:Nat),i= .int .i64 iv∧iv≤n∧z= .int .i64 (bV (fs.take iv))∧Below w3.heap.size w3 wr) (fun _ i _=>n-(intOf i).toNat)
  case atStart=>exact ⟨0,rfl,by omega,rfl,Below.refl _ _⟩
  case round=>
   obtain ⟨iv,rfl,hiv,rfl,hbr⟩:=hrel
   obtain ⟨z,hz⟩:∃z,z=bV (fs.take iv):=⟨_,rfl⟩
   rw [←hz]
   have hzi:=mS (fs.take iv)
   rw [←hz] at hzi
   unfold oA at hzi
   have HZ:=Lib.hid hz
   clear hz
   have szr:=hbr.size
   by_cases hlt2:iv<n
   ·obtain ⟨f,hf⟩:∃f,fs[iv]? =some f:=⟨_,List.getElem?_eq_getElem (by have:=HLEN.out;omega)⟩
    have hst:=nP hf
    rw [←HZ.out,AC hf] at hst
    have HST:=Lib.hid hst
    have HCB:=Lib.hid (iW A n c fs _ wr (hD3.ext hbr) hn (iv:Int) HF.out)
    have RDr:=Lib.hid ((hbr.block w.heap.size (by omega)).trans RD3.out)
    exact Tzae
   ·obtain rfl:n=iv:=by omega
    have hzz:z=bV fs:=by rw [HZ.out,List.take_of_length_le (by rw [HLEN.out];exact Nat.le_refl _)]
    have HZZ:=Lib.hid hzz
    have hbw:=Below.ext hb3 hbr
    have RDr:=Lib.hid ((hbr.block w.heap.size (by omega)).trans RD3.out)
    have RZr:=Lib.hid ((hbr.block (w.heap.size+2) (by omega)).trans RZ3.out)
    have RHr:=Lib.hid ((hbr.block bh (by omega)).trans RH3.out)
    clear hzz
    by_cases hzm:z=9223372036854775807
    ·exact Tzbp
    ·have dz:(z==9223372036854775807)=false:=by simpa using hzm
     have FIN:=Lib.hid (show r2=if 4096<List.length (aK s.l) then .error 5 else .ok (fs.set k ⟨[],ckF ⟨1,z+1,(-1),0⟩ (aK s.l)⟩) by rw [HR.out];unfold nU;rw [if_neg (by rw [←HZZ.out];exact hzm),←HZZ.out])
     have hz1:z+1≤9223372036854775807:=by omega
     have qh1:wr.cell? ⟨bh,1,none⟩=some (.int .i64 0):=aA RHr.out 1 _ rfl
     have fh1:wr.frozen? ⟨bh,1,none⟩=false:=frozen_of_row _ _ _ _ _ RHr.out
     obtain ⟨w6,hw6⟩:∃w6,w6=wr.setCell ⟨bh,1,none⟩ (.int .i64 (z+1)):=⟨_,rfl⟩
     have g6:wr.grownBy w6 (some bh):=by rw [hw6];exact aO (bC _ _)
     have RH6:=Lib.hid (show w6.heap[bh]? =some (.cells #[.int .i64 1,.int .i64 (z+1),.int .i64 (-1),.int .i64 0] 90 (0,0)) by rw [hw6];exact heap_setCell_same _ _ _ _ _ _ RHr.out)
     have RD6:=Lib.hid ((g6.block w.heap.size (by omega) (by simp;omega)).trans RDr.out)
     have RZ6:=Lib.hid ((g6.block (w.heap.size+2) (by omega) (by simp;omega)).trans RZr.out)
     have hD6:=(hD3.ext hbr).keep (w' :=w6) (fun b hb hs=>g6.block b hb (by have:=hs.2;simp;omega))
     have hb6:Below w.heap.size w w6:=hbw.grown g6 hbw.size (fun o e=>by cases e;omega)
     have hv6:=((hv3.ext hbr).avoid RHr.out (by intro j u hu x;rcases j with _|_|_|_|j<;>simp at hu<;>subst hu<;>simp)).keep (w' :=w6) (fun b hb hs=>g6.block b hb (by intro e;exact hs (Option.some.inj e)))
     have s6:wr.heap.size≤w6.heap.size:=g6.size
     have HWR:=Lib.hid (rN A n c fs _ w6 hD6 hn k (by omega) ⟨1,z+1,(-1),0⟩ (HI (z+1) ⟨by omega,by omega⟩) C m cc (aK s.l) _ hv6 (by omega))
     clear hzm g6 hD6 hv6
     go_upto_region 26 with fail
     try rw [←hw6]
     clear hw6 qh1 fh1
     go_wp2_with (first|(refine aD (t:=36) (A:=⟨w.heap.size,0,none⟩) rfl rfl rfl (aB RD6.out Tryz.underlying36 rfl (by kernel_rfl)) ?_)|(refine aD (t:=90) (A:=⟨bh,0,none⟩) rfl rfl rfl (aB RH6.out Tryz.underlying90 rfl (by kernel_rfl)) ?_))
     refine HWR.out.mono ?_
     rintro e w7 ⟨hdk,b7⟩
     have RZ7:=Lib.hid ((b7.block (w.heap.size+2) (by omega)).trans RZ6.out)
     have hb7:=Below.ext hb6 b7
     by_cases hbl:4096<List.length (aK s.l)
     ·exact Tzbo
     ·exact Tza7
 | @miss k base m e0 hk hb1 hL=>
  have db:(base== -1)=false:=by simpa using hb1
  obtain ⟨W2,hW2,_,kh,Sh,Rh⟩:=bP W W #[.int .i64 1,.int .i64 0,.int .i64 (-1),.int .i64 0] 90 (Below.refl _ _)
  obtain ⟨bh,hbh⟩:∃b,b=W.heap.size:=⟨_,rfl⟩
  rw [←hbh] at Rh
  have HBh:=Lib.hid hbh
  have lh:bh<W2.heap.size:=by have:=Sh.out;omega
  have RD2:=Lib.hid ((kh.block w.heap.size (by omega)).trans R0.out)
  have RS2:=Lib.hid ((kh.block (w.heap.size+1) (by omega)).trans R1.out)
  have RZ2:=Lib.hid ((kh.block (w.heap.size+2) hlt).trans R2.out)
  have hb2:=Below.ext hbW kh
  have hD2:=hD0.ext kh
  have hM2:=hMW.ext kh
  have hbh2:w.heap.size+2<bh:=by omega
  have dk:decide (n≤k)=false:=by simp;have:=HLEN.out;omega
  have hkn:k<n:=by have:=HLEN.out;omega
  have HR:=Lib.hid hr2
  clear hbh hr2
  have HLD:=Lib.hid ((HLK.out _ _ hL).2 A n c _ W2 hD2 hn)
  clear HLK hL hb1
  clear hk
  go_upto_region 4 with (refine aF rfl 90 _ _ rfl 90 _ #[.int .i64 1,.int .i64 0,.int .i64 (-1),.int .i64 0] rfl rfl (by kernel_rfl) rfl (by simp [Value.oneCell']) ?_)
  try dsimp only
  rw [←hW2,←HBh.out]
  clear hW2
  try simp only [Act.put]
  go_wp2_with (refine aD (t:=36) (A:=⟨w.heap.size,0,none⟩) rfl rfl rfl (aB RD2.out Tryz.underlying36 rfl (by kernel_rfl)) ?_)
  refine HLD.out.mono ?_
  rintro e w3 ⟨hld,b3⟩
  have s3:=b3.size
  have hb3:=Below.ext hb2 b3
  unfold LdO at hld
  dsimp only at hld
  obtain ⟨he0,rfl⟩:=hld
  have dx:((e0:Int) != 0)=true:=by simpa using he0
  obtain ⟨W4,hW4,_,ku,Su,Ru⟩:=bP w3 w3 #[.slice none 0 0,.slice none 0 0,.slice none 0 0,.slice none 0 0] 51 (Below.refl _ _)
  obtain ⟨bu,hbu⟩:∃b,b=w3.heap.size:=⟨_,rfl⟩
  rw [←hbu] at Ru
  have HBu:=Lib.hid hbu
  have lu:bu<W4.heap.size:=by have:=Su.out;omega
  have RZ4:=Lib.hid (((Below.ext b3 ku).block (w.heap.size+2) (by omega)).trans RZ2.out)
  have hb4:=Below.ext hb3 ku
  clear hbu he0
  go_upto_region 8 with (refine aF rfl 51 _ _ rfl 51 _ #[.slice none 0 0,.slice none 0 0,.slice none 0 0,.slice none 0 0] rfl rfl (by kernel_rfl) rfl (by simp [Value.oneCell']) ?_)
  exact Tzb6
 | @shape k base m u hk hb1 hL hor=>
  have db:(base== -1)=false:=by simpa using hb1
  obtain ⟨W2,hW2,_,kh,Sh,Rh⟩:=bP W W #[.int .i64 1,.int .i64 0,.int .i64 (-1),.int .i64 0] 90 (Below.refl _ _)
  obtain ⟨bh,hbh⟩:∃b,b=W.heap.size:=⟨_,rfl⟩
  rw [←hbh] at Rh
  have HBh:=Lib.hid hbh
  have lh:bh<W2.heap.size:=by have:=Sh.out;omega
  have RD2:=Lib.hid ((kh.block w.heap.size (by omega)).trans R0.out)
  have RS2:=Lib.hid ((kh.block (w.heap.size+1) (by omega)).trans R1.out)
  have RZ2:=Lib.hid ((kh.block (w.heap.size+2) hlt).trans R2.out)
  have hb2:=Below.ext hbW kh
  have hD2:=hD0.ext kh
  have hM2:=hMW.ext kh
  have hbh2:w.heap.size+2<bh:=by omega
  have dk:decide (n≤k)=false:=by simp;have:=HLEN.out;omega
  have hkn:k<n:=by have:=HLEN.out;omega
  have HR:=Lib.hid hr2
  clear hbh hr2
  have HLD:=Lib.hid ((HLK.out _ _ hL).2 A n c _ W2 hD2 hn)
  clear HLK hL hb1
  clear hk
  go_upto_region 4 with (refine aF rfl 90 _ _ rfl 90 _ #[.int .i64 1,.int .i64 0,.int .i64 (-1),.int .i64 0] rfl rfl (by kernel_rfl) rfl (by simp [Value.oneCell']) ?_)
  try dsimp only
  rw [←hW2,←HBh.out]
  clear hW2
  try simp only [Act.put]
  go_wp2_with (refine aD (t:=36) (A:=⟨w.heap.size,0,none⟩) rfl rfl rfl (aB RD2.out Tryz.underlying36 rfl (by kernel_rfl)) ?_)
  refine HLD.out.mono ?_
  rintro e w3 ⟨hld,b3⟩
  have s3:=b3.size
  have hb3:=Below.ext hb2 b3
  unfold LdO at hld
  dsimp only at hld
  obtain ⟨E1,p1,q1,E2,p2,q2,E3,p3,q3,E4,p4,q4,rfl,hU⟩:=hld
  obtain ⟨W4,hW4,_,ku,Su,Ru⟩:=bP w3 w3 #[.slice E1 p1 q1,.slice E2 p2 q2,.slice E3 p3 q3,.slice E4 p4 q4] 51 (Below.refl _ _)
  obtain ⟨bu,hbu⟩:∃b,b=w3.heap.size:=⟨_,rfl⟩
  rw [←hbu] at Ru
  have HBu:=Lib.hid hbu
  have lu:bu<W4.heap.size:=by have:=Su.out;omega
  have y24:=Below.ext b3 ku
  have RD4:=Lib.hid ((y24.block w.heap.size (by omega)).trans RD2.out)
  have RS4:=Lib.hid ((y24.block (w.heap.size+1) (by omega)).trans RS2.out)
  have RZ4:=Lib.hid ((y24.block (w.heap.size+2) (by omega)).trans RZ2.out)
  have RH4:=Lib.hid ((y24.block bh lh).trans Rh.out)
  have hb4:=Below.ext hb3 ku
  have hD4:=hD2.ext y24
  have hM4:=hM2.ext y24
  have hU4:=hU.ext ku
  have hbu2:bh<bu:=by omega
  have s4:=y24.size
  clear hbu hD2 hM2 hU
  by_cases hbk:base=(k:Int)
  ·have dbk:(base==(k:Int))=true:=by simpa using hbk
   clear hbk hor
   go_upto_region 8 with (refine aF rfl 51 _ _ rfl 51 _ #[.slice E1 p1 q1,.slice E2 p2 q2,.slice E3 p3 q3,.slice E4 p4 q4] rfl rfl (by kernel_rfl) rfl (by simp [Value.oneCell']) ?_)
   exact Tzb6
  ·have dbk:(base==(k:Int))=false:=by simpa using hbk
   have hex:sA s u=false:=by
    have:=hor.resolve_left hbk
    rw [←vM] at this
    simpa using this
   have HEX:=Lib.hid (pT s u A1 n1 c1 A2 n2 c2 A3 n3 c3 A4 n4 c4 E1 p1 q1 E2 p2 q2 E3 p3 q3 E4 p4 q4 _ _ W4 hM4 hU4)
   rw [hex] at HEX
   clear hbk hor hex
   go_upto_region 8 with (refine aF rfl 51 _ _ rfl 51 _ #[.slice E1 p1 q1,.slice E2 p2 q2,.slice E3 p3 q3,.slice E4 p4 q4] rfl rfl (by kernel_rfl) rfl (by simp [Value.oneCell']) ?_)
   try dsimp only
   rw [←hW4,←HBu.out]
   clear hW4
   try simp only [Act.put]
   go_wp2_with (first|(refine aD (t:=51) (A:=⟨w.heap.size+1,0,none⟩) rfl rfl rfl (aB RS4.out Tryz.underlying51 rfl (by kernel_rfl)) ?_)|(refine aD (t:=51) (A:=⟨bu,0,none⟩) rfl rfl rfl (aB Ru.out Tryz.underlying51 rfl (by kernel_rfl)) ?_))
   refine HEX.out.mono ?_
   rintro e w5 ⟨rfl,b5⟩
   have RZ5:=Lib.hid ((b5.block (w.heap.size+2) (by omega)).trans RZ4.out)
   have hb5:=Below.ext hb4 b5
   go_wp2_with (refine aC rfl 36 _ _ rfl (w.heap.size+2) 36 _ _ rfl rfl RZ5.out (by kernel_rfl) rfl (by simp [Value.oneCell']) ?_)
   refine bodyPost_ret (bI rfl rfl (aB (setRow_heap _ _ _ _ _ _ RZ5.out) Tryz.underlying36 rfl (by kernel_rfl))) rfl ?_
   rw [HR.out]
   exact ⟨⟨by omega,rfl⟩,hb5.grown (aJ _ _ _) hb5.size (fun o e=>by cases e;omega)⟩
 | @inc k base m q u g hk hb1 hL hne hx hh=>
  have db:(base== -1)=false:=by simpa using hb1
  obtain ⟨W2,hW2,_,kh,Sh,Rh⟩:=bP W W #[.int .i64 1,.int .i64 0,.int .i64 (-1),.int .i64 0] 90 (Below.refl _ _)
  obtain ⟨bh,hbh⟩:∃b,b=W.heap.size:=⟨_,rfl⟩
  rw [←hbh] at Rh
  have HBh:=Lib.hid hbh
  have lh:bh<W2.heap.size:=by have:=Sh.out;omega
  have RD2:=Lib.hid ((kh.block w.heap.size (by omega)).trans R0.out)
  have RS2:=Lib.hid ((kh.block (w.heap.size+1) (by omega)).trans R1.out)
  have RZ2:=Lib.hid ((kh.block (w.heap.size+2) hlt).trans R2.out)
  have hb2:=Below.ext hbW kh
  have hD2:=hD0.ext kh
  have hM2:=hMW.ext kh
  have hbh2:w.heap.size+2<bh:=by omega
  have dk:decide (n≤k)=false:=by simp;have:=HLEN.out;omega
  have hkn:k<n:=by have:=HLEN.out;omega
  have HR:=Lib.hid hr2
  clear hbh hr2
  have HLD:=Lib.hid ((HLK.out _ _ hL).2 A n c _ W2 hD2 hn)
  have hat:=hL.at_
  have dbk:(base==(k:Int))=false:=by simpa using hne
  have hex:=(vM s u).2 hx
  have HX:=Lib.hid hx
  have HH:=Lib.hid hh
  have hgi:=(nD hh).1 g.stamp (by simp [Hd.l])
  clear HLK hL hb1 hne hx hh
  clear hk
  go_upto_region 4 with (refine aF rfl 90 _ _ rfl 90 _ #[.int .i64 1,.int .i64 0,.int .i64 (-1),.int .i64 0] rfl rfl (by kernel_rfl) rfl (by simp [Value.oneCell']) ?_)
  try dsimp only
  rw [←hW2,←HBh.out]
  clear hW2
  try simp only [Act.put]
  go_wp2_with (refine aD (t:=36) (A:=⟨w.heap.size,0,none⟩) rfl rfl rfl (aB RD2.out Tryz.underlying36 rfl (by kernel_rfl)) ?_)
  refine HLD.out.mono ?_
  rintro e w3 ⟨hld,b3⟩
  have s3:=b3.size
  have hb3:=Below.ext hb2 b3
  unfold LdO at hld
  dsimp only at hld
  obtain ⟨E1,p1,q1,E2,p2,q2,E3,p3,q3,E4,p4,q4,rfl,hU⟩:=hld
  obtain ⟨W4,hW4,_,ku,Su,Ru⟩:=bP w3 w3 #[.slice E1 p1 q1,.slice E2 p2 q2,.slice E3 p3 q3,.slice E4 p4 q4] 51 (Below.refl _ _)
  obtain ⟨bu,hbu⟩:∃b,b=w3.heap.size:=⟨_,rfl⟩
  rw [←hbu] at Ru
  have HBu:=Lib.hid hbu
  have lu:bu<W4.heap.size:=by have:=Su.out;omega
  have y24:=Below.ext b3 ku
  have RD4:=Lib.hid ((y24.block w.heap.size (by omega)).trans RD2.out)
  have RS4:=Lib.hid ((y24.block (w.heap.size+1) (by omega)).trans RS2.out)
  have RZ4:=Lib.hid ((y24.block (w.heap.size+2) (by omega)).trans RZ2.out)
  have RH4:=Lib.hid ((y24.block bh lh).trans Rh.out)
  have hb4:=Below.ext hb3 ku
  have hD4:=hD2.ext y24
  have hM4:=hM2.ext y24
  have hU4:=hU.ext ku
  have hbu2:bh<bu:=by omega
  have s4:=y24.size
  clear hbu hD2 hM2 hU
  have HEX:=Lib.hid (pT s u A1 n1 c1 A2 n2 c2 A3 n3 c3 A4 n4 c4 E1 p1 q1 E2 p2 q2 E3 p3 q3 E4 p4 q4 _ _ W4 hM4 hU4)
  rw [hex] at HEX
  clear hex
  go_upto_region 8 with (refine aF rfl 51 _ _ rfl 51 _ #[.slice E1 p1 q1,.slice E2 p2 q2,.slice E3 p3 q3,.slice E4 p4 q4] rfl rfl (by kernel_rfl) rfl (by simp [Value.oneCell']) ?_)
  try dsimp only
  rw [←hW4,←HBu.out]
  clear hW4
  try simp only [Act.put]
  go_wp2_with (first|(refine aD (t:=51) (A:=⟨w.heap.size+1,0,none⟩) rfl rfl rfl (aB RS4.out Tryz.underlying51 rfl (by kernel_rfl)) ?_)|(refine aD (t:=51) (A:=⟨bu,0,none⟩) rfl rfl rfl (aB Ru.out Tryz.underlying51 rfl (by kernel_rfl)) ?_))
  refine HEX.out.mono ?_
  rintro e w5 ⟨rfl,b5⟩
  have s5:=b5.size
  have RD5:=Lib.hid ((b5.block w.heap.size (by omega)).trans RD4.out)
  have RS5:=Lib.hid ((b5.block (w.heap.size+1) (by omega)).trans RS4.out)
  have RZ5:=Lib.hid ((b5.block (w.heap.size+2) (by omega)).trans RZ4.out)
  have RH5:=Lib.hid ((b5.block bh (by omega)).trans RH4.out)
  have RU5:=Lib.hid ((b5.block bu lu).trans Ru.out)
  have hD5:=hD4.ext b5
  have hM5:=hM4.ext b5
  have hU5:=hU4.ext b5
  have hb5:=Below.ext hb4 b5
  have HBE:=Lib.hid (iW A n c fs _ w5 hD5 hn base HF.out)
  clear hD4 hM4 hU4
  go_wp2_with (refine aD (t:=36) (A:=⟨w.heap.size,0,none⟩) rfl rfl rfl (aB RD5.out Tryz.underlying36 rfl (by kernel_rfl)) ?_)
  refine HBE.out.mono ?_
  rintro e w6 ⟨g',Vg,qg,xg,rfl,hbo,b6⟩
  have s6:=b6.size
  obtain ⟨rfl,rfl⟩:g' =g∧xg=0:=by
   rcases hbo with ⟨p,h1,_,h2,_⟩|⟨h1,_⟩
   ·rw [HH.out] at h1;cases h1;exact ⟨rfl,h2⟩
   ·rw [HH.out] at h1;cases h1
  obtain ⟨W7,hW7,_,ke,Se,Re⟩:=bP w6 w6 #[.int .i64 g'.kind,.int .i64 g'.stamp,.int .i64 g'.base,.int .i64 g'.under] 90 (Below.refl _ _)
  obtain ⟨be,hbe⟩:∃b,b=w6.heap.size:=⟨_,rfl⟩
  rw [←hbe] at Re
  have HBe:=Lib.hid hbe
  have le:be<W7.heap.size:=by have:=Se.out;omega
  have y57:=Below.ext b6 ke
  have RD7:=Lib.hid ((y57.block w.heap.size (by omega)).trans RD5.out)
  have RS7:=Lib.hid ((y57.block (w.heap.size+1) (by omega)).trans RS5.out)
  have RZ7:=Lib.hid ((y57.block (w.heap.size+2) (by omega)).trans RZ5.out)
  have RH7:=Lib.hid ((y57.block bh (by omega)).trans RH5.out)
  have RU7:=Lib.hid ((y57.block bu (by omega)).trans RU5.out)
  have hD7:=hD5.ext y57
  have hM7:=hM5.ext y57
  have hU7:=hU5.ext y57
  have hb7:=Below.ext hb5 y57
  have s7:=y57.size
  have qe:W7.cell? ⟨be,1,none⟩=some (.int .i64 g'.stamp):=aA Re.out 1 _ rfl
  obtain ⟨w8,hw8⟩:∃w8,w8=W7.setRow bh #[.int .i64 2,.int .i64 0,.int .i64 base,.int .i64 g'.stamp]:=⟨_,rfl⟩
  have g8:W7.grownBy w8 (some bh):=by rw [hw8];exact aJ _ _ _
  have RH8:=Lib.hid (show w8.heap[bh]? =some (.cells #[.int .i64 2,.int .i64 0,.int .i64 base,.int .i64 g'.stamp] 90 (0,0)) by rw [hw8];exact setRow_heap _ _ _ _ _ _ RH7.out)
  have RD8:=Lib.hid ((g8.block w.heap.size (by omega) (by simp;omega)).trans RD7.out)
  have RS8:=Lib.hid ((g8.block (w.heap.size+1) (by omega) (by simp;omega)).trans RS7.out)
  have RZ8:=Lib.hid ((g8.block (w.heap.size+2) (by omega) (by simp;omega)).trans RZ7.out)
  have RU8:=Lib.hid ((g8.block bu (by omega) (by simp;omega)).trans RU7.out)
  have hD8:=hD7.keep (w' :=w8) (fun b hb hs=>g8.block b hb (by have:=hs.2;simp;omega))
  have hb8:Below w.heap.size w w8:=hb7.grown g8 hb7.size (fun o e=>by cases e;omega)
  have s8:W7.heap.size≤w8.heap.size:=g8.size
  have kM:Keep (fun b=>b<w.heap.size) W7 w8:=fun b hb hs=>g8.block b hb (by simp;omega)
  have kU:Keep (fun b=>W2.heap.size≤b) W7 w8:=fun b hb hs=>g8.block b hb (by simp;omega)
  have hM8:StM (fun b=>b<w.heap.size) w8 s A1 n1 c1 A2 n2 c2 A3 n3 c3 A4 n4 c4:=⟨hM7.1.keep kM,hM7.2.keep kM,hM7.3.keep kM,hM7.4.keep kM⟩
  have hU8:StM (fun b=>W2.heap.size≤b) w8 u E1 p1 q1 E2 p2 q2 E3 p3 q3 E4 p4 q4:=⟨hU7.1.keep kU,hU7.2.keep kU,hU7.3.keep kU,hU7.4.keep kU⟩
  have HDI:=Lib.hid (sB s u A1 n1 c1 A2 n2 c2 A3 n3 c3 A4 n4 c4 E1 p1 q1 E2 p2 q2 E3 p3 q3 E4 p4 q4 _ _ w8 hM8 hU8 HS.out HX.out)
  clear hbe hbo hD5 hM5 hU5 hD7 hM7 hU7 hM8 hU8
  go_upto_region 13 with (refine aF rfl 90 _ _ rfl 90 _ #[.int .i64 g'.kind,.int .i64 g'.stamp,.int .i64 g'.base,.int .i64 g'.under] rfl rfl (by kernel_rfl) rfl (by simp [Value.oneCell']) ?_)
  try dsimp only
  rw [←hW7,←HBe.out]
  clear hW7
  try simp only [Act.put]
  go_upto_region 14 with (refine aC rfl 90 _ _ rfl bh 90 _ _ rfl rfl RH7.out (by kernel_rfl) rfl (by simp [Value.oneCell']) ?_)
  rw [←hw8]
  clear hw8 qe g8
  go_wp2_with (first|(refine aD (t:=51) (A:=⟨w.heap.size+1,0,none⟩) rfl rfl rfl (aB RS8.out Tryz.underlying51 rfl (by kernel_rfl)) ?_)|(refine aD (t:=51) (A:=⟨bu,0,none⟩) rfl rfl rfl (aB RU8.out Tryz.underlying51 rfl (by kernel_rfl)) ?_))
  refine HDI.out.mono ?_
  rintro e w9 ⟨v9,rfl,hv9,b9⟩
  have hbl:=CX HS.out HX.out
  obtain ⟨C,cc,rfl,hc1,hc2,hcs⟩:=hv9
  obtain ⟨bdy,hbdy⟩:∃x,x=dN s u:=⟨_,rfl⟩
  rw [←hbdy] at hc1 hcs hbl HR ⊢
  obtain ⟨m',hm'⟩:∃m,m=bdy.length:=⟨_,rfl⟩
  rw [←hm'] at hbl hc1 ⊢
  have hv9:Bytes (fun _=>True) w9 (.slice C m' cc) bdy:=⟨C,cc,by rw [hm'],by omega,hc2,hcs⟩
  have RD9:=Lib.hid ((b9.block w.heap.size (by omega)).trans RD8.out)
  have RZ9:=Lib.hid ((b9.block (w.heap.size+2) (by omega)).trans RZ8.out)
  have RH9:=Lib.hid ((b9.block bh (by omega)).trans RH8.out)
  have hD9:=hD8.ext b9
  have hb9:=Below.ext hb8 b9
  have hb9s:=b9.size
  have q9:w9.cell? ⟨w.heap.size,0,none⟩=some (.slice A n c):=aA RD9.out 0 _ rfl
  have HI:∀st:Int,InR st→∀z∈(Hd.l ⟨2,st,base,g'.stamp⟩),InR z:=by
   intro st hst z hz
   simp only [Hd.l,List.mem_cons,List.not_mem_nil,or_false] at hz
   rcases hz with rfl|rfl|rfl|rfl
   ·exact ⟨by omega,by omega⟩
   ·exact hst
   ·have:=HLEN.out;exact ⟨by omega,by omega⟩
   ·exact hgi
  clear hm' hc1 hc2 hcs hbdy hD8 q0
  obtain ⟨wt,hwt⟩:∃x,x=w9:=⟨_,rfl⟩
  go_wp2
  go_loopw [18,76] (fun z i wr=>∃(iv:Nat),i= .int .i64 iv∧iv≤n∧z= .int .i64 (bV (fs.take iv))∧Below w9.heap.size w9 wr) (fun _ i _=>n-(intOf i).toNat)
  case atStart=>exact ⟨0,rfl,by omega,rfl,Below.refl _ _⟩
  case round=>
   obtain ⟨iv,rfl,hiv,rfl,hbr⟩:=hrel
   obtain ⟨z,hz⟩:∃z,z=bV (fs.take iv):=⟨_,rfl⟩
   rw [←hz]
   have hzi:=mS (fs.take iv)
   rw [←hz] at hzi
   unfold oA at hzi
   have HZ:=Lib.hid hz
   clear hz
   have szr:=hbr.size
   by_cases hlt2:iv<n
   ·obtain ⟨f,hf⟩:∃f,fs[iv]? =some f:=⟨_,List.getElem?_eq_getElem (by have:=HLEN.out;omega)⟩
    have hst:=nP hf
    rw [←HZ.out,AC hf] at hst
    have HST:=Lib.hid hst
    have HCB:=Lib.hid (iW A n c fs _ wr (hD9.ext hbr) hn (iv:Int) HF.out)
    have RDr:=Lib.hid ((hbr.block w.heap.size (by omega)).trans RD9.out)
    exact Tzae
   ·obtain rfl:n=iv:=by omega
    have hzz:z=bV fs:=by rw [HZ.out,List.take_of_length_le (by rw [HLEN.out];exact Nat.le_refl _)]
    have HZZ:=Lib.hid hzz
    have hbw:=Below.ext hb9 hbr
    have RDr:=Lib.hid ((hbr.block w.heap.size (by omega)).trans RD9.out)
    have RZr:=Lib.hid ((hbr.block (w.heap.size+2) (by omega)).trans RZ9.out)
    have RHr:=Lib.hid ((hbr.block bh (by omega)).trans RH9.out)
    clear hzz
    by_cases hzm:z=9223372036854775807
    ·exact Tzbp
    ·have dz:(z==9223372036854775807)=false:=by simpa using hzm
     have FIN:=Lib.hid (show r2=if 4096<List.length (bdy) then .error 5 else .ok (fs.set k ⟨[],ckF ⟨2,z+1,base,g'.stamp⟩ (bdy)⟩) by rw [HR.out];unfold nU;rw [if_neg (by rw [←HZZ.out];exact hzm),←HZZ.out])
     have hz1:z+1≤9223372036854775807:=by omega
     have qh1:wr.cell? ⟨bh,1,none⟩=some (.int .i64 0):=aA RHr.out 1 _ rfl
     have fh1:wr.frozen? ⟨bh,1,none⟩=false:=frozen_of_row _ _ _ _ _ RHr.out
     obtain ⟨w6,hw6⟩:∃w6,w6=wr.setCell ⟨bh,1,none⟩ (.int .i64 (z+1)):=⟨_,rfl⟩
     have g6:wr.grownBy w6 (some bh):=by rw [hw6];exact aO (bC _ _)
     have RH6:=Lib.hid (show w6.heap[bh]? =some (.cells #[.int .i64 2,.int .i64 (z+1),.int .i64 base,.int .i64 g'.stamp] 90 (0,0)) by rw [hw6];exact heap_setCell_same _ _ _ _ _ _ RHr.out)
     have RD6:=Lib.hid ((g6.block w.heap.size (by omega) (by simp;omega)).trans RDr.out)
     have RZ6:=Lib.hid ((g6.block (w.heap.size+2) (by omega) (by simp;omega)).trans RZr.out)
     have hD6:=(hD9.ext hbr).keep (w' :=w6) (fun b hb hs=>g6.block b hb (by have:=hs.2;simp;omega))
     have hb6:Below w.heap.size w w6:=hbw.grown g6 hbw.size (fun o e=>by cases e;omega)
     have hv6:=((hv9.ext hbr).avoid RHr.out (by intro j u hu x;rcases j with _|_|_|_|j<;>simp at hu<;>subst hu<;>simp)).keep (w' :=w6) (fun b hb hs=>g6.block b hb (by intro e;exact hs (Option.some.inj e)))
     have s6:wr.heap.size≤w6.heap.size:=g6.size
     have HWR:=Lib.hid (rN A n c fs _ w6 hD6 hn k (by omega) ⟨2,z+1,base,g'.stamp⟩ (HI (z+1) ⟨by omega,by omega⟩) C m' cc (bdy) _ hv6 (by omega))
     clear hzm g6 hD6 hv6
     go_upto_region 26 with fail
     try rw [←hw6]
     clear hw6 qh1 fh1
     go_wp2_with (first|(refine aD (t:=36) (A:=⟨w.heap.size,0,none⟩) rfl rfl rfl (aB RD6.out Tryz.underlying36 rfl (by kernel_rfl)) ?_)|(refine aD (t:=90) (A:=⟨bh,0,none⟩) rfl rfl rfl (aB RH6.out Tryz.underlying90 rfl (by kernel_rfl)) ?_))
     refine HWR.out.mono ?_
     rintro e w7 ⟨hdk,b7⟩
     have RZ7:=Lib.hid ((b7.block (w.heap.size+2) (by omega)).trans RZ6.out)
     have hb7:=Below.ext hb6 b7
     by_cases hbl:4096<List.length (bdy)
     ·exact Tzbo
     ·exact Tza7
end Go.Proofs.YtiblijmngokcgaaGreatDoor
namespace Go.Proofs.YtiblijmngokcgaaGreatDoor
open Go.RowKit
set_option linter.unusedVariables false
set_option linter.unusedSimpArgs false
theorem fY {z:Int} (h0:0≤z) (h:z≤63):(cZ z).length=1:=by
 unfold cZ
 rw [kL (by unfold zz;rw [if_pos h0];omega)]
 rfl
theorem pH {z:Int} (h:InR z):(cZ z).length≤10:=by
 have:=cE [z] (by simpa using h)
 simpa [aK] using this
theorem oJ (a b:List Int):(aK (a++b)).length=(aK a).length+(aK b).length:=by simp [aK]
theorem pF {α:Type} (l:List α) (b:α→List Int) (k:Nat) (h:∀a∈l,(aK (b a)).length≤k):(aK (l.flatMap b)).length≤l.length*k:=by
 induction l with
 |nil=>simp [aK]
 |cons a l ih=>
  have h1:=ih (fun x hx=>h x (List.mem_cons_of_mem _ hx))
  have h2:=h a (List.mem_cons_self ..)
  rw [List.flatMap_cons,oJ,List.length_cons,Nat.add_mul]
  omega
structure StB (s:Stt):Prop where
 i:StI 10 88 s
 c:s.cells.length≤30
 c5:5≤s.cells.length
 e:s.evs.length≤10
theorem StB.sv {s:Stt} (h:StB s):SvIn s:=by
 have:=h.i.n
 have h1:=h.c
 have h2:=h.e
 exact ⟨h.i.ok (by omega),by omega,by omega,by omega,by omega⟩
theorem MB {x:Snd} {k:Nat} (hk:k≤63) (h:(∀z∈x.l,InR z)∧0≤x.a∧x.a≤(k:Int)):(aK x.l).length≤31:=by
 obtain ⟨a,b,c,d⟩:=x
 have h1:=fY (z:=a) h.2.1 (by have:=h.2.2;dsimp only at this;omega)
 have h2:=pH (h.1 b (by simp [Snd.l]))
 have h3:=pH (h.1 c (by simp [Snd.l]))
 have h4:=pH (h.1 d (by simp [Snd.l]))
 have:(aK (Snd.l ⟨a,b,c,d⟩)).length=(cZ a).length+((cZ b).length+((cZ c).length+((cZ d).length+0))):=by simp [Snd.l,aK]
 omega
theorem NF {x:Ou} {k:Nat} (hk:k≤63) (h:(∀z∈x.l,InR z)∧0≤x.a∧x.a≤(k:Int)):(aK x.l).length≤11:=by
 obtain ⟨a,b⟩:=x
 have h1:=fY (z:=a) h.2.1 (by have:=h.2.2;dsimp only at this;omega)
 have h2:=pH (h.1 b (by simp [Ou.l]))
 have:(aK (Ou.l ⟨a,b⟩)).length=(cZ a).length+((cZ b).length+0):=by simp [Ou.l,aK]
 omega
theorem NH {x:Ev} (h:∀z∈x.l,InR z):(aK x.l).length≤70:=by
 have:=cE x.l h
 have h2:x.l.length=7:=rfl
 omega
theorem tW (n:Nat) (h:n≤1000000):(aK [(n:Int)]).length≤10:=by
 have:=cE [(n:Int)] (by intro z hz;simp at hz;subst hz;exact ⟨by omega,by omega⟩)
 simpa using this
theorem JF {s:Stt} {E:List Ev} {S:List Snd} {O:List Ou} (hi:StI 10 88 s) (he:∀x∈E,x∈s.evs) (hs:∀x∈S,x∈s.sent) (ho:∀x∈O,x∈s.outs) (h1:E.length≤10) (h2:S.length≤s.sent.length) (h3:O.length≤s.outs.length):
 (aK (E.flatMap Ev.l)).length+(aK (S.flatMap Snd.l)).length+(aK (O.flatMap Ou.l)).length≤3428:=by
 have f1:=pF E Ev.l 70 (fun x hx=>NH (hi.e x (he x hx)))
 have f2:=pF S Snd.l 31 (fun x hx=>MB (k:=10) (by omega) (hi.sn x (hs x hx)))
 have f3:=pF O Ou.l 11 (fun x hx=>NF (k:=10) (by omega) (hi.o x (ho x hx)))
 have:=hi.n
 omega
theorem StB.len {s:Stt} (h:StB s):(aK s.l).length≤4096:=by
 have h1:=JF (E:=s.evs) (S:=s.sent) (O:=s.outs) h.i (fun _ h=>h) (fun _ h=>h) (fun _ h=>h) h.e (Nat.le_refl _) (Nat.le_refl _)
 have h2:=cE s.cells h.i.c
 have hc:=h.c
 have hn:=h.i.n
 have he:=h.e
 have n1:=tW s.cells.length (by omega)
 have n2:=tW s.evs.length (by omega)
 have n3:=tW s.sent.length (by omega)
 have n4:=tW s.outs.length (by omega)
 simp only [Stt.l,oJ]
 omega
theorem NE {a b:List Int} (hb:∀z∈b,InR z) (hl:b.length≤30):∀p∈cN a b,(aK p.l).length≤42:=by
 intro p hp
 obtain ⟨k,hk,rfl⟩:=lV hp
 unfold cM at hk
 have h4:(cA b k).length≤4:=by rw [gM];unfold dI;omega
 have h1:=fY (z:=(k:Int)) (by omega) (by omega)
 have h2:=fY (z:=((cA b k).length:Int)) (by omega) (by omega)
 have h3:=cE (cA b k) (fun z hz=>hb z (List.mem_of_mem_drop (List.mem_of_mem_take hz)))
 have:(aK (Pg.l ⟨(k:Int),cA b k⟩)).length=(cZ (k:Int)).length+((cZ ((cA b k).length:Int)).length+(aK (cA b k)).length):=by simp [Pg.l,aK]
 omega
theorem MC {a b:List Int} (hb:∀z∈b,InR z) (hl:b.length≤30):(aK (pgL (cN a b))).length≤1+(cN a b).length*42:=by
 have h1:=pF (cN a b) Pg.l 42 (NE hb hl)
 have h2:=lW a b
 unfold cM at h2
 have h3:=fY (z:=((cN a b).length:Int)) (by omega) (by omega)
 have:(aK [((cN a b).length:Int)]).length=(cZ ((cN a b).length:Int)).length:=by simp [aK]
 unfold pgL
 rw [oJ]
 omega
structure Lin (c:Cd) (l:List Ev):Prop where
 ci:CdIn c
 c5:5≤c.init.length
 n:l.length≤10
 r:∀e∈l,∀z∈e.l,InR z
theorem Lin.st {c:Cd} {l:List Ev} (h:Lin c l) {k:Nat} {s:Stt} (hr:ReplayR c 0 3 (l.take k) s):StB s∧s.evs=l.take k:=by
 have hn:=h.n
 have hk:(l.take k).length≤10:=by simp;omega
 obtain ⟨h1,h2,h3⟩:=hr.in_ h.ci ⟨by decide,by decide⟩ ⟨by decide,by decide⟩ (fun e he=>h.r e (List.mem_of_mem_take he)) (by omega)
 refine ⟨⟨⟨h1.c,h1.e,fun x hx=> ?_,fun x hx=> ?_,?_⟩,by have:=h.ci.len;omega,by have:=h.c5;omega,by rw [h2];exact hk⟩,h2⟩
 ·have:=h1.sn x hx;exact ⟨this.1,this.2.1,by have:=this.2.2;omega⟩
 ·have:=h1.o x hx;exact ⟨this.1,this.2.1,by have:=this.2.2;omega⟩
 ·have:=h1.n;omega
theorem Lin.ext {c:Cd} {l:List Ev} (h:Lin c l) {j k:Nat} (hjk:j≤k) {a b:Stt} (ha:ReplayR c 0 3 (l.take j) a) (hb:ReplayR c 0 3 (l.take k) b):ExtM b a:=by
 have:=ReplayR.pre hjk ha hb
 exact ⟨this.cells,this.evs,this.sent,this.outs⟩
theorem BO {fs:List Fil} {i:Int} {h:Hd} {s:Stt} (hf:cH fs i=ckF h (aK s.l)) (hi:HdIn h) (hk:h.kind=1) (hs:SvIn s) (hl:(aK s.l).length≤4096):LoadR fs 0 i (.ok s):=by
 refine .full ?_
 rw [hf]
 have:=sL hs.ok (by have:=hs.c;omega) (by have:=hs.e;omega) (by have:=hs.sn;omega) (by have:=hs.o;omega) []
 exact AY hi hl hk (by simpa using this)
theorem FG {fs:List Fil} {i:Int} {n:Nat} {h g:Hd} {gb:List UInt8} {s u:Stt} (hf:cH fs i=ckF h (dN s u)) (hi:HdIn h) (hk:h.kind=2) (hg:cH fs h.base=ckF g gb) (hgi:HdIn g) (hst:g.stamp=h.under) (hu:LoadR fs n h.base (.ok u)) (hs:SvIn s) (hx:ExtM s u) (hl:(dN s u).length≤4096):LoadR fs (n+1) i (.ok s):=by
 have h1:dJ (cH fs i)= .inc h (dN s u):=by rw [hf];exact uN hi hl (by omega)
 have h2:cF (cH fs h.base)= .ok (g,8+(aK g.l).length):=by rw [hg];exact jD (body:=gb) hgi
 exact .grown h1 h2 hst hu (CJ hx hs.ok (by have:=hs.c;omega) (by have:=hs.e;omega) (by have:=hs.sn;omega) (by have:=hs.o;omega))
theorem KL {h:Hd} {body:List UInt8} (hi:HdIn h):stv ⟨[],ckF h body⟩=h.stamp:=by
 have e:vJ ⟨[],ckF h body⟩= .ok (h,8+(aK h.l).length):=by unfold vJ;exact jD (body:=body) hi
 unfold stv
 rw [e]
theorem LY:stv dP=0:=rfl
theorem JL {z:Int} (h0:0≤z) (h:z≤1000):HdIn ⟨1,z+1,-1,0⟩:=by
 refine ⟨⟨by show (1:Int)≤z+1;omega,.inl ⟨rfl,rfl,rfl⟩⟩,fun y hy=> ?_⟩
 exact Tzdi
theorem LJ {z b u:Int} (hb:0≤b∧b≤1000) (hu:1≤u) (hz:u≤z) (h:z≤1000):HdIn ⟨2,z+1,b,u⟩:=by
 refine ⟨⟨by show (1:Int)≤z+1;omega,.inr ⟨rfl,hb.1,hu,by show u<z+1;omega⟩⟩,fun y hy=> ?_⟩
 exact Tzdi
theorem xI {fs:List Fil} {k:Nat} {h:Hd} {body:List UInt8} (hz:bV fs≤1000) (hl:body.length≤4096):nU fs k h body= .ok (fs.set k ⟨[],ckF {h with stamp:=bV fs+1} body⟩):=by
 unfold nU oA
 rw [if_neg (by omega),if_neg (by omega)]
end Go.Proofs.YtiblijmngokcgaaGreatDoor
