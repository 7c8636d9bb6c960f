import Derived.Test.YtiblijmngokcgaaGreatDoorMacZs
import Derived.Test.YtiblijmngokcgaaGreatDoorKitZs
import Derived.Laws.BitsAllLaws
import Derived.Laws.DeepNot64
import Derived.Test.YtiblijmngokcgaaGreatDoorProg
import Derived.Defers
import Derived.Recover
import Derived.ArgAppend
import Derived.Lib.SliceRun
namespace Go.Proofs.YtiblijmngokcgaaGreatDoor
open Go.RowKit
set_option linter.unusedVariables false
def rdI (L:List UInt8):Nat→Nat→Nat→Nat→Except Nat (Nat×Nat)
 |0,_,_,_=> .error 9
 |n+1,i,u,p=>
  match L[p]? with
  |none=> .error 8
  |some c=>if (i=9∧1<c.toNat)∨(0<i∧c.toNat=0) then .error 9 else if c.toNat<128 then .ok (u+c.toNat*2^(7*i),p+1) else rdI L n (i+1) (u+(c.toNat-128)*2^(7*i)) (p+1)
def rdU (L:List UInt8) (p:Nat):Except Nat (Nat×Nat):=rdI L 10 0 0 p
def zd (u:Nat):Int:=if u%2=0 then ((u / 2:Nat):Int) else -((u / 2:Nat):Int)-1
def zz (v:Int):Nat:=if 0≤v then (2*v).toNat else (-2*v-1).toNat
theorem pZ {L:List UInt8} {n i u p:Nat} (h:L[p]? =none):rdI L (n+1) i u p= .error 8:=by rw [rdI,h]
theorem mJ {L:List UInt8} {n i u p:Nat} {c:UInt8} (h:L[p]? =some c) (hb:(i=9∧1<c.toNat)∨(0<i∧c.toNat=0)):rdI L (n+1) i u p= .error 9:=by rw [rdI,h];exact if_pos hb
theorem kJ {L:List UInt8} {n i u p:Nat} {c:UInt8} (h:L[p]? =some c) (hb:¬((i=9∧1<c.toNat)∨(0<i∧c.toNat=0))) (hc:c.toNat<128):rdI L (n+1) i u p= .ok (u+c.toNat*2^(7*i),p+1):=by
 rw [rdI,h]
 show (if _ then _ else _)=_
 rw [if_neg hb,if_pos hc]
theorem nS {L:List UInt8} {n i u p:Nat} {c:UInt8} (h:L[p]? =some c) (hb:¬((i=9∧1<c.toNat)∨(0<i∧c.toNat=0))) (hc:¬c.toNat<128):rdI L (n+1) i u p=rdI L n (i+1) (u+(c.toNat-128)*2^(7*i)) (p+1):=by
 rw [rdI,h]
 show (if _ then _ else _)=_
 rw [if_neg hb,if_neg hc]
theorem oE {i u:Nat} {x:Nat} (hi:i≤9) (hu:u<2^(7*i)) (hx:x<128):u+x*2^(7*i)<2^(7*(i+1)):=by
 have h1:2^(7*(i+1))=128*2^(7*i):=by rw [show 7*(i+1)=7+7*i by omega,Nat.pow_add]
 rw [h1]
 have:(x+1)*2^(7*i)≤128*2^(7*i):=Nat.mul_le_mul_right _ (by omega)
 rw [Nat.add_mul] at this
 omega
theorem JM {u:Nat} {x:Nat} (hu:u<2^63) (hx:x≤1):u+x*2^63<2^64:=by
 have:x*2^63≤1*2^63:=Nat.mul_le_mul_right _ hx
 omega
theorem lB {i u:Nat} {c:Nat} (hi:i≤9) (hu:u<2^(7*i)) (hc:c<256) (h9:¬(i=9∧1<c)):u+(c%128)*2^(7*i)<18446744073709551616:=by
 by_cases h:i=9
 ·subst h
  exact JM hu (by omega)
 ·have h1:=oE hi hu (x:=c%128) (by omega)
  have h2:2^(7*(i+1))≤2^63:=Nat.pow_le_pow_right (by omega) (by omega)
  have:(2:Nat)^63=9223372036854775808:=by decide
  omega
theorem KX {i u x:Nat} (hu:u<2^i):u ||| (x*2^i)=u+x*2^i:=by
 have:=Nat.two_pow_add_eq_or_of_lt hu x
 rw [Nat.or_comm,Nat.mul_comm x,←this,Nat.add_comm]
theorem LS (c:Nat):c &&& 127=c%128:=Nat.and_two_pow_sub_one_eq_mod c 7
theorem bN {a b:World} {row:Option Nat} (h:a.grownBy b row):a.grownBy b.drew row:=⟨h.os,h.tape,h.output,h.size,h.block⟩
theorem oD {i u x:Nat} (hi:i≤9) (hu:u<2^(7*i)) (hx:x<256) (h9:¬(i=9∧1<x)) (K:Int) (hK:K=((2^(7*i):Nat):Int)):
 bits BinOp.or IntKind.u64 (u:Int) (IntKind.u64.wrap (IntKind.u64.wrap (bits BinOp.and IntKind.u8 (x:Int) 127)*K))=((u+(x%128)*2^(7*i):Nat):Int):=by
 have h1:bits BinOp.and IntKind.u8 (x:Int) 127=((x%128:Nat):Int):=by
  rw [show (127:Int)=((127:Nat):Int) from rfl,u8_and_nat x 127 hx (by omega),LS]
 have hlt:=lB hi hu hx h9
 have h2:IntKind.u64.wrap ((x%128:Nat):Int)=((x%128:Nat):Int):=by
  rw [IntKind.wrap_u64];omega
 have h3:IntKind.u64.wrap (((x%128:Nat):Int)*((2^(7*i):Nat):Int))=(((x%128)*2^(7*i):Nat):Int):=by
  rw [IntKind.wrap_u64,←Int.natCast_mul]
  omega
 rw [h1,h2,hK,h3,u64_or_nat u _ (by omega) (by omega),KX hu]
theorem FM (a:Nat) (ha:a<9223372036854775808):bits BinOp.xor IntKind.i64 (a:Int) (-1)= -(a:Int)-1:=by
 have h:=i64_not a ha
 have hc:bits BinOp.xor IntKind.i64 (a:Int) (-1)=bits BinOp.xor IntKind.i64 (-1) (a:Int):=by
  unfold bits
  simp [BitVec.xor_comm]
 rw [hc,h]
 omega
theorem uC (t:Nat) (ht:t<18446744073709551616):bits BinOp.xor IntKind.i64 (wrap64 ((t:Int) / 2)) (wrap64 (-wrap64 (bits BinOp.and IntKind.u64 (t:Int) 1)))=zd t:=by
 have h1:bits BinOp.and IntKind.u64 (t:Int) 1=((t%2:Nat):Int):=by
  rw [show (1:Int)=((1:Nat):Int) from rfl,u64_and_nat t 1 ht (by omega),Nat.and_one_is_mod]
 have h2:wrap64 ((t:Int) / 2)=((t / 2:Nat):Int):=by
  rw [IntWalk.wrap64_in _ ⟨by omega,by omega⟩]
  omega
 have h3:wrap64 (((t%2:Nat):Int))=((t%2:Nat):Int):=IntWalk.wrap64_in _ ⟨by omega,by omega⟩
 have h4:wrap64 (-((t%2:Nat):Int))= -((t%2:Nat):Int):=IntWalk.wrap64_in _ ⟨by omega,by omega⟩
 rw [h1,h2,h3,h4]
 unfold zd
 by_cases h:t%2=0
 ·rw [if_pos h,h]
  have:bits BinOp.xor IntKind.i64 ((t / 2:Nat):Int) (-((0:Nat):Int))=((t / 2:Nat):Int):=by
   show IntKind.i64.wrap ((BitVec.ofInt 64 ((t / 2:Nat):Int) ^^^ BitVec.ofInt 64 (-((0:Nat):Int))).toNat:Int)=_
   have h5:BitVec.ofInt 64 (-((0:Nat):Int))=0#64:=by decide
   rw [h5,BitVec.xor_zero,ofInt_u64 (t / 2) (by omega)]
   simp [IntKind.wrap,IntKind.bits,IntKind.signed]
   omega
  exact this
 ·rw [if_neg h,show t%2=1 by omega]
  exact FM (t / 2) (by omega)
def fH (u:Nat):List UInt8:=if h:u<128 then [UInt8.ofNat u] else UInt8.ofNat (u%128+128)::fH (u / 128)
termination_by u
def cZ (v:Int):List UInt8:=fH (zz v)
def aK (l:List Int):List UInt8:=l.flatMap cZ
theorem kL {u:Nat} (h:u<128):fH u=[UInt8.ofNat u]:=by rw [fH,dif_pos h]
theorem pG {u:Nat} (h:¬u<128):fH u=UInt8.ofNat (u%128+128)::fH (u / 128):=by rw [fH,dif_neg h]
end Go.Proofs.YtiblijmngokcgaaGreatDoor
namespace Go.Proofs.YtiblijmngokcgaaGreatDoor
open Go.RowKit
set_option maxRecDepth 100000
set_option linter.unusedVariables false
def Rdr (B:Nat) (w:World) (r:Nat) (L:List UInt8) (p:Nat):Prop:=B≤r∧∃(A:Option Addr) (c:Nat),w.heap[r]? =some (.cells #[.slice A L.length c,.int .i64 (p:Int)] 224 (0,0))∧Bytes (·<B) w (.slice A L.length c) L∧p≤L.length∧L.length≤1000000000
theorem Rdr.kept {B:Nat} {w w' :World} {r p:Nat} {L:List UInt8} (h:Rdr B w r L p) (hk:∀b,b<w.heap.size→(b<B∨b=r)→w'.heap[b]? =w.heap[b]?):Rdr B w' r L p:=by
 obtain ⟨hB,A,c,h1,h2,h3,h4⟩:=h
 exact ⟨hB,A,c,(hk r (Array.getElem?_eq_some_iff.1 h1).1 (.inr rfl)).trans h1,h2.keep (fun b hb hs=>hk b hb (.inl hs)),h3,h4⟩
theorem Rdr.lt {B:Nat} {w:World} {r p:Nat} {L:List UInt8} (h:Rdr B w r L p):r<w.heap.size:=by
 obtain ⟨_,A,c,h1,_⟩:=h
 exact (Array.getElem?_eq_some_iff.1 h1).1
theorem Rdr.ext {B:Nat} {w w' :World} {r p:Nat} {L:List UInt8} (h:Rdr B w r L p) (hb:Below w.heap.size w w'):Rdr B w' r L p:=h.kept fun b hb' _=>hb.block b hb'
theorem Rdr.grown {B:Nat} {w w' :World} {r p:Nat} {L:List UInt8} {row:Option Nat} (h:Rdr B w r L p) (hg:w.grownBy w' row) (hr:∀m,row=some m→B≤m∧m≠r):Rdr B w' r L p:=
 h.kept fun b hb' hs=>hg.block b hb' (fun e=>by
  have:=hr b e.symm
  rcases hs with hs|hs
  ·omega
  ·exact this.2 hs)
theorem Rdr.drew {B:Nat} {w:World} {r p:Nat} {L:List UInt8} (h:Rdr B w r L p):Rdr B w.drew r L p:=h
def nG (k:Nat):Value:= .iface 221 (.agg #[.int .i64 (k:Int)])
def jK (k:Nat):List PanicEntry:=[{v:=nG k,recovered:=false}]
def aW {α:Type} (B:Nat) (r:Nat) (L:List UInt8) (w:World) (x:Except Nat (α×Nat)) (V:α→World→Value→Prop) (e:Ending) (w' :World):Prop:=
 match x with
 | .ok (a,q)=>(∃v,e= .returned v∧V a w' v)∧Rdr B w' r L q∧w.grownBy w' (some r)
 | .error k=>e= .panicked (jK k)∧w.grownBy w' (some r)
def bA (L:List UInt8) (p:Nat):Except Nat (Int×Nat):=match rdU L p with| .ok (u,q)=> .ok (zd u,q)| .error k=> .error k
theorem yL {a b:Int} (h:a=b):Value.int .i64 b=Value.int .i64 a:=by rw [h]
theorem AK {a b:Int} {k:IntKind} (h:a=b):Value.int k a=Value.int k b:=by rw [h]
set_option maxHeartbeats 1000000 in
theorem cW (B r p:Nat) (L:List UInt8) (w:World) (h:Rdr B w r L p):
 Calls Tryz.prog 138 #[.pointer (some ⟨r,0,none⟩)] w fun e w' =>aW B r L w (bA L p) (fun a _ v=>v= .int .i64 a) e w' :=by
 go_enter Tryz.func138,Tryz.ntmps138
 go_wp2
 go_loopw [3,4] (fun t s wr=>∃(i u q:Nat),s= .int .i64 i∧t= .int .u64 u∧i≤9∧u<2^(7*i)∧Rdr B wr r L q∧w.grownBy wr (some r)∧rdI L (10-i) i u q=rdU L p) (fun _ s _=>10-(intOf s).toNat)
 case atStart=>exact ⟨0,0,p,rfl,rfl,by omega,by simp,h,⟨rfl,rfl,rfl,Nat.le_refl _,fun _ _ _=>rfl⟩,rfl⟩
 case round=>
  obtain ⟨i,u,q,rfl,rfl,hi,hu,hR,hg,he⟩:=hrel
  have hR' :=hR
  obtain ⟨hB,A,c,hrow,hby,hq,hL⟩:=hR
  have h0:wr.cell? ⟨r,0,none⟩=some (.slice A L.length c):=by rw [cell_of_row _ _ _ _ _ _ hrow];rfl
  have h1:wr.cell? ⟨r,1,none⟩=some (.int .i64 (q:Int)):=by rw [cell_of_row _ _ _ _ _ _ hrow];rfl
  have HE:=Lib.hid he
  have Hrow:=Lib.hid hrow
  clear he hrow h
  by_cases hlt:q<L.length
  ·have dq:((q:Int)==(L.length:Int))=false:=by simp;omega
   have hby2:=hby
   obtain ⟨A',c',e,_,_,hcs⟩:=hby
   cases e
   obtain ⟨b,off,x,rfl,hbB,hbs,hx,hcx⟩:=hcs.byte hlt
   have hf:wr.frozen? ⟨r,1,none⟩=false:=frozen_of_row _ _ _ _ _ Hrow.out
   have hx8:=gI x
   have hgS:wr.grownBy (wr.setCell ⟨r,1,none⟩ (.int .i64 ((q:Int)+1))) (some r):=aO ⟨rfl,rfl,rfl,Nat.le_refl _,fun _ _ _=>rfl⟩
   have hR2:Rdr B (wr.setCell ⟨r,1,none⟩ (.int .i64 ((q:Int)+1))) r L (q+1):=⟨hB,some ⟨b,off,none⟩,c,heap_setCell_same _ r 1 _ _ _ Hrow.out,hby2.keep (fun b' hb' hs=>hgS.block b' hb' (by intro e;cases e;omega)),by omega,hL⟩
   have hg2:w.grownBy (wr.setCell ⟨r,1,none⟩ (.int .i64 ((q:Int)+1))) (some r):=⟨hgS.os.trans hg.os,hgS.tape.trans hg.tape,hgS.output.trans hg.output,Nat.le_trans hg.size hgS.size,fun i hi hne=>(hgS.block i (Nat.lt_of_lt_of_le hi hg.size) hne).trans (hg.block i hi hne)⟩
   have HX:=Lib.hid hx
   have HR2:=Lib.hid hR2
   have HG2:=Lib.hid hg2
   clear hx hcs hR2 hg2 hgS
   go_wp2_with fail
   refine aP (fun _=>True) (by kernel_rfl) (by kernel_rfl) trivial ?_
   refine TkG ?_
   refine lex_e rfl ?_
   go_wp2_with fail
   refine lex_go trivial ?_
   refine TkG ?_
   refine lex_e rfl ?_
   go_wp2_with fail
   refine lex_go trivial ?_
   refine TkG ?_
   refine bG ?_
   go_wp2_with fail
   go_wp2_with fail
   refine aP (fun _=>True) (by kernel_rfl) (by kernel_rfl) trivial ?_
   refine TkG ?_
   refine lex_e rfl ?_
   go_wp2_with fail
   refine lex_go trivial ?_
   refine TkG ?_
   refine lex_e rfl ?_
   go_wp2_with fail
   refine lex_go trivial ?_
   refine TkG ?_
   refine lex_e rfl ?_
   go_wp2_with fail
   refine lex_go trivial ?_
   refine TkG ?_
   refine bG ?_
   by_cases h9:i=9
   ·by_cases hx1:1<x.toNat
    ·have d9:((i:Int)==9)=true:=by simp;omega
     have d1:decide ((1:Int)<(x.toNat:Int))=true:=by simp;omega
     exact Tzbl
    ·by_cases hx0:x.toNat=0
     ·have d9:((i:Int)==9)=true:=by simp;omega
      have d1:decide ((1:Int)<(x.toNat:Int))=false:=by simp;omega
      exact Tzdf
     ·have d9:((i:Int)==9)=true:=by simp;omega
      have d1:decide ((1:Int)<(x.toNat:Int))=false:=by simp;omega
      have d0:decide ((0:Int)<(i:Int))=true:=by simp;omega
      have dx:((x.toNat:Int)==0)=false:=by simp;omega
      have dc:decide ((x.toNat:Int)<128)=true:=by simp;omega
      have hend:=kJ (n:=9-i) (u:=u) HX.out (show¬((i=9∧1<x.toNat)∨(0<i∧x.toNat=0)) by omega) (by omega)
      rw [show 9-i+1=10-i by omega,HE.out] at hend
      have Hend:=Lib.hid hend
      clear hend
      go_wp2
      have hv:zd (u+x.toNat*2^(7*i))=_:=(uC _ (by have:=lB (c:=x.toNat) hi hu hx8 (by omega);rw [Nat.mod_eq_of_lt (by omega)] at this;exact this)).symm
      have ho:=oD hi hu hx8 (by omega) 9223372036854775808 (by rw [h9];rfl)
      rw [Nat.mod_eq_of_lt (by omega:x.toNat<128)] at ho
      rw [←ho] at hv
      go_ret
      unfold aW bA
      rw [Hend.out]
      exact ⟨⟨_,rfl,yL hv⟩,(HR2.out).drew.drew,bN (bN HG2.out)⟩
   ·by_cases h0:0<i
    ·by_cases hx0:x.toNat=0
     ·have d9:((i:Int)==9)=false:=by simp;omega
      exact Tzdf
     ·by_cases hc:x.toNat<128
      ·have d9:((i:Int)==9)=false:=by simp;omega
       have d0:decide ((0:Int)<(i:Int))=true:=by simp;omega
       have dx:((x.toNat:Int)==0)=false:=by simp;omega
       exact Tzbe
      ·have d9:((i:Int)==9)=false:=by simp;omega
       have d0:decide ((0:Int)<(i:Int))=true:=by simp;omega
       have dx:((x.toNat:Int)==0)=false:=by simp;omega
       exact Tzbg
    ·by_cases hc:x.toNat<128
     ·have d9:((i:Int)==9)=false:=by simp;omega
      have d0:decide ((0:Int)<(i:Int))=false:=by simp;omega
      exact Tzbe
     ·have d9:((i:Int)==9)=false:=by simp;omega
      have d0:decide ((0:Int)<(i:Int))=false:=by simp;omega
      exact Tzbg
  ·obtain rfl:q=L.length:=by omega
   have dq:((L.length:Int)==(L.length:Int))=true:=by simp
   have hnone:=pZ (n:=9-i) (i:=i) (u:=u) (p:=L.length) (L:=L) (by simp)
   rw [show 9-i+1=10-i by omega,HE.out] at hnone
   have Hnone:=Lib.hid hnone
   clear hnone
   go_wp2_with fail
   refine aP (fun _=>True) (by kernel_rfl) (by kernel_rfl) trivial ?_
   refine TkG ?_
   refine lex_e rfl ?_
   go_wp2_with fail
   refine lex_go trivial ?_
   refine TkG ?_
   refine lex_e rfl ?_
   go_wp2_with fail
   refine lex_go trivial ?_
   refine TkG ?_
   refine bG ?_
   go_wp2_with fail
   go_wp2
   refine ⟨rfl,?_⟩
   unfold aW bA
   rw [Hnone.out]
   exact ⟨rfl,⟨hg.os,hg.tape,hg.output,hg.size,hg.block⟩⟩
end Go.Proofs.YtiblijmngokcgaaGreatDoor
namespace Go.Proofs.YtiblijmngokcgaaGreatDoor
open Go.RowKit
set_option maxRecDepth 100000
set_option linter.unusedVariables false
theorem mV (v:Value) (w:World):(Instr.typeAssert (.iface 221 v) 20 221 true).run Tryz.prog w= .ok (.tuple #[v,.bool true]) w:=by
 simp [Instr.typeAssert,run_underlying Tryz.underlying221]
theorem wW (p q s:Addr) (w:World):CallsD Tryz.prog 170 #[.pointer (some p),.pointer (some q),.pointer (some s)] .returning w fun e u' w' =>e= .returned (.tuple #[])∧u' = .returning∧w' =w:=by
 refine callsD_of_wpS Tryz.func170 rfl fun c₀ cs hu=> ?_
 apply wpS_seq
 apply wpS_region
 generalize hQ:Exit.thenS _ _=Q0
 simp [wpOpsS,go_sem,recoverD,hu,Tryz.ntmps170,Array.replicate]
 subst hQ
 refine wpS_of_wp ?_
 go_wp2
 cases c₀
 simp_all [bodyPostS,results,Tryz.results170]
theorem pX (k b6 b7 b8:Nat) (x6 x7 x8:Int) (w w0:World) (B:Nat) (h6:w.heap[b6]? =some (.cells #[.int .i64 x6] 3 (0,0))) (h7:w.heap[b7]? =some (.cells #[.int .i64 x7] 3 (0,0))) (h8:w.heap[b8]? =some (.cells #[.int .i64 x8] 37 (0,0))) (hne:b6≠b7∧b6≠b8∧b7≠b8) (hB:B≤b6∧B≤b7∧B≤b8) (hw:Below B w0 w):
 CallsD Tryz.prog 170 #[.pointer (some ⟨b6,0,none⟩),.pointer (some ⟨b7,0,none⟩),.pointer (some ⟨b8,0,none⟩)] (.panicking (jK k)) w fun e u' w' =>e= .returned (.tuple #[])∧u' = .panicking [{v:=nG k,recovered:=true}]∧w'.cell? ⟨b6,0,none⟩=some (.int .i64 0)∧w'.cell? ⟨b7,0,none⟩=some (.int .i64 0)∧w'.cell? ⟨b8,0,none⟩=some (.int .i64 (k:Int))∧Below B w0 w' :=by
 have c6:w.cell? ⟨b6,0,none⟩=some (.int .i64 x6):=by rw [cell_of_row _ _ _ _ _ _ h6];rfl
 have c7:w.cell? ⟨b7,0,none⟩=some (.int .i64 x7):=by rw [cell_of_row _ _ _ _ _ _ h7];rfl
 have c8:w.cell? ⟨b8,0,none⟩=some (.int .i64 x8):=by rw [cell_of_row _ _ _ _ _ _ h8];rfl
 have f6:=frozen_of_row _ _ 0 _ _ h6
 have f7:=frozen_of_row _ _ 0 _ _ h7
 have f8:=frozen_of_row _ _ 0 _ _ h8
 have l6:=(Array.getElem?_eq_some_iff.1 h6).1
 have l7:=(Array.getElem?_eq_some_iff.1 h7).1
 have l8:=(Array.getElem?_eq_some_iff.1 h8).1
 obtain ⟨n1,n2,n3⟩:=hne
 have n1' :=n1.symm
 have n2' :=n2.symm
 have n3' :=n3.symm
 have H6:=Lib.hid h6
 have H7:=Lib.hid h7
 have H8:=Lib.hid h8
 clear h6 h7 h8
 unfold jK
 refine callsD_of_wpS Tryz.func170 rfl fun c₀ cs hu=> ?_
 apply wpS_seq
 apply wpS_region
 generalize hQ:Exit.thenS _ _=Q0
 simp [wpOpsS,go_sem,recoverD,hu,Tryz.ntmps170,Array.replicate]
 subst hQ
 refine wpS_of_wp ?_
 unfold nG
 have hta:=mV (.agg #[.int .i64 (k:Int)])
 go_wp2
 refine ⟨rfl,_,rfl,_,results_none rfl _ _ _,rfl,rfl,?_,?_,?_,?_⟩
 ·go_simp
 ·go_simp
 ·have r1:((w.setCell ⟨b6,0,none⟩ (.int .i64 0)).setCell ⟨b7,0,none⟩ (.int .i64 0)).heap[b8]? =some (.cells #[.int .i64 x8] 37 (0,0)):=by
   rw [heap_setCell_other _ _ _ _ n3',heap_setCell_other _ _ _ _ n2']
   exact H8.out
  have r2:(((w.setCell ⟨b6,0,none⟩ (.int .i64 0)).setCell ⟨b7,0,none⟩ (.int .i64 0)).setCell ⟨b8,0,none⟩ (.int .i64 9)).heap[b8]? =some (.cells #[.int .i64 9] 37 (0,0)):=heap_setCell_same _ b8 0 _ _ _ r1
  have r3:((((w.setCell ⟨b6,0,none⟩ (.int .i64 0)).setCell ⟨b7,0,none⟩ (.int .i64 0)).setCell ⟨b8,0,none⟩ (.int .i64 9)).setCell ⟨b8,0,none⟩ (.int .i64 (k:Int))).heap[b8]? =some (.cells #[.int .i64 (k:Int)] 37 (0,0)):=heap_setCell_same _ b8 0 _ _ _ r2
  have r4:=cell_of_row _ _ 0 _ _ _ r3
  go_simp
 ·exact Tzcu
def fM {α:Type} (f:List UInt8→Nat→Except Nat (α×Nat)) (L:List UInt8) (k:Int):Except Nat (α×Nat):=if k<0∨(L.length:Int)<k then .error 3 else f L k.toNat
def qS {α:Type} (f:α→Value) (z:Value):Except Nat (α×Nat)→Value
 | .ok (v,q)=> .tuple #[f v,.int .i64 (q:Int),.int .i64 0]
 | .error x=> .tuple #[z,.int .i64 0,.int .i64 (x:Int)]
def iv (v:Int):Value:= .int .i64 v
theorem vY (w:World) (o1 o2 o3:Obj):∃W,W=((w.alloc o1).alloc o2).alloc o3∧Below w.heap.size w W∧W.heap.size=w.heap.size+1+1+1∧W.heap[w.heap.size]? =some o1∧W.heap[w.heap.size+1]? =some o2∧W.heap[w.heap.size+1+1]? =some o3:=by
 have e1:=heap_alloc_new w o1
 have e2:=heap_alloc_new (w.alloc o1) o2
 have e3:=heap_alloc_new ((w.alloc o1).alloc o2) o3
 simp only [World.size_alloc] at e2 e3
 have n:=fun (w:World) (o:Obj)=>(Below.refl w.heap.size w).alloc (Nat.le_refl _) o
 refine ⟨_,rfl,((n w o1).alloc (by simp) o2).alloc (by simp;omega) o3,by simp,?_,?_,e3⟩
 ·exact ((n _ o3).block _ (by simp;omega)).trans (((n _ o2).block _ (by simp)).trans e1)
 ·exact ((n _ o3).block _ (by simp)).trans e2
set_option maxHeartbeats 1000000 in
theorem AN (A:Option Addr) (n c:Nat) (k:Int) (L:List UInt8) (S:Nat→Prop) (w:World) (hb:Bytes S w (.slice A n c) L) (hn:n≤100000000):
 Calls Tryz.prog 137 #[.slice A n c,.int .i64 k,.func (.func 138) #[] #[]] w fun e w' =>e= .returned (qS iv (iv 0) (fM bA L k))∧Below w.heap.size w w' :=by
 have hmf:∀(fn:Fn) (first cap:Array Value) (w:World),(Instr.makeFunc fn first cap).run Tryz.prog w= .ok (.func fn first cap) w:=fun _ _ _ _=>rfl
 have hln:=hb.len
 obtain ⟨W,hW,hbW,hsW,r6,r7,r8⟩:=vY w (.cells #[.int .i64 0] 3) (.cells #[.int .i64 0] 3) (.cells #[.int .i64 0] 37)
 by_cases hk:k<0∨(L.length:Int)<k
 ·have hcat:=pX 3 w.heap.size (w.heap.size+1) (w.heap.size+1+1) _ _ _ W w w.heap.size r6 r7 r8 ⟨by omega,by omega,by omega⟩ ⟨by omega,by omega,by omega⟩ hbW
  have Hcat:=Lib.hid hcat
  clear hcat r6 r7 r8
  have hfin:fM bA L k= .error 3:=if_pos hk
  rw [hfin]
  by_cases h0:k<0
  ·have d0:decide (k<0)=true:=by simpa using h0
   exact Tzb7
  ·have d0:decide (k<0)=false:=by simpa using h0
   have d1:decide ((n:Int)<k)=true:=by simp;omega
   exact Tzb7
 ·obtain ⟨p,rfl⟩:=Int.eq_ofNat_of_zero_le (show 0≤k by omega)
  have hp:p≤n:=by omega
  have hfin:fM bA L (p:Int)=bA L p:=(if_neg hk).trans (by rw [Int.toNat_natCast])
  rw [hfin]
  clear hfin hk
  have d0:decide ((p:Int)<0)=false:=by simp
  have d1:decide ((n:Int)<(p:Int))=false:=by simp;omega
  have d2:decide (n<p)=false:=by simp;omega
  obtain ⟨W2,hW2⟩:∃W2,W2=W.alloc (.cells #[.slice A n c,.int .i64 (p:Int)] 224):=⟨_,rfl⟩
  have hb2:Below W.heap.size W W2:=by rw [hW2];exact (Below.refl _ _).alloc (Nat.le_refl _) _
  have r9:W2.heap[W.heap.size]? =some (.cells #[.slice A n c,.int .i64 (p:Int)] 224 (0,0)):=by rw [hW2];exact heap_alloc_new _ _
  have hRd:Rdr w.heap.size W2 W.heap.size L p:=by
   exact Tzcp
  go_enter_defers Tryz.func137,Tryz.ntmps137
  go_wp2_with fail
  rw [←hW,←hsW,←hW2]
  refine (cW w.heap.size W.heap.size p L W2 hRd).mono ?_
  intro e w3 h3
  have s2:=hb2.size
  have hs3:w.heap.size+1+1<W.heap.size:=by omega
  clear hsW hW hW2
  have hlt9:W.heap.size<W2.heap.size:=hRd.lt
  unfold aW at h3
  cases hx:bA L p with
  |error x=>
   rw [hx] at h3
   obtain ⟨rfl,hg3⟩:=h3
   have k6:=(hg3.block w.heap.size (by omega) (by simp;omega)).trans ((hb2.block _ (by omega)).trans r6)
   have k7:=(hg3.block (w.heap.size+1) (by omega) (by simp;omega)).trans ((hb2.block _ (by omega)).trans r7)
   have k8:=(hg3.block (w.heap.size+1+1) (by omega) (by simp;omega)).trans ((hb2.block _ (by omega)).trans r8)
   have hcat:=pX x w.heap.size (w.heap.size+1) (w.heap.size+1+1) _ _ _ w3 w w.heap.size k6 k7 k8 ⟨by omega,by omega,by omega⟩ ⟨by omega,by omega,by omega⟩ (Below.grow (Below.ext hbW hb2) hg3 (by omega))
   have Hcat:=Lib.hid hcat
   clear hcat r6 r7 r8 k6 k7 k8 hRd r9
   go_wp2
   refine leaves_cons (f:=170) (args:= #[.pointer (some ⟨w.heap.size,0,none⟩),.pointer (some ⟨w.heap.size+1,0,none⟩),.pointer (some ⟨w.heap.size+1+1,0,none⟩)]) (by simp [jK]) (by simp [go_sem]) ?_
   refine Hcat.out.mono ?_
   rintro e u' w'' ⟨rfl,rfl,g6,g7,g8,hbb⟩
   simp [Leaves,settle,results,Tryz.results137,go_sem,g6,g7,g8]
   exact ⟨by rw [hx];rfl,hbb⟩
  |ok vq=>
   obtain ⟨v,q⟩:=vq
   rw [hx] at h3
   obtain ⟨⟨_,rfl,rfl⟩,hR3,hg3⟩:=h3
   have k6:=(hg3.block w.heap.size (by omega) (by simp;omega)).trans ((hb2.block _ (by omega)).trans r6)
   have k7:=(hg3.block (w.heap.size+1) (by omega) (by simp;omega)).trans ((hb2.block _ (by omega)).trans r7)
   have k8:=(hg3.block (w.heap.size+1+1) (by omega) (by simp;omega)).trans ((hb2.block _ (by omega)).trans r8)
   have c6:w3.cell? ⟨w.heap.size,0,none⟩=some (.int .i64 0):=by rw [cell_of_row _ _ _ _ _ _ k6];rfl
   have c7:w3.cell? ⟨w.heap.size+1,0,none⟩=some (.int .i64 0):=by rw [cell_of_row _ _ _ _ _ _ k7];rfl
   have c8:w3.cell? ⟨w.heap.size+1+1,0,none⟩=some (.int .i64 0):=by rw [cell_of_row _ _ _ _ _ _ k8];rfl
   have f6:=frozen_of_row _ _ 0 _ _ k6
   have f7:=frozen_of_row _ _ 0 _ _ k7
   have f8:=frozen_of_row _ _ 0 _ _ k8
   have b3:=Below.grow (Below.ext hbW hb2) hg3 (by omega)
   have c9:w3.cell? ⟨W.heap.size,1,none⟩=some (.int .i64 (q:Int)):=by
    obtain ⟨_,A',c',h1,_⟩:=hR3
    rw [cell_of_row _ _ _ _ _ _ h1];rfl
   clear r6 r7 r8 k6 k7 k8 hRd r9
   have n9:W.heap.size≠w.heap.size:=by omega
   have hag:∀w:World,(isAgg 3).run Tryz.prog w= .ok false w:=fun w=>by simp [isAgg,run_underlying Tryz.underlying3]
   go_wp2_with fail
   have e6:(w3.setCell ⟨w.heap.size,0,none⟩ (.int .i64 v)).cell? ⟨w.heap.size,0,none⟩=some (.int .i64 v):=by go_simp
   have e9:(w3.setCell ⟨w.heap.size,0,none⟩ (.int .i64 v)).cell? ⟨W.heap.size,1,none⟩=some (.int .i64 (q:Int)):=by go_simp
   have f6' :(w3.setCell ⟨w.heap.size,0,none⟩ (.int .i64 v)).frozen? ⟨w.heap.size,0,none⟩=false:=by go_simp
   have bS:=b3.setCell (p:=⟨w.heap.size,0,none⟩) (Nat.le_refl _) (.int .i64 v)
   have e7:(w3.setCell ⟨w.heap.size,0,none⟩ (.int .i64 v)).cell? ⟨w.heap.size+1,0,none⟩=some (.int .i64 0):=by go_simp
   have e8:(w3.setCell ⟨w.heap.size,0,none⟩ (.int .i64 v)).cell? ⟨w.heap.size+1+1,0,none⟩=some (.int .i64 0):=by go_simp
   have f7' :(w3.setCell ⟨w.heap.size,0,none⟩ (.int .i64 v)).frozen? ⟨w.heap.size+1,0,none⟩=false:=by go_simp
   have f8' :(w3.setCell ⟨w.heap.size,0,none⟩ (.int .i64 v)).frozen? ⟨w.heap.size+1+1,0,none⟩=false:=by go_simp
   clear c6 c7 c8 f6 f7 f8 c9 b3
   generalize w3.setCell ⟨w.heap.size,0,none⟩ (.int .i64 v)=W4 at*
   refine aM (fun w' =>w'.cell? ⟨w.heap.size,0,none⟩=some (.int .i64 v)∧w'.cell? ⟨W.heap.size,1,none⟩=some (.int .i64 (q:Int))) (by kernel_rfl) (by kernel_rfl) ⟨e6,e9⟩ ?_
   refine TkA ?_
   refine aE (⟨w.heap.size,0,none⟩) (.int .i64 v) rfl rfl rfl (fun w' hw' =>aG (hag _) hw'.1) ?_
   refine TkI ?_
   refine TkA ?_
   refine aE (⟨W.heap.size,1,none⟩) (.int .i64 (q:Int)) rfl rfl rfl (fun w' hw' =>aG (hag _) hw'.2) ?_
   refine TkI ?_
   refine TkA ?_
   refine aL rfl ?_
   go_wp2_with fail
   go_wp2_with fail
   refine aI (⟨by go_simp,by go_simp⟩) ?_
   refine TkA ?_
   refine aL rfl ?_
   go_wp2_with fail
   go_wp2_with fail
   refine aI (⟨by go_simp,by go_simp⟩) ?_
   refine TkA ?_
   refine aL rfl ?_
   go_wp2_with fail
   go_wp2_with fail
   refine aI (⟨by go_simp,by go_simp⟩) ?_
   refine TkA ?_
   refine aZ ?_
   go_wp2_with fail
   have g6:(((W4.setCell ⟨w.heap.size,0,none⟩ (.int .i64 v)).setCell ⟨w.heap.size+1,0,none⟩ (.int .i64 (q:Int))).setCell ⟨w.heap.size+1+1,0,none⟩ (.int .i64 0)).drew.cell? ⟨w.heap.size,0,none⟩=some (.int .i64 v):=by go_simp
   have g7:(((W4.setCell ⟨w.heap.size,0,none⟩ (.int .i64 v)).setCell ⟨w.heap.size+1,0,none⟩ (.int .i64 (q:Int))).setCell ⟨w.heap.size+1+1,0,none⟩ (.int .i64 0)).drew.cell? ⟨w.heap.size+1,0,none⟩=some (.int .i64 (q:Int)):=by go_simp
   have g8:(((W4.setCell ⟨w.heap.size,0,none⟩ (.int .i64 v)).setCell ⟨w.heap.size+1,0,none⟩ (.int .i64 (q:Int))).setCell ⟨w.heap.size+1+1,0,none⟩ (.int .i64 0)).drew.cell? ⟨w.heap.size+1+1,0,none⟩=some (.int .i64 0):=by go_simp
   have b7:=(((bS.setCell (p:=⟨w.heap.size,0,none⟩) (Nat.le_refl _) (.int .i64 v)).setCell (p:=⟨w.heap.size+1,0,none⟩) (show _≤w.heap.size+1 by omega) (.int .i64 (q:Int))).setCell (p:=⟨w.heap.size+1+1,0,none⟩) (show _≤w.heap.size+1+1 by omega) (.int .i64 0)).drew
   generalize (((W4.setCell ⟨w.heap.size,0,none⟩ (.int .i64 v)).setCell ⟨w.heap.size+1,0,none⟩ (.int .i64 (q:Int))).setCell ⟨w.heap.size+1+1,0,none⟩ (.int .i64 0)).drew=W7 at*
   refine leaves_cons (f:=170) (args:= #[.pointer (some ⟨w.heap.size,0,none⟩),.pointer (some ⟨w.heap.size+1,0,none⟩),.pointer (some ⟨w.heap.size+1+1,0,none⟩)]) (by simp) (by simp [go_sem]) ?_
   refine (wW _ _ _ W7).mono ?_
   rintro e u' w'' ⟨rfl,rfl,rfl⟩
   simp [Leaves,settle,results,Tryz.results137,go_sem,g6,g7,g8]
   exact ⟨by rw [hx];rfl,b7⟩
theorem vS (A:Option Addr) (n c:Nat) (k:Int) (L:List UInt8) (S:Nat→Prop) (w:World) (hb:Bytes S w (.slice A n c) L) (hn:n≤100000000):
 Calls Tryz.prog 81 #[.slice A n c,.int .i64 k] w fun e w' =>e= .returned (qS iv (iv 0) (fM bA L k))∧Below w.heap.size w w' :=by
 obtain ⟨v,q,x,hv⟩:∃v q x,qS iv (iv 0) (fM bA L k)= .tuple #[.int .i64 v,.int .i64 q,.int .i64 x]:=by
  cases fM bA L k with
  |ok p=>exact ⟨p.1,p.2,0,rfl⟩
  |error x=>exact ⟨0,0,x,rfl⟩
 have h:=AN A n c k L S w hb hn
 rw [hv] at h ⊢
 go_enter Tryz.func81,Tryz.ntmps81
 go_wp2_with fail
 refine (h).mono ?_
 rintro e w1 ⟨rfl,hb1⟩
 go_wp2
 refine bodyPost_ret (results_tmp3 rfl _ _ _) rfl ?_
 exact ⟨rfl,hb1⟩
end Go.Proofs.YtiblijmngokcgaaGreatDoor
namespace Go.Proofs.YtiblijmngokcgaaGreatDoor
open Go.RowKit
set_option maxRecDepth 100000
set_option linter.unusedVariables false
def RS (B:Nat) (w:World) (r:Nat) (L:List UInt8):Except Nat Nat→Prop
 | .ok p=>B≤r∧∃(A:Option Addr) (c:Nat),w.heap[r]? =some (.cells #[.slice A L.length c,.int .i64 (p:Int),.int .i64 0] 187 (0,0))∧Bytes (·<B) w (.slice A L.length c) L∧p≤L.length∧L.length≤1000000000
 | .error k=>k≠0∧∃v p,w.heap[r]? =some (.cells #[v,p,.int .i64 (k:Int)] 187 (0,0))
theorem RS.lt {B:Nat} {w:World} {r:Nat} {L:List UInt8} {s:Except Nat Nat} (h:RS B w r L s):r<w.heap.size:=by
 cases s with
 |ok p=>obtain ⟨_,A,c,h1,_⟩:=h;exact (Array.getElem?_eq_some_iff.1 h1).1
 |error k=>obtain ⟨_,v,p,h1⟩:=h;exact (Array.getElem?_eq_some_iff.1 h1).1
theorem RS.kept {B:Nat} {w w' :World} {r:Nat} {L:List UInt8} {s:Except Nat Nat} (h:RS B w r L s) (hk:∀b,b<w.heap.size→(b<B∨b=r)→w'.heap[b]? =w.heap[b]?):RS B w' r L s:=by
 have hlt:=h.lt
 cases s with
 |ok p=>
  obtain ⟨hB,A,c,h1,h2,h3,h4⟩:=h
  exact ⟨hB,A,c,(hk r hlt (.inr rfl)).trans h1,h2.keep (fun b hb hs=>hk b hb (.inl hs)),h3,h4⟩
 |error k=>
  obtain ⟨h0,v,p,h1⟩:=h
  exact ⟨h0,v,p,(hk r hlt (.inr rfl)).trans h1⟩
theorem RS.ext {B:Nat} {w w' :World} {r:Nat} {L:List UInt8} {s:Except Nat Nat} (h:RS B w r L s) (hb:Below w.heap.size w w'):RS B w' r L s:=h.kept fun b hb' _=>hb.block b hb'
theorem RS.grown {B:Nat} {w w' :World} {r:Nat} {L:List UInt8} {s:Except Nat Nat} {row:Option Nat} (h:RS B w r L s) (hg:w.grownBy w' row) (hr:∀m,row=some m→B≤m∧m≠r):RS B w' r L s:=
 h.kept fun b hb' hs=>hg.block b hb' (fun e=>by
  have:=hr b e.symm
  rcases hs with hs|hs
  ·omega
  ·exact this.2 hs)
theorem RS.drew {B:Nat} {w:World} {r:Nat} {L:List UInt8} {s:Except Nat Nat} (h:RS B w r L s):RS B w.drew r L s:=by cases s<;>exact h
theorem bD {a b c:World} {row:Option Nat} (h:a.grownBy b row) (k:b.grownBy c row):a.grownBy c row:=
 ⟨k.os.trans h.os,k.tape.trans h.tape,k.output.trans h.output,Nat.le_trans h.size k.size,fun i hi hne=>(k.block i (Nat.lt_of_lt_of_le hi h.size) hne).trans (h.block i hi hne)⟩
theorem IG (a:Nat) (ha:a<18446744073709551616):bits BinOp.xor IntKind.u64 IntKind.u64.max (a:Int)=((18446744073709551615-a:Nat):Int):=by
 show IntKind.u64.wrap ((BitVec.ofInt 64 IntKind.u64.max ^^^ BitVec.ofInt 64 (a:Int)).toNat:Int)=_
 have h1:BitVec.ofInt 64 IntKind.u64.max=BitVec.allOnes 64:=by decide
 rw [h1,BitVec.allOnes_xor,BitVec.toNat_not,ofInt_u64 a (by omega)]
 simp [IntKind.wrap,IntKind.bits,IntKind.signed]
 omega
end Go.Proofs.YtiblijmngokcgaaGreatDoor
namespace Go.Proofs.YtiblijmngokcgaaGreatDoor
open Go.RowKit
set_option maxRecDepth 100000
set_option linter.unusedVariables false
def bJ (z:Int):List Value:=[.int .i64 z]
theorem dH (z:Int):(bJ z).length=1:=rfl
theorem jG (z:Int):∀u∈bJ z,u.oneCell' =true:=by
 intro u hu
 simp [bJ] at hu
 subst hu
 rfl
theorem OwnB.weak {w:World} {base base' :Nat} {e:TypeId} {v:Value} {l:List UInt8} (h:OwnB w base e v l) (hb:base'≤base):OwnB w base' e v l:=by
 exact Tzda
def Acc (w:World) (base:Nat) (row:Option Nat) (v:Value) (l:List UInt8):Prop:=
 (row=v.ownBlock∧OwnB w base 5 v l)∨(row=none∧(∃A,v= .slice A l.length l.length)∧Bytes (fun _=>True) w v l)
theorem Acc.bytes {w:World} {base:Nat} {row:Option Nat} {v:Value} {l:List UInt8} (h:Acc w base row v l):Bytes (fun _=>True) w v l:=by
 rcases h with ⟨_,h⟩|⟨_,_,h⟩
 ·exact h.bytes.mono (fun _ _ _=>trivial)
 ·exact h
theorem Acc.lo {w:World} {base:Nat} {row:Option Nat} {v:Value} {l:List UInt8} (h:Acc w base row v l):∀m,row=some m→base≤m∧m<w.heap.size:=by
 rcases h with ⟨e,h⟩|⟨e,_⟩
 ·intro m hm
  exact World.ownsRow.lt h m (e▸hm)
 ·intro m hm
  rw [e] at hm
  cases hm
theorem Acc.weak {w:World} {base base' :Nat} {row:Option Nat} {v:Value} {l:List UInt8} (h:Acc w base row v l) (hb:base'≤base):Acc w base' row v l:=by
 rcases h with ⟨e,h⟩|h
 ·exact .inl ⟨e,h.weak hb⟩
 ·exact .inr h
theorem Acc.ext {w w' :World} {base:Nat} {row:Option Nat} {v:Value} {l:List UInt8} (h:Acc w base row v l) (hb:Below w.heap.size w w'):Acc w' base row v l:=by
 rcases h with ⟨e,h⟩|⟨e,h1,h2⟩
 ·exact .inl ⟨e,h.ext hb⟩
 ·exact .inr ⟨e,h1,h2.ext hb⟩
theorem Acc.slice_ {w:World} {base:Nat} {row:Option Nat} {v:Value} {l:List UInt8} (h:Acc w base row v l):∃A c,v= .slice A l.length c∧l.length≤c∧c≤9223372036854775807:=by
 obtain ⟨A,c,e,h1,h2,_⟩:=h.bytes
 exact ⟨A,c,e,h1,by unfold maxLen at h2;exact h2⟩
theorem oF {a b c:World} {row row' :Option Nat} (h:a.grownBy b row) (k:b.grownBy c row') (hr:∀m,row' =some m→a.heap.size≤m∨row=some m):a.grownBy c row:=
 ⟨k.os.trans h.os,k.tape.trans h.tape,k.output.trans h.output,Nat.le_trans h.size k.size,fun i hi hne=>(k.block i (Nat.lt_of_lt_of_le hi h.size) (fun e=>by
  rcases hr i e.symm with h1|h1
  ·omega
  ·exact hne h1.symm)).trans (h.block i hi hne)⟩
theorem tC {a b c:World} {row:Option Nat} (h:a.grownBy b row) (k:Below b.heap.size b c):a.grownBy c row:=oF (row' :=none) h ⟨k.os,k.tape,k.output,k.size,fun i hi _=>k.block i hi⟩ (fun m hm=>by cases hm)
theorem zD (a:World) (row:Option Nat):a.grownBy a row:=⟨rfl,rfl,rfl,Nat.le_refl _,fun _ _ _=>rfl⟩
theorem nK {w:World} {D:Nat→Prop} {ops:Array Oper} {rest:List Oper} {o:Oper} {a:Act} {Q:Exit→Act→World→Prop} (s x:Operand) (base:Nat) (row:Option Nat) (l r:List UInt8) (ad:Addr) (m c:Nat) (v:Value) (N:Nat)
 (hgd:o.guard=none) (ho:o.op= .call {callee:= .builtin .append,args:= #[s,x],argTypes:= #[22,22]})
 (hs:a.eval s=v) (hx:a.eval x= .slice (some ad) m c) (hacc:Acc w base row v l) (hr:Bytes D w (.slice (some ad) m c) r) (hm:0<m) (hN:N=l.length+m) (hbytes:l.length+m≤140737488355328) (hbase:base≤w.heap.size)
 (K:∀A' c' w',OwnB w' base 5 (.slice A' N c') (l++r)→w.grownBy w' row→((Value.slice A' N c').ownBlock=row∨∃m,(Value.slice A' N c').ownBlock=some m∧w.heap.size≤m)→N≤c'→c'≤9223372036854775807→wpList Tryz.prog ops Q rest (a.put o.dst (.slice A' N c')) w'):
 wpList Tryz.prog ops Q (o::rest) a w:=by
 have hinfo:(Tryz.prog.info? 5).map (fun i=>(i.zero,i.size,i.bytes))=some (some (.int .u8 0),1,1):=by kernel_rfl
 rcases hacc with ⟨rfl,hown⟩|⟨rfl,⟨A,rfl⟩,hb⟩
 ·exact lZ s x 22 5 base l r (some ad) m c v N hgd ho Tryz.underlying22 hinfo hs hx hown hr hN hbytes hbase (fun A' c' w' k1 k2 k3 k4 k5=>K A' c' w' k1 k2 (k3.imp id (fun h=>⟨_,h,Nat.le_refl _⟩)) k4 k5)
 ·obtain ⟨i,hi,hz,hsz,hby⟩:=info_parts hinfo
  obtain ⟨A2,c2,e2,g1,g2,g3⟩:=hr
  cases e2
  obtain ⟨A3,c3,e3,g4,g5,g6⟩:=hb
  cases e3
  subst hN
  have cs:∀(X:Addr) (L:List UInt8) (D:Nat→Prop),Cs D w (some X) (L.map bv)→∀j u,(L.map bv)[j]? =some u→w.cell? (X.add j)=some u:=by
   intro X L D h j u hu
   obtain ⟨b,off,e,_,hc⟩:=h (by have:=(List.getElem?_eq_some_iff.1 hu).1;omega)
   cases e
   rw [Addr.add_lit]
   exact hc j u hu
  refine wpList_append_grows w hgd s x 22 ho 5 i (.int .u8 0) 1 1 Tryz.underlying22 hi hz hsz hby rfl (by omega) A l.length l.length (l.map bv) hs (fun e=> ?_) (by simp) (fun b e j u hu=> ?_) ad r.length c (r.map bv) hx (by simp) (cs ad r D g3) (fun u hu=> ?_) (by omega) (by unfold maxLen;omega) (by omega) ?_
  ·cases hl:l with
   |nil=>exact ⟨rfl,rfl⟩
   |cons y ys=>
    subst e hl
    obtain ⟨_,_,h,_⟩:=g6 (by simp)
    cases h
  ·subst e
   exact cs b l _ g6 j u hu
  ·obtain ⟨y,_,rfl⟩:=List.mem_map.1 hu
   rfl
  ·intro v' w' h1 h2
   obtain ⟨A',c',rfl,k1,k2⟩:=nM h1
   have hown:OwnB w' w.heap.size 5 (.slice A' (l.length+r.length) c') (l++r):=by
    unfold OwnB
    rw [List.length_append,List.map_append]
    exact h1
   refine K A' c' w' (hown.weak hbase) h2 (.inr ?_) k1 (by unfold maxLen at k2;exact k2)
   obtain ⟨g,rfl,hg1,_⟩:=hown.some_ (by simp;omega)
   exact ⟨g,rfl,hg1⟩
theorem vN:∀(k u:Nat),u<2^(7*(k+1))→(fH u).length≤k+1
 |0,u,h=>by rw [kL (by simpa using h)];simp
 |k+1,u,h=>by
  by_cases hu:u<128
  ·rw [kL hu];simp
  ·rw [pG hu,List.length_cons]
   have:=vN k (u / 128) (by rw [Nat.div_lt_iff_lt_mul (by omega)];rw [show 7*(k+1+1)=7*(k+1)+7 by omega,Nat.pow_add] at h;exact h)
   omega
theorem xZ {v:Int} (h1: -9223372036854775808≤v) (h2:v≤9223372036854775807):zz v<18446744073709551616:=by
 unfold zz
 split<;>omega
theorem lG {v:Int} (h1: -9223372036854775808≤v) (h2:v≤9223372036854775807):(cZ v).length≤10:=by
 have:=xZ h1 h2
 exact vN 9 (zz v) (by have:(2:Nat)^(7*(9+1))=1180591620717411303424:=by decide
                       omega)
theorem wK (a:Nat) (ha:a<18446744073709551616):bits BinOp.xor IntKind.u64 (a:Int) 18446744073709551615=((18446744073709551615-a:Nat):Int):=by
 have h:=IG a ha
 have hc:bits BinOp.xor IntKind.u64 (a:Int) 18446744073709551615=bits BinOp.xor IntKind.u64 IntKind.u64.max (a:Int):=by
  show bits BinOp.xor IntKind.u64 (a:Int) IntKind.u64.max=_
  unfold bits
  simp [BitVec.xor_comm]
 rw [hc,h]
theorem JY {z:Int} (h1: -9223372036854775808≤z) (h2:z≤9223372036854775807):bits BinOp.xor IntKind.u64 (IntKind.u64.wrap (IntKind.u64.wrap z*2)) (IntKind.u64.wrap (z / 9223372036854775808))=((zz z:Nat):Int):=by
 simp only [IntKind.wrap_u64]
 unfold zz
 by_cases h:0≤z
 ·rw [if_pos h]
  have e1:z%18446744073709551616*2%18446744073709551616=(((2*z).toNat:Nat):Int):=by omega
  have e2:z / 9223372036854775808%18446744073709551616=((0:Nat):Int):=by omega
  rw [e1,e2,u64_xor_nat _ 0 (by omega) (by omega),Nat.xor_zero]
 ·rw [if_neg h]
  have e1:z%18446744073709551616*2%18446744073709551616=(((2*z+18446744073709551616).toNat:Nat):Int):=by omega
  have e2:z / 9223372036854775808%18446744073709551616=18446744073709551615:=by omega
  rw [e1,e2,wK _ (by omega)]
  omega
theorem MD:∀a,a<256→a ||| 128=a%128+128:=by decide
theorem FP (u:Nat):bits BinOp.or IntKind.u8 ((u:Int)%256) 128=((u%128+128:Nat):Int):=by
 rw [show (u:Int)%256=((u%256:Nat):Int) by omega,show (128:Int)=((128:Nat):Int) from rfl,u8_or_nat _ 128 (by omega) (by omega),MD _ (by omega)]
 omega
theorem rT {w w' :World} {row row' :Option Nat} {α:Type} {enc:α→List Value} {u:Value} {l:List α} (h:Recs enc (fun b=>row≠some b) w u l) (hg:w.grownBy w' row) (hat:row' =row∨∃m,row' =some m∧w.heap.size≤m):Recs enc (fun b=>row'≠some b) w' u l:=by
 have h1:Recs enc (fun b=>row≠some b∧b<w.heap.size) w u l:=h.mono (fun b hb hs=>⟨hs,hb⟩)
 refine (h1.keep (fun b hb hs=>hg.block b hb (fun e=>hs.1 e.symm))).mono (fun b _ hs=> ?_)
 rcases hat with rfl|⟨m,rfl,hm⟩
 ·exact hs.1
 ·intro e
  cases e
  have:=hs.2
  omega
theorem uO (w:World) (t:TypeId) (x:Nat) (hx:x<256):Bytes (fun _=>True) (w.alloc (.cells #[.int .u8 (x:Int)] t)) (.slice (some ⟨w.heap.size,0,none⟩) 1 1) [UInt8.ofNat x]:=
 Bytes.lit (S:=fun _=>True) w _ _ _ _ 1 1 trivial rfl (by omega) (by simp [maxLen]) (by simp [vX];omega)
set_option maxHeartbeats 1000000 in
theorem xH (base:Nat) (row:Option Nat) (v:Value) (l:List UInt8) (w:World) (hacc:Acc w base row v l) (hbase:base≤w.heap.size) (Au:Option Addr) (nu cu:Nat) (zs:List Int) (hu:Recs bJ (fun b=>row≠some b) w (.slice Au nu cu) zs) (hz:∀z∈zs,-9223372036854775808≤z∧z≤9223372036854775807) (hlen:l.length+10*nu≤100000000000):
 Calls Tryz.prog 107 #[v,.slice Au nu cu] w fun e w' =>∃v' row',e= .returned v'∧Acc w' base row' v' (l++aK zs)∧(row' =row∨∃m,row' =some m∧w.heap.size≤m)∧w.grownBy w' row:=by
 have hul:=hu.len
 have HZ:=Lib.hid hz
 have HUL:=Lib.hid hul.1
 clear hz
 go_enter Tryz.func107,Tryz.ntmps107
 go_wp2
 go_loopw [0,10] (fun v i wr=>∃(k:Nat) (row' :Option Nat),i= .int .i64 k∧k≤nu∧Acc wr base row' v (l++aK (zs.take k))∧(l++aK (zs.take k)).length≤l.length+10*k∧(row' =row∨∃m,row' =some m∧w.heap.size≤m)∧w.grownBy wr row∧Recs bJ (fun b=>row'≠some b) wr (.slice Au nu cu) zs) (fun _ i _=>nu-(intOf i).toNat)
 case atStart=>exact ⟨0,row,rfl,by omega,by simpa [aK] using hacc,by simp [aK],.inl rfl,zD _ _,hu⟩
 case round=>
  clear hacc hu
  obtain ⟨k,row1,rfl,hk,hacc,hll,hrow,hg,hu⟩:=hrel
  by_cases hlt:k<nu
  ·obtain ⟨b,off,z,rfl,_,hb,hzk,hc⟩:=hu.at_ dH (j:=k) (by have:=HUL.out;omega) (by omega)
   have qz:=hc 0 _ rfl
   rw [Nat.mul_one,Nat.add_zero] at qz
   have hzr:=HZ.out z (List.mem_of_getElem? hzk)
   have htk:zs.take (k+1)=zs.take k++ [z]:=by rw [List.take_add_one,hzk];rfl
   have htk' :l++aK (zs.take (k+1))=(l++aK (zs.take k))++cZ z:=by rw [htk];simp [aK]
   have HTK:=Lib.hid htk'
   have hil:=lG hzr.1 hzr.2
   clear hc htk htk' hzk
   have hzz:=JY hzr.1 hzr.2
   have hzl:=xZ hzr.1 hzr.2
   unfold cZ at hil
   obtain ⟨lk,hlk⟩:∃lk,lk=l++aK (zs.take k):=⟨_,rfl⟩
   rw [←hlk] at hacc hll
   obtain ⟨Z,hZ⟩:∃Z,Z=zz z:=⟨_,rfl⟩
   rw [←hZ] at hzz hzl hil
   have HTK2:l++aK (zs.take (k+1))=lk++fH Z:=by rw [HTK.out,hlk,hZ];rfl
   have HT2:=Lib.hid HTK2
   clear HTK HTK2 hlk hZ
   have hgw:=hg.size
   go_wp2
   clear hzz
   go_loopw [0,7] (fun v t wr=>∃(u:Nat) (lc:List UInt8) (row' :Option Nat),t= .int .u64 u∧u<18446744073709551616∧Acc wr base row' v lc∧lc++fH u=lk++fH Z∧(row' =row∨∃m,row' =some m∧w.heap.size≤m)∧w.grownBy wr row∧Recs bJ (fun b=>row'≠some b) wr (.slice (some ⟨b,off,none⟩) nu cu) zs) (fun _ t _=>(intOf t).toNat)
   case atStart=>exact ⟨Z,lk,row1,rfl,hzl,hacc,rfl,hrow,hg,hu⟩
   case round=>
    clear hacc hrow hg hu hgw
    obtain ⟨u,lc,row2,rfl,hu64,hacc,heq,hrow,hg,hu⟩:=hrel
    have hcl:lc.length+(fH u).length=lk.length+(fH Z).length:=by have:=congrArg List.length heq;simpa using this
    have HEQ:=Lib.hid heq
    have hsz:=hg.size
    have ha:∀o,Below wr.heap.size wr (wr.alloc o):=fun o=>(Below.refl _ _).alloc (Nat.le_refl _) o
    have hlo:=hacc.lo
    clear heq
    by_cases hge:128≤u
    ·have dg:decide ((128:Int)≤(u:Int))=true:=by simp;omega
     have hby:=FP u
     obtain ⟨X,hX⟩:∃X,X=u%128+128:=⟨_,rfl⟩
     rw [←hX] at hby
     have hX2:X<256:=by omega
     have hen:fH u=UInt8.ofNat X::fH (u / 128):=by rw [pG (by omega),hX]
     rw [hen,List.length_cons] at hcl
     have HEN:=Lib.hid hen
     clear hX hen
     obtain ⟨A1,c1,rfl,hc1,hc2⟩:=hacc.slice_
     go_wp2_with (refine nK (D:=fun _=>True) (o:=⟨some 28,_,_,_,_,_⟩) _ _ base row2 lc [UInt8.ofNat X] ⟨wr.heap.size,0,none⟩ 1 1 _ (lc.length+1) rfl rfl rfl rfl (hacc.ext (ha _)) (uO wr _ X hX2) (by omega) rfl (by omega) (by simp;omega) ?_;intro A5 c5 w5 hown5 hgr5 hat5 hc51 hc52)
     have hgs:=oF (tC hg (ha _)) hgr5 (fun m hm=>by
      rcases hrow with h|⟨m',h,hm'⟩
      ·exact .inr (by rw [←h,hm])
      ·rw [h] at hm;cases hm;exact .inl hm')
     have hu5:=rT (hu.ext (ha _)) hgr5 hat5
     have hsz5:=hgr5.size
     rw [World.size_alloc] at hsz5
     refine ⟨⟨u / 128,lc++ [UInt8.ofNat X],(Value.slice A5 (lc.length+1) c5).ownBlock,by congr 1,by omega,.inl ⟨rfl,hown5⟩,?_,?_,hgs,hu5⟩,?_⟩
     ·rw [←HEQ.out,HEN.out,List.append_assoc];rfl
     ·exact Tzde
     ·simp [intOf];omega
    ·have dg:decide ((128:Int)≤(u:Int))=false:=by simp;omega
     have hby:(u:Int)%256=(u:Int):=by omega
     have hX2:u<256:=by omega
     have hen:fH u=[UInt8.ofNat u]:=kL (by omega)
     rw [hen,List.length_singleton] at hcl
     have HEN:=Lib.hid hen
     have Hcl:=Lib.hid hcl
     have hcl2:lc.length+1≤100000000100:=by omega
     clear hen hcl
     obtain ⟨A1,c1,rfl,hc1,hc2⟩:=hacc.slice_
     go_wp2_with (refine nK (D:=fun _=>True) (o:=⟨some 35,_,_,_,_,_⟩) _ _ base row2 lc [UInt8.ofNat u] ⟨wr.heap.size,0,none⟩ 1 1 _ (lc.length+1) rfl rfl rfl rfl (hacc.ext (ha _)) (uO wr _ u hX2) (by omega) rfl (by omega) (by simp;omega) ?_;intro A5 c5 w5 hown5 hgr5 hat5 hc51 hc52)
     have hgs:=oF (tC hg (ha _)) hgr5 (fun m hm=>by
      rcases hrow with h|⟨m',h,hm'⟩
      ·exact .inr (by rw [←h,hm])
      ·rw [h] at hm;cases hm;exact .inl hm')
     have hu5:=rT (hu.ext (ha _)) hgr5 hat5
     have hfin:l++aK (zs.take (k+1))=lc++ [UInt8.ofNat u]:=by rw [HT2.out,←HEQ.out,HEN.out]
     have hfl:(l++aK (zs.take (k+1))).length=lc.length+1:=by rw [hfin];simp
     refine ⟨⟨k+1,(Value.slice A5 (lc.length+1) c5).ownBlock,by congr 1,by omega,.inl ⟨rfl,by rw [hfin];exact hown5⟩,by have:=Hcl.out;omega,?_,hgs,hu5⟩,by simp [intOf];omega⟩
     exact Tzde
  ·obtain rfl:k=nu:=by omega
   rw [List.take_of_length_le (by have:=HUL.out;omega)] at hacc
   go_wp2
   go_ret
   exact ⟨_,row1,rfl,hacc,hrow,hg⟩
theorem nI (A:Option Addr) (n c:Nat) (w:World) (hn:n≤c) (hc:c≤9223372036854775807):Calls Tryz.prog 108 #[.slice A n c] w fun e w' =>e= .returned (.slice A n n)∧w' =w:=by
 go_enter Tryz.func108,Tryz.ntmps108
 go_wp2
 go_ret
 exact ⟨rfl,rfl⟩
set_option maxHeartbeats 400000 in
theorem kD (A:Option Addr) (n c:Nat) (z:Int) (l:List UInt8) (S:Nat→Prop) (w:World) (hb:Bytes S w (.slice A n c) l) (hn:n≤10000000000) (h1: -9223372036854775808≤z) (h2:z≤9223372036854775807):
 Calls Tryz.prog 80 #[.slice A n c,.int .i64 z] w fun e w' =>∃v',e= .returned v'∧Bytes (fun _=>True) w' v' (l++cZ z)∧Below w.heap.size w w' :=by
 have hl:=hb.len
 have hl1:=hl.1
 subst hl1
 have ha:Below w.heap.size w (w.alloc (.cells #[.int .i64 z] 3)):=(Below.refl _ _).alloc (Nat.le_refl _) _
 have hacc:Acc (w.alloc (.cells #[.int .i64 z] 3)) w.heap.size none (.slice A l.length l.length) l:= .inr ⟨rfl,⟨A,rfl⟩,((hb.clip (c' :=l.length) (Nat.le_refl _) (by unfold maxLen;omega)).ext ha).mono (fun _ _ _=>trivial)⟩
 have hone:Recs bJ (fun b=>(none:Option Nat)≠some b) (w.alloc (.cells #[.int .i64 z] 3)) (.slice (some ⟨w.heap.size,0,none⟩) 1 1) [z]:=⟨_,1,rfl,by simp,by simp [maxLen],Cs.lit _ _ _ _ _ (by simp) rfl⟩
 have hput:=xH w.heap.size none _ l _ hacc (by simp) _ 1 1 [z] hone (by intro z' hz';simp at hz';subst hz';exact ⟨h1,h2⟩) (by omega)
 have Hput:=Lib.hid hput
 clear hput hone hacc
 go_enter Tryz.func80,Tryz.ntmps80
 go_wp2_with fail
 refine (nI A l.length c w hl.2.1 hl.2.2).mono ?_
 rintro e w1 ⟨rfl,rfl⟩
 go_wp2_with fail
 refine (Hput.out).mono ?_
 rintro e w2 ⟨v',row',rfl,hacc,_,hg⟩
 go_wp2
 go_ret
 refine ⟨v',rfl,?_,Below.ext ha ⟨hg.os,hg.tape,hg.output,hg.size,fun i hi=>hg.block i hi (by simp)⟩⟩
 have:=hacc.bytes
 simpa [aK] using this
end Go.Proofs.YtiblijmngokcgaaGreatDoor
namespace Go.Proofs.YtiblijmngokcgaaGreatDoor
open Go.RowKit
set_option maxRecDepth 100000
set_option linter.unusedVariables false
def eV (c:UInt8):List Value:=[bv c]
theorem lH (c:UInt8):(eV c).length=1:=rfl
theorem qG (c:UInt8):∀u∈eV c,u.oneCell' =true:=by
 intro u hu
 simp [eV] at hu
 subst hu
 rfl
theorem tZ (l:List UInt8):l.flatMap eV=l.map bv:=by
 induction l with
 |nil=>rfl
 |cons x l ih=>rw [List.flatMap_cons,ih];rfl
theorem rH:(Tryz.prog.info? 5).map (fun i=>(i.zero,i.size,i.bytes))=some (some (.int .u8 0),1,1):=by kernel_rfl
abbrev By (S:Nat→Prop) (w:World) (v:Value) (l:List UInt8):Prop:=Recs eV S w v l
theorem OwnR.by_ {w:World} {base:Nat} {e:TypeId} {v:Value} {l:List UInt8} (h:OwnR eV 1 w base e v l):By (fun b=>base≤b) w v l:=h.recs.mono (fun _ _ h=>h.1)
theorem Bytes.by_ {S:Nat→Prop} {w:World} {v:Value} {l:List UInt8} (h:Bytes S w v l):By S w v l:=by
 obtain ⟨A,c,rfl,h1,h2,h3⟩:=h
 exact ⟨A,c,rfl,h1,h2,by rw [tZ];exact h3⟩
theorem Recs.bytes {S:Nat→Prop} {w:World} {v:Value} {l:List UInt8} (h:By S w v l):Bytes S w v l:=by
 obtain ⟨A,c,rfl,h1,h2,h3⟩:=h
 exact ⟨A,c,rfl,h1,h2,by rw [tZ] at h3;exact h3⟩
theorem Recs.byte {S:Nat→Prop} {w:World} {A:Option Addr} {n c k:Nat} {l:List UInt8} (h:By S w (.slice A n c) l) (hk:k<n):
 ∃b off x,A=some ⟨b,off,none⟩∧b<w.heap.size∧l[k]? =some x∧w.cell? ⟨b,off+k,none⟩=some (.int .u8 (x.toNat:Int)):=by
 obtain ⟨A',c',e,h1,h2,h3⟩:=h.bytes
 cases e
 obtain ⟨b,off,x,rfl,_,hb,hx,hc⟩:=h3.byte hk
 exact ⟨b,off,x,rfl,hb,hx,hc⟩
theorem Recs.lo {α:Type} {enc:α→List Value} {S:Nat→Prop} {w:World} {v:Value} {l:List α} (h:Recs enc S w v l):Recs enc (·<w.heap.size) w v l:=h.mono (fun _ hb _=>hb)
theorem OwnR.empty_ {α:Type} {enc:α→List Value} {k:Nat} (w:World) (base:Nat) (e:TypeId) (hb:base≤w.heap.size):OwnR enc k (w.alloc (.cells #[] e)) base e (.slice (some ⟨w.heap.size,0,none⟩) 0 0) []:=
 ⟨by simp,.inr ⟨w.heap.size,0,#[],rfl,hb,heap_alloc_new w _,Nat.le_refl _,by simp [maxLen],by simp,by simp⟩⟩
end Go.Proofs.YtiblijmngokcgaaGreatDoor
namespace Go.Proofs.YtiblijmngokcgaaGreatDoor
open Go.RowKit
set_option maxRecDepth 100000
set_option linter.unusedVariables false
theorem EW (x n:Int) (hn:1≤n):(0≤x.tmod n→x.tmod n=x%n)∧(x.tmod n<0→x.tmod n+n=x%n):=by
 exact Tzcy
set_option maxHeartbeats 400000 in
theorem NG (x n:Int) (w:World) (hn:1≤n) (hn2:n≤9223372036854775807) (hx1: -9223372036854775808≤x) (hx2:x≤9223372036854775807):
 Calls Tryz.prog 28 #[.int .i64 x,.int .i64 n] w fun e w' =>e= .returned (.int .i64 (x%n))∧w' =w:=by
 have hm:=Lib.hid (EW x n hn)
 exact Tzcc
end Go.Proofs.YtiblijmngokcgaaGreatDoor
