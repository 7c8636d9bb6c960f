import Derived.Test.YtiblijmngokcgaaGreatDoorMacZs
import Derived.Test.YtiblijmngokcgaaGreatDoorKitZs
import Derived.Laws.BitsAllLaws
import Derived.Test.YtiblijmngokcgaaGreatDoorProg
namespace Go.Proofs.YtiblijmngokcgaaGreatDoor
open Go.RowKit
def stp (s:Nat):Nat:=if s%2=1 then (s / 2) ^^^ 3988292384 else s / 2
def mA:Nat→Nat→Nat
 |0,s=>s
 |k+1,s=>stp (mA k s)
def tab (i:Nat):Nat:=mA 8 i
def inv (s:Nat):Nat:=4294967295 ^^^ s
def pby (s:Nat) (c:UInt8):Nat:=(s / 256) ^^^ tab ((s%256) ^^^ c.toNat)
def rby (s:Nat) (c:UInt8):Nat:=mA 8 (s ^^^ c.toNat)
def upd (s:Nat) (l:List UInt8):Nat:=inv (l.foldl pby (inv s))
theorem sO (k s:Nat):mA (k+1) s=stp (mA k s):=rfl
theorem AD (s:Nat):mA 0 s=s:=rfl
theorem IH (s:Nat):tab s=mA 8 s:=rfl
theorem KM {s:Nat} (h:s<4294967296):stp s<4294967296:=by
 unfold stp
 split
 ·exact Nat.xor_lt_two_pow (n:=32) (by omega) (by omega)
 ·omega
theorem oS {s:Nat} (h:s<4294967296):∀k,mA k s<4294967296
 |0=>h
 |k+1=>KM (oS h k)
theorem rD {s:Nat} (h:s<4294967296):inv s<4294967296:=Nat.xor_lt_two_pow (n:=32) (by omega) (by omega)
theorem vF (s:Nat) (c:UInt8):(s%256) ^^^ c.toNat<256:=Nat.xor_lt_two_pow (n:=8) (by omega) (gI c)
theorem KV {s:Nat} (h:s<4294967296) (c:UInt8):pby s c<4294967296:=
 Nat.xor_lt_two_pow (n:=32) (by omega) (oS (by have:=vF s c;omega) 8)
theorem lD {s:Nat} (h:s<4294967296) (l:List UInt8):l.foldl pby s<4294967296:=by
 induction l generalizing s with
 |nil=>exact h
 |cons c l ih=>exact ih (KV h c)
theorem mG {s:Nat} (h:s<4294967296) (l:List UInt8):upd s l<4294967296:=rD (lD (rD h) l)
theorem rJ {β:Type} (f:β→UInt8→β) (b:β) (l:List UInt8) (k:Nat) (c:UInt8) (h:l[k]? =some c):(l.take (k+1)).foldl f b=f ((l.take k).foldl f b) c:=by
 obtain ⟨hk,rfl⟩:=List.getElem?_eq_some_iff.1 h
 rw [List.take_succ_eq_append_getElem hk,List.foldl_append]
 rfl
theorem CS {s:Nat} (hs:s<4294967296) (h:(bits BinOp.and IntKind.u32 (s:Int) 1 != 0)=false):stp s=s / 2:=by
 have e:bits BinOp.and IntKind.u32 (s:Int) ((1:Nat):Int)=_:=u32_and_nat s 1 hs (by omega)
 rw [nat_mask1] at e
 simp only [Int.natCast_one] at e
 rw [e] at h
 simp at h
 unfold stp
 rw [if_neg (by omega)]
theorem ER {s:Nat} (hs:s<4294967296) (h:(bits BinOp.and IntKind.u32 (s:Int) 1 != 0)=true):(bits BinOp.xor IntKind.u32 ((s:Int) / 2) 3988292384)=((stp s:Nat):Int):=by
 have e:bits BinOp.and IntKind.u32 (s:Int) ((1:Nat):Int)=_:=u32_and_nat s 1 hs (by omega)
 rw [nat_mask1] at e
 simp only [Int.natCast_one] at e
 rw [e] at h
 simp at h
 unfold stp
 rw [if_pos (by omega)]
 exact u32_xor_nat (s / 2) 3988292384 (by omega) (by omega)
theorem vB {s:Nat} (hs:s<4294967296):bits BinOp.xor IntKind.u32 4294967295 (s:Int)=((inv s:Nat):Int):=u32_xor_nat 4294967295 s (by omega) hs
theorem zT (t:Nat) (x:UInt8):bits BinOp.xor IntKind.u8 ((t:Int)%256) (x.toNat:Int)=((t%256 ^^^ x.toNat:Nat):Int):=
 u8_xor_nat (t%256) x.toNat (by omega) (gI x)
theorem EN {t:Nat} (ht:t<4294967296) (x:UInt8):bits BinOp.xor IntKind.u32 ((t:Int) / 256) ((tab (t%256 ^^^ x.toNat):Nat):Int)=((pby t x:Nat):Int):=
 u32_xor_nat (t / 256) _ (by omega) (oS (by have:=vF t x;omega) 8)
def cV (k:Nat):Array Value:=((List.range 256).map fun i=>Value.int .u32 ((if i<k then tab i else 0:Nat):Int)).toArray
theorem iL (k j:Nat) (h:j<256):(cV k)[j]? =some (.int .u32 ((if j<k then tab j else 0:Nat):Int)):=by
 unfold cV
 simp [h]
theorem gB (k:Nat):(cV k).size=256:=by simp [cV]
theorem nO (k:Nat):(cV k).all (·.oneCell')=true:=by
 unfold cV
 exact all_oneCell_toArray (by simp [Value.oneCell'])
theorem uE (k:Nat) (h:k<256):(cV k).setIfInBounds k (.int .u32 (tab k:Nat))=cV (k+1):=by
 apply Array.ext_getElem?
 intro j
 by_cases hj:j<256
 ·rw [iL _ _ hj]
  by_cases e:j=k
  ·subst e
   rw [Array.getElem?_setIfInBounds_self_of_lt (by rw [gB];exact hj)]
   simp
  ·rw [Array.getElem?_setIfInBounds_ne (by omega),iL _ _ hj]
   have:(j<k+1)↔(j<k):=by omega
   simp [this]
 ·rw [Array.getElem?_eq_none (by simp [gB];omega),Array.getElem?_eq_none (by simp [gB];omega)]
end Go.Proofs.YtiblijmngokcgaaGreatDoor
namespace Go.Proofs.YtiblijmngokcgaaGreatDoor
open Go.RowKit
attribute [local irreducible] cV mA stp tab inv pby rby
set_option maxRecDepth 100000
set_option linter.unusedVariables false
theorem xD (w:World):(zeroValue 211).run Tryz.prog w= .ok (.agg (cV 0)) w:=by kernel_rfl
set_option maxHeartbeats 400000 in
theorem AA (w:World):Calls Tryz.prog 165 #[] w fun e w' =>e= .returned (.agg (cV 256))∧Below w.heap.size w w' :=by
 have hz:=xD
 go_enter Tryz.func165,Tryz.ntmps165
 go_wp2
 go_loopw [2,3,4] (fun _ _ i wr=>∃k:Nat,k≤256∧i= .int .u32 k∧wr.heap[w.heap.size+1]? =some (.cells (cV k) 211 (0,0))∧wr.heap[w.heap.size]? =some (.cells (cV 0) 211 (0,0))∧Below w.heap.size w wr) (fun _ _ i _=>256-(intOf i).toNat)
 case atStart=>
  exact ⟨0,by omega,rfl,heap_alloc2_new _ _ _,heap_alloc2_old _ _ _,((Below.refl _ _).alloc (Nat.le_refl _) _).alloc (by simp) _⟩
 case round=>
  clear hz
  obtain ⟨k,hk,rfl,h1,h0,hb⟩:=hrel
  by_cases hlt:k<256
  ·have hc:wr.cell? ⟨w.heap.size+1,k,none⟩=some (.int .u32 0):=by
    rw [cell_of_row _ _ _ _ _ _ h1,iL _ _ hlt];simp
   have hf:wr.frozen? ⟨w.heap.size+1,k,none⟩=false:=frozen_of_row _ _ _ _ _ h1
   have H1:=Lib.hid h1
   have H0:=Lib.hid h0
   clear h1 h0
   go_wp2
   go_loop [3,8] (fun s j=>∃m:Nat,m≤8∧j= .int .i64 m∧s= .int .u32 (mA m k:Nat)) (fun _ j=>8-(intOf j).toNat)
   case atStart=>exact ⟨0,by omega,rfl,by rw [AD]⟩
   case round=>
    obtain ⟨m,hm,rfl,rfl⟩:=hrel
    by_cases hlt2:m<8
    ·have hb:=oS (s:=k) (by omega) m
     go_wp2
     ·go_round
      case rel=>
       refine ⟨m+1,by omega,by go_num,?_⟩
       rw [ER hb (by assumption),sO]
      case measure=>simp [intOf];omega
     ·go_round
      case rel=>
       refine ⟨m+1,by omega,by go_num,?_⟩
       rw [sO,CS hb (by assumption)];rfl
      case measure=>simp [intOf];omega
    ·obtain rfl:m=8:=by omega
     go_wp2
     go_roundw
     case rel=>exact ⟨k+1,by omega,by go_num,(by rw [heap_setCell_same _ _ _ _ _ _ H1.out];rw [←uE k hlt,IH]),(by rw [heap_setCell_other _ _ _ _ (by simp)];exact H0.out),hb.setCell (by simp) _⟩
     case measure=>simp [intOf];omega
  ·obtain rfl:k=256:=by omega
   have H1:=Lib.hid h1
   have H0:=Lib.hid h0
   clear h1 h0
   go_wp2_with (first|(refine wpList_load_row rfl 211 _ rfl (w.heap.size+1) rfl 211 (cV 256) (0,0) _ H1.out Tryz.underlying211 rfl (by kernel_rfl) ?_)|(refine aC rfl 211 _ _ rfl w.heap.size 211 (cV 0) (cV 256) rfl rfl H0.out (by kernel_rfl) (by simp [gB]) (nO _) ?_))
   refine bodyPost_ret (results_cell_row rfl _ _ w.heap.size 211 (cV 256) (0,0) _ rfl (setRow_heap _ _ _ _ _ _ H0.out) Tryz.underlying211 rfl (by kernel_rfl)) rfl ⟨rfl,?_⟩
   exact Below.setRow hb (Nat.le_refl _) _
set_option maxHeartbeats 400000 in
theorem mR (s:Nat) (v:Value) (l:List UInt8) (S:Nat→Prop) (w:World) (hs:s<4294967296) (hv:Bytes S w v l):
 Calls Tryz.prog 130 #[.int .u32 s,v] w fun e w' =>e= .returned (.int .u32 (upd s l:Nat))∧Below w.heap.size w w' :=by
 obtain ⟨A,c,rfl,hc1,hc2,hcs⟩:=hv
 unfold maxLen at hc2
 have hz:=xD
 go_enter Tryz.func130,Tryz.ntmps130
 go_wp2_with (first|(go_at_call 165;refine (AA _).mono ?_;rintro e w1 ⟨rfl,hb1⟩)|(refine aF rfl 211 _ _ rfl 211 (cV 0) (cV 256) rfl rfl (by kernel_rfl) (by simp [gB]) (nO _) ?_))
 have hinv:bits BinOp.xor IntKind.u32 IntKind.u32.max (s:Int)=((inv s:Nat):Int):=vB hs
 clear hz
 go_loop [6,14] (fun t i=>∃k:Nat,k≤l.length∧i= .int .i64 k∧t= .int .u32 ((l.take k).foldl pby (inv s):Nat)) (fun _ i=>l.length-(intOf i).toNat)
 case atStart=>exact ⟨0,by omega,rfl,by rw [hinv];rfl⟩
 case round=>
  obtain ⟨k,hk,rfl,rfl⟩:=hrel
  clear hinv
  by_cases hlt:k<l.length
  ·obtain ⟨b,off,x,rfl,_,hb,hx,hcell⟩:=(hcs.keep (Keep.of_below hb1)).byte hlt
   have hcell' :(w1.alloc (.cells (cV 256) 211)).cell? ⟨b,off+k,none⟩=some (.int .u8 (x.toNat:Int)):=by
    rw [World.cell?_alloc_lt _ _ _ hb];exact hcell
   have hlt8:=gI x
   have ht:=lD (rD hs) (l.take k)
   have Hx:=Lib.hid hx
   clear hx hcell
   generalize ht0:(l.take k).foldl pby (inv s)=t at ht ⊢
   have Ht0:=Lib.hid ht0
   clear ht0
   have hbx:=zT t x
   have hj:=vF t x
   have hq:=Lib.hid (EN ht x)
   generalize t%256 ^^^ x.toNat=j at hbx hj hq
   have htab:(cV 256)[j]? =some (.int .u32 (tab j:Nat)):=by rw [iL _ _ hj,if_pos hj]
   go_wp2
   go_round
   case rel=>exact ⟨k+1,by omega,by go_num,by rw [hq.out,rJ _ _ _ _ _ Hx.out,Ht0.out]⟩
   case measure=>simp [intOf];omega
  ·obtain rfl:k=l.length:=by omega
   have ht:=lD (rD hs) l
   have hfin:=Lib.hid (vB ht)
   rw [List.take_length]
   go_wp2
   go_ret
   refine ⟨?_,hb1.alloc hb1.size _⟩
   exact congrArg _ (congrArg _ hfin.out)
theorem BA (v:Value) (l:List UInt8) (S:Nat→Prop) (w:World) (hv:Bytes S w v l):
 Calls Tryz.prog 131 #[v] w fun e w' =>e= .returned (.int .u32 (upd 0 l:Nat))∧Below w.heap.size w w' :=by
 go_enter Tryz.func131,Tryz.ntmps131
 go_wp2_with (go_at_call 130;refine (mR 0 v l S _ (by omega) hv).mono ?_;rintro e w1 ⟨rfl,hb1⟩)
 go_ret
 exact ⟨rfl,hb1⟩
theorem JC (x n:Int) (hn:1≤n):(0≤x.tmod n→x.tmod n=x%n)∧(x.tmod n<0→x.tmod n+n=x%n):=by
 exact Tzcy
set_option maxHeartbeats 400000 in
theorem NK (x n:Int) (w:World) (hn:1≤n) (hn2:n≤9223372036854775807) (hx1: -9223372036854775808≤x) (hx2:x≤9223372036854775807):
 Calls Tryz.prog 28 #[.int .i64 x,.int .i64 n] w fun e w' =>e= .returned (.int .i64 (x%n))∧w=w' :=by
 have hm:=Lib.hid (JC x n hn)
 exact Tzcc
end Go.Proofs.YtiblijmngokcgaaGreatDoor
namespace Go.Proofs.YtiblijmngokcgaaGreatDoor
def num:List UInt8→Nat
 |[]=>0
 |c::l=>c.toNat+256*num l
theorem GH (mask j:Nat):(mask:Int) / 2^j=((mask / 2^j:Nat):Int):=by
 rw [Int.natCast_ediv,Int.natCast_pow]
 rfl
end Go.Proofs.YtiblijmngokcgaaGreatDoor
namespace Go.Proofs.YtiblijmngokcgaaGreatDoor
open Go.RowKit
set_option linter.unusedVariables false
def le4 (v:Nat):List UInt8:=[UInt8.ofNat v,UInt8.ofNat (v / 256),UInt8.ofNat (v / 65536),UInt8.ofNat (v / 16777216)]
theorem nB (v:Nat):(le4 v).length=4:=rfl
def iX (v i:Nat):UInt8:=UInt8.ofNat (v / 2^(8*i))
def iR (l:List UInt8) (off v:Nat):Nat→List UInt8
 |0=>l
 |i+1=>(iR l off v i).set (off+i) (iX v i)
theorem sS (l:List UInt8) (off v i:Nat):iR l off v (i+1)=(iR l off v i).set (off+i) (iX v i):=rfl
theorem AR (l:List UInt8) (off v:Nat):iR l off v 0=l:=rfl
theorem pM (l:List UInt8) (off v:Nat):∀i,(iR l off v i).length=l.length
 |0=>rfl
 |i+1=>by rw [sS,List.length_set,pM l off v i]
def z8:List UInt8:=[0,0,0,0,0,0,0,0]
theorem zS:z8.length=8:=rfl
theorem AQ (v:Nat):iR z8 0 v 4=le4 v++ [0,0,0,0]:=by simp [iR,z8,le4,iX]
theorem yN (v s:Nat):iR (le4 v++ [0,0,0,0]) 4 s 4=le4 v++le4 s:=by simp [iR,le4,iX]
theorem yE (v:Nat) (l:List UInt8):(le4 v++l).take 4=le4 v:=by simp [le4]
def gT (body:List UInt8):Nat:=upd (upd 0 (le4 body.length)) body
def gR (body:List UInt8):List UInt8:=le4 body.length++le4 (gT body)
def cX (body:List UInt8):List UInt8:=gR body++body
theorem DM (body:List UInt8):upd (upd 0 (le4 body.length)) body=gT body:=rfl
theorem CC (body:List UInt8):le4 body.length++le4 (gT body)=gR body:=rfl
theorem AG (body:List UInt8):gR body++body=cX body:=rfl
theorem lA (body:List UInt8):(gR body).length=8:=rfl
theorem eD (body:List UInt8):(cX body).length=8+body.length:=by simp [cX,lA]
theorem II (body:List UInt8):gT body<4294967296:=mG (mG (by omega) _) _
theorem BB:∀l:List UInt8,num l<256^l.length
 |[]=>by simp [num]
 |c::l=>by
  have:=BB l
  have hc:=gI c
  simp only [num,List.length_cons,Nat.pow_succ]
  omega
theorem ES (a b c d:UInt8):num [a,b,c,d]=a.toNat+256*b.toNat+65536*c.toNat+16777216*d.toNat:=by simp [num];omega
theorem JH (l:List UInt8) (h:l.length=4):le4 (num l)=l:=by
 match l,h with
 |[a,b,c,d],_=>
  have ha:=gI a
  have hb:=gI b
  have hc:=gI c
  have hd:=gI d
  have e:∀x:UInt8,∀n:Nat,n%256=x.toNat→UInt8.ofNat n=x:=fun x n hn=>by
   apply UInt8.toNat_inj.1
   simp
   exact hn
  rw [ES]
  unfold le4
  rw [e a _ (by omega),e b _ (by omega),e c _ (by omega),e d _ (by omega)]
theorem rY (v:Nat) (h:v<4294967296):num (le4 v)=v:=by
 unfold le4
 rw [ES]
 simp
 omega
theorem kK (i x y:Nat) (hx:x<2^i) (hy:y%2^i=0):x ||| y=x+y:=by
 rw [Nat.or_comm,nat_join i y x hy hx,Nat.add_comm]
theorem IX (a b c d:Nat) (ha:a<256) (hb:b<256) (hc:c<256) (hd:d<256):((a ||| b*256) ||| c*65536) ||| d*16777216=a+256*b+65536*c+16777216*d:=by
 rw [kK 8 a (b*256) (by omega) (by omega),kK 16 (a+b*256) (c*65536) (by omega) (by omega),kK 24 (a+b*256+c*65536) (d*16777216) (by omega) (by omega)]
 omega
theorem IW (a b c d:Nat) (ha:a<256) (hb:b<256) (hc:c<256) (hd:d<256):
 bits BinOp.or IntKind.u32 (bits BinOp.or IntKind.u32 (bits BinOp.or IntKind.u32 (a:Int) ((b:Int)*256)) ((c:Int)*65536)) ((d:Int)*16777216)=((a+256*b+65536*c+16777216*d:Nat):Int):=by
 have e1:bits BinOp.or IntKind.u32 (a:Int) ((b:Int)*256)=((a ||| b*256:Nat):Int):=u32_or_nat a (b*256) (by omega) (by omega)
 have l1:a ||| b*256<4294967296:=by rw [kK 8 a _ (by omega) (by omega)];omega
 have e2:bits BinOp.or IntKind.u32 ((a ||| b*256:Nat):Int) ((c:Int)*65536)=(((a ||| b*256) ||| c*65536:Nat):Int):=u32_or_nat _ (c*65536) l1 (by omega)
 have l2:(a ||| b*256) ||| c*65536<4294967296:=by rw [kK 8 a (b*256) (by omega) (by omega),kK 16 (a+b*256) (c*65536) (by omega) (by omega)];omega
 rw [e1,e2,←IX a b c d ha hb hc hd]
 exact u32_or_nat _ (d*16777216) l2 (by omega)
theorem LW {l:List UInt8} {a b c d:UInt8} (h0:l[0]? =some a) (h1:l[1]? =some b) (h2:l[2]? =some c) (h3:l[3]? =some d):l.take 4=[a,b,c,d]:=by
 match l with
 |[]=>simp at h0
 |[_]=>simp at h1
 |[_,_]=>simp at h2
 |[_,_,_]=>simp at h3
 |p::q::r::s::t=>
  simp at h0 h1 h2 h3
  subst h0 h1 h2 h3
  rfl
def bO (b:List UInt8) (at_:Int):List UInt8×Nat×Nat:=
 if at_<0∨(b.length:Int)<at_ then ([],0,3)
 else if at_.toNat=b.length then ([],0,11)
 else if b.length-at_.toNat<8 then ([],0,8)
 else if 4096<num ((b.drop at_.toNat).take 4) then ([],0,5)
 else if b.length-at_.toNat-8<num ((b.drop at_.toNat).take 4) then ([],0,8)
 else if num ((b.drop (at_.toNat+4)).take 4)=gT ((b.drop (at_.toNat+8)).take (num ((b.drop at_.toNat).take 4))) then
  ((b.drop (at_.toNat+8)).take (num ((b.drop at_.toNat).take 4)),at_.toNat+8+num ((b.drop at_.toNat).take 4),0)
 else ([],0,10)
theorem mC {b:List UInt8} {at_:Int} (h:at_<0∨(b.length:Int)<at_):bO b at_=([],0,3):=by
 unfold bO
 rw [if_pos h]
section
variable {b : List UInt8} {k : Nat}
theorem sX (h:k=b.length):bO b k=([],0,11):=by
 unfold bO
 rw [if_neg (by omega),Int.toNat_natCast,if_pos h]
theorem nY (h1:k<b.length) (h:b.length-k<8):bO b k=([],0,8):=by
 unfold bO
 rw [if_neg (by omega),Int.toNat_natCast,if_neg (by omega),if_pos h]
theorem qX (h1:k+8≤b.length) (h:4096<num ((b.drop k).take 4)):bO b k=([],0,5):=by
 unfold bO
 rw [if_neg (by omega),Int.toNat_natCast,if_neg (by omega),if_neg (by omega),if_pos h]
theorem nX (h1:k+8≤b.length) (h:num ((b.drop k).take 4)≤4096) (h2:b.length-k-8<num ((b.drop k).take 4)):bO b k=([],0,8):=by
 unfold bO
 rw [if_neg (by omega),Int.toNat_natCast,if_neg (by omega),if_neg (by omega),if_neg (by omega),if_pos h2]
theorem sV (h1:k+8≤b.length) (h:num ((b.drop k).take 4)≤4096) (h2:k+8+num ((b.drop k).take 4)≤b.length)
 (h3:num ((b.drop (k+4)).take 4)≠gT ((b.drop (k+8)).take (num ((b.drop k).take 4)))):bO b k=([],0,10):=by
 unfold bO
 rw [if_neg (by omega),Int.toNat_natCast,if_neg (by omega),if_neg (by omega),if_neg (by omega),if_neg (by omega),if_neg h3]
theorem qD (h1:k+8≤b.length) (h:num ((b.drop k).take 4)≤4096) (h2:k+8+num ((b.drop k).take 4)≤b.length)
 (h3:num ((b.drop (k+4)).take 4)=gT ((b.drop (k+8)).take (num ((b.drop k).take 4)))):
 bO b k=((b.drop (k+8)).take (num ((b.drop k).take 4)),k+8+num ((b.drop k).take 4),0):=by
 unfold bO
 rw [if_neg (by omega),Int.toNat_natCast,if_neg (by omega),if_neg (by omega),if_neg (by omega),if_neg (by omega),if_pos h3]
end
theorem wR (b:List UInt8) (k:Nat):(((b.drop k).take 8).drop 4).take 4=(b.drop (k+4)).take 4:=by
 rw [List.drop_take,List.take_take,List.drop_drop]
 rfl
theorem wL (b:List UInt8) (k n:Nat) (hk:k+8+n≤b.length) (hn:num ((b.drop k).take 4)=n):upd (upd 0 ((b.drop k).take 4)) ((b.drop (k+8)).take n)=gT ((b.drop (k+8)).take n):=by
 have e:((b.drop (k+8)).take n).length=n:=by simp;omega
 unfold gT
 rw [e,←hn,JH _ (by simp;omega)]
theorem zL (v i:Nat):(v:Int) / 2^(8*i)%256=(((iX v i).toNat:Nat):Int):=by
 rw [GH]
 unfold iX
 generalize v / 2^(8*i)=q
 simp
end Go.Proofs.YtiblijmngokcgaaGreatDoor
namespace Go.Proofs.YtiblijmngokcgaaGreatDoor
open Go.RowKit
attribute [local irreducible] upd inv le4 iR iX z8 gT gR cX fP
set_option maxRecDepth 100000
set_option linter.unusedVariables false
set_option maxHeartbeats 400000 in
theorem pL (g off n c:Nat) (t:TypeId) (l:List UInt8) (v:Nat) (w:World) (hv:v<4294967296) (hrow:BRow w g t l) (hoff:off+4≤l.length) (hn:4≤n):
 Calls Tryz.prog 162 #[.slice (some ⟨g,off,none⟩) n c,.int .u32 v] w fun e w' =>e= .returned (.tuple #[])∧BRow w' g t (iR l off v 4)∧w.grownBy w' (some g)∧w'.heap.size=w.heap.size:=by
 have Hrow:=Lib.hid hrow
 clear hrow
 go_enter Tryz.func162,Tryz.ntmps162
 go_wp2
 go_loopw [4,5] (fun _ i wr=>∃k:Nat,k≤4∧i= .int .i64 k∧BRow wr g t (iR l off v k)∧w.grownBy wr (some g)∧wr.heap.size=w.heap.size) (fun _ i _=>4-(intOf i).toNat)
 case atStart=>exact ⟨0,by omega,rfl,by rw [AR];exact Hrow.out,⟨rfl,rfl,rfl,Nat.le_refl _,fun _ _ _=>rfl⟩,rfl⟩
 case round=>
  obtain ⟨k,hk,rfl,hrow,hgr,hsz⟩:=hrel
  by_cases hlt:k<4
  ·obtain ⟨x,hx,hcx⟩:=hrow.at_ (j:=off+k) (by rw [pM];omega)
   have hfx:=hrow.frozen (off+k)
   have Hr:=Lib.hid hrow
   have Hsz:=Lib.hid hsz
   clear hrow hx hsz
   go_wp2
   go_roundw
   case rel=>
    rw [zL]
    exact ⟨k+1,by omega,by go_num,by rw [sS];exact Hr.out.set_ _ _,aO hgr,by simpa [World.setCell] using Hsz.out⟩
   case measure=>simp [intOf];omega
  ·obtain rfl:k=4:=by omega
   have Hr:=Lib.hid hrow
   have Hsz:=Lib.hid hsz
   clear hrow hsz
   go_wp2
   go_end0
   exact ⟨rfl,Hr.out,hgr,Hsz.out⟩
theorem LU (w:World):(zeroValue 209).run Tryz.prog w= .ok (.agg (fP z8)) w:=by kernel_rfl
theorem EX (n:Nat) (hn:n≤140737488355328) (w:World):(Instr.makeSlice 22 (.int .i64 0) (.int .i64 (n:Int))).run Tryz.prog w= .ok (.slice (some ⟨w.heap.size,0,none⟩) 0 n) (w.alloc (.cells (fP (List.replicate n 0)) 5)):=by
 obtain ⟨i,hi,hz,hs,hb⟩:=info_parts (P:=Tryz.prog) (e:=5) (z:= .int .u8 0) (size:=1) (bytes:=1) (by kernel_rfl)
 have h:=run_make (P:=Tryz.prog) w 22 5 i (.int .u8 0) Tryz.underlying22 hi hz .i64 .i64 0 n (by omega) (by omega) (by rw [hb];omega) (by omega)
 rw [h,hs]
 simp only [Int.toNat_natCast,Nat.mul_one]
 rw [←rZ]
 rfl
theorem EP (w:World) (t:TypeId) (n:Nat) (l:List UInt8) (hl:l.length=n) (hn:n≤9223372036854775807) (base:Nat) (hb:base≤w.heap.size):OwnB (w.alloc (.cells (fP l) t)) base t (.slice (some ⟨w.heap.size,0,none⟩) 0 n) []:=by
 refine ⟨by simp,.inr ⟨w.heap.size,n,fP l,rfl,hb,heap_alloc_new w _,by simp,by unfold maxLen;exact hn,by rw [tN,hl,Nat.mul_one],by simp⟩⟩
set_option maxHeartbeats 1000000 in
theorem uG (v:Value) (l:List UInt8) (S:Nat→Prop) (w:World) (hv:Bytes S w v l) (hl:l.length≤4096):
 Calls Tryz.prog 116 #[v] w fun e w' =>∃v',e= .returned (.tuple #[v',.int .i64 0])∧OwnB w' w.heap.size 5 v' (cX l)∧Below w.heap.size w w' :=by
 have hB:=hv
 obtain ⟨A,c,rfl,hc1,hc2,hcs⟩:=hv
 unfold maxLen at hc2
 have hz:=LU
 go_enter Tryz.func116,Tryz.ntmps116
 go_wp2_with fail
 refine (pL w.heap.size 0 4 8 209 z8 _ _ (by omega) (BRow.new _ _ _) (by rw [zS];omega) (by omega)).mono ?_
 rintro e w1 ⟨rfl,hr1,hg1,hs1⟩
 rw [AQ] at hr1
 have hb1:Below w.heap.size w w1:=Below.grow ((Below.refl _ _).alloc (Nat.le_refl _) _) hg1 (Nat.le_refl _)
 have Hr1:=Lib.hid hr1
 have Hs1:=Lib.hid hs1
 clear hr1 hs1 hg1 hz
 have hA1:=(Hr1.out.bytes (S:=fun _=>True) (n:=8) (c:=8) (by simp [nB]) (by omega) (by simp [maxLen]) trivial).take_ (k:=4) (by omega)
 rw [yE] at hA1
 have hB1:=hB.ext hb1
 go_wp2_with fail
 refine aP (fun _=>True) (by kernel_rfl) (by kernel_rfl) trivial ?_
 refine TkG ?_
 refine lex_e rfl ?_
 go_wp2_with fail
 refine (BA _ (le4 l.length) _ _ hA1.drew).mono ?_
 rintro e w2 ⟨rfl,hb2⟩
 go_wp2_with fail
 refine lex_go trivial ?_
 refine TkE ?_
 refine lex_e rfl ?_
 go_wp2_with fail
 refine (mR _ _ l _ _ (mG (by omega) _) (hB1.drew.ext hb2)).mono ?_
 rintro e w3 ⟨rfl,hb3⟩
 go_wp2_with fail
 refine lex_go trivial ?_
 refine TkE ?_
 have hr3:=(Hr1.out.drew.ext hb2).ext hb3
 have hB3:=(hB1.drew.ext hb2).ext hb3
 have hb13:Below w.heap.size w w3:=Below.ext (Below.ext hb1.drew hb2) hb3
 have Hr3:=Lib.hid hr3
 clear hr3 hA1 hB1 hcs
 refine lex_e rfl ?_
 go_wp2_with fail
 refine (pL w.heap.size 4 4 4 209 _ _ _ (mG (mG (by omega) _) _) Hr3.out (by simp [nB]) (by omega)).mono ?_
 rintro e w4 ⟨rfl,hr4,hg4,hs4⟩
 go_wp2_with fail
 refine lex_go trivial ?_
 refine TkE ?_
 rw [yN] at hr4
 have hb4:Below w.heap.size w w4:=Below.grow hb13 hg4 (Nat.le_refl _)
 have hB4:=hB.ext hb4
 have hH4:=hr4.bytes (S:=fun _=>True) (n:=8) (c:=8) (by simp [nB]) (by omega) (by simp [maxLen]) trivial
 clear hr4 hg4 hs4 hB3
 have hmk:=EX (8+l.length) (by omega)
 have ecast:((8+l.length:Nat):Int)=8+(l.length:Int):=by omega
 rw [ecast] at hmk
 clear ecast
 have hs4:=hb4.size
 have hown4:=EP w4 5 (8+l.length) (List.replicate (8+l.length) 0) (by simp) (by omega) w.heap.size hs4
 have hba:Below w4.heap.size w4 (w4.alloc (.cells (fP (List.replicate (8+l.length) 0)) 5)):=(Below.refl _ _).alloc (Nat.le_refl _) _
 have hH5:=hH4.ext hba
 rw [DM,CC] at hH5
 clear hH4 hB4
 refine bG ?_
 go_wp2_with (first
  |(refine lZ (o:=⟨some 26,_,_,_,_,_⟩) _ _ 22 5 w.heap.size [] (gR l) (some ⟨w.heap.size,0,none⟩) 8 8 (.slice (some ⟨w4.heap.size,0,none⟩) 0 (8+l.length)) 8 rfl rfl Tryz.underlying22 (by kernel_rfl) rfl rfl hown4 hH5 (by simp) (by simp) (by simp;omega) ?_;intro A5 c5 w5 hown5 hgr5 hat5 hc51 hc52;clear hmk)
  |(refine lZ (o:=⟨some 29,_,_,_,_,_⟩) _ _ 22 5 w.heap.size ([]++gR l) l A l.length c (.slice A5 8 c5) (8+l.length) rfl rfl Tryz.underlying22 (by kernel_rfl) rfl rfl hown5 (hB.ext (Below.grow (Below.ext hb4 hba) hgr5 hs4)) (by simp [lA]) (by simp [lA];omega) (Nat.le_trans hs4 (Nat.le_trans hba.size hgr5.size)) ?_;intro A6 c6 w6 hown6 hgr6 hat6 hc61 hc62))
 go_ret2
 have hb5:=Below.grow (Below.ext hb4 hba) hgr5 hs4
 refine ⟨_,rfl,?_,hown5.grow hgr6 hb5 (Nat.le_refl _) hb5.size⟩
 rw [List.nil_append,AG] at hown6
 exact hown6
theorem AF (v:Value) (l:List UInt8) (S:Nat→Prop) (w:World) (hv:Bytes S w v l) (hl:4096<l.length):
 Calls Tryz.prog 116 #[v] w fun e w' =>e= .returned (.tuple #[.slice none 0 0,.int .i64 5])∧w=w' :=by
 obtain ⟨A,c,rfl,hc1,hc2,hcs⟩:=hv
 go_enter Tryz.func116,Tryz.ntmps116
 go_wp2
 go_ret2
 exact ⟨rfl,rfl⟩
end Go.Proofs.YtiblijmngokcgaaGreatDoor
namespace Go.Proofs.YtiblijmngokcgaaGreatDoor
open Go.RowKit
attribute [local irreducible] upd inv le4 iR iX z8 gT gR cX fP num bO
set_option maxRecDepth 100000
set_option linter.unusedVariables false
def IB (v:Value) (k n:Nat):Value:=
 match v with
 | .slice A _ c=> .slice (if c=k+8 then A else Option.map (fun x=>x.add (k+8)) A) n n
 |_=>undef
theorem wZ (A:Option Addr) (m c k n:Nat):IB (.slice A m c) k n= .slice (if c=k+8 then A else Option.map (fun x=>x.add (k+8)) A) n n:=rfl
set_option maxHeartbeats 400000 in
theorem uD (v:Value) (l:List UInt8) (S:Nat→Prop) (w:World) (hv:Bytes S w v l) (hl:4≤l.length):
 Calls Tryz.prog 129 #[v] w fun e w' =>e= .returned (.int .u32 (num (l.take 4):Nat))∧Below w.heap.size w w' :=by
 obtain ⟨A,c,rfl,hc1,hc2,hcs⟩:=hv
 unfold maxLen at hc2
 obtain ⟨b0,o0,x0,rfl,_,_,hx0,hc0⟩:=hcs.byte (k:=0) (by omega)
 obtain ⟨_,_,x1,e1,_,_,hx1,hc1'⟩:=hcs.byte (k:=1) (by omega)
 cases e1
 obtain ⟨_,_,x2,e2,_,_,hx2,hc2'⟩:=hcs.byte (k:=2) (by omega)
 cases e2
 obtain ⟨_,_,x3,e3,_,_,hx3,hc3'⟩:=hcs.byte (k:=3) (by omega)
 cases e3
 have h0:=gI x0
 have h1:=gI x1
 have h2:=gI x2
 have h3:=gI x3
 simp only [Nat.add_zero] at hc0
 have Hx0:=Lib.hid hx0
 have Hx1:=Lib.hid hx1
 have Hx2:=Lib.hid hx2
 have Hx3:=Lib.hid hx3
 clear hx0 hx1 hx2 hx3 hcs
 go_enter Tryz.func129,Tryz.ntmps129
 go_wp2_with fail
 refine aP (fun _=>True) (by kernel_rfl) (by kernel_rfl) trivial ?_
 refine TkG ?_
 refine lex_e rfl ?_
 go_wp2_with fail
 refine lex_go trivial ?_
 refine TkG ?_
 refine lex_e rfl ?_
 go_wp2_with fail
 refine lex_go trivial ?_
 refine TkG ?_
 refine lex_e rfl ?_
 go_wp2_with fail
 refine lex_go trivial ?_
 refine TkG ?_
 refine lex_e rfl ?_
 go_wp2_with fail
 refine lex_go trivial ?_
 refine TkG ?_
 refine bG ?_
 go_wp2_with fail
 go_ret
 refine ⟨jC ?_,(Below.refl _ _).drew⟩
 rw [IW _ _ _ _ h0 h1 h2 h3,LW Hx0.out Hx1.out Hx2.out Hx3.out,ES]
set_option maxHeartbeats 1000000 in
theorem ET (v:Value) (b:List UInt8) (S:Nat→Prop) (w:World) (at_:Int) (hv:Bytes S w v b) (hb:b.length≤140737488355328):
 Calls Tryz.prog 71 #[v,.int .i64 at_] w fun e w' =>∃v',e= .returned (.tuple #[v',.int .i64 ((bO b at_).2.1:Nat),.int .i64 ((bO b at_).2.2:Nat)])∧Bytes S w' v' (bO b at_).1∧Below w.heap.size w w'∧((bO b at_).2.2=0→v' =IB v at_.toNat (num ((b.drop at_.toNat).take 4))):=by
 have hB:=hv
 obtain ⟨A,c,rfl,hc1,hc2,hcs⟩:=hv
 unfold maxLen at hc2
 by_cases h1:at_<0
 ·have d1:decide (at_<0)=true:=by simpa using h1
  have hfin:=Lib.hid (mC (b:=b) (at_:=at_) (.inl h1))
  exact Tzb5
 ·have d1:decide (at_<0)=false:=by simpa using h1
  obtain ⟨k,rfl⟩:=Int.eq_ofNat_of_zero_le (by omega:0≤at_)
  clear d1
  by_cases h2:b.length<k
  ·have d2:decide (b.length<k)=true:=by simpa using h2
   have hfin:=Lib.hid (mC (b:=b) (at_:=k) (.inr (by omega)))
   exact Tzb5
  ·have d2:decide (b.length<k)=false:=by simpa using h2
   by_cases h3:k=b.length
   ·have hfin:=Lib.hid (sX h3)
    have d3:((k:Int)==(b.length:Int))=true:=beq_iff_eq.2 (by omega)
    clear h3
    exact Tzb5
   ·have d3:((k:Int)==(b.length:Int))=false:=by simp;omega
    by_cases h4:b.length-k<8
    ·have hfin:=Lib.hid (nY (b:=b) (k:=k) (by omega) h4)
     have d4:decide ((b.length:Int)-(k:Int)<8)=true:=by simp;omega
     exact Tzb5
    ·have d4:decide ((b.length:Int)-(k:Int)<8)=false:=by simp;omega
     have hk8:k+8≤b.length:=by omega
     go_enter Tryz.func71,Tryz.ntmps71
     go_wp2_with fail
     refine aP (fun _=>True) (by kernel_rfl) (by kernel_rfl) trivial ?_
     refine TkG ?_
     have hH:=hB.part (l:=k) (h:=k+8) (m:=c) (by omega) (by omega) hk8 (Nat.le_refl _)
     rw [if_neg (by omega),Nat.mul_one,show k+8-k=8 by omega] at hH
     rw [show k+8-k=8 by omega]
     generalize (Option.map (fun x=>x.add k) A)=A1 at hH ⊢
     have hR:=hB.drop_ (k:=k+8) hk8 (q:=c=k+8) (by omega)
     generalize hA2:(if c=k+8 then A else Option.map (fun x=>x.add (k+8)) A)=A2 at hR ⊢
     have HA2:=Lib.hid hA2
     clear hA2
     clear d2 d3 d4 hcs
     refine bG ?_
     go_wp2_with fail
     refine (uD _ _ _ _ hH.drew (by simp;omega)).mono ?_
     rintro e w1 ⟨rfl,hb1⟩
     rw [List.take_take,show min 4 8=4 from rfl]
     obtain ⟨n,hn⟩:∃n,num ((b.drop k).take 4)=n:=⟨_,rfl⟩
     have hn32:n<4294967296:=by
      rw [←hn]
      have:=BB ((b.drop k).take 4)
      have e:((b.drop k).take 4).length=4:=by simp;omega
      rw [e] at this
      omega
     rw [hn]
     by_cases h5:4096<n
     ·have hfin:=Lib.hid (qX hk8 (by rw [hn];exact h5))
      exact Tzc4
     ·by_cases h6:b.length-k-8<n
      ·have hfin:=Lib.hid (nX hk8 (by rw [hn];omega) (by rw [hn];exact h6))
       have d6:decide (b.length-(k+8)<n)=true:=by simp;omega
       exact Tzc4
      ·have d6:decide (b.length-(k+8)<n)=false:=by simp;omega
       have Hn:=Lib.hid hn
       clear hn
       have hH1:=(hH.drew.ext hb1).drew
       have hR1:=(hR.drew.ext hb1).drew
       have h52:=hH1.drop_ (k:=4) (by omega) (q:=False) (fun x=>x.elim)
       rw [if_neg (fun x=>x)] at h52
       have h55:=hH1.take_ (k:=4) (by omega)
       rw [List.take_take,show min 4 8=4 from rfl] at h55
       have h59:=hR1.take_ (k:=n) (by omega)
       go_wp2_with fail
       refine aP (fun _=>True) (by kernel_rfl) (by kernel_rfl) trivial ?_
       refine TkG ?_
       refine lex_e rfl ?_
       go_wp2_with fail
       refine (uD _ _ _ _ h52 (by simp;omega)).mono ?_
       rintro e w2 ⟨rfl,hb2⟩
       rw [wR]
       go_wp2_with fail
       refine lex_go trivial ?_
       refine TkE ?_
       refine lex_e rfl ?_
       go_wp2_with fail
       refine (BA _ _ _ _ (h55.ext hb2)).mono ?_
       rintro e w3 ⟨rfl,hb3⟩
       go_wp2_with fail
       refine lex_go trivial ?_
       refine TkE ?_
       refine lex_e rfl ?_
       go_wp2_with fail
       refine (mR _ _ _ _ _ (mG (by omega) _) ((h59.ext hb2).ext hb3)).mono ?_
       rintro e w4 ⟨rfl,hb4⟩
       rw [wL b k n (by omega) Hn.out]
       go_wp2_with fail
       refine lex_go trivial ?_
       refine TkE ?_
       have hbw:Below w.heap.size w w4:=Below.ext (Below.ext (Below.ext (Below.ext (Below.refl _ _).drew hb1).drew hb2) hb3) hb4
       have h59' :=((h59.ext hb2).ext hb3).ext hb4
       by_cases h7:num ((b.drop (k+4)).take 4)=gT ((b.drop (k+8)).take n)
       ·have hfin:=Lib.hid (qD hk8 (by rw [Hn.out];omega) (by rw [Hn.out];omega) (by rw [Hn.out];exact h7))
        rw [h7]
        clear h7 h52 h55 h59
        refine bG ?_
        go_wp2_with fail
        go_ret3
        rw [hfin.out,Hn.out]
        refine ⟨_,?_,h59'.clip (c' :=n) (Nat.le_refl _) (by unfold maxLen;omega),hbw,fun _=> ?_⟩
        rotate_left
        ·rw [Int.toNat_natCast,Hn.out,wZ,HA2.out]
        show Ending.returned (Value.tuple #[.slice A2 n n,.int .i64 ((k:Int)+8+(n:Int)),.int .i64 0])=_
        rw [show (k:Int)+8+(n:Int)=((k+8+n:Nat):Int) by omega]
        rfl
       ·have hfin:=Lib.hid (sV hk8 (by rw [Hn.out];omega) (by rw [Hn.out];omega) (by rw [Hn.out];exact h7))
        have d7:((num ((b.drop (k+4)).take 4):Int) != (gT ((b.drop (k+8)).take n):Int))=true:=by rw [bne_iff_ne];omega
        clear h7 h52 h55 h59
        refine bG ?_
        go_wp2_with fail
        go_ret3
        rw [hfin.out]
        exact ⟨_,rfl,Bytes.nil_ _ _,hbw,fun h=>absurd h (by decide)⟩
theorem tE (v:Value) (b:List UInt8) (S:Nat→Prop) (w:World) (at_:Int) (hv:Bytes S w v b) (hb:b.length≤140737488355328):
 Calls Tryz.prog 71 #[v,.int .i64 at_] w fun e w' =>∃v',e= .returned (.tuple #[v',.int .i64 ((bO b at_).2.1:Nat),.int .i64 ((bO b at_).2.2:Nat)])∧Bytes S w' v' (bO b at_).1∧Below w.heap.size w w' :=
 (ET v b S w at_ hv hb).mono fun _ _ ⟨v',h1,h2,h3,_⟩=>⟨v',h1,h2,h3⟩
end Go.Proofs.YtiblijmngokcgaaGreatDoor
namespace Go.Proofs.YtiblijmngokcgaaGreatDoor
open Go.RowKit
attribute [local irreducible] upd inv le4 iR iX z8 gT gR cX fP num bO
set_option maxRecDepth 100000
set_option linter.unusedVariables false
end Go.Proofs.YtiblijmngokcgaaGreatDoor
