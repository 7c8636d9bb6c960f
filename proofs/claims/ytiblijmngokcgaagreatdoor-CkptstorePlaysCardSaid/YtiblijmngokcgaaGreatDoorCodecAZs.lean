import Derived.Test.YtiblijmngokcgaaGreatDoorKitZs
import Derived.Laws.DeepNot64
import Derived.Test.YtiblijmngokcgaaGreatDoorProg
set_option linter.unusedVariables false
set_option maxHeartbeats 4000000
set_option maxRecDepth 100000
namespace Go.Proofs.YtiblijmngokcgaaGreatDoor
open Go.Proofs.Tryz
open Go.RowKit
def Dp (L:List UInt8):Nat->Nat->Nat->Nat->Except Nat (Nat×Nat)
 |0,_,_,_=> .error 9
 |n+1,i,u,p=>
  match L[p]? with
  |none=> .error 8
  |some c=>if (i=9/\1<c.toNat)∨(0<i/\c.toNat=0) then .error 9 else if c.toNat<128 then .ok (u+c.toNat*2^(7*i),p+1) else Dp L n (i+1) (u+(c.toNat-128)*2^(7*i)) (p+1)
def Vu (L:List UInt8) (p:Nat):Except Nat (Nat×Nat):=Dp L 10 0 0 p
def zd (u:Nat):Int:=if u%2=0 then ((u / 2:Nat):Int) else -((u / 2:Nat):Int)-1
def zz (v:Int):Nat:=if 0<=v then (2*v).toNat else (-2*v-1).toNat
theorem qD {L:List UInt8} {n i u p:Nat} (h:L[p]? =none):Dp L (n+1) i u p= .error 8:=by rw [Dp,h]
theorem kX {L:List UInt8} {n i u p:Nat} {c:UInt8} (h:L[p]? =some c) (hb:(i=9/\1<c.toNat)∨(0<i/\c.toNat=0)):Dp L (n+1) i u p= .error 9:=by rw [Dp,h];exact if_pos hb
theorem jD {L:List UInt8} {n i u p:Nat} {c:UInt8} (h:L[p]? =some c) (hb:¬((i=9/\1<c.toNat)∨(0<i/\c.toNat=0))) (hc:c.toNat<128):Dp L (n+1) i u p= .ok (u+c.toNat*2^(7*i),p+1):=by
 rw [Dp,h];show (if _ then _ else _)=_;rw [if_neg hb,if_pos hc]
theorem oA {L:List UInt8} {n i u p:Nat} {c:UInt8} (h:L[p]? =some c) (hb:¬((i=9/\1<c.toNat)∨(0<i/\c.toNat=0))) (hc:¬c.toNat<128):Dp L (n+1) i u p=Dp L n (i+1) (u+(c.toNat-128)*2^(7*i)) (p+1):=by
 rw [Dp,h];show (if _ then _ else _)=_;rw [if_neg hb,if_neg hc]
theorem oH {i u:Nat} {x:Nat} (hi:i<=9) (hu:u<2^(7*i)) (hx:x<128):u+x*2^(7*i)<2^(7*(i+1)):=by
 have h1:2^(7*(i+1))=128*2^(7*i):=by rw [show 7*(i+1)=7+7*i by omega,Nat.pow_add]
 rw [h1];have:(x+1)*2^(7*i)<=128*2^(7*i):=Nat.mul_le_mul_right _ (by omega);rw [Nat.add_mul] at this;omega
theorem PK {u:Nat} {x:Nat} (hu:u<2^63) (hx:x<=1):u+x*2^63<2^64:=by
 have:x*2^63<=1*2^63:=Nat.mul_le_mul_right _ hx;omega
theorem iU {i u:Nat} {c:Nat} (hi:i<=9) (hu:u<2^(7*i)) (hc:c<256) (h9:¬(i=9/\1<c)):u+(c%128)*2^(7*i)<18446744073709551616:=by
 by_cases h:i=9
 ·subst h;exact PK hu (by omega)
 ·have h1:=oH hi hu (x:=c%128) (by omega);have h2:2^(7*(i+1))<=2^63:=Nat.pow_le_pow_right (by omega) (by omega);have:(2:Nat)^63=9223372036854775808:=by decide
  omega
theorem QZ {i u x:Nat} (hu:u<2^i):u ||| (x*2^i)=u+x*2^i:=by
 have:=Nat.two_pow_add_eq_or_of_lt hu x;rw [Nat.or_comm,Nat.mul_comm x,<-this,Nat.add_comm]
theorem SJ (c:Nat):c &&& 127=c%128:=Nat.and_two_pow_sub_one_eq_mod c 7
theorem aU {a b:World} {row:Option Nat} (h:a.grownBy b row):a.grownBy b.drew row:=⟨h.os,h.tape,h.output,h.size,h.block⟩
theorem jQ {i u x:Nat} (hi:i<=9) (hu:u<2^(7*i)) (hx:x<256) (h9:¬(i=9/\1<x)) (K:Int) (hK:K=((2^(7*i):Nat):Int)):
 bits BinOp.or IntKind.u64 (u:Int) (IntKind.u64.wrap (IntKind.u64.wrap (bits BinOp.and IntKind.u8 (x:Int) 127)*K))=((u+(x%128)*2^(7*i):Nat):Int):=by
 have h1:bits BinOp.and IntKind.u8 (x:Int) 127=((x%128:Nat):Int):=by
  rw [show (127:Int)=((127:Nat):Int) from rfl,u8_and_nat x 127 hx (by omega),SJ]
 have af:=iU hi hu hx h9;have h2:IntKind.u64.wrap ((x%128:Nat):Int)=((x%128:Nat):Int):=by
  rw [IntKind.wrap_u64];omega
 have h3:IntKind.u64.wrap (((x%128:Nat):Int)*((2^(7*i):Nat):Int))=(((x%128)*2^(7*i):Nat):Int):=by
  rw [IntKind.wrap_u64,<-Int.natCast_mul];omega
 rw [h1,h2,hK,h3,u64_or_nat u _ (by omega) (by omega),QZ hu]
theorem MG (a:Nat) (ha:a<9223372036854775808):bits BinOp.xor IntKind.i64 (a:Int) (-1)= -(a:Int)-1:=by
 have h:=i64_not a ha;have hc:bits BinOp.xor IntKind.i64 (a:Int) (-1)=bits BinOp.xor IntKind.i64 (-1) (a:Int):=by
  unfold bits;simp [BitVec.xor_comm]
 rw [hc,h];omega
theorem yU (t:Nat) (ht:t<18446744073709551616):bits BinOp.xor IntKind.i64 (wrap64 ((t:Int) / 2)) (wrap64 (-wrap64 (bits BinOp.and IntKind.u64 (t:Int) 1)))=zd t:=by
 have h1:bits BinOp.and IntKind.u64 (t:Int) 1=((t%2:Nat):Int):=by
  rw [show (1:Int)=((1:Nat):Int) from rfl,u64_and_nat t 1 ht (by omega),Nat.and_one_is_mod]
 have h2:wrap64 ((t:Int) / 2)=((t / 2:Nat):Int):=by
  rw [IntWalk.wrap64_in _ ⟨by omega,by omega⟩];omega
 have h3:wrap64 (((t%2:Nat):Int))=((t%2:Nat):Int):=IntWalk.wrap64_in _ ⟨by omega,by omega⟩;have h4:wrap64 (-((t%2:Nat):Int))= -((t%2:Nat):Int):=IntWalk.wrap64_in _ ⟨by omega,by omega⟩;rw [h1,h2,h3,h4];unfold zd;by_cases h:t%2=0
 ·rw [if_pos h,h];have:bits BinOp.xor IntKind.i64 ((t / 2:Nat):Int) (-((0:Nat):Int))=((t / 2:Nat):Int):=by
   show IntKind.i64.wrap ((BitVec.ofInt 64 ((t / 2:Nat):Int) ^^^ BitVec.ofInt 64 (-((0:Nat):Int))).toNat:Int)=_;have h5:BitVec.ofInt 64 (-((0:Nat):Int))=0#64:=by decide
   rw [h5,BitVec.xor_zero,ofInt_u64 (t / 2) (by omega)];simp [IntKind.wrap,IntKind.bits,IntKind.signed];omega
  exact this
 ·rw [if_neg h,show t%2=1 by omega];exact MG (t / 2) (by omega)
def dS (u:Nat):List UInt8:=if h:u<128 then [UInt8.ofNat u] else UInt8.ofNat (u%128+128)::dS (u / 128)
termination_by u
def cP (v:Int):List UInt8:=dS (zz v)
def aI (l:List Int):List UInt8:=l.flatMap cP
theorem mC {u:Nat} (h:u<128):dS u=[UInt8.ofNat u]:=by rw [dS,dif_pos h]
theorem nS {u:Nat} (h:¬u<128):dS u=UInt8.ofNat (u%128+128)::dS (u / 128):=by rw [dS,dif_neg h]
def om (B:Nat) (w:World) (r:Nat) (L:List UInt8) (p:Nat):Prop:=B<=r/\∃(A:Option Addr) (c:Nat),w.heap[r]? =some (.cells #[.slice A L.length c,.int .i64 (p:Int)] 224 (0,0))/\Bytes (·<B) w (.slice A L.length c) L/\p<=L.length/\L.length<=1000000000
theorem om.kept {B:Nat} {w w' :World} {r p:Nat} {L:List UInt8} (h:om B w r L p) (hk:∀b,b<w.heap.size->(b<B∨b=r)->w'.heap[b]? =w.heap[b]?):om B w' r L p:=by
 obtain ⟨hB,A,c,h1,h2,h3,h4⟩:=h;exact ⟨hB,A,c,(hk r (Array.getElem?_eq_some_iff.1 h1).1 (.inr rfl)).trans h1,h2.keep (λb hb hs=>hk b hb (.inl hs)),h3,h4⟩
theorem om.lt {B:Nat} {w:World} {r p:Nat} {L:List UInt8} (h:om B w r L p):r<w.heap.size:=by
 obtain ⟨_,A,c,h1,_⟩:=h;exact (Array.getElem?_eq_some_iff.1 h1).1
theorem om.ext {B:Nat} {w w' :World} {r p:Nat} {L:List UInt8} (h:om B w r L p) (hb:Below w.heap.size w w'):om B w' r L p:=h.kept λb gv _=>hb.block b gv
theorem om.grown {B:Nat} {w w' :World} {r p:Nat} {L:List UInt8} {row:Option Nat} (h:om B w r L p) (hg:w.grownBy w' row) (hr:∀m,row=some m->B<=m/\m≠r):om B w' r L p:=
 h.kept λb gv hs=>hg.block b gv (λe=>by
  have:=hr b e.symm;rcases hs with hs|hs
  ·omega
  ·exact this.2 hs)
theorem om.drew {B:Nat} {w:World} {r p:Nat} {L:List UInt8} (h:om B w r L p):om B w.drew r L p:=h
def qM (k:Nat):Value:= .iface 221 (.agg #[.int .i64 (k:Int)])
def mK (k:Nat):List PanicEntry:=[{v:=qM k,recovered:=false}]
def aZ {α:Type} (B:Nat) (r:Nat) (L:List UInt8) (w:World) (x:Except Nat (α×Nat)) (V:α->World->Value->Prop) (e:Ending) (w' :World):Prop:=
 match x with
 | .ok (a,q)=>(∃v,e= .returned v/\V a w' v)/\om B w' r L q/\w.grownBy w' (some r)
 | .error k=>e= .panicked (mK k)/\w.grownBy w' (some r)
def aQ (L:List UInt8) (p:Nat):Except Nat (Int×Nat):=match Vu L p with| .ok (u,q)=> .ok (zd u,q)| .error k=> .error k
theorem EF {a b:Int} (h:a=b):Value.int .i64 b=Value.int .i64 a:=by rw [h]
theorem uR {a b:Int} {k:IntKind} (h:a=b):Value.int k a=Value.int k b:=by rw [h]
theorem dH (B r p:Nat) (L:List UInt8) (w:World) (h:om B w r L p):
 Calls Tryz.prog 138 #[.pointer (some ⟨r,0,none⟩)] w λe w' =>aZ B r L w (aQ L p) (λa _ v=>v= .int .i64 a) e w' :=by
 go_enter func138,ntmps138;go_wp2;go_loopw [3,4] (λt s wr=>∃(i u q:Nat),s= .int .i64 i/\t= .int .u64 u/\i<=9/\u<2^(7*i)/\om B wr r L q/\w.grownBy wr (some r)/\Dp L (10-i) i u q=Vu L p) (λ_ s _=>10-(intOf s).toNat);case atStart=>exact ⟨0,0,p,rfl,rfl,by omega,by simp,h,⟨rfl,rfl,rfl,Nat.le_refl _,λ_ _ _=>rfl⟩,rfl⟩
 case round=>
  obtain ⟨i,u,q,rfl,rfl,hi,hu,hR,hg,he⟩:=hrel;have Yi :=hR;obtain ⟨hB,A,c,az,dy,hq,hL⟩:=hR;have h0:=bn az;have h1:=fi az;have HE:=aA he;have I9:=aA az;clear he az h;by_cases af:q<L.length
  ·have dq:((q:Int)==(L.length:Int))=false:=by simp;omega
   have Eo:=dy;obtain ⟨A',c',e,_,_,fq⟩:=dy;cases e;obtain ⟨b,off,x,rfl,hbB,vg,hx,kn⟩:=fq.byte af;have hf:wr.frozen? ⟨r,1,none⟩=false:=frozen_of_row _ _ _ _ _ I9.out
   have Ik:=fK x;have ie:wr.grownBy (wr.setCell ⟨r,1,none⟩ (.int .i64 ((q:Int)+1))) (some r):=aL ⟨rfl,rfl,rfl,Nat.le_refl _,λ_ _ _=>rfl⟩;have sf:om B (wr.setCell ⟨r,1,none⟩ (.int .i64 ((q:Int)+1))) r L (q+1):=⟨hB,some ⟨b,off,none⟩,c,heap_setCell_same _ r 1 _ _ _ I9.out,Eo.keep (λb' gv hs=>ie.block b' gv (by intro e;cases e;omega)),by omega,hL⟩
   have da:w.grownBy (wr.setCell ⟨r,1,none⟩ (.int .i64 ((q:Int)+1))) (some r):=⟨ie.os.trans hg.os,ie.tape.trans hg.tape,ie.output.trans hg.output,Nat.le_trans hg.size ie.size,λi hi fb=>(ie.block i (Nat.lt_of_lt_of_le hi hg.size) fb).trans (hg.block i hi fb)⟩
   have HX:=aA hx;have YR:=aA sf;have Mn:=aA da;clear hx fq sf da ie;go_wp2_with fail;refine Tyad ?_;go_wp2_with fail;refine Tyaj ?_;go_wp2_with fail;refine Tyam ?_;go_wp2_with fail;go_wp2_with fail;refine Tyad ?_;go_wp2_with fail;refine Tyaj ?_;go_wp2_with fail;refine Tyaj ?_;go_wp2_with fail;refine Tyam ?_;by_cases h9:i=9
   ·by_cases ev:1<x.toNat
    ·have d9:((i:Int)==9)=true:=by simp;omega
     have d1:decide ((1:Int)<(x.toNat:Int))=true:=by simp;omega
     exact Tzbz
    ·by_cases fa:x.toNat=0
     ·have d9:((i:Int)==9)=true:=by simp;omega
      have d1:decide ((1:Int)<(x.toNat:Int))=false:=by simp;omega
      exact Tze5
     ·have d9:((i:Int)==9)=true:=by simp;omega
      have d1:decide ((1:Int)<(x.toNat:Int))=false:=by simp;omega
      have d0:decide ((0:Int)<(i:Int))=true:=by simp;omega
      have dx:((x.toNat:Int)==0)=false:=by simp;omega
      have dc:decide ((x.toNat:Int)<128)=true:=by simp;omega
      have ph:=jD (n:=9-i) (u:=u) HX.out (show¬((i=9/\1<x.toNat)∨(0<i/\x.toNat=0)) by omega) (by omega);rw [show 9-i+1=10-i by omega,HE.out] at ph;have YJ:=aA ph;clear ph;go_wp2;have hv:zd (u+x.toNat*2^(7*i))=_:=(yU _ (by have:=iU (c:=x.toNat) hi hu Ik (by omega);rw [Nat.mod_eq_of_lt (by omega)] at this;exact this)).symm;have ho:=jQ hi hu Ik (by omega) 9223372036854775808 (by rw [h9];rfl);rw [Nat.mod_eq_of_lt (by omega:x.toNat<128)] at ho;rw [<-ho] at hv;go_ret;unfold aZ aQ;rw [YJ.out];exact ⟨⟨_,rfl,EF hv⟩,(YR.out).drew.drew,aU (aU Mn.out)⟩
   ·by_cases h0:0<i
    ·by_cases fa:x.toNat=0
     ·have d9:((i:Int)==9)=false:=by simp;omega
      exact Tze5
     ·by_cases hc:x.toNat<128
      ·have d9:((i:Int)==9)=false:=by simp;omega
       have d0:decide ((0:Int)<(i:Int))=true:=by simp;omega
       have dx:((x.toNat:Int)==0)=false:=by simp;omega
       exact Tzbn
      ·have d9:((i:Int)==9)=false:=by simp;omega
       have d0:decide ((0:Int)<(i:Int))=true:=by simp;omega
       have dx:((x.toNat:Int)==0)=false:=by simp;omega
       exact Tzbp
    ·by_cases hc:x.toNat<128
     ·have d9:((i:Int)==9)=false:=by simp;omega
      have d0:decide ((0:Int)<(i:Int))=false:=by simp;omega
      exact Tzbn
     ·have d9:((i:Int)==9)=false:=by simp;omega
      have d0:decide ((0:Int)<(i:Int))=false:=by simp;omega
      exact Tzbp
  ·obtain rfl:q=L.length:=by omega
   have dq:((L.length:Int)==(L.length:Int))=true:=by simp
   have Bf:=qD (n:=9-i) (i:=i) (u:=u) (p:=L.length) (L:=L) (by simp);rw [show 9-i+1=10-i by omega,HE.out] at Bf;have Hnone:=aA Bf;clear Bf;go_wp2_with fail;refine Tyad ?_;go_wp2_with fail;refine Tyaj ?_;go_wp2_with fail;refine Tyam ?_;go_wp2_with fail;go_wp2;refine ⟨rfl,?_⟩;unfold aZ aQ;rw [Hnone.out];exact ⟨rfl,⟨hg.os,hg.tape,hg.output,hg.size,hg.block⟩⟩
theorem qA (v:Value) (w:World):(Instr.typeAssert (.iface 221 v) 20 221 true).run Tryz.prog w= .ok (.tuple #[v,.bool true]) w:=by
 simp [Instr.typeAssert,run_underlying underlying221]
theorem CJ (p q s:Addr) (w:World):CallsD Tryz.prog 170 #[.pointer (some p),.pointer (some q),.pointer (some s)] .returning w λe u' w' =>e= .returned (.tuple #[])/\u' = .returning/\w' =w:=by
 refine callsD_of_wpS func170 rfl λc₀ cs hu=> ?_
 apply wpS_seq;apply wpS_region;generalize hQ:Exit.thenS _ _=Q0;simp [wpOpsS,go_sem,recoverD,hu,ntmps170,Array.replicate];subst hQ;refine wpS_of_wp ?_;go_wp2;cases c₀
 simp_all [bodyPostS,results,Tryz.results170]
theorem tQ (k b6 b7 b8:Nat) (x6 x7 x8:Int) (w w0:World) (B:Nat) (h6:w.heap[b6]? =some (.cells #[.int .i64 x6] 3 (0,0))) (h7:w.heap[b7]? =some (.cells #[.int .i64 x7] 3 (0,0))) (h8:w.heap[b8]? =some (.cells #[.int .i64 x8] 37 (0,0))) (fb:b6≠b7/\b6≠b8/\b7≠b8) (hB:B<=b6/\B<=b7/\B<=b8) (hw:Below B w0 w):
 CallsD Tryz.prog 170 #[.pointer (some ⟨b6,0,none⟩),.pointer (some ⟨b7,0,none⟩),.pointer (some ⟨b8,0,none⟩)] (.panicking (mK k)) w λe u' w' =>e= .returned (.tuple #[])/\u' = .panicking [{v:=qM k,recovered:=true}]/\w'.cell? ⟨b6,0,none⟩=some (.int .i64 0)/\w'.cell? ⟨b7,0,none⟩=some (.int .i64 0)/\w'.cell? ⟨b8,0,none⟩=some (.int .i64 (k:Int))/\Below B w0 w' :=by
 have c6:=bn h6;have c7:=bn h7;have c8:=bn h8;have f6:=frozen_of_row _ _ 0 _ _ h6;have f7:=frozen_of_row _ _ 0 _ _ h7;have f8:=frozen_of_row _ _ 0 _ _ h8;have l6:=(Array.getElem?_eq_some_iff.1 h6).1;have l7:=(Array.getElem?_eq_some_iff.1 h7).1;have l8:=(Array.getElem?_eq_some_iff.1 h8).1;obtain ⟨n1,n2,n3⟩:=fb;have n1' :=n1.symm;have n2' :=n2.symm;have n3' :=n3.symm;have H6:=aA h6;have H7:=aA h7;have H8:=aA h8;clear h6 h7 h8;unfold mK;refine callsD_of_wpS func170 rfl λc₀ cs hu=> ?_
 apply wpS_seq;apply wpS_region;generalize hQ:Exit.thenS _ _=Q0;simp [wpOpsS,go_sem,recoverD,hu,ntmps170,Array.replicate];subst hQ;refine wpS_of_wp ?_;unfold qM;have hta:=qA (.agg #[.int .i64 (k:Int)]);go_wp2;refine ⟨rfl,_,rfl,_,results_none rfl _ _ _,rfl,rfl,?_,?_,?_,?_⟩
 ·go_simp
 ·go_simp
 ·have r1:((w.setCell ⟨b6,0,none⟩ (.int .i64 0)).setCell ⟨b7,0,none⟩ (.int .i64 0)).heap[b8]? =some (.cells #[.int .i64 x8] 37 (0,0)):=by
   rw [heap_setCell_other _ _ _ _ n3',heap_setCell_other _ _ _ _ n2'];exact H8.out
  have r2:(((w.setCell ⟨b6,0,none⟩ (.int .i64 0)).setCell ⟨b7,0,none⟩ (.int .i64 0)).setCell ⟨b8,0,none⟩ (.int .i64 9)).heap[b8]? =some (.cells #[.int .i64 9] 37 (0,0)):=heap_setCell_same _ b8 0 _ _ _ r1
  have r3:((((w.setCell ⟨b6,0,none⟩ (.int .i64 0)).setCell ⟨b7,0,none⟩ (.int .i64 0)).setCell ⟨b8,0,none⟩ (.int .i64 9)).setCell ⟨b8,0,none⟩ (.int .i64 (k:Int))).heap[b8]? =some (.cells #[.int .i64 (k:Int)] 37 (0,0)):=heap_setCell_same _ b8 0 _ _ _ r2
  have r4:=cell_of_row _ _ 0 _ _ _ r3;go_simp
 ·exact Tzd3
def eK {α:Type} (f:List UInt8->Nat->Except Nat (α×Nat)) (L:List UInt8) (k:Int):Except Nat (α×Nat):=if k<0∨(L.length:Int)<k then .error 3 else f L k.toNat
def mE {α:Type} (f:α->Value) (z:Value):Except Nat (α×Nat)->Value
 | .ok (v,q)=> .tuple #[f v,.int .i64 (q:Int),.int .i64 0]
 | .error x=> .tuple #[z,.int .i64 0,.int .i64 (x:Int)]
def iv (v:Int):Value:= .int .i64 v
theorem BI (w:World) (o1 o2 o3:Obj):∃W,W=((w.alloc o1).alloc o2).alloc o3/\Below w.heap.size w W/\W.heap.size=w.heap.size+1+1+1/\W.heap[w.heap.size]? =some o1/\W.heap[w.heap.size+1]? =some o2/\W.heap[w.heap.size+1+1]? =some o3:=by
 have e1:=heap_alloc_new w o1;have e2:=heap_alloc_new (w.alloc o1) o2;have e3:=heap_alloc_new ((w.alloc o1).alloc o2) o3;simp only [World.size_alloc] at e2 e3;have n:=λ(w:World) (o:Obj)=>(Below.refl w.heap.size w).alloc (Nat.le_refl _) o
 refine ⟨_,rfl,((n w o1).alloc (by simp) o2).alloc (by simp;omega) o3,by simp,?_,?_,e3⟩
 ·exact ((n _ o3).block _ (by simp;omega)).trans (((n _ o2).block _ (by simp)).trans e1)
 ·exact ((n _ o3).block _ (by simp)).trans e2
theorem GP (A:Option Addr) (n c:Nat) (k:Int) (L:List UInt8) (S:Nat->Prop) (w:World) (hb:Bytes S w (.slice A n c) L) (hn:n<=100000000):
 Calls Tryz.prog 137 #[.slice A n c,.int .i64 k,.func (.func 138) #[] #[]] w λe w' =>e= .returned (mE iv (iv 0) (eK aQ L k))/\Below w.heap.size w w' :=by
 have hmf:∀(fn:Fn) (first cap:Array Value) (w:World),(Instr.makeFunc fn first cap).run Tryz.prog w= .ok (.func fn first cap) w:=λ_ _ _ _=>rfl
 have yg:=hb.len;obtain ⟨W,hW,aw,fo,r6,r7,r8⟩:=BI w (.cells #[.int .i64 0] 3) (.cells #[.int .i64 0] 3) (.cells #[.int .i64 0] 37);by_cases hk:k<0∨(L.length:Int)<k
 ·have rz:=tQ 3 w.heap.size (w.heap.size+1) (w.heap.size+1+1) _ _ _ W w w.heap.size r6 r7 r8 ⟨by omega,by omega,by omega⟩ ⟨by omega,by omega,by omega⟩ aw;have xw:=aA rz;clear rz r6 r7 r8;have a9:eK aQ L k= .error 3:=if_pos hk;rw [a9];by_cases h0:k<0
  ·have d0:decide (k<0)=true:=by simpa using h0
   exact Tzdn
  ·have d0:decide (k<0)=false:=by simpa using h0
   have d1:decide ((n:Int)<k)=true:=by simp;omega
   exact Tzdn
 ·obtain ⟨p,rfl⟩:=Int.eq_ofNat_of_zero_le (show 0<=k by omega);have hp:p<=n:=by omega
  have a9:eK aQ L (p:Int)=aQ L p:=(if_neg hk).trans (by rw [Int.toNat_natCast]);rw [a9];clear a9 hk;have d0:decide ((p:Int)<0)=false:=by simp
  have d1:decide ((n:Int)<(p:Int))=false:=by simp;omega
  have d2:decide (n<p)=false:=by simp;omega
  obtain ⟨W2,fv⟩:=eX (W.alloc (.cells #[.slice A n c,.int .i64 (p:Int)] 224));have ar:Below W.heap.size W W2:=by rw [fv];exact (Below.refl _ _).alloc (Nat.le_refl _) _
  have r9:W2.heap[W.heap.size]? =some (.cells #[.slice A n c,.int .i64 (p:Int)] 224 (0,0)):=by rw [fv];exact heap_alloc_new _ _
  have Kq:om w.heap.size W2 W.heap.size L p:=by
   exact Tzdt
  go_enter_defers func137,ntmps137;go_wp2_with fail;rw [<-hW,<-fo,<-fv];refine (dH w.heap.size W.heap.size p L W2 Kq).mono ?_;intro e w3 h3;have s2:=ar.size;have Aj:w.heap.size+1+1<W.heap.size:=by omega
  clear fo hW fv;have Ll:W.heap.size<W2.heap.size:=Kq.lt;unfold aZ at h3;cases hx:aQ L p with
  |error x=>
   rw [hx] at h3;obtain ⟨rfl,ee⟩:=h3;have k6:=(ee.block w.heap.size (by omega) (by simp;omega)).trans ((ar.block _ (by omega)).trans r6);have k7:=(ee.block (w.heap.size+1) (by omega) (by simp;omega)).trans ((ar.block _ (by omega)).trans r7);have k8:=(ee.block (w.heap.size+1+1) (by omega) (by simp;omega)).trans ((ar.block _ (by omega)).trans r8);have rz:=tQ x w.heap.size (w.heap.size+1) (w.heap.size+1+1) _ _ _ w3 w w.heap.size k6 k7 k8 ⟨by omega,by omega,by omega⟩ ⟨by omega,by omega,by omega⟩ (Below.grow (Below.ext aw ar) ee (by omega));have xw:=aA rz;clear rz r6 r7 r8 k6 k7 k8 Kq r9;go_wp2;refine leaves_cons (f:=170) (args:= #[.pointer (some ⟨w.heap.size,0,none⟩),.pointer (some ⟨w.heap.size+1,0,none⟩),.pointer (some ⟨w.heap.size+1+1,0,none⟩)]) (by simp [mK]) (by simp [go_sem]) ?_;refine xw.out.mono ?_;rintro e u' Jz ⟨rfl,rfl,g6,g7,g8,fe⟩;simp [Leaves,settle,results,Tryz.results137,go_sem,g6,g7,g8];exact ⟨by rw [hx];rfl,fe⟩
  |ok vq=>
   obtain ⟨v,q⟩:=vq;rw [hx] at h3;obtain ⟨⟨_,rfl,rfl⟩,Hk,ee⟩:=h3;have k6:=(ee.block w.heap.size (by omega) (by simp;omega)).trans ((ar.block _ (by omega)).trans r6);have k7:=(ee.block (w.heap.size+1) (by omega) (by simp;omega)).trans ((ar.block _ (by omega)).trans r7);have k8:=(ee.block (w.heap.size+1+1) (by omega) (by simp;omega)).trans ((ar.block _ (by omega)).trans r8);have c6:=bn k6;have c7:=bn k7;have c8:=bn k8;have f6:=frozen_of_row _ _ 0 _ _ k6;have f7:=frozen_of_row _ _ 0 _ _ k7;have f8:=frozen_of_row _ _ 0 _ _ k8;have b3:=Below.grow (Below.ext aw ar) ee (by omega);have c9:w3.cell? ⟨W.heap.size,1,none⟩=some (.int .i64 (q:Int)):=by
    obtain ⟨_,A',c',h1,_⟩:=Hk;rw [cell_of_row _ _ _ _ _ _ h1];rfl
   clear r6 r7 r8 k6 k7 k8 Kq r9;have n9:W.heap.size≠w.heap.size:=by omega
   have VZ:∀w:World,(isAgg 3).run Tryz.prog w= .ok false w:=λw=>by simp [isAgg,run_underlying underlying3]
   go_wp2_with fail;have e6:(w3.setCell ⟨w.heap.size,0,none⟩ (.int .i64 v)).cell? ⟨w.heap.size,0,none⟩=some (.int .i64 v):=by go_simp
   have e9:(w3.setCell ⟨w.heap.size,0,none⟩ (.int .i64 v)).cell? ⟨W.heap.size,1,none⟩=some (.int .i64 (q:Int)):=by go_simp
   have f6' :(w3.setCell ⟨w.heap.size,0,none⟩ (.int .i64 v)).frozen? ⟨w.heap.size,0,none⟩=false:=by go_simp
   have bS:=b3.setCell (p:=⟨w.heap.size,0,none⟩) (Nat.le_refl _) (.int .i64 v);have e7:(w3.setCell ⟨w.heap.size,0,none⟩ (.int .i64 v)).cell? ⟨w.heap.size+1,0,none⟩=some (.int .i64 0):=by go_simp
   have e8:(w3.setCell ⟨w.heap.size,0,none⟩ (.int .i64 v)).cell? ⟨w.heap.size+1+1,0,none⟩=some (.int .i64 0):=by go_simp
   have f7' :(w3.setCell ⟨w.heap.size,0,none⟩ (.int .i64 v)).frozen? ⟨w.heap.size+1,0,none⟩=false:=by go_simp
   have f8' :(w3.setCell ⟨w.heap.size,0,none⟩ (.int .i64 v)).frozen? ⟨w.heap.size+1+1,0,none⟩=false:=by go_simp
   clear c6 c7 c8 f6 f7 f8 c9 b3;generalize w3.setCell ⟨w.heap.size,0,none⟩ (.int .i64 v)=W4 at*;refine aH (λw' =>w'.cell? ⟨w.heap.size,0,none⟩=some (.int .i64 v)/\w'.cell? ⟨W.heap.size,1,none⟩=some (.int .i64 (q:Int))) (by kernel_rfl) (by kernel_rfl) ⟨e6,e9⟩ ?_;refine TkA ?_;refine lL (λw' ah =>aB (VZ _) ah.1) ?_;refine Tyac ?_;refine lL (λw' ah =>aB (VZ _) ah.2) ?_;refine Tyai ?_;go_wp2_with fail;go_wp2_with fail;refine Tybu ?_;refine Tyah ?_;go_wp2_with fail;go_wp2_with fail;refine Tybu ?_;refine Tyah ?_;go_wp2_with fail;go_wp2_with fail;refine Tybu ?_;refine Tyan ?_;go_wp2_with fail;have g6:(((W4.setCell ⟨w.heap.size,0,none⟩ (.int .i64 v)).setCell ⟨w.heap.size+1,0,none⟩ (.int .i64 (q:Int))).setCell ⟨w.heap.size+1+1,0,none⟩ (.int .i64 0)).drew.cell? ⟨w.heap.size,0,none⟩=some (.int .i64 v):=by go_simp
   have g7:(((W4.setCell ⟨w.heap.size,0,none⟩ (.int .i64 v)).setCell ⟨w.heap.size+1,0,none⟩ (.int .i64 (q:Int))).setCell ⟨w.heap.size+1+1,0,none⟩ (.int .i64 0)).drew.cell? ⟨w.heap.size+1,0,none⟩=some (.int .i64 (q:Int)):=by go_simp
   have g8:(((W4.setCell ⟨w.heap.size,0,none⟩ (.int .i64 v)).setCell ⟨w.heap.size+1,0,none⟩ (.int .i64 (q:Int))).setCell ⟨w.heap.size+1+1,0,none⟩ (.int .i64 0)).drew.cell? ⟨w.heap.size+1+1,0,none⟩=some (.int .i64 0):=by go_simp
   have b7:=(((bS.setCell (p:=⟨w.heap.size,0,none⟩) (Nat.le_refl _) (.int .i64 v)).setCell (p:=⟨w.heap.size+1,0,none⟩) (show _<=w.heap.size+1 by omega) (.int .i64 (q:Int))).setCell (p:=⟨w.heap.size+1+1,0,none⟩) (show _<=w.heap.size+1+1 by omega) (.int .i64 0)).drew;generalize (((W4.setCell ⟨w.heap.size,0,none⟩ (.int .i64 v)).setCell ⟨w.heap.size+1,0,none⟩ (.int .i64 (q:Int))).setCell ⟨w.heap.size+1+1,0,none⟩ (.int .i64 0)).drew=W7 at*;refine Tyaw ?_;refine (CJ _ _ _ W7).mono ?_;rintro e u' Jz ⟨rfl,rfl,rfl⟩;simp [Leaves,settle,results,Tryz.results137,go_sem,g6,g7,g8];exact ⟨by rw [hx];rfl,b7⟩
theorem BC (A:Option Addr) (n c:Nat) (k:Int) (L:List UInt8) (S:Nat->Prop) (w:World) (hb:Bytes S w (.slice A n c) L) (hn:n<=100000000):
 Calls Tryz.prog 81 #[.slice A n c,.int .i64 k] w λe w' =>e= .returned (mE iv (iv 0) (eK aQ L k))/\Below w.heap.size w w' :=by
 obtain ⟨v,q,x,hv⟩:∃v q x,mE iv (iv 0) (eK aQ L k)= .tuple #[.int .i64 v,.int .i64 q,.int .i64 x]:=by
  cases eK aQ L k with
  |ok p=>exact ⟨p.1,p.2,0,rfl⟩
  |error x=>exact ⟨0,0,x,rfl⟩
 have h:=GP A n c k L S w hb hn;rw [hv] at h ⊢;go_enter func81,ntmps81;go_wp2_with fail;refine (h).mono ?_;rintro e w1 ⟨rfl,al⟩;go_wp2;refine Tya8 ?_;exact ⟨rfl,al⟩
def RS (B:Nat) (w:World) (r:Nat) (L:List UInt8):Except Nat Nat->Prop
 | .ok p=>B<=r/\∃(A:Option Addr) (c:Nat),w.heap[r]? =some (.cells #[.slice A L.length c,.int .i64 (p:Int),.int .i64 0] 187 (0,0))/\Bytes (·<B) w (.slice A L.length c) L/\p<=L.length/\L.length<=1000000000
 | .error k=>k≠0/\∃v p,w.heap[r]? =some (.cells #[v,p,.int .i64 (k:Int)] 187 (0,0))
theorem RS.lt {B:Nat} {w:World} {r:Nat} {L:List UInt8} {s:Except Nat Nat} (h:RS B w r L s):r<w.heap.size:=by
 cases s with
 |ok p=>obtain ⟨_,A,c,h1,_⟩:=h;exact (Array.getElem?_eq_some_iff.1 h1).1
 |error k=>obtain ⟨_,v,p,h1⟩:=h;exact (Array.getElem?_eq_some_iff.1 h1).1
theorem RS.kept {B:Nat} {w w' :World} {r:Nat} {L:List UInt8} {s:Except Nat Nat} (h:RS B w r L s) (hk:∀b,b<w.heap.size->(b<B∨b=r)->w'.heap[b]? =w.heap[b]?):RS B w' r L s:=by
 have af:=h.lt;cases s with
 |ok p=>
  obtain ⟨hB,A,c,h1,h2,h3,h4⟩:=h;exact ⟨hB,A,c,(hk r af (.inr rfl)).trans h1,h2.keep (λb hb hs=>hk b hb (.inl hs)),h3,h4⟩
 |error k=>
  obtain ⟨h0,v,p,h1⟩:=h;exact ⟨h0,v,p,(hk r af (.inr rfl)).trans h1⟩
theorem RS.ext {B:Nat} {w w' :World} {r:Nat} {L:List UInt8} {s:Except Nat Nat} (h:RS B w r L s) (hb:Below w.heap.size w w'):RS B w' r L s:=h.kept λb gv _=>hb.block b gv
theorem RS.grown {B:Nat} {w w' :World} {r:Nat} {L:List UInt8} {s:Except Nat Nat} {row:Option Nat} (h:RS B w r L s) (hg:w.grownBy w' row) (hr:∀m,row=some m->B<=m/\m≠r):RS B w' r L s:=
 h.kept λb gv hs=>hg.block b gv (λe=>by
  have:=hr b e.symm;rcases hs with hs|hs
  ·omega
  ·exact this.2 hs)
theorem RS.drew {B:Nat} {w:World} {r:Nat} {L:List UInt8} {s:Except Nat Nat} (h:RS B w r L s):RS B w.drew r L s:=by cases s<;>exact h
def Zf (L:List UInt8):Except Nat Nat->Int×Except Nat Nat
 | .error k=>(0,.error k)
 | .ok p=>match aQ L p with| .ok (v,q)=>(v,.ok q)| .error k=>(0,.error k)
theorem bD {a b c:World} {row:Option Nat} (h:a.grownBy b row) (k:b.grownBy c row):a.grownBy c row:=
 ⟨k.os.trans h.os,k.tape.trans h.tape,k.output.trans h.output,Nat.le_trans h.size k.size,λi hi fb=>(k.block i (Nat.lt_of_lt_of_le hi h.size) fb).trans (h.block i hi fb)⟩
theorem nO (a:Nat) (ha:a<18446744073709551616):bits BinOp.xor IntKind.u64 IntKind.u64.max (a:Int)=((18446744073709551615-a:Nat):Int):=by
 show IntKind.u64.wrap ((BitVec.ofInt 64 IntKind.u64.max ^^^ BitVec.ofInt 64 (a:Int)).toNat:Int)=_;have h1:BitVec.ofInt 64 IntKind.u64.max=BitVec.allOnes 64:=by decide
 rw [h1,BitVec.allOnes_xor,BitVec.toNat_not,ofInt_u64 a (by omega)];simp [IntKind.wrap,IntKind.bits,IntKind.signed];omega
theorem sO {t:Nat} (h:t%2=0):zd t=((t / 2:Nat):Int):=if_pos h
theorem uI {t:Nat} (h:¬t%2=0):zd t= -((t / 2:Nat):Int)-1:=if_neg h
theorem mT (r k x:Nat) (v p:Value) (w:World) (h:w.heap[r]? =some (.cells #[v,p,.int .i64 0] 187 (0,0))):
 Calls Tryz.prog 173 #[.pointer (some ⟨r,0,none⟩),.int .i64 (k:Int)] w λe w' =>e= .returned (.int .i64 0)/\w'.heap[r]? =some (.cells #[v,p,.int .i64 (k:Int)] 187 (0,0))/\w.grownBy w' (some r):=by
 have h2:=gn h;have hf:w.frozen? ⟨r,2,none⟩=false:=frozen_of_row _ _ _ _ _ h
 have H:=aA h;clear h;go_enter func173,ntmps173;go_wp2;go_ret;exact ⟨rfl,heap_setCell_same _ r 2 _ _ _ H.out,aL ⟨rfl,rfl,rfl,Nat.le_refl _,λ_ _ _=>rfl⟩⟩
theorem uW (B r:Nat) (s:Except Nat Nat) (L:List UInt8) (w:World) (h:RS B w r L s):
 Calls Tryz.prog 145 #[.pointer (some ⟨r,0,none⟩)] w λe w' =>e= .returned (.int .i64 (Zf L s).1)/\RS B w' r L (Zf L s).2/\w.grownBy w' (some r):=by
 cases s with
 |error k=>
  have h' :=h;obtain ⟨h0,v,p,h1⟩:=h;have h2:=gn h1;have d:((k:Int) != 0)=true:=by simp;omega
  clear h1;go_enter func145,ntmps145;go_wp2;go_ret;exact ⟨rfl,h',⟨rfl,rfl,rfl,Nat.le_refl _,λ_ _ _=>rfl⟩⟩
 |ok p=>
  have en:∀u q,Vu L p= .ok (u,q)->Zf L (.ok p)=(zd u,.ok q):=λu q hu=>by
   have hr:aQ L p= .ok (zd u,q):=by unfold aQ;rw [hu]
   show (match aQ L p with| .ok (v,q)=>(v,Except.ok q)| .error k=>((0:Int),Except.error k))=_;rw [hr]
  have sk:∀k,Vu L p= .error k->Zf L (.ok p)=(0,.error k):=λk hu=>by
   have hr:aQ L p= .error k:=by unfold aQ;rw [hu]
   show (match aQ L p with| .ok (v,q)=>(v,Except.ok q)| .error k=>((0:Int),Except.error k))=_;rw [hr]
  have lf:=aA en;have HSE:=aA sk;clear en sk;have q2:w.cell? ⟨r,2,none⟩=some (.int .i64 0):=by
   obtain ⟨_,A,c,h1,_⟩:=h;rw [cell_of_row _ _ _ _ _ _ h1];rfl
  go_enter func145,ntmps145;go_wp2;clear q2;go_loopw [3,4] (λt s wr=>∃(i u q:Nat),s= .int .i64 i/\t= .int .u64 u/\i<=9/\u<2^(7*i)/\RS B wr r L (.ok q)/\w.grownBy wr (some r)/\Dp L (10-i) i u q=Vu L p) (λ_ s _=>10-(intOf s).toNat);case atStart=>exact ⟨0,0,p,rfl,rfl,by omega,by simp,h,⟨rfl,rfl,rfl,Nat.le_refl _,λ_ _ _=>rfl⟩,rfl⟩
  case round=>
   obtain ⟨i,u,q,rfl,rfl,hi,hu,hR,hg,he⟩:=hrel;obtain ⟨hB,A,c,az,dy,hq,hL⟩:=hR;have h0:=bn az;have h1:=fi az;have HE:=aA he;have I9:=aA az;have di:decide ((i:Int)<10)=true:=by simp;omega
   clear he az h;by_cases af:q<L.length
   ·have dq:decide ((L.length:Int)<=(q:Int))=false:=by simp;omega
    have dq' :decide (L.length<=q)=false:=by simp;omega
    have Eo:=dy;obtain ⟨A',c',e,_,_,fq⟩:=dy;cases e;obtain ⟨b,off,x,rfl,hbB,vg,hx,kn⟩:=fq.byte af;have hf:wr.frozen? ⟨r,1,none⟩=false:=frozen_of_row _ _ _ _ _ I9.out
    have Ik:=fK x;obtain ⟨wS,hwS⟩:=eX (wr.setCell ⟨r,1,none⟩ (.int .i64 ((q:Int)+1)));have ie:wr.grownBy wS (some r):=by rw [hwS];exact aL ⟨rfl,rfl,rfl,Nat.le_refl _,λ_ _ _=>rfl⟩
    have hrS:wS.heap[r]? =some (.cells #[.slice (some ⟨b,off,none⟩) L.length c,.int .i64 (((q+1:Nat)):Int),.int .i64 0] 187 (0,0)):=by rw [hwS];exact heap_setCell_same _ r 1 _ _ _ I9.out
    have sf:RS B wS r L (.ok (q+1)):=⟨hB,some ⟨b,off,none⟩,c,hrS,Eo.keep (λb' gv hs=>ie.block b' gv (by intro e;cases e;omega)),by omega,hL⟩
    have da:w.grownBy wS (some r):=⟨ie.os.trans hg.os,ie.tape.trans hg.tape,ie.output.trans hg.output,Nat.le_trans hg.size ie.size,λi hi fb=>(ie.block i (Nat.lt_of_lt_of_le hi hg.size) fb).trans (hg.block i hi fb)⟩
    have HX:=aA hx;have YR:=aA sf;have Mn:=aA da;have Qt:=aA hrS;have HWS:=aA hwS;clear hx fq sf da ie hrS hwS;go_wp2_with fail;refine Tyad ?_;go_wp2_with fail;refine Tyaj ?_;go_wp2_with fail;refine Tyam ?_;go_wp2_with fail;go_wp2_with fail;refine Tyad ?_;go_wp2_with fail;refine Tyaj ?_;go_wp2_with fail;refine Tyaj ?_;go_wp2_with fail;refine Tyam ?_;by_cases h9:i=9
    ·by_cases ev:1<x.toNat
     ·have d9:((i:Int)==9)=true:=by simp;omega
      have d1:decide ((1:Int)<(x.toNat:Int))=true:=by simp;omega
      exact Tza9
     ·by_cases fa:x.toNat=0
      ·have d9:((i:Int)==9)=true:=by simp;omega
       have d1:decide ((1:Int)<(x.toNat:Int))=false:=by simp;omega
       exact Tzd8
      ·have d9:((i:Int)==9)=true:=by simp;omega
       have d1:decide ((1:Int)<(x.toNat:Int))=false:=by simp;omega
       have d0:decide ((0:Int)<(i:Int))=true:=by simp;omega
       have dx:((x.toNat:Int)==0)=false:=by simp;omega
       have dc:decide ((x.toNat:Int)<128)=true:=by simp;omega
       have ph:=jD (n:=9-i) (u:=u) HX.out (show¬((i=9/\1<x.toNat)∨(0<i/\x.toNat=0)) by omega) (by omega);rw [show 9-i+1=10-i by omega,HE.out] at ph;have en:=lf.out _ _ ph;have Ml:=aA en;clear ph en;have ho:=jQ hi hu Ik (by omega) 9223372036854775808 (by rw [h9];rfl);rw [Nat.mod_eq_of_lt (by omega:x.toNat<128)] at ho;have Xg:=iU (c:=x.toNat) hi hu Ik (by omega);rw [Nat.mod_eq_of_lt (by omega)] at Xg;exact Tzai
    ·by_cases h0:0<i
     ·by_cases fa:x.toNat=0
      ·have d9:((i:Int)==9)=false:=by simp;omega
       exact Tzd8
      ·by_cases hc:x.toNat<128
       ·have d9:((i:Int)==9)=false:=by simp;omega
        have d0:decide ((0:Int)<(i:Int))=true:=by simp;omega
        exact Tzbt
       ·have d9:((i:Int)==9)=false:=by simp;omega
        have d0:decide ((0:Int)<(i:Int))=true:=by simp;omega
        have dx:((x.toNat:Int)==0)=false:=by simp;omega
        exact Tzbl
     ·by_cases hc:x.toNat<128
      ·by_cases fa:x.toNat=0
       ·have d9:((i:Int)==9)=false:=by simp;omega
        have d0:decide ((0:Int)<(i:Int))=false:=by simp;omega
        have dx:((x.toNat:Int)==0)=true:=by simp;omega
        have dc:decide ((x.toNat:Int)<128)=true:=by simp;omega
        have Hx0:=aA fa;have ph:=jD (n:=9-i) (u:=u) HX.out (show¬((i=9/\1<x.toNat)∨(0<i/\x.toNat=0)) by omega) (by omega);rw [show 9-i+1=10-i by omega,HE.out] at ph;have en:=lf.out _ _ ph;have Ml:=aA en;clear ph en;have ho:=jQ hi hu Ik (by omega) (2^(7*i)) (by simp);rw [Nat.mod_eq_of_lt (by omega:x.toNat<128)] at ho;have Xg:=iU (c:=x.toNat) hi hu Ik (by omega);rw [Nat.mod_eq_of_lt (by omega)] at Xg;clear fa;exact Tzai
       ·have d9:((i:Int)==9)=false:=by simp;omega
        have d0:decide ((0:Int)<(i:Int))=false:=by simp;omega
        exact Tzbt
      ·have d9:((i:Int)==9)=false:=by simp;omega
       have d0:decide ((0:Int)<(i:Int))=false:=by simp;omega
       exact Tzbl
   ·obtain rfl:q=L.length:=by omega
    have dq:decide ((L.length:Int)<=(L.length:Int))=true:=by simp
    have Bf:=qD (n:=9-i) (i:=i) (u:=u) (p:=L.length) (L:=L) (by simp);rw [show 9-i+1=10-i by omega,HE.out] at Bf;have sk:=HSE.out _ Bf;have Hse:=aA sk;clear Bf sk;go_wp2_with fail;refine Tyad ?_;go_wp2_with fail;refine Tyaj ?_;go_wp2_with fail;refine Tyam ?_;go_wp2_with fail;have nx:=mT r 8 0 _ _ wr.drew I9.out;rw [show ((8:Nat):Int)=8 from rfl] at nx;refine nx.mono ?_;rintro e w5 ⟨rfl,Nv,o8⟩;go_wp2;go_ret;rw [Hse.out];exact ⟨rfl,⟨by omega,_,_,Nv⟩,bD (aU hg) o8⟩
def bB (z:Int):List Value:=[.int .i64 z]
theorem cD (z:Int):(bB z).length=1:=rfl
theorem gK (z:Int):∀u∈bB z,u.oneCell' =true:=by
 intro u hu;simp [bB] at hu;subst hu;rfl
theorem eb.weak {w:World} {base yp :Nat} {e:TypeId} {v:Value} {l:List UInt8} (h:eb w base e v l) (hb:yp<=base):eb w yp e v l:=by
 exact Tzez
def Acc (w:World) (base:Nat) (row:Option Nat) (v:Value) (l:List UInt8):Prop:=
 (row=v.ownBlock/\eb w base 5 v l)∨(row=none/\(∃A,v= .slice A l.length l.length)/\Bytes (λ_=>True) w v l)
theorem Acc.bytes {w:World} {base:Nat} {row:Option Nat} {v:Value} {l:List UInt8} (h:Acc w base row v l):Bytes (λ_=>True) w v l:=by
 rcases h with ⟨_,h⟩|⟨_,_,h⟩
 ·exact h.bytes.mono (λ_ _ _=>trivial)
 ·exact h
theorem Acc.lo {w:World} {base:Nat} {row:Option Nat} {v:Value} {l:List UInt8} (h:Acc w base row v l):∀m,row=some m->base<=m/\m<w.heap.size:=by
 rcases h with ⟨e,h⟩|⟨e,_⟩
 ·intro m hm;exact World.ownsRow.lt h m (e▸hm)
 ·intro m hm;rw [e] at hm;cases hm
theorem Acc.ext {w w' :World} {base:Nat} {row:Option Nat} {v:Value} {l:List UInt8} (h:Acc w base row v l) (hb:Below w.heap.size w w'):Acc w' base row v l:=by
 rcases h with ⟨e,h⟩|⟨e,h1,h2⟩
 ·exact .inl ⟨e,h.ext hb⟩
 ·exact .inr ⟨e,h1,h2.ext hb⟩
theorem Acc.slice_ {w:World} {base:Nat} {row:Option Nat} {v:Value} {l:List UInt8} (h:Acc w base row v l):∃A c,v= .slice A l.length c/\l.length<=c/\c<=9223372036854775807:=by
 obtain ⟨A,c,e,h1,h2,_⟩:=h.bytes;exact ⟨A,c,e,h1,by unfold maxLen at h2;exact h2⟩
theorem sA {a b c:World} {row row' :Option Nat} (h:a.grownBy b row) (k:b.grownBy c row') (hr:∀m,row' =some m->a.heap.size<=m∨row=some m):a.grownBy c row:=
 ⟨k.os.trans h.os,k.tape.trans h.tape,k.output.trans h.output,Nat.le_trans h.size k.size,λi hi fb=>(k.block i (Nat.lt_of_lt_of_le hi h.size) (λe=>by
  rcases hr i e.symm with h1|h1
  ·omega
  ·exact fb h1.symm)).trans (h.block i hi fb)⟩
theorem xT {a b c:World} {row:Option Nat} (h:a.grownBy b row) (k:Below b.heap.size b c):a.grownBy c row:=sA (row' :=none) h ⟨k.os,k.tape,k.output,k.size,λi hi _=>k.block i hi⟩ (λm hm=>by cases hm)
theorem FC (a:World) (row:Option Nat):a.grownBy a row:=⟨rfl,rfl,rfl,Nat.le_refl _,λ_ _ _=>rfl⟩
theorem qV {w:World} {D:Nat->Prop} {ops:Array Oper} {rest:List Oper} {o:Oper} {a:Act} {Q:Exit->Act->World->Prop} (s x:Operand) (base:Nat) (row:Option Nat) (l r:List UInt8) (ad:Addr) (m c:Nat) (v:Value) (N:Nat)
 (uw:o.guard=none) (ho:o.op= .call {callee:= .builtin .append,args:= #[s,x],argTypes:= #[22,22]})
 (hs:a.eval s=v) (hx:a.eval x= .slice (some ad) m c) (cd:Acc w base row v l) (hr:Bytes D w (.slice (some ad) m c) r) (hm:0<m) (hN:N=l.length+m) (sb:l.length+m<=140737488355328) (jl:base<=w.heap.size)
 (K:∀A' c' w',eb w' base 5 (.slice A' N c') (l++r)->w.grownBy w' row->((Value.slice A' N c').ownBlock=row∨∃m,(Value.slice A' N c').ownBlock=some m/\w.heap.size<=m)->N<=c'->c'<=9223372036854775807->wpList Tryz.prog ops Q rest (a.put o.dst (.slice A' N c')) w'):
 wpList Tryz.prog ops Q (o::rest) a w:=by
 have ud:(Tryz.prog.info? 5).map (λi=>(i.zero,i.size,i.bytes))=some (some (.int .u8 0),1,1):=by kernel_rfl
 rcases cd with ⟨rfl,aj⟩|⟨rfl,⟨A,rfl⟩,hb⟩
 ·exact dP s x 22 5 base l r (some ad) m c v N uw ho underlying22 ud hs hx aj hr hN sb jl (λA' c' w' k1 k2 k3 k4 k5=>K A' c' w' k1 k2 (k3.imp id (λh=>⟨_,h,Nat.le_refl _⟩)) k4 k5)
 ·obtain ⟨i,hi,hz,ef,dy⟩:=info_parts ud;obtain ⟨A2,c2,e2,g1,g2,g3⟩:=hr;cases e2;obtain ⟨A3,c3,e3,g4,g5,g6⟩:=hb;cases e3;subst hN;have cs:∀(X:Addr) (L:List UInt8) (D:Nat->Prop),Cs D w (some X) (L.map bv)->∀j u,(L.map bv)[j]? =some u->w.cell? (X.add j)=some u:=by
   intro X L D h j u hu;obtain ⟨b,off,e,_,hc⟩:=h (by have:=(List.getElem?_eq_some_iff.1 hu).1;omega);cases e;rw [Addr.add_lit];exact hc j u hu
  refine wpList_append_grows w uw s x 22 ho 5 i (.int .u8 0) 1 1 underlying22 hi hz ef dy rfl (by omega) A l.length l.length (l.map bv) hs (λe=> ?_) (by simp) (λb e j u hu=> ?_) ad r.length c (r.map bv) hx (by simp) (cs ad r D g3) (λu hu=> ?_) (by omega) (by unfold maxLen;omega) (by omega) ?_
  ·cases hl:l with
   |nil=>exact ⟨rfl,rfl⟩
   |cons y ys=>
    subst e hl;obtain ⟨_,_,h,_⟩:=g6 (by simp);cases h
  ·subst e;exact cs b l _ g6 j u hu
  ·obtain ⟨y,_,rfl⟩:=List.mem_map.1 hu;rfl
  ·intro v' w' h1 h2;obtain ⟨A',c',rfl,k1,k2⟩:=qY h1;have aj:eb w' w.heap.size 5 (.slice A' (l.length+r.length) c') (l++r):=by
    unfold eb;rw [List.length_append,List.map_append];exact h1
   refine K A' c' w' (aj.weak jl) h2 (.inr ?_) k1 (by unfold maxLen at k2;exact k2);obtain ⟨g,rfl,fj,_⟩:=aj.some_ (by simp;omega);exact ⟨g,rfl,fj⟩
theorem AW:∀(k u:Nat),u<2^(7*(k+1))->(dS u).length<=k+1
 |0,u,h=>by rw [mC (by simpa using h)];simp
 |k+1,u,h=>by
  by_cases hu:u<128
  ·rw [mC hu];simp
  ·rw [nS hu,List.length_cons];have:=AW k (u / 128) (by rw [Nat.div_lt_iff_lt_mul (by omega)];rw [show 7*(k+1+1)=7*(k+1)+7 by omega,Nat.pow_add] at h;exact h);omega
theorem yN {v:Int} (h1: -9223372036854775808<=v) (h2:v<=9223372036854775807):zz v<18446744073709551616:=by
 unfold zz;split<;>omega
theorem fY {v:Int} (h1: -9223372036854775808<=v) (h2:v<=9223372036854775807):(cP v).length<=10:=by
 have:=yN h1 h2
 exact AW 9 (zz v) (by have:(2:Nat)^(7*(9+1))=1180591620717411303424:=by decide
                       omega)
theorem BU (a:Nat) (ha:a<18446744073709551616):bits BinOp.xor IntKind.u64 (a:Int) 18446744073709551615=((18446744073709551615-a:Nat):Int):=by
 have h:=nO a ha;have hc:bits BinOp.xor IntKind.u64 (a:Int) 18446744073709551615=bits BinOp.xor IntKind.u64 IntKind.u64.max (a:Int):=by
  show bits BinOp.xor IntKind.u64 (a:Int) IntKind.u64.max=_;unfold bits;simp [BitVec.xor_comm]
 rw [hc,h]
theorem QA {z:Int} (h1: -9223372036854775808<=z) (h2:z<=9223372036854775807):bits BinOp.xor IntKind.u64 (IntKind.u64.wrap (IntKind.u64.wrap z*2)) (IntKind.u64.wrap (z / 9223372036854775808))=((zz z:Nat):Int):=by
 simp only [IntKind.wrap_u64];unfold zz;by_cases h:0<=z
 ·rw [if_pos h];have e1:z%18446744073709551616*2%18446744073709551616=(((2*z).toNat:Nat):Int):=by omega
  have e2:z / 9223372036854775808%18446744073709551616=((0:Nat):Int):=by omega
  rw [e1,e2,u64_xor_nat _ 0 (by omega) (by omega),Nat.xor_zero]
 ·rw [if_neg h];have e1:z%18446744073709551616*2%18446744073709551616=(((2*z+18446744073709551616).toNat:Nat):Int):=by omega
  have e2:z / 9223372036854775808%18446744073709551616=18446744073709551615:=by omega
  rw [e1,e2,BU _ (by omega)];omega
theorem QC {z:Int} (h1: -9223372036854775808<=z) (h2:z<0):bits BinOp.xor IntKind.u64 IntKind.u64.max (IntKind.u64.wrap (IntKind.u64.wrap z*2))=((zz z:Nat):Int):=by
 simp only [IntKind.wrap_u64];unfold zz;rw [if_neg (by omega)];have e1:z%18446744073709551616*2%18446744073709551616=(((2*z+18446744073709551616).toNat:Nat):Int):=by omega
 rw [e1,nO _ (by omega)];omega
theorem QB {z:Int} (h1:0<=z) (h2:z<=9223372036854775807):z*2=((zz z:Nat):Int):=by
 unfold zz;rw [if_pos h1];omega
theorem SX:∀a,a<256->a ||| 128=a%128+128:=by decide
theorem uC (u:Nat):bits BinOp.or IntKind.u8 ((u:Int)%256) 128=((u%128+128:Nat):Int):=by
 rw [show (u:Int)%256=((u%256:Nat):Int) by omega,show (128:Int)=((128:Nat):Int) from rfl,u8_or_nat _ 128 (by omega) (by omega),SX _ (by omega)];omega
theorem vT {w w' :World} {row row' :Option Nat} {α:Type} {enc:α->List Value} {u:Value} {l:List α} (h:a7 enc (λb=>row≠some b) w u l) (hg:w.grownBy w' row) (jx:row' =row∨∃m,row' =some m/\w.heap.size<=m):a7 enc (λb=>row'≠some b) w' u l:=by
 have h1:a7 enc (λb=>row≠some b/\b<w.heap.size) w u l:=h.mono (λb hb hs=>⟨hs,hb⟩);refine (h1.keep (λb hb hs=>hg.block b hb (λe=>hs.1 e.symm))).mono (λb _ hs=> ?_);rcases jx with rfl|⟨m,rfl,hm⟩
 ·exact hs.1
 ·intro e;cases e;have:=hs.2;omega
theorem lY (w:World) (t:TypeId) (x:Nat) (hx:x<256):Bytes (λ_=>True) (w.alloc (.cells #[.int .u8 (x:Int)] t)) (.slice (some ⟨w.heap.size,0,none⟩) 1 1) [UInt8.ofNat x]:=
 Bytes.lit (S:=λ_=>True) w _ _ _ _ 1 1 trivial rfl (by omega) (by simp [maxLen]) (by simp [sJ];omega)
theorem CX (base:Nat) (row:Option Nat) (v:Value) (l:List UInt8) (w:World) (cd:Acc w base row v l) (jl:base<=w.heap.size) (Au:Option Addr) (nu cu:Nat) (zs:List Int) (hu:a7 bB (λb=>row≠some b) w (.slice Au nu cu) zs) (hz:∀z∈zs,-9223372036854775808<=z/\z<=9223372036854775807) (hlen:l.length+10*nu<=100000000000):
 Calls Tryz.prog 107 #[v,.slice Au nu cu] w λe w' =>∃v' row',e= .returned v'/\Acc w' base row' v' (l++aI zs)/\(row' =row∨∃m,row' =some m/\w.heap.size<=m)/\w.grownBy w' row:=by
 have hul:=hu.len;have HZ:=aA hz;have HUL:=aA hul.1;clear hz;go_enter func107,ntmps107;go_wp2;go_loopw [0,10] (λv i wr=>∃(k:Nat) (row' :Option Nat),i= .int .i64 k/\k<=nu/\Acc wr base row' v (l++aI (zs.take k))/\(l++aI (zs.take k)).length<=l.length+10*k/\(row' =row∨∃m,row' =some m/\w.heap.size<=m)/\w.grownBy wr row/\a7 bB (λb=>row'≠some b) wr (.slice Au nu cu) zs) (λ_ i _=>nu-(intOf i).toNat);case atStart=>exact ⟨0,row,rfl,by omega,by simpa [aI] using cd,by simp [aI],.inl rfl,FC _ _,hu⟩
 case round=>
  clear cd hu;obtain ⟨k,row1,rfl,hk,cd,o7,az,hg,hu⟩:=hrel;by_cases af:k<nu
  ·obtain ⟨b,off,z,rfl,_,hb,X7,hc⟩:=hu.at_ cD (j:=k) (by have:=HUL.out;omega) (by omega);have qz:=hc 0 _ rfl;rw [Nat.mul_one,Nat.add_zero] at qz;have Rm:=HZ.out z (List.mem_of_getElem? X7);have Cf:zs.take (k+1)=zs.take k++ [z]:=by rw [List.take_add_one,X7];rfl
   have Nn :l++aI (zs.take (k+1))=(l++aI (zs.take k))++cP z:=by rw [Cf];simp [aI]
   have L5:=aA Nn;have VR:=fY Rm.1 Rm.2;clear hc Cf Nn X7;have Gb:=QA Rm.1 Rm.2;have Rn:=yN Rm.1 Rm.2;unfold cP at VR;obtain ⟨lk,nf⟩:=eX (l++aI (zs.take k));rw [<-nf] at cd o7;obtain ⟨Z,hZ⟩:=eX (zz z);rw [<-hZ] at Gb Rn VR;have HTK2:l++aI (zs.take (k+1))=lk++dS Z:=by rw [L5.out,nf,hZ];rfl
   have YO:=aA HTK2;clear L5 HTK2 nf hZ;have hgw:=hg.size;go_wp2;clear Gb;go_loopw [0,7] (λv t wr=>∃(u:Nat) (lc:List UInt8) (row' :Option Nat),t= .int .u64 u/\u<18446744073709551616/\Acc wr base row' v lc/\lc++dS u=lk++dS Z/\(row' =row∨∃m,row' =some m/\w.heap.size<=m)/\w.grownBy wr row/\a7 bB (λb=>row'≠some b) wr (.slice (some ⟨b,off,none⟩) nu cu) zs) (λ_ t _=>(intOf t).toNat);case atStart=>exact ⟨Z,lk,row1,rfl,Rn,cd,rfl,az,hg,hu⟩
   case round=>
    clear cd az hg hu hgw;obtain ⟨u,lc,Ga,rfl,hu64,cd,heq,az,hg,hu⟩:=hrel;have gy:lc.length+(dS u).length=lk.length+(dS Z).length:=by have:=congrArg List.length heq;simpa using this
    have yy:=aA heq;have ef:=hg.size;have ha:∀o,Below wr.heap.size wr (wr.alloc o):=λo=>(Below.refl _ _).alloc (Nat.le_refl _) o
    have ua:=cd.lo;clear heq;by_cases Ci:128<=u
    ·have dg:decide ((128:Int)<=(u:Int))=true:=by simp;omega
     have dy:=uC u;obtain ⟨X,hX⟩:=eX (u%128+128);rw [<-hX] at dy;have N6:X<256:=by omega
     have Je:dS u=UInt8.ofNat X::dS (u / 128):=by rw [nS (by omega),hX]
     rw [Je,List.length_cons] at gy;have YX:=aA Je;clear hX Je;obtain ⟨A1,c1,rfl,ej,ed⟩:=cd.slice_;go_wp2_with (refine qV (D:=λ_=>True) (o:=⟨some 28,_,_,_,_,_⟩) _ _ base Ga lc [UInt8.ofNat X] ⟨wr.heap.size,0,none⟩ 1 1 _ (lc.length+1) rfl rfl rfl rfl (cd.ext (ha _)) (lY wr _ X N6) (by omega) rfl (by omega) (by simp;omega) ?_;intro A5 c5 w5 bf bk jm qx qw)
     have Lp:=sA (xT hg (ha _)) bk (λm hm=>by
      rcases az with h|⟨m',h,U5⟩
      ·exact .inr (by rw [<-h,hm])
      ·rw [h] at hm;cases hm;exact .inl U5)
     have hu5:=vT (hu.ext (ha _)) bk jm;have TY:=bk.size;rw [World.size_alloc] at TY;refine ⟨⟨u / 128,lc++ [UInt8.ofNat X],(Value.slice A5 (lc.length+1) c5).ownBlock,by congr 1,by omega,.inl ⟨rfl,bf⟩,?_,?_,Lp,hu5⟩,?_⟩
     ·rw [<-yy.out,YX.out,List.append_assoc];rfl
     ·exact Tze3
     ·simp [intOf];omega
    ·have dg:decide ((128:Int)<=(u:Int))=false:=by simp;omega
     have dy:(u:Int)%256=(u:Int):=by omega
     have N6:u<256:=by omega
     have Je:dS u=[UInt8.ofNat u]:=mC (by omega);rw [Je,List.length_singleton] at gy;have YX:=aA Je;have Hcl:=aA gy;have qu:lc.length+1<=100000000100:=by omega
     clear Je gy;obtain ⟨A1,c1,rfl,ej,ed⟩:=cd.slice_;go_wp2_with (refine qV (D:=λ_=>True) (o:=⟨some 35,_,_,_,_,_⟩) _ _ base Ga lc [UInt8.ofNat u] ⟨wr.heap.size,0,none⟩ 1 1 _ (lc.length+1) rfl rfl rfl rfl (cd.ext (ha _)) (lY wr _ u N6) (by omega) rfl (by omega) (by simp;omega) ?_;intro A5 c5 w5 bf bk jm qx qw)
     have Lp:=sA (xT hg (ha _)) bk (λm hm=>by
      rcases az with h|⟨m',h,U5⟩
      ·exact .inr (by rw [<-h,hm])
      ·rw [h] at hm;cases hm;exact .inl U5)
     have hu5:=vT (hu.ext (ha _)) bk jm;have a9:l++aI (zs.take (k+1))=lc++ [UInt8.ofNat u]:=by rw [YO.out,<-yy.out,YX.out]
     have nx:(l++aI (zs.take (k+1))).length=lc.length+1:=by rw [a9];simp
     refine ⟨⟨k+1,(Value.slice A5 (lc.length+1) c5).ownBlock,by congr 1,by omega,.inl ⟨rfl,by rw [a9];exact bf⟩,by have:=Hcl.out;omega,?_,Lp,hu5⟩,by simp [intOf];omega⟩;exact Tze3
  ·obtain rfl:k=nu:=by omega
   rw [List.take_of_length_le (by have:=HUL.out;omega)] at cd;go_wp2;go_ret;exact ⟨_,row1,rfl,cd,az,hg⟩
theorem qR (A:Option Addr) (n c:Nat) (w:World) (hn:n<=c) (hc:c<=9223372036854775807):Calls Tryz.prog 108 #[.slice A n c] w λe w' =>e= .returned (.slice A n n)/\w' =w:=by
 go_enter func108,ntmps108;go_wp2;go_ret;exact ⟨rfl,rfl⟩
theorem nI (A:Option Addr) (n c:Nat) (z:Int) (l:List UInt8) (S:Nat->Prop) (w:World) (hb:Bytes S w (.slice A n c) l) (hn:n<=10000000000) (h1: -9223372036854775808<=z) (h2:z<=9223372036854775807):
 Calls Tryz.prog 80 #[.slice A n c,.int .i64 z] w λe w' =>∃v',e= .returned v'/\Bytes (λ_=>True) w' v' (l++cP z)/\Below w.heap.size w w' :=by
 have hl:=hb.len;have dv:=hl.1;subst dv;have ha:Below w.heap.size w (w.alloc (.cells #[.int .i64 z] 3)):=(Below.refl _ _).alloc (Nat.le_refl _) _;have cd:Acc (w.alloc (.cells #[.int .i64 z] 3)) w.heap.size none (.slice A l.length l.length) l:= .inr ⟨rfl,⟨A,rfl⟩,((hb.clip (c' :=l.length) (Nat.le_refl _) (by unfold maxLen;omega)).ext ha).mono (λ_ _ _=>trivial)⟩;have ax:a7 bB (λb=>(none:Option Nat)≠some b) (w.alloc (.cells #[.int .i64 z] 3)) (.slice (some ⟨w.heap.size,0,none⟩) 1 1) [z]:=⟨_,1,rfl,by simp,by simp [maxLen],Cs.lit _ _ _ _ _ (by simp) rfl⟩
 have cm:=CX w.heap.size none _ l _ cd (by simp) _ 1 1 [z] ax (by intro z' Ij;simp at Ij;subst Ij;exact ⟨h1,h2⟩) (by omega);have ij:=aA cm;clear cm ax cd;go_enter func80,ntmps80;go_wp2_with fail;refine (qR A l.length c w hl.2.1 hl.2.2).mono ?_;rintro e w1 ⟨rfl,rfl⟩;go_wp2_with fail;refine (ij.out).mono ?_;rintro e w2 ⟨v',row',rfl,cd,_,hg⟩;go_wp2;go_ret;refine ⟨v',rfl,?_,Below.ext ha ⟨hg.os,hg.tape,hg.output,hg.size,λi hi=>hg.block i hi (by simp)⟩⟩;have:=cd.bytes;simpa [aI] using this
theorem yK (A:Option Addr) (n c:Nat) (z:Int) (l:List UInt8) (S:Nat->Prop) (w:World) (hb:Bytes S w (.slice A n c) l) (hn:n<=10000000000) (h1: -9223372036854775808<=z) (h2:z<=9223372036854775807):
 Calls Tryz.prog 59 #[.slice A n c,.int .i64 z] w λe w' =>∃A' c',e= .returned (.slice A' (n+(cP z).length) c')/\eb w' w.heap.size 5 (.slice A' (n+(cP z).length) c') (l++cP z)/\Below w.heap.size w w' :=by
 have hl:=hb.len;have yg:=hl.1;have Dm:=aA yg;have VR:=fY h1 h2;have Rn:=yN h1 h2;unfold cP at VR ⊢;clear yg;obtain ⟨Z,hZ⟩:=eX (zz z);by_cases hz:z<0
 ·have dz:decide (z<0)=true:=by simpa using hz
  have Gb:=QC h1 hz;exact Tzah
 ·have dz:decide (z<0)=false:=by simpa using hz
  have Gb:=QB (show 0<=z by omega) h2;exact Tzah
def fV (c:UInt8):List Value:=[bv c]
theorem fC (c:UInt8):(fV c).length=1:=rfl
theorem fI (c:UInt8):∀u∈fV c,u.oneCell' =true:=by
 intro u hu;simp [fV] at hu;subst hu;rfl
theorem yQ (l:List UInt8):l.flatMap fV=l.map bv:=by
 induction l with
 |nil=>rfl
 |cons x l ih=>rw [List.flatMap_cons,ih];rfl
theorem jG:(Tryz.prog.info? 5).map (λi=>(i.zero,i.size,i.bytes))=some (some (.int .u8 0),1,1):=by kernel_rfl
abbrev By (S:Nat->Prop) (w:World) (v:Value) (l:List UInt8):Prop:=a7 fV S w v l
theorem a8.by_ {w:World} {base:Nat} {e:TypeId} {v:Value} {l:List UInt8} (h:a8 fV 1 w base e v l):By (λb=>base<=b) w v l:=h.recs.mono (λ_ _ h=>h.1)
theorem Bytes.by_ {S:Nat->Prop} {w:World} {v:Value} {l:List UInt8} (h:Bytes S w v l):By S w v l:=by
 obtain ⟨A,c,rfl,h1,h2,h3⟩:=h;exact ⟨A,c,rfl,h1,h2,by rw [yQ];exact h3⟩
theorem a7.bytes {S:Nat->Prop} {w:World} {v:Value} {l:List UInt8} (h:By S w v l):Bytes S w v l:=by
 obtain ⟨A,c,rfl,h1,h2,h3⟩:=h;exact ⟨A,c,rfl,h1,h2,by rw [yQ] at h3;exact h3⟩
theorem a7.byte {S:Nat->Prop} {w:World} {A:Option Addr} {n c k:Nat} {l:List UInt8} (h:By S w (.slice A n c) l) (hk:k<n):
 ∃b off x,A=some ⟨b,off,none⟩/\b<w.heap.size/\l[k]? =some x/\w.cell? ⟨b,off+k,none⟩=some (.int .u8 (x.toNat:Int)):=by
 obtain ⟨A',c',e,h1,h2,h3⟩:=h.bytes;cases e;obtain ⟨b,off,x,rfl,_,hb,hx,hc⟩:=h3.byte hk;exact ⟨b,off,x,rfl,hb,hx,hc⟩
theorem rF (v1 v2:Value) (l:List UInt8) (S1 S2:Nat->Prop) (w:World) (Ce:By S1 w v1 l) (zf:By S2 w v2 l):
 Calls Tryz.prog 43 #[v1,v2] w λe w' =>e= .returned (.bool true)/\Below w.heap.size w w' :=by
 have h1:=Ce;have h2:=zf;obtain ⟨A1,c1,rfl,ej,jh,_⟩:=Ce;obtain ⟨A2,c2,rfl,_⟩:=zf;unfold maxLen at jh;go_enter func43,ntmps43;go_wp2;go_loopw [5] (λa wr=>∃k:Nat,a= .int .i64 k/\k<=l.length/\Below w.heap.size w wr) (λa _=>l.length-(intOf a).toNat);case atStart=>exact ⟨0,rfl,by omega,Below.refl _ _⟩
 case round=>
  obtain ⟨k,rfl,hk,ag⟩:=hrel;by_cases af:k<l.length
  ·obtain ⟨b1,off1,x1,rfl,al,ev,q1⟩:=(h1.ext ag).byte af;obtain ⟨b2,off2,x2,rfl,ar,ew,q2⟩:=(h2.ext ag).byte af;obtain rfl:x1=x2:=by rw [ev] at ew;cases ew;rfl
   clear ev ew;exact Tzbi
  ·obtain rfl:k=l.length:=by omega
   go_wp2;go_ret;exact ⟨rfl,ag⟩
theorem a8.empty_ {α:Type} {enc:α->List Value} {k:Nat} (w:World) (base:Nat) (e:TypeId) (hb:base<=w.heap.size):a8 enc k (w.alloc (.cells #[] e)) base e (.slice (some ⟨w.heap.size,0,none⟩) 0 0) []:=
 ⟨by simp,.inr ⟨w.heap.size,0,#[],rfl,hb,heap_alloc_new w _,Nat.le_refl _,by simp [maxLen],by simp,by simp⟩⟩
def J1 (L:List UInt8) (k:Int):Except Nat Nat:=if k<0∨(L.length:Int)<k then .error 3 else .ok k.toNat
theorem sK (A:Option Addr) (n c:Nat) (k:Int) (L:List UInt8) (S:Nat->Prop) (w:World) (hb:Bytes S w (.slice A n c) L) (hn:n<=100000000):
 Calls Tryz.prog 141 #[.slice A n c,.int .i64 k] w λe w' =>e= .returned (.pointer (some ⟨w.heap.size,0,none⟩))/\RS w.heap.size w' w.heap.size L (J1 L k)/\Below w.heap.size w w' :=by
 have hl:=hb.len;have ha:∀o,Below w.heap.size w (w.alloc o):=λo=>(Below.refl _ _).alloc (Nat.le_refl _) o
 have Bg:=λo=>heap_alloc_new w o
 by_cases hk:k<0∨(L.length:Int)<k
 ·have en:J1 L k= .error 3:=if_pos hk;rw [en];by_cases h0:k<0
  ·have d0:decide (k<0)=true:=by simpa using h0
   go_enter func141,ntmps141;go_wp2;go_ret;exact ⟨rfl,⟨by omega,_,_,Bg _⟩,ha _⟩
  ·have d0:decide (k<0)=false:=by simpa using h0
   have d1:decide ((n:Int)<k)=true:=by simp;omega
   go_enter func141,ntmps141;go_wp2;go_ret;exact ⟨rfl,⟨by omega,_,_,Bg _⟩,ha _⟩
 ·obtain ⟨p,rfl⟩:=Int.eq_ofNat_of_zero_le (show 0<=k by omega);have hp:p<=n:=by omega
  have en:J1 L (p:Int)= .ok p:=(if_neg hk).trans (by rw [Int.toNat_natCast]);rw [en];have d0:decide ((p:Int)<0)=false:=by simp
  have d1:decide ((n:Int)<(p:Int))=false:=by simp;omega
  have d2:decide (n<p)=false:=by simp;omega
  have dv:=hl.1;have HL:=aA dv;clear dv en hk;go_enter func141,ntmps141;go_wp2;go_ret;refine ⟨rfl,⟨Nat.le_refl _,A,c,?_,?_,?_,?_⟩,ha _⟩
  ·rw [HL.out];exact Bg _
  ·rw [HL.out];exact (hb.mono (λ_ h _=>h)).ext (ha _)
  ·rw [HL.out];omega
  ·rw [HL.out];omega
theorem QP (L:List UInt8) (k:Int):mE iv (iv 0) (eK aQ L k)=match Zf L (J1 L k) with|(v,.ok q)=> .tuple #[iv v,.int .i64 (q:Int),.int .i64 0]|(_,.error x)=> .tuple #[iv 0,.int .i64 0,.int .i64 (x:Int)]:=by
 unfold J1 eK;by_cases hk:k<0∨(L.length:Int)<k
 ·rw [if_pos hk,if_pos hk];rfl
 ·rw [if_neg hk,if_neg hk];show mE iv (iv 0) (aQ L k.toNat)=match (match aQ L k.toNat with| .ok (v,q)=>(v,Except.ok q)| .error k=>((0:Int),Except.error k)) with|(v,.ok q)=>_|(_,.error x)=>_
  cases aQ L k.toNat with
  |ok p=>rfl
  |error x=>rfl
theorem EJ (A:Option Addr) (n c:Nat) (k:Int) (L:List UInt8) (S:Nat->Prop) (w:World) (hb:Bytes S w (.slice A n c) L) (hn:n<=100000000):
 Calls Tryz.prog 122 #[.slice A n c,.int .i64 k] w λe w' =>e= .returned (mE iv (iv 0) (eK aQ L k))/\Below w.heap.size w w' :=by
 have en:=QP L k;have lf:=aA en;clear en;have hbeg:=sK A n c k L S w hb hn;have Hbeg:=aA hbeg;clear hbeg;go_enter func122,ntmps122;go_wp2_with fail;refine (Hbeg.out).mono ?_;rintro e w1 ⟨rfl,o9,al⟩;go_wp2_with fail;refine (uW w.heap.size w.heap.size (J1 L k) L w1 o9).mono ?_;rintro e w2 ⟨rfl,sf,da⟩;have b2:=Below.grow al da (Nat.le_refl _);cases hx:Zf L (J1 L k) with
 |mk v s=>
  rw [hx] at sf;have h2:=lf.out;rw [hx] at h2;have H2:=aA h2;clear h2;cases s with
  |ok q=>
   obtain ⟨_,A',c',az,_⟩:=sf;have q1:=fi az;have q2:=gn az;exact Tzen
  |error x=>
   obtain ⟨h0,v',p',az⟩:=sf;have q2:=gn az;have dx:((x:Int) != 0)=true:=by simp;omega
   exact Tzen
end Go.Proofs.YtiblijmngokcgaaGreatDoor
