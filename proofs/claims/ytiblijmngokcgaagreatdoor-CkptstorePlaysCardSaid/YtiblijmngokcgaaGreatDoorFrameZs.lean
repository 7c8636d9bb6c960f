import Derived.Test.YtiblijmngokcgaaGreatDoorG02Zs
set_option linter.unusedVariables false
set_option maxHeartbeats 4000000
set_option maxRecDepth 100000
namespace Go.Proofs.YtiblijmngokcgaaGreatDoor
open Go.Proofs.Tryz
open Go.RowKit
def nq (v:Nat):List UInt8:=[UInt8.ofNat v,UInt8.ofNat (v / 256),UInt8.ofNat (v / 65536),UInt8.ofNat (v / 16777216)]
theorem gW (v:Nat):(nq v).length=4:=rfl
def lT (v i:Nat):UInt8:=UInt8.ofNat (v / 2^(8*i))
def lN (l:List UInt8) (off v:Nat):Nat->List UInt8
 |0=>l
 |i+1=>(lN l off v i).set (off+i) (lT v i)
theorem xD (l:List UInt8) (off v i:Nat):lN l off v (i+1)=(lN l off v i).set (off+i) (lT v i):=rfl
theorem GW (l:List UInt8) (off v:Nat):lN l off v 0=l:=rfl
theorem tI (l:List UInt8) (off v:Nat):∀i,(lN l off v i).length=l.length
 |0=>rfl
 |i+1=>by rw [xD,List.length_set,tI l off v i]
def z8:List UInt8:=[0,0,0,0,0,0,0,0]
theorem FQ:z8.length=8:=rfl
theorem GV (v:Nat):lN z8 0 v 4=nq v++ [0,0,0,0]:=by simp [lN,z8,nq,lT]
theorem EN (v s:Nat):lN (nq v++ [0,0,0,0]) 4 s 4=nq v++nq s:=by simp [lN,nq,lT]
theorem DW (v:Nat) (l:List UInt8):(nq v++l).take 4=nq v:=by simp [nq]
def jL (body:List UInt8):Nat:=Ka (Ka 0 (nq body.length)) body
def gC (body:List UInt8):List UInt8:=nq body.length++nq (jL body)
def dK (body:List UInt8):List UInt8:=gC body++body
theorem zF (body:List UInt8):Ka (Ka 0 (nq body.length)) body=jL body:=rfl
theorem xN (body:List UInt8):nq body.length++nq (jL body)=gC body:=rfl
theorem wW (body:List UInt8):gC body++body=dK body:=rfl
theorem iO (body:List UInt8):(gC body).length=8:=rfl
theorem eI (body:List UInt8):(dK body).length=8+body.length:=by simp [dK,iO]
theorem vW (body:List UInt8):jL body<4294967296:=nY (nY (by omega) _) _
theorem IE:∀l:List UInt8,num l<256^l.length
 |[]=>by simp [num]
 |c::l=>by
  have:=IE l;have hc:=fK c;simp only [num,List.length_cons,Nat.pow_succ];omega
theorem ES (a b c d:UInt8):num [a,b,c,d]=a.toNat+256*b.toNat+65536*c.toNat+16777216*d.toNat:=by simp [num];omega
theorem wC (l:List UInt8) (h:l.length=4):nq (num l)=l:=by
 match l,h with
 |[a,b,c,d],_=>
  have ha:=fK a;have hb:=fK b;have hc:=fK c;have hd:=fK d;have e:∀x:UInt8,∀n:Nat,n%256=x.toNat->UInt8.ofNat n=x:=λx n hn=>by
   apply UInt8.toNat_inj.1;simp;exact hn
  rw [ES];unfold nq;rw [e a _ (by omega),e b _ (by omega),e c _ (by omega),e d _ (by omega)]
theorem wA (v:Nat) (h:v<4294967296):num (nq v)=v:=by
 unfold nq;rw [ES];simp;omega
theorem jZ (i x y:Nat) (hx:x<2^i) (hy:y%2^i=0):x ||| y=x+y:=by
 rw [Nat.or_comm,nat_join i y x hy hx,Nat.add_comm]
theorem DD (a b c d:Nat) (ha:a<256) (hb:b<256) (hc:c<256) (hd:d<256):((a ||| b*256) ||| c*65536) ||| d*16777216=a+256*b+65536*c+16777216*d:=by
 rw [jZ 8 a (b*256) (by omega) (by omega),jZ 16 (a+b*256) (c*65536) (by omega) (by omega),jZ 24 (a+b*256+c*65536) (d*16777216) (by omega) (by omega)];omega
theorem OO (a b c d:Nat) (ha:a<256) (hb:b<256) (hc:c<256) (hd:d<256):
 bits BinOp.or IntKind.u32 (bits BinOp.or IntKind.u32 (bits BinOp.or IntKind.u32 (a:Int) ((b:Int)*256)) ((c:Int)*65536)) ((d:Int)*16777216)=((a+256*b+65536*c+16777216*d:Nat):Int):=by
 have e1:bits BinOp.or IntKind.u32 (a:Int) ((b:Int)*256)=((a ||| b*256:Nat):Int):=u32_or_nat a (b*256) (by omega) (by omega);have l1:a ||| b*256<4294967296:=by rw [jZ 8 a _ (by omega) (by omega)];omega
 have e2:bits BinOp.or IntKind.u32 ((a ||| b*256:Nat):Int) ((c:Int)*65536)=(((a ||| b*256) ||| c*65536:Nat):Int):=u32_or_nat _ (c*65536) l1 (by omega);have l2:(a ||| b*256) ||| c*65536<4294967296:=by rw [jZ 8 a (b*256) (by omega) (by omega),jZ 16 (a+b*256) (c*65536) (by omega) (by omega)];omega
 rw [e1,e2,<-DD a b c d ha hb hc hd];exact u32_or_nat _ (d*16777216) l2 (by omega)
theorem xM (a:Nat) (ha:a<9223372036854775808):(BitVec.ofInt 64 (a:Int)).toNat=a:=by
 rw [BitVec.ofInt_natCast,BitVec.toNat_ofNat];exact Nat.mod_eq_of_lt (by omega)
theorem AO (a b:Nat) (ha:a<9223372036854775808) (hb:b<9223372036854775808):bits .or .i64 (a:Int) (b:Int)=((a ||| b:Nat):Int):=by
 have hx:a ||| b<2^63:=Nat.or_lt_two_pow (by omega) (by omega)
 show IntKind.i64.wrap ((BitVec.ofInt 64 (a:Int) ||| BitVec.ofInt 64 (b:Int)).toNat:Int)=_;rw [BitVec.toNat_or,xM a ha,xM b hb,IntKind.wrap_i64];omega
theorem OQ (a b c d:Nat) (ha:a<256) (hb:b<256) (hc:c<256) (hd:d<256):
 bits BinOp.or IntKind.i64 (bits BinOp.or IntKind.i64 (bits BinOp.or IntKind.i64 (a:Int) ((b:Int)*256)) ((c:Int)*65536)) ((d:Int)*16777216)=((a+256*b+65536*c+16777216*d:Nat):Int):=by
 have e1:bits BinOp.or IntKind.i64 (a:Int) ((b:Int)*256)=((a ||| b*256:Nat):Int):=AO a (b*256) (by omega) (by omega);have l1:a ||| b*256<4294967296:=by rw [jZ 8 a _ (by omega) (by omega)];omega
 have e2:bits BinOp.or IntKind.i64 ((a ||| b*256:Nat):Int) ((c:Int)*65536)=(((a ||| b*256) ||| c*65536:Nat):Int):=AO _ (c*65536) (by omega) (by omega);have l2:(a ||| b*256) ||| c*65536<4294967296:=by rw [jZ 8 a (b*256) (by omega) (by omega),jZ 16 (a+b*256) (c*65536) (by omega) (by omega)];omega
 rw [e1,e2,<-DD a b c d ha hb hc hd];exact AO _ (d*16777216) (by omega) (by omega)
theorem NH {l:List UInt8} {a b c d:UInt8} (h0:l[0]? =some a) (h1:l[1]? =some b) (h2:l[2]? =some c) (h3:l[3]? =some d):l.take 4=[a,b,c,d]:=by
 match l with
 |[]=>simp at h0
 |[_]=>simp at h1
 |[_,_]=>simp at h2
 |[_,_,_]=>simp at h3
 |p::q::r::s::t=>
  simp at h0 h1 h2 h3;subst h0 h1 h2 h3;rfl
def bL (b:List UInt8) (at_:Int):List UInt8×Nat×Nat:=
 if at_<0∨(b.length:Int)<at_ then ([],0,3)
 else if at_.toNat=b.length then ([],0,11)
 else if b.length-at_.toNat<8 then ([],0,8)
 else if 4096<num ((b.drop at_.toNat).take 4) then ([],0,5)
 else if b.length-at_.toNat-8<num ((b.drop at_.toNat).take 4) then ([],0,8)
 else if num ((b.drop (at_.toNat+4)).take 4)=jL ((b.drop (at_.toNat+8)).take (num ((b.drop at_.toNat).take 4))) then
  ((b.drop (at_.toNat+8)).take (num ((b.drop at_.toNat).take 4)),at_.toNat+8+num ((b.drop at_.toNat).take 4),0)
 else ([],0,10)
theorem mG {b:List UInt8} {at_:Int} (h:at_<0∨(b.length:Int)<at_):bL b at_=([],0,3):=by
 unfold bL;rw [if_pos h]
section
variable {b : List UInt8} {k : Nat}
theorem xH (h:k=b.length):bL b k=([],0,11):=by
 unfold bL;rw [if_neg (by omega),Int.toNat_natCast,if_pos h]
theorem rP (h1:k<b.length) (h:b.length-k<8):bL b k=([],0,8):=by
 unfold bL;rw [if_neg (by omega),Int.toNat_natCast,if_neg (by omega),if_pos h]
theorem vC (h1:k+8<=b.length) (h:4096<num ((b.drop k).take 4)):bL b k=([],0,5):=by
 unfold bL;rw [if_neg (by omega),Int.toNat_natCast,if_neg (by omega),if_neg (by omega),if_pos h]
theorem rO (h1:k+8<=b.length) (h:num ((b.drop k).take 4)<=4096) (h2:b.length-k-8<num ((b.drop k).take 4)):bL b k=([],0,8):=by
 unfold bL;rw [if_neg (by omega),Int.toNat_natCast,if_neg (by omega),if_neg (by omega),if_neg (by omega),if_pos h2]
theorem xG (h1:k+8<=b.length) (h:num ((b.drop k).take 4)<=4096) (h2:k+8+num ((b.drop k).take 4)<=b.length)
 (h3:num ((b.drop (k+4)).take 4)≠jL ((b.drop (k+8)).take (num ((b.drop k).take 4)))):bL b k=([],0,10):=by
 unfold bL;rw [if_neg (by omega),Int.toNat_natCast,if_neg (by omega),if_neg (by omega),if_neg (by omega),if_neg (by omega),if_neg h3]
theorem tV (h1:k+8<=b.length) (h:num ((b.drop k).take 4)<=4096) (h2:k+8+num ((b.drop k).take 4)<=b.length)
 (h3:num ((b.drop (k+4)).take 4)=jL ((b.drop (k+8)).take (num ((b.drop k).take 4)))):
 bL b k=((b.drop (k+8)).take (num ((b.drop k).take 4)),k+8+num ((b.drop k).take 4),0):=by
 unfold bL;rw [if_neg (by omega),Int.toNat_natCast,if_neg (by omega),if_neg (by omega),if_neg (by omega),if_neg (by omega),if_pos h3]
end
theorem CE (b:List UInt8) (k:Nat):(((b.drop k).take 8).drop 4).take 4=(b.drop (k+4)).take 4:=by
 rw [List.drop_take,List.take_take,List.drop_drop];rfl
theorem BV (b:List UInt8) (k n:Nat) (hk:k+8+n<=b.length) (hn:num ((b.drop k).take 4)=n):Ka (Ka 0 ((b.drop k).take 4)) ((b.drop (k+8)).take n)=jL ((b.drop (k+8)).take n):=by
 have e:((b.drop (k+8)).take n).length=n:=by simp;omega
 unfold jL;rw [e,<-hn,wC _ (by simp;omega)]
theorem SQ (b:List UInt8) (k:Nat):(b.drop k).take 8=(b.drop k).take 4++(b.drop (k+4)).take 4:=by
 rw [show 8=4+4 from rfl,List.take_add,List.drop_drop]
theorem MH (b:List UInt8) (k n:Nat) (hk:k+8+n<=b.length) (hn:num ((b.drop k).take 4)=n):
 gC ((b.drop (k+8)).take n)=(b.drop k).take 8↔num ((b.drop (k+4)).take 4)=jL ((b.drop (k+8)).take n):=by
 have e:((b.drop (k+8)).take n).length=n:=by simp;omega
 have e4:nq n=(b.drop k).take 4:=by rw [<-hn,wC _ (by simp;omega)]
 have l4:((b.drop (k+4)).take 4).length=4:=by simp;omega
 unfold gC;rw [e,SQ,e4,List.append_cancel_left_eq];constructor
 ·intro h;rw [<-h,wA _ (vW _)]
 ·intro h;rw [<-h,wC _ l4]
theorem FL (v i:Nat):(v:Int) / 2^(8*i)%256=(((lT v i).toNat:Nat):Int):=by
 rw [MV];unfold lT;generalize v / 2^(8*i)=q;simp
theorem wL (n:Nat) (hn:n<=4096): #[Value.int IntKind.u8 ((n:Int)%256),Value.int IntKind.u8 ((n:Int) / 256),Value.int IntKind.u8 ((n:Int) / 65536),Value.int IntKind.u8 ((n:Int) / 16777216)]=fF (nq n):=by
 simp [fF,nq,sJ];omega
theorem MX (n:Nat) (hn:n<4294967296): #[Value.int IntKind.u8 ((n:Int)%256),Value.int IntKind.u8 ((n:Int) / 256%256),Value.int IntKind.u8 ((n:Int) / 65536%256),Value.int IntKind.u8 ((n:Int) / 16777216)]=fF (nq n):=by
 simp [fF,nq,sJ];omega
theorem JY (l:List UInt8) (n:Nat) (h:n=l.length):(fF l).toList.take n=l.map bv:=by
 subst h;simp only [fF];exact List.take_of_length_le (by simp)
theorem zD {l m:List UInt8} {k:Nat} {x:UInt8} (h:l.take k=m.take k) (hl:l[k]? =some x) (hm:m[k]? =some x):l.take (k+1)=m.take (k+1):=by
 obtain ⟨h1,e1⟩:=List.getElem?_eq_some_iff.1 hl;obtain ⟨h2,e2⟩:=List.getElem?_eq_some_iff.1 hm;rw [List.take_succ_eq_append_getElem h1,List.take_succ_eq_append_getElem h2,h,e1,e2]
end Go.Proofs.YtiblijmngokcgaaGreatDoor
namespace Go.Proofs.YtiblijmngokcgaaGreatDoor
open Go.Proofs.Tryz
open Go.RowKit
attribute [local irreducible] Ka inv nq lN lT z8 jL gC dK fF
theorem tH (g off n c:Nat) (t:TypeId) (l:List UInt8) (v:Nat) (w:World) (hv:v<4294967296) (az:kv w g t l) (hoff:off+4<=l.length) (hn:4<=n):
 Calls Tryz.prog 162 #[.slice (some ⟨g,off,none⟩) n c,.int .u32 v] w λe w' =>e= .returned (.tuple #[])/\kv w' g t (lN l off v 4)/\w.grownBy w' (some g)/\w'.heap.size=w.heap.size:=by
 have I9:=aA az;clear az;go_enter func162,ntmps162;go_wp2;go_loopw [4,5] (λ_ i wr=>∃k:Nat,k<=4/\i= .int .i64 k/\kv wr g t (lN l off v k)/\w.grownBy wr (some g)/\wr.heap.size=w.heap.size) (λ_ i _=>4-(intOf i).toNat);case atStart=>exact ⟨0,by omega,rfl,by rw [GW];exact I9.out,⟨rfl,rfl,rfl,Nat.le_refl _,λ_ _ _=>rfl⟩,rfl⟩
 case round=>
  obtain ⟨k,hk,rfl,az,ja,ef⟩:=hrel;by_cases af:k<4
  ·obtain ⟨x,hx,kn⟩:=az.at_ (j:=off+k) (by rw [tI];omega);have hfx:=az.frozen (off+k);have Hr:=aA az;have Hsz:=aA ef;clear az hx ef;go_wp2;go_roundw;case rel=>
    rw [FL];exact ⟨k+1,by omega,by go_num,by rw [xD];exact Hr.out.set_ _ _,aL ja,by simpa [World.setCell] using Hsz.out⟩
   case measure=>simp [intOf];omega
  ·obtain rfl:k=4:=by omega
   have Hr:=aA az;have Hsz:=aA ef;clear az ef;go_wp2;go_end0;exact ⟨rfl,Hr.out,ja,Hsz.out⟩
theorem SN (w:World):(zeroValue 209).run Tryz.prog w= .ok (.agg (fF z8)) w:=by kernel_rfl
theorem LP (n:Nat) (hn:n<=140737488355328) (w:World):(Instr.makeSlice 22 (.int .i64 0) (.int .i64 (n:Int))).run Tryz.prog w= .ok (.slice (some ⟨w.heap.size,0,none⟩) 0 n) (w.alloc (.cells (fF (List.replicate n 0)) 5)):=by
 obtain ⟨i,hi,hz,hs,hb⟩:=info_parts (P:=Tryz.prog) (e:=5) (z:= .int .u8 0) (size:=1) (bytes:=1) (by kernel_rfl);have h:=run_make (P:=Tryz.prog) w 22 5 i (.int .u8 0) underlying22 hi hz .i64 .i64 0 n (by omega) (by omega) (by rw [hb];omega) (by omega);rw [h,hs];simp only [Int.toNat_natCast,Nat.mul_one];rw [<-wB];rfl
theorem LK (w:World) (t:TypeId) (n:Nat) (l:List UInt8) (hl:l.length=n) (hn:n<=9223372036854775807) (base:Nat) (hb:base<=w.heap.size):eb (w.alloc (.cells (fF l) t)) base t (.slice (some ⟨w.heap.size,0,none⟩) 0 n) []:=by
 refine ⟨by simp,.inr ⟨w.heap.size,n,fF l,rfl,hb,heap_alloc_new w _,by simp,by unfold maxLen;exact hn,by rw [yD,hl,Nat.mul_one],by simp⟩⟩
theorem zL (v:Value) (l:List UInt8) (S:Nat->Prop) (w:World) (hv:Bytes S w v l) (hl:l.length<=4096):
 Calls Tryz.prog 116 #[v] w λe w' =>∃v',e= .returned (.tuple #[v',.int .i64 0])/\eb w' w.heap.size 5 v' (dK l)/\Below w.heap.size w w' :=by
 have hB:=hv;obtain ⟨A,c,rfl,ej,ed,fq⟩:=hv;unfold maxLen at ed;have hz:=SN;go_enter func116,ntmps116;go_wp2_with fail;refine (tH w.heap.size 0 4 8 209 z8 _ _ (by omega) (kv.new _ _ _) (by rw [FQ];omega) (by omega)).mono ?_;rintro e w1 ⟨rfl,Ip,fj,iz⟩;rw [GV] at Ip;have al:Below w.heap.size w w1:=Below.grow ((Below.refl _ _).alloc (Nat.le_refl _) _) fj (Nat.le_refl _);have Hr1:=aA Ip;have Hs1:=aA iz;clear Ip iz fj hz;have hA1:=(Hr1.out.bytes (S:=λ_=>True) (n:=8) (c:=8) (by simp [gW]) (by omega) (by simp [maxLen]) trivial).take_ (k:=4) (by omega);rw [DW] at hA1;have Pl:=hB.ext al;go_wp2_with fail;refine Tyad ?_;go_wp2_with fail;refine (IC _ (nq l.length) _ _ hA1.drew).mono ?_;rintro e w2 ⟨rfl,ar⟩;go_wp2_with fail;refine lex_go trivial ?_;refine TkE ?_;refine lex_e rfl ?_;go_wp2_with fail;refine (pX _ _ l _ _ (nY (by omega) _) (Pl.drew.ext ar)).mono ?_;rintro e w3 ⟨rfl,ea⟩;go_wp2_with fail;refine lex_go trivial ?_;refine TkE ?_;have Mz:=(Hr1.out.drew.ext ar).ext ea;have hB3:=(Pl.drew.ext ar).ext ea;have xj:Below w.heap.size w w3:=Below.ext (Below.ext al.drew ar) ea;have Hr3:=aA Mz;clear Mz hA1 Pl fq;refine lex_e rfl ?_;go_wp2_with fail;refine (tH w.heap.size 4 4 4 209 _ _ _ (nY (nY (by omega) _) _) Hr3.out (by simp [gW]) (by omega)).mono ?_;rintro e w4 ⟨rfl,Lf,nw,Io⟩;go_wp2_with fail;refine lex_go trivial ?_;refine TkE ?_;rw [EN] at Lf;have ia:Below w.heap.size w w4:=Below.grow xj nw (Nat.le_refl _);have hB4:=hB.ext ia;have hH4:=Lf.bytes (S:=λ_=>True) (n:=8) (c:=8) (by simp [gW]) (by omega) (by simp [maxLen]) trivial;clear Lf nw Io hB3;have Kl:=LP (8+l.length) (by omega);have Wm:((8+l.length:Nat):Int)=8+(l.length:Int):=by omega
 rw [Wm] at Kl;clear Wm;have Io:=ia.size;have Gp:=LK w4 5 (8+l.length) (List.replicate (8+l.length) 0) (by simp) (by omega) w.heap.size Io;have o5:Below w4.heap.size w4 (w4.alloc (.cells (fF (List.replicate (8+l.length) 0)) 5)):=(Below.refl _ _).alloc (Nat.le_refl _) _;have hH5:=hH4.ext o5;rw [zF,xN] at hH5;clear hH4 hB4;refine aR ?_
 go_wp2_with (first
  |(refine dP (o:=⟨some 26,_,_,_,_,_⟩) _ _ 22 5 w.heap.size [] (gC l) (some ⟨w.heap.size,0,none⟩) 8 8 (.slice (some ⟨w4.heap.size,0,none⟩) 0 (8+l.length)) 8 rfl rfl underlying22 (by kernel_rfl) rfl rfl Gp hH5 (by simp) (by simp) (by simp;omega) ?_;intro A5 c5 w5 bf bk jm qx qw;clear Kl)
  |(refine dP (o:=⟨some 29,_,_,_,_,_⟩) _ _ 22 5 w.heap.size ([]++gC l) l A l.length c (.slice A5 8 c5) (8+l.length) rfl rfl underlying22 (by kernel_rfl) rfl rfl bf (hB.ext (Below.grow (Below.ext ia o5) bk Io)) (by simp [iO]) (by simp [iO];omega) (Nat.le_trans Io (Nat.le_trans o5.size bk.size)) ?_;intro A6 c6 w6 ru Gv Oz hc61 hc62))
 go_ret2;have gu:=Below.grow (Below.ext ia o5) bk Io;refine ⟨_,rfl,?_,bf.grow Gv gu (Nat.le_refl _) gu.size⟩;rw [List.nil_append,wW] at ru;exact ru
theorem GD (v:Value) (l:List UInt8) (S:Nat->Prop) (w:World) (hv:Bytes S w v l) (hl:4096<l.length):
 Calls Tryz.prog 116 #[v] w λe w' =>e= .returned (.tuple #[.slice none 0 0,.int .i64 5])/\w=w' :=by
 obtain ⟨A,c,rfl,ej,ed,fq⟩:=hv;go_enter func116,ntmps116;go_wp2;go_ret2;exact ⟨rfl,rfl⟩
theorem tG (v:Value) (l:List UInt8) (S:Nat->Prop) (w:World) (hv:Bytes S w v l) (hl:l.length<=4096):
 Calls Tryz.prog 125 #[v] w λe w' =>∃v',e= .returned v'/\eb w' w.heap.size 5 v' (gC l)/\Below w.heap.size w w' :=by
 have hB:=hv;obtain ⟨A,c,rfl,ej,ed,fq⟩:=hv;unfold maxLen at ed;go_enter func125,ntmps125;go_wp2_with fail;rw [wL _ hl];have ec:=eb.lit w 5 (nq l.length) 4 (gW _).symm (by omega) w.heap.size (Nat.le_refl _);have o5:Below w.heap.size w (w.alloc (.cells (fF (nq l.length)) 5)):=(Below.refl _ _).alloc (Nat.le_refl _) _;refine (GL _ (nq l.length) _ _ ec.bytes).mono ?_;rintro e w1 ⟨rfl,rfl⟩;rw [<-FW];go_wp2_with fail;refine (qW _ _ l _ _ (nY (by omega) _) (hB.ext o5)).mono ?_;rintro e w1 ⟨rfl,rfl⟩;rw [<-FW,zF];have TZ:=vW l;generalize hs:jL l=s at TZ ⊢;have Hs:=aA hs;clear hs;go_wp2_with (refine dP (D:=λ_=>True) (o:=⟨some 37,_,_,_,_,_⟩) _ _ 22 5 w.heap.size (nq l.length) (nq s) (some ⟨w.heap.size+1,0,none⟩) 4 4 (.slice (some ⟨w.heap.size,0,none⟩) 4 4) 8 rfl rfl underlying22 (by kernel_rfl) rfl rfl (eb.ext ec ((Below.refl _ _).alloc (Nat.le_refl _) _)) ?c1 (by simp [gW]) (by simp [gW]) (by simp;omega) ?_;rotate_left;intro A5 c5 w5 bf bk jm qx qw)
 case c1=>
  rw [MX _ TZ];have h:=Bytes.lit (S:=λ_=>True) (w.alloc (.cells (fF (nq l.length)) 5)) (fF (nq s)) 5 (0,0) (nq s) 4 4 trivial (gW _) (by omega) (by simp [maxLen]) (JY _ _ (gW _).symm);rw [World.size_alloc] at h;exact h
 go_ret;rw [<-Hs.out,xN] at bf;refine ⟨_,rfl,bf,?_⟩;exact Below.grow (((Below.refl _ _).alloc (Nat.le_refl _) _).alloc (by simp) _) bk (Nat.le_refl _)
theorem mD (v:Value) (l:List UInt8) (S:Nat->Prop) (w:World) (hv:Bytes S w v l) (hl:l.length<=4096):
 Calls Tryz.prog 60 #[v] w λe w' =>∃v',e= .returned (.tuple #[v',.int .i64 0])/\eb w' w.heap.size 5 v' (dK l)/\Below w.heap.size w w' :=by
 have hB:=hv;obtain ⟨A,c,rfl,ej,ed,fq⟩:=hv;unfold maxLen at ed;go_enter func60,ntmps60;go_wp2_with fail;refine (tG _ l _ _ hB hl).mono ?_;rintro e w1 ⟨v1,rfl,ec,al⟩;go_wp2_with (refine dP (o:=⟨some 10,_,_,_,_,_⟩) _ _ 22 5 w.heap.size (gC l) l A l.length c v1 (8+l.length) rfl rfl underlying22 (by kernel_rfl) rfl rfl ec (hB.ext al) (by simp [iO]) (by simp [iO];omega) al.size ?_;intro A5 c5 w5 bf bk jm qx qw)
 go_ret2;rw [wW] at bf;exact ⟨_,rfl,bf,ec.grow bk al (Nat.le_refl _) al.size⟩
theorem rI (v:Value) (l:List UInt8) (S:Nat->Prop) (w:World) (hv:Bytes S w v l) (hl:4096<l.length):
 Calls Tryz.prog 60 #[v] w λe w' =>e= .returned (.tuple #[.slice none 0 0,.int .i64 5])/\w=w' :=by
 obtain ⟨A,c,rfl,ej,ed,fq⟩:=hv;go_enter func60,ntmps60;go_wp2;go_ret2;exact ⟨rfl,rfl⟩
end Go.Proofs.YtiblijmngokcgaaGreatDoor
namespace Go.Proofs.YtiblijmngokcgaaGreatDoor
open Go.Proofs.Tryz
open Go.RowKit
attribute [local irreducible] Ka inv nq lN lT z8 jL gC dK fF num bL
def NQ (v:Value) (k n:Nat):Value:=
 match v with
 | .slice A _ c=> .slice (if c=k+8 then A else Option.map (λx=>x.add (k+8)) A) n n
 |_=>undef
theorem CN (A:Option Addr) (m c k n:Nat):NQ (.slice A m c) k n= .slice (if c=k+8 then A else Option.map (λx=>x.add (k+8)) A) n n:=rfl
theorem yY (v:Value) (l:List UInt8) (S:Nat->Prop) (w:World) (hv:Bytes S w v l) (hl:4<=l.length):
 Calls Tryz.prog 129 #[v] w λe w' =>e= .returned (.int .u32 (num (l.take 4):Nat))/\Below w.heap.size w w' :=by
 obtain ⟨A,c,rfl,ej,ed,fq⟩:=hv;unfold maxLen at ed;obtain ⟨b0,o0,x0,rfl,_,_,fa,hc0⟩:=fq.byte (k:=0) (by omega);obtain ⟨_,_,x1,e1,_,_,ev,hc1'⟩:=fq.byte (k:=1) (by omega);cases e1;obtain ⟨_,_,x2,e2,_,_,ew,hc2'⟩:=fq.byte (k:=2) (by omega);cases e2;obtain ⟨_,_,x3,e3,_,_,rh,hc3'⟩:=fq.byte (k:=3) (by omega);cases e3;have h0:=fK x0;have h1:=fK x1;have h2:=fK x2;have h3:=fK x3;simp only [Nat.add_zero] at hc0;have Hx0:=aA fa;have Hx1:=aA ev;have Hx2:=aA ew;have Hx3:=aA rh;clear fa ev ew rh fq;go_enter func129,ntmps129;go_wp2_with fail;refine Tyad ?_;go_wp2_with fail;refine Tyaj ?_;go_wp2_with fail;refine Tyaj ?_;go_wp2_with fail;refine Tyaj ?_;go_wp2_with fail;refine Tyam ?_;go_wp2_with fail;go_ret;refine ⟨gJ ?_,(Below.refl _ _).drew⟩;rw [OO _ _ _ _ h0 h1 h2 h3,NH Hx0.out Hx1.out Hx2.out Hx3.out,ES]
theorem LM (v:Value) (b:List UInt8) (S:Nat->Prop) (w:World) (at_:Int) (hv:Bytes S w v b) (hb:b.length<=140737488355328):
 Calls Tryz.prog 71 #[v,.int .i64 at_] w λe w' =>∃v',e= .returned (.tuple #[v',.int .i64 ((bL b at_).2.1:Nat),.int .i64 ((bL b at_).2.2:Nat)])/\Bytes S w' v' (bL b at_).1/\Below w.heap.size w w'/\((bL b at_).2.2=0->v' =NQ v at_.toNat (num ((b.drop at_.toNat).take 4))):=by
 have hB:=hv;obtain ⟨A,c,rfl,ej,ed,fq⟩:=hv;unfold maxLen at ed;by_cases h1:at_<0
 ·have d1:decide (at_<0)=true:=by simpa using h1
  have a9:=aA (mG (b:=b) (at_:=at_) (.inl h1));exact Tzcm
 ·have d1:decide (at_<0)=false:=by simpa using h1
  obtain ⟨k,rfl⟩:=Int.eq_ofNat_of_zero_le (by omega:0<=at_);clear d1;by_cases h2:b.length<k
  ·have d2:decide (b.length<k)=true:=by simpa using h2
   have a9:=aA (mG (b:=b) (at_:=k) (.inr (by omega)));exact Tzcm
  ·have d2:decide (b.length<k)=false:=by simpa using h2
   by_cases h3:k=b.length
   ·have a9:=aA (xH h3);have d3:((k:Int)==(b.length:Int))=true:=beq_iff_eq.2 (by omega);clear h3;exact Tzcm
   ·have d3:((k:Int)==(b.length:Int))=false:=by simp;omega
    by_cases h4:b.length-k<8
    ·have a9:=aA (rP (b:=b) (k:=k) (by omega) h4);have d4:decide ((b.length:Int)-(k:Int)<8)=true:=by simp;omega
     exact Tzcm
    ·have d4:decide ((b.length:Int)-(k:Int)<8)=false:=by simp;omega
     have O7:k+8<=b.length:=by omega
     go_enter func71,ntmps71;go_wp2_with fail;refine aG (λ_=>True) (by kernel_rfl) (by kernel_rfl) trivial ?_;refine TkG ?_;have hH:=hB.part (l:=k) (h:=k+8) (m:=c) (by omega) (by omega) O7 (Nat.le_refl _);rw [if_neg (by omega),Nat.mul_one,show k+8-k=8 by omega] at hH;rw [show k+8-k=8 by omega];generalize (Option.map (λx=>x.add k) A)=A1 at hH ⊢;have hR:=hB.drop_ (k:=k+8) O7 (q:=c=k+8) (by omega);generalize Yq:(if c=k+8 then A else Option.map (λx=>x.add (k+8)) A)=A2 at hR ⊢;have HA2:=aA Yq;clear Yq;clear d2 d3 d4 fq;refine aR ?_;go_wp2_with fail;refine (yY _ _ _ _ hH.drew (by simp;omega)).mono ?_;rintro e w1 ⟨rfl,al⟩;rw [List.take_take,show min 4 8=4 from rfl];obtain ⟨n,hn⟩:∃n,num ((b.drop k).take 4)=n:=⟨_,rfl⟩
     have hn32:n<4294967296:=by
      rw [<-hn];have:=IE ((b.drop k).take 4);have e:((b.drop k).take 4).length=4:=by simp;omega
      rw [e] at this;omega
     rw [hn];by_cases h5:4096<n
     ·have a9:=aA (vC O7 (by rw [hn];exact h5));exact Tzef
     ·by_cases h6:b.length-k-8<n
      ·have a9:=aA (rO O7 (by rw [hn];omega) (by rw [hn];exact h6));have d6:decide (b.length-(k+8)<n)=true:=by simp;omega
       exact Tzef
      ·have d6:decide (b.length-(k+8)<n)=false:=by simp;omega
       have Hn:=aA hn;clear hn;have hH1:=(hH.drew.ext al).drew;have o9:=(hR.drew.ext al).drew;have Ys:=hH1.drop_ (k:=4) (by omega) (q:=False) (λx=>x.elim);rw [if_neg (λx=>x)] at Ys;have h55:=hH1.take_ (k:=4) (by omega);rw [List.take_take,show min 4 8=4 from rfl] at h55;have h59:=o9.take_ (k:=n) (by omega);go_wp2_with fail;refine Tyad ?_;go_wp2_with fail;refine (yY _ _ _ _ Ys (by simp;omega)).mono ?_;rintro e w2 ⟨rfl,ar⟩;rw [CE];go_wp2_with fail;refine lex_go trivial ?_;refine TkE ?_;refine lex_e rfl ?_;go_wp2_with fail;refine (IC _ _ _ _ (h55.ext ar)).mono ?_;rintro e w3 ⟨rfl,ea⟩;go_wp2_with fail;refine lex_go trivial ?_;refine TkE ?_;refine lex_e rfl ?_;go_wp2_with fail;refine (pX _ _ _ _ _ (nY (by omega) _) ((h59.ext ar).ext ea)).mono ?_;rintro e w4 ⟨rfl,ia⟩;rw [BV b k n (by omega) Hn.out];go_wp2_with fail;refine lex_go trivial ?_;refine TkE ?_;have qy:Below w.heap.size w w4:=Below.ext (Below.ext (Below.ext (Below.ext (Below.refl _ _).drew al).drew ar) ea) ia;have h59' :=((h59.ext ar).ext ea).ext ia;by_cases h7:num ((b.drop (k+4)).take 4)=jL ((b.drop (k+8)).take n)
       ·have a9:=aA (tV O7 (by rw [Hn.out];omega) (by rw [Hn.out];omega) (by rw [Hn.out];exact h7));rw [h7];clear h7 Ys h55 h59;refine aR ?_;go_wp2_with fail;go_ret3;rw [a9.out,Hn.out];refine ⟨_,?_,h59'.clip (c' :=n) (Nat.le_refl _) (by unfold maxLen;omega),qy,λ_=> ?_⟩
        rotate_left
        ·rw [Int.toNat_natCast,Hn.out,CN,HA2.out]
        show Ending.returned (Value.tuple #[.slice A2 n n,.int .i64 ((k:Int)+8+(n:Int)),.int .i64 0])=_;rw [show (k:Int)+8+(n:Int)=((k+8+n:Nat):Int) by omega];rfl
       ·have a9:=aA (xG O7 (by rw [Hn.out];omega) (by rw [Hn.out];omega) (by rw [Hn.out];exact h7));have d7:((num ((b.drop (k+4)).take 4):Int) != (jL ((b.drop (k+8)).take n):Int))=true:=by rw [bne_iff_ne];omega
        clear h7 Ys h55 h59;refine aR ?_;go_wp2_with fail;go_ret3;rw [a9.out];exact ⟨_,rfl,Bytes.nil_ _ _,qy,λh=>absurd h (by decide)⟩
theorem xV (v:Value) (b:List UInt8) (S:Nat->Prop) (w:World) (at_:Int) (hv:Bytes S w v b) (hb:b.length<=140737488355328):
 Calls Tryz.prog 71 #[v,.int .i64 at_] w λe w' =>∃v',e= .returned (.tuple #[v',.int .i64 ((bL b at_).2.1:Nat),.int .i64 ((bL b at_).2.2:Nat)])/\Bytes S w' v' (bL b at_).1/\Below w.heap.size w w' :=
 (LM v b S w at_ hv hb).mono λ_ _ ⟨v',h1,h2,h3,_⟩=>⟨v',h1,h2,h3⟩
end Go.Proofs.YtiblijmngokcgaaGreatDoor
namespace Go.Proofs.YtiblijmngokcgaaGreatDoor
open Go.Proofs.Tryz
open Go.RowKit
attribute [local irreducible] Ka inv nq lN lT z8 jL gC dK fF num bL
theorem tF (v:Value) (b:List UInt8) (S:Nat->Prop) (w:World) (at_:Int) (hv:Bytes S w v b) (hb:b.length<=140737488355328):
 Calls Tryz.prog 119 #[v,.int .i64 at_] w λe w' =>∃v',e= .returned (.tuple #[v',.int .i64 ((bL b at_).2.1:Nat),.int .i64 ((bL b at_).2.2:Nat)])/\eb w' w.heap.size 5 v' (bL b at_).1/\Below w.heap.size w w' :=by
 have hB:=hv;obtain ⟨A,c,rfl,ej,ed,fq⟩:=hv;unfold maxLen at ed;by_cases h1:at_<0
 ·have d1:decide (at_<0)=true:=by simpa using h1
  have a9:=aA (mG (b:=b) (at_:=at_) (.inl h1));exact Tzcu
 ·have d1:decide (at_<0)=false:=by simpa using h1
  obtain ⟨k,rfl⟩:=Int.eq_ofNat_of_zero_le (by omega:0<=at_);clear d1;by_cases h2:b.length<k
  ·have d2:decide (b.length<k)=true:=by simpa using h2
   have a9:=aA (mG (b:=b) (at_:=k) (.inr (by omega)));exact Tzcu
  ·have d2:decide (b.length<k)=false:=by simpa using h2
   by_cases h3:k=b.length
   ·have a9:=aA (xH h3);have d3:((k:Int)==(b.length:Int))=true:=beq_iff_eq.2 (by omega);clear h3;exact Tzcu
   ·have d3:((k:Int)==(b.length:Int))=false:=by simp;omega
    by_cases h4:b.length-k<8
    ·have a9:=aA (rP (b:=b) (k:=k) (by omega) h4);have d4:decide ((b.length:Int)-(k:Int)<8)=true:=by simp;omega
     exact Tzcu
    ·have d4:decide ((b.length:Int)-(k:Int)<8)=false:=by simp;omega
     have O7:k+8<=b.length:=by omega
     obtain ⟨b0,o0,x0,rfl,_,_,fa,hc0⟩:=fq.byte (k:=k) (by omega);obtain ⟨_,_,x1,e1,_,_,ev,hc1'⟩:=fq.byte (k:=k+1) (by omega);cases e1;obtain ⟨_,_,x2,e2,_,_,ew,hc2'⟩:=fq.byte (k:=k+2) (by omega);cases e2;obtain ⟨_,_,x3,e3,_,_,rh,hc3'⟩:=fq.byte (k:=k+3) (by omega);cases e3;have g0:=fK x0;have g1:=fK x1;have g2:=fK x2;have g3:=fK x3;have Ry:=OQ _ _ _ _ g0 g1 g2 g3;obtain ⟨n,Du⟩:∃n,x0.toNat+256*x1.toNat+65536*x2.toNat+16777216*x3.toNat=n:=⟨_,rfl⟩
     rw [Du] at Ry;have hn:num ((b.drop k).take 4)=n:=by
      rw [NH (a:=x0) (b:=x1) (c:=x2) (d:=x3) (by simpa using fa) (by simpa using ev) (by simpa using ew) (by simpa using rh),ES,Du]
     have hn32:n<4294967296:=by omega
     have Hn:=aA hn;clear hn Du fa ev ew rh;go_enter func119,ntmps119;go_wp2_with fail;refine Tyad ?_;go_wp2_with fail;refine Tyaj ?_;go_wp2_with fail;refine Tyaj ?_;go_wp2_with fail;refine Tyaj ?_;go_wp2_with fail;refine Tyam ?_;by_cases h5:4096<n
     ·have a9:=aA (vC O7 (by rw [Hn.out];exact h5));exact Tzfh
     ·by_cases h6:b.length-k-8<n
      ·have a9:=aA (rO O7 (by rw [Hn.out];omega) (by rw [Hn.out];exact h6));have d6:decide ((b.length:Int)-(k:Int)-8<(n:Int))=true:=by simp;omega
       exact Tzfh
      ·have d6:decide ((b.length:Int)-(k:Int)-8<(n:Int))=false:=by simp;omega
       go_wp2_with (refine DT (o:=⟨some 76,_,_,_,_,_⟩) (k+8) (k+8+n) c n (c-(k+8)) ((b.drop (k+8)).take n) rfl rfl rfl underlying22 (by kernel_rfl) (.inr ⟨_,_,_,rfl,rfl,by omega⟩) (.inr ⟨_,_,_,rfl,rfl,by omega⟩) (.inl ⟨rfl,rfl⟩) hB.drew (by omega) (by omega) (by omega) (Nat.le_refl _) (by omega) rfl (by rw [Nat.add_sub_cancel_left]) ?_;intro A2 Yq hA2c)
       have Lm:((b.drop (k+8)).take n).length=n:=by simp;omega
       refine (tG _ _ _ _ Yq (by rw [Lm];omega)).mono ?_;rintro e w1 ⟨vh,rfl,ec,al⟩;obtain ⟨Ah,ch,rfl,_,_,hcsh⟩:=ec.bytes;have Zu:(gC ((b.drop (k+8)).take n)).length=8:=iO _;have hiff:=MH b k n (by omega) Hn.out;generalize VW:(b.drop (k+8)).take n=body at*;have Qp:=aA VW;have Hiff:=aA hiff;have Hlb:=aA Lm;clear VW hiff Lm Ry;rw [Zu];have Hhl:=aA Zu;clear Zu;have Ut:Below w.heap.size w w1:=(Below.refl _ _).drew.trans al;go_wp2;go_loopw [10] (λi wr=>∃j:Nat,j<=8/\i= .int .i64 j/\(gC body).take j=((b.drop k).take 8).take j/\Below w1.heap.size w1 wr) (λi _=>8-(intOf i).toNat);case atStart=>exact ⟨0,by omega,rfl,rfl,Below.refl _ _⟩
       case round=>
        obtain ⟨j,hj,rfl,Cf,qy⟩:=hrel;have Htk:=aA Cf;clear Cf;by_cases af:j<8
        ·obtain ⟨bh,oh,x,rfl,_,_,hx,kn⟩:=(hcsh.keep (ae.of_below qy)).byte (k:=j) (by rw [Hhl.out];exact af);obtain ⟨_,_,y,e4,_,_,hy,Am⟩:=((fq.keep (ae.of_below Ut)).keep (ae.of_below qy)).byte (k:=k+j) (by omega);cases e4;have Hx:=aA hx;have Hy:Hid (((b.drop k).take 8)[j]? =some y):=by rw [List.getElem?_take_of_lt af,List.getElem?_drop];exact hy
         clear hx hy hc0 hc1' hc2' hc3';by_cases Rp:x=y
         ·subst Rp;have hne2:(((x.toNat:Nat):Int) != ((x.toNat:Nat):Int))=false:=by simp
          go_wp2_with fail;refine Tyad ?_;go_wp2_with fail;refine Tyaj ?_;go_wp2_with fail;refine Tyam ?_;go_wp2_with fail;go_roundw;case rel=>exact ⟨j+1,by omega,by go_num,zD Htk.out Hx.out Hy.out,qy.drew⟩
          case measure=>simp [intOf];omega
         ·have hne2:(((x.toNat:Nat):Int) != ((y.toNat:Nat):Int))=true:=by
           rw [bne_iff_ne];intro h;exact Rp (UInt8.toNat_inj.1 (by omega))
          have a9:=aA (xG O7 (by rw [Hn.out];omega) (by rw [Hn.out];omega) (by
           rw [Hn.out,Qp.out];intro h;have e:=Hiff.out.2 h;have h1:=Hx.out;rw [e] at h1;have:=h1.symm.trans Hy.out;simp at this;exact Rp this))
          go_wp2_with fail;refine Tyad ?_;go_wp2_with fail;refine Tyaj ?_;go_wp2_with fail;refine Tyam ?_;go_wp2_with fail;go_ret3;rw [a9.out];exact ⟨_,rfl,eb.nil_ _ _ _,(Below.ext Ut qy).drew⟩
        ·obtain rfl:j=8:=by omega
         have heq:gC body=(b.drop k).take 8:=by
          have h1:=Htk.out;rw [List.take_of_length_le (by rw [Hhl.out];omega),List.take_take] at h1;exact h1
         have a9:=aA (tV O7 (by rw [Hn.out];omega) (by rw [Hn.out];omega) (by rw [Hn.out,Qp.out];exact Hiff.out.1 heq));clear heq;have hAr:=((Yq.ext al).ext qy)
         have hs0:=(Below.ext Ut qy).size;go_wp2_with (refine dP (o:=⟨some 95,_,_,_,_,_⟩) _ _ 22 5 w.heap.size [] body A2 n (c-(k+8)) (.slice none 0 0) n rfl rfl underlying22 (by kernel_rfl) rfl rfl (eb.nil_ _ _ _) hAr (by simp) (by simp;omega) hs0 ?_;intro A5 c5 w5 bf bk jm qx qw)
         go_ret3;rw [a9.out,Hn.out,Qp.out];refine ⟨_,?_,bf,eb.grow (eb.nil_ wr w.heap.size 5) bk (Below.ext Ut qy) (Nat.le_refl _) hs0⟩;show Ending.returned (Value.tuple #[.slice A5 n c5,.int .i64 ((k:Int)+8+(n:Int)),.int .i64 0])=_;rw [show (k:Int)+8+(n:Int)=((k+8+n:Nat):Int) by omega];rfl
end Go.Proofs.YtiblijmngokcgaaGreatDoor
