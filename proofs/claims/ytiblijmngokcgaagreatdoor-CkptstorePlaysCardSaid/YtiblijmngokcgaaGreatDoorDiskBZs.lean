import Derived.Test.YtiblijmngokcgaaGreatDoorDiskAZs
import Derived.Test.YtiblijmngokcgaaGreatDoorCodecCZs
set_option linter.unusedVariables false
set_option maxHeartbeats 4000000
set_option maxRecDepth 100000
namespace Go.Proofs.YtiblijmngokcgaaGreatDoor
open Go.Proofs.Tryz
open Go.RowKit
theorem RY (A:Option Addr) (n c:Nat) (x:Int) (zs:List Int) (S:Nat->Prop) (w:World) (h:a7 bB S w (.slice A n c) zs) (hn:n<=100000000):
 Calls Tryz.prog 103 #[.slice A n c,.int .i64 x] w λe w' =>e= .returned (.bool (decide (x∈zs)))/\w' =w:=by
 have hl:=h.len;have HL:=aA hl.1;go_enter func103,ntmps103;go_wp2;go_loop [5] (λv=>∃k:Nat,v= .int .i64 k/\k<=n/\x∉zs.take k) (λv=>n-(intOf v).toNat);case atStart=>exact ⟨0,rfl,by omega,by simp⟩
 case round=>
  obtain ⟨k,rfl,hk,hnot⟩:=hrel;have HN:=aA hnot;clear hnot;by_cases af:k<n
  ·obtain ⟨b,off,z,rfl,_,hb,hz,hc⟩:=h.at_ cD (j:=k) (by have:=HL.out;omega) (by omega);have qz:=hc 0 _ rfl;rw [Nat.mul_one,Nat.add_zero] at qz;have Cf:zs.take (k+1)=zs.take k++ [z]:=by rw [List.take_add_one,hz];rfl
   have et:z∈zs:=List.mem_of_getElem? hz
   have L5:=aA Cf;have HM:=aA et;clear hc hz Cf et;by_cases hzx:z=x
   ·have dz:(z==x)=true:=by simpa using hzx
    have hd:decide (x∈zs)=true:=by rw [<-hzx];simpa using HM.out
    go_wp2;go_ret;exact ⟨rfl,rfl⟩
   ·have dz:(z==x)=false:=by simpa using hzx
    have S0:x∉zs.take (k+1):=by rw [L5.out,List.mem_append,List.mem_singleton];exact λq=>q.elim HN.out (λe=>hzx e.symm)
    have HN2:=aA S0;clear S0;go_wp2;go_round;case rel=>exact ⟨k+1,by go_num,by omega,HN2.out⟩
    case measure=>simp [intOf];omega
  ·obtain rfl:k=n:=by omega
   have hd:decide (x∈zs)=false:=by
    have:=HN.out;rw [List.take_of_length_le (by have:=HL.out;omega)] at this;simpa using this
   go_wp2;go_ret;exact ⟨rfl,rfl⟩
def lO (q:List UInt8) (L:List Int) (i:Nat):List UInt8:=q.mapIdx (λj c=>if j<i/\((j / 16:Nat):Int)∈L then 0 else c)
theorem lZ (q:List UInt8) (L:List Int) (i j:Nat):(lO q L i)[j]? =q[j]?.map (λc=>if j<i/\((j / 16:Nat):Int)∈L then 0 else c):=by simp [lO]
theorem IH (q:List UInt8) (L:List Int):lO q L 0=q:=by
 apply List.ext_getElem?
 intro j;rw [lZ];simp
theorem LS (q:List UInt8) (L:List Int):lO q L q.length=sX q L:=by
 apply List.ext_getElem?
 intro j;rw [lZ,IN];by_cases h:j<q.length
 ·simp [h]
 ·rw [List.getElem?_eq_none (by omega)];rfl
theorem LR (q:List UInt8) (L:List Int) (i:Nat) (h:((i / 16:Nat):Int)∈L):(lO q L i).set i 0=lO q L (i+1):=by
 apply List.ext_getElem?
 intro j;rw [List.getElem?_set,lZ,lZ];by_cases uq:i=j
 ·subst uq;have hl:(lO q L i).length=q.length:=by simp [lO]
  rw [if_pos rfl,hl];by_cases af:i<q.length
  ·rw [if_pos af,List.getElem?_eq_getElem af,Option.map_some,if_pos ⟨by omega,h⟩]
  ·rw [if_neg af,List.getElem?_eq_none (by omega)];rfl
 ·rw [if_neg uq];have:(j<i)↔(j<i+1):=by omega
  simp only [this]
theorem OV (q:List UInt8) (L:List Int) (i:Nat) (h:¬((i / 16:Nat):Int)∈L):lO q L i=lO q L (i+1):=by
 apply List.ext_getElem?
 intro j;rw [lZ,lZ];by_cases uq:i=j
 ·subst uq;simp only [h,and_false,if_false]
 ·have:(j<i)↔(j<i+1):=by omega
  simp only [this]
theorem zC (A:Option Addr) (n c:Nat) (p:List UInt8) (S:Nat->Prop) (keep:Int) (At:Option Addr) (nt ct:Nat) (lost:List Int) (St:Nat->Prop) (w:World) (hp:By S w (.slice A n c) p) (hT:a7 bB St w (.slice At nt ct) lost) (hn:n<=100000000) (hnt:nt<=100000000):
 Calls Tryz.prog 44 #[.slice A n c,.agg #[.int .i64 keep,.slice At nt ct]] w λe w' =>∃A' c',e= .returned (.slice A' (dM p keep) c')/\a8 fV 1 w' w.heap.size 5 (.slice A' (dM p keep) c') (oT p keep lost)/\Below w.heap.size w w' :=by
 have hl:=hp.len;have Ln:=qH p keep;have hN:min (max keep 0) (n:Int)=(dM p keep:Int):=by rw [<-hl.1];unfold dM;omega
 have hmax:=λw=>KN (P:=Tryz.prog) w #[3,3] 3 keep 0
 have hmin:=λw=>KL (P:=Tryz.prog) w #[3,3] 3 (max keep 0) (n:Int)
 rw [hN] at hmin;have hq:lO (p.take (dM p keep)) lost (dM p keep)=oT p keep lost:=by
  have:=LS (p.take (dM p keep)) lost;rw [List.length_take,Nat.min_eq_left Ln] at this;rw [this];rfl
 have HQ:=aA hq;have hNn:dM p keep<=n:=by omega
 have hpt:=hp.take_ fC (j:=dM p keep) hNn;have HL:=aA hl.1;have dd:=hl.2;clear hN hq Ln hl;generalize dM p keep=N at*;have VE:(p.take N).length=N:=by rw [List.length_take,HL.out];omega
 have HQL:=aA VE;generalize p.take N=q at*;have ha:Below w.heap.size w (w.alloc (.cells #[.int .i64 keep,.slice At nt ct] 45)):=(Below.refl _ _).alloc (Nat.le_refl _) _;obtain ⟨W,hW⟩:=eX (w.alloc (.cells #[.int .i64 keep,.slice At nt ct] 45));have az:W.heap[w.heap.size]? =some (.cells #[.int .i64 keep,.slice At nt ct] 45 (0,0)):=by rw [hW];exact heap_alloc_new _ _
 have fo:W.heap.size=w.heap.size+1:=by rw [hW];simp
 rw [<-hW] at ha;have HR:=aA az;clear VE az;go_enter func44,ntmps44;go_wp2_with (refine aJ (o:=⟨some 17,_,_,_,_,_⟩) fC fI (.int .u8 0) 1 _ _ 22 5 (w.heap.size+1) [] q A N c (.slice none 0 0) N rfl rfl underlying22 jG rfl (by omega) rfl rfl (a8.nil_ _ _ _) (D:=S) (by rw [<-hW];exact hpt.ext ha) (by simp) (by simp;omega) (by simp;omega) (by simp) ?_;intro A5 c5 w5 bf bk jm qx qw)
 rw [<-hW] at bk;clear hmax hmin hW;have b5:Below W.heap.size W w5:=⟨bk.os,bk.tape,bk.output,bk.size,λi hi=>bk.block i hi (by simp [Value.ownBlock])⟩
 have Gq:a8 fV 1 w5 (w.heap.size+1) 5 (.slice A5 N c5) (lO q lost 0):=by rw [IH];simpa using bf
 have bw5:=Below.ext ha b5;have Nv:=(b5.block w.heap.size (by omega)).trans HR.out;have hT5:=(hT.mono (S' :=(·<w.heap.size)) (λb hb _=>hb)).ext bw5;have HR5:=aA Nv;have s5:=bw5.size;clear Nv bf bk jm hpt;go_loopw [7] (λi wr=>∃j:Nat,i= .int .i64 j/\j<=N/\a8 fV 1 wr (w.heap.size+1) 5 (.slice A5 N c5) (lO q lost j)/\Below (w.heap.size+1) w5 wr) (λi _=>N-(intOf i).toNat);case atStart=>exact ⟨0,rfl,by omega,Gq,Below.refl _ _⟩
 case round=>
  clear Gq;obtain ⟨j,rfl,hj,aj,ag⟩:=hrel;by_cases af:j<N
  ·have dj:decide (j<N)=true:=by simpa using af
   have hmix:(lO q lost j).length=N:=aj.len.1;obtain ⟨g,rfl,fj,da⟩:=aj.some_ (by omega);obtain ⟨⟨u0,J5⟩,hf0⟩:=aj.cellB af;have tv:=(ag.block w.heap.size (by omega)).trans HR5.out;have q1:=fi tv;have hTr:=hT5.keep (w' :=wr) (λb _ h=>ag.block b (by omega));have hx:((j:Int) / 16)=((j / 16:Nat):Int):=by omega
   have eg:=RY At nt ct ((j:Int) / 16) lost _ wr hTr hnt;have Hin:=aA eg;clear eg tv hmix;by_cases hm:((j / 16:Nat):Int)∈lost
   ·have hd:decide (((j:Int) / 16)∈lost)=true:=by rw [hx];simpa using hm
    have Xi:=aj.setB j 0;rw [LR _ _ _ hm] at Xi;have HS:=aA Xi;have vg:=ag.setCell (p:=⟨g,j,none⟩) (by show w.heap.size+1<=g;omega) (.int .u8 0);clear Xi hx;go_wp2_with fail;refine Hin.out.mono ?_;rintro e w7 ⟨rfl,rfl⟩;rw [hd];go_wp2;go_roundw;case rel=>exact ⟨j+1,by go_num,by omega,HS.out,vg⟩
    case measure=>simp [intOf];omega
   ·have hd:decide (((j:Int) / 16)∈lost)=false:=by rw [hx];simpa using hm
    rw [OV _ _ _ hm] at aj;clear hx;go_wp2_with fail;refine Hin.out.mono ?_;rintro e w7 ⟨rfl,rfl⟩;rw [hd];go_wp2;go_roundw;case rel=>exact ⟨j+1,by go_num,by omega,aj,ag⟩
    case measure=>simp [intOf];omega
  ·obtain rfl:j=N:=by omega
   rw [HQ.out] at aj;go_wp2;go_ret;exact ⟨A5,c5,rfl,aj.weak (by omega),bw5.trans (ag.mono (by omega))⟩
def j9 (base:Nat) (w:World) (v:Value) (fl:List au):Prop:=∃xs,a8 iG 2 w base 86 v xs/\xs.length=fl.length/\∀(i:Nat) (x:FV) (f:au),xs[i]? =some x->fl[i]? =some f->yz (λb=>base<=b/\v.ownBlock≠some b) w x f
theorem j9.nil_ (base:Nat) (w:World):j9 base w (.slice none 0 0) []:=⟨[],a8.nil_ _ _ _,rfl,λi x f hx=>by simp at hx⟩
theorem j9.dsk {base:Nat} {w:World} {v:Value} {fl:List au} (h:j9 base w v fl):fh (base<=·) w v fl:=by
 obtain ⟨xs,h1,h2,h3⟩:=h;exact ⟨xs,h1.recs.mono (λ_ _ h=>h.1),h2,λi x f hx hf=>(h3 i x f hx hf).mono (λ_ _ h=>h.1)⟩
theorem j9.len {base:Nat} {w:World} {A:Option Addr} {n c:Nat} {fl:List au} (h:j9 base w (.slice A n c) fl):fl.length=n/\n<=c/\c<=9223372036854775807:=h.dsk.len
theorem j9.kept {base g:Nat} {w w' :World} {v:Value} {fl:List au} (h:j9 base w v fl) (hg:w.grownBy w' (some g)) (af:g<base):j9 base w' v fl:=by
 obtain ⟨xs,h1,h2,h3⟩:=h;refine ⟨xs,h1.kept hg ?_,h2,λi x f hx hf=>(h3 i x f hx hf).keep (λb hb hs=>hg.block b hb (λe=>by cases e;omega))⟩;exact Tzeg
theorem AU {base:Nat} {w w' :World} {v v' :Value} {x:FV} {f:au} (h:yz (λb=>base<=b/\v.ownBlock≠some b) w x f) (hg:w.grownBy w' v.ownBlock) (jx:v'.ownBlock=v.ownBlock∨v'.ownBlock=some w.heap.size):
 yz (λb=>base<=b/\v'.ownBlock≠some b) w' x f:=by
 have h1:yz (λb=>base<=b/\v.ownBlock≠some b/\b<w.heap.size) w x f:=h.mono (λb hb hs=>⟨hs.1,hs.2,hb⟩);exact Tzd1
theorem j9.push {base:Nat} {w w' :World} {v v' :Value} {fl:List au} {xs:List FV} (hx:xs.length=fl.length/\∀(i:Nat) (x:FV) (f:au),xs[i]? =some x->fl[i]? =some f->yz (λb=>base<=b/\v.ownBlock≠some b) w x f)
 (x:FV) (f:au) (h2:yz (λb=>base<=b/\v.ownBlock≠some b) w x f) (aj:a8 iG 2 w' base 86 v' (xs++ [x])) (hg:w.grownBy w' v.ownBlock) (jx:v'.ownBlock=v.ownBlock∨v'.ownBlock=some w.heap.size):j9 base w' v' (fl++ [f]):=by
 refine ⟨_,aj,by simp [hx.1],λi x' f' o6 xh => ?_⟩;rcases Nat.lt_or_ge i xs.length with hi|hi
 ·rw [List.getElem?_append_left hi] at o6;rw [List.getElem?_append_left (by omega)] at xh;exact AU (hx.2 i x' f' o6 xh) hg jx
 ·rw [List.getElem?_append_right hi] at o6;rw [List.getElem?_append_right (by omega)] at xh;have Ej :i-xs.length=0:=by
   exact Tze1
  rw [Ej] at o6;rw [<-hx.1,Ej] at xh;cases o6;cases xh;exact AU h2 hg jx
theorem vN (fs:List au) (ts:List xp) (j:Nat) (f:au) (h:fs[j]? =some f):(lS fs ts).take (j+1)=(lS fs ts).take j++ [jU ts j f]:=by
 rw [List.take_add_one];congr 1;unfold lS;rw [List.getElem?_mapIdx,h];rfl
theorem zR (A:Option Addr) (n c:Nat) (fs:List au) (S:Nat->Prop) (w:World) (hD:fh S w (.slice A n c) fs) (hn:n<=1000) (At:Option Addr) (nt ct:Nat) (ts:List xp) (St:Nat->Prop) (hT:UJ St w (.slice At nt ct) ts) (hlen:∀f∈fs,f.s.length+f.p.length<=3000000) (eu:∀t∈ts,t.lost.length<=3000000):
 Calls Tryz.prog 18 #[.agg #[.slice A n c],.slice At nt ct] w λe w' =>∃A' c',e= .returned (.agg #[.slice A' n c'])/\fh (w.heap.size<=·) w' (.slice A' n c') (lS fs ts)/\Below w.heap.size w w' :=by
 have sx:=hD.lo;have hT0:=hT.mono (S' :=(·<w.heap.size)) (λ_ h _=>h);obtain ⟨Oi,Oh,hd3⟩:=hD.len;obtain ⟨ht1,ht2,ht3⟩:=hT.len;have HD1:=aA Oi;have Wz:=aA ht1;have HLen:=aA hlen;have HLt:=aA eu;clear Oi ht1 hlen eu;obtain ⟨W0,Et,H9,Xj,vd,iy⟩:=fQ w (.slice A n c);obtain ⟨W,hW⟩:=eX (W0.alloc (.cells #[.slice none 0 0] 36));have vk:Below W0.heap.size W0 W:=by rw [hW];exact (Below.refl _ _).alloc (Nat.le_refl _) _
 have Kg:W.heap[W0.heap.size]? =some (.cells #[.slice none 0 0] 36 (0,0)):=by rw [hW];exact heap_alloc_new _ _
 have r0:=(vk.block w.heap.size (by omega)).trans vd;have r1:=(vk.block (w.heap.size+1) (by omega)).trans iy;have bW:=Below.ext H9 vk;have fo:W.heap.size=w.heap.size+3:=by rw [hW];simp [Xj]
 rw [Xj] at Kg;have R0:=aA r0;have R1:=aA r1;have R2:=aA Kg;have jz:=aA fo;go_enter func18,ntmps18;go_wp2_with fail;rw [show w.heap.size+1+1=w.heap.size+2 by omega];rw [<-Et,<-hW];clear Et hW H9 Xj vk vd iy Kg r0 r1 fo;have Ht:∀w:World,(isAgg 34).run Tryz.prog w= .ok false w:=λw=>by simp [isAgg,run_underlying underlying34]
 have Bt:∀w:World,(isAgg 22).run Tryz.prog w= .ok false w:=λw=>by simp [isAgg,run_underlying underlying22]
 have Zc:=aA Ht;have Mq:=aA Bt;clear Ht Bt;go_loopw [6] (λv wr=>∃(j:Nat) (A' :Option Addr) (c' :Nat),v= .int .i64 j/\j<=n/\wr.heap[w.heap.size+2]? =some (.cells #[.slice A' j c'] 36 (0,0))/\j9 (w.heap.size+3) wr (.slice A' j c') ((lS fs ts).take j)/\Below w.heap.size w wr/\W.grownBy wr (some (w.heap.size+2))) (λv _=>n-(intOf v).toNat);case atStart=>exact ⟨0,none,0,rfl,by omega,R2.out,by rw [List.take_zero];exact j9.nil_ _ _,bW,mJ _ _⟩
 case round=>
  obtain ⟨j,A',c',rfl,hj,ho,hF,ag,ja⟩:=hrel;have HO:=aA ho;have hO:w.heap.size+2<wr.heap.size:=(Array.getElem?_eq_some_iff.1 ho).1;clear ho;have Ts :wr.cell? ⟨w.heap.size,0,none⟩=some (.slice A n c):=by
   have:=(ja.block w.heap.size (by have:=jz.out;omega) (by simp)).trans R0.out;rw [cell_of_row _ _ _ _ _ _ this];rfl
  by_cases af:j<n
  ·obtain ⟨b,off,x,f,rfl,j6,Ui,hx,c0,c1⟩:=sx.at_ af;have HF:=aA Ui;have Hp:=aA hx.p.len.1;have Hsl:=aA hx.s.len.1;have hpn:x.n1+x.n2<=3000000:=by have h1:=HLen.out f (List.mem_of_getElem? Ui);have:=hx.s.len.1;have:=hx.p.len.1;omega
   have Q7 :=(ag.cell (p:=⟨b,off+j*2,none⟩) j6).trans c0;have UH :=(ag.cell (p:=⟨b,off+j*2+1,none⟩) j6).trans c1;have hbl' :=block_lt_of_cell Q7;have hwlt:w.heap.size<wr.heap.size:=by omega
   clear Ui c0 c1;by_cases Zs:j<nt
   ·have dt:decide (j<nt)=true:=by simpa using Zs
    obtain ⟨bt,ot,yt,tt,rfl,Lu,htt,hky,ua,e0,e1⟩:=hT0.at_ Zs;have e0' :=(ag.cell (p:=⟨bt,ot+j*2,none⟩) Lu).trans e0;have e1' :=(ag.cell (p:=⟨bt,ot+j*2+1,none⟩) Lu).trans e1;have hbt' :=block_lt_of_cell e0';have Xf:jK ts j=tt:=by unfold jK;rw [htt];rfl
    have Qs :(jK ts j).keep=yt.keep:=by rw [Xf,hky]
    have Qr :(jK ts j).lost=tt.lost:=by rw [Xf]
    have hyl:yt.n<=3000000:=by have h1:=HLt.out tt (List.mem_of_getElem? htt);have:=ua.len.1;omega
    have YV:=aA Qs;have YU:=aA Qr;clear htt hky Xf e0 e1 Qs Qr;go_wp2_with fail;obtain ⟨W3,ig⟩:=eX ((wr.alloc (.cells #[.int .i64 yt.keep,.slice yt.A yt.n yt.c] 45)).alloc (.cells #[.slice x.A1 x.n1 x.c1,.slice x.A2 x.n2 x.c2] 86));have Jl:Below wr.heap.size wr W3:=by rw [ig];exact ((Below.refl _ _).alloc (Nat.le_refl _) _).alloc (by simp) _
    have Nq:W3.heap.size=wr.heap.size+2:=by rw [ig];simp
    have hrT:W3.heap[wr.heap.size]? =some (.cells #[.int .i64 yt.keep,.slice yt.A yt.n yt.c] 45 (0,0)):=by rw [ig];exact (((Below.refl _ _).alloc (Nat.le_refl _) _).block wr.heap.size (by simp)).trans (heap_alloc_new wr _)
    have hrF:W3.heap[wr.heap.size+1]? =some (.cells #[.slice x.A1 x.n1 x.c1,.slice x.A2 x.n2 x.c2] 86 (0,0)):=by
     rw [ig];have:=heap_alloc_new (wr.alloc (.cells #[.int .i64 yt.keep,.slice yt.A yt.n yt.c] 45)) (.cells #[.slice x.A1 x.n1 x.c1,.slice x.A2 x.n2 x.c2] 86);rw [World.size_alloc] at this;exact this
    have hrO:=(Jl.block (w.heap.size+2) hO).trans HO.out;rw [<-ig];have Di:=aA Nq;have HrT:=aA hrT;have HrF:=aA hrF;have HrO:=aA hrO;clear ig Nq hrT hrF hrO Ts Q7 UH;have ZK:=Below.ext ag Jl;have jk:∀(w' :World) (g o:Nat) (cs:Array Value) (e:TypeId) (v:Value),w'.heap[g]? =some (.cells cs e (0,0))->cs[o]? =some v->w'.cell? ⟨g,o,none⟩=some v:=λw' g o cs e v h hv=>by rw [cell_of_row _ _ _ _ _ _ h];exact hv
    have HC:=aA jk;clear jk;refine fH (λw' =>w'.heap[w.heap.size+2]? =some (.cells #[.slice A' j c'] 36 (0,0))/\w'.heap[wr.heap.size]? =some (.cells #[.int .i64 yt.keep,.slice yt.A yt.n yt.c] 45 (0,0))/\w'.heap[wr.heap.size+1]? =some (.cells #[.slice x.A1 x.n1 x.c1,.slice x.A2 x.n2 x.c2] 86 (0,0))) 13 (by kernel_rfl) (by kernel_rfl) (by kernel_rfl) (by decide) ⟨HrO.out,HrT.out,HrF.out⟩ ?_;refine Tya3 ?_;have rh:=(hx.s.ext ZK).ext (w' :=W3.drew) (Below.refl _ _).drew;refine Tybb ?_;intro A5 c5 w5 bf bk jm qx qw;have b5:Below W3.heap.size W3 w5:=⟨bk.os,bk.tape,bk.output,bk.size,λi hi=>bk.block i hi (by simp [Value.ownBlock])⟩
    rw [List.nil_append] at bf;have hls:∀b,b<W3.heap.size->∀w',Below W3.heap.size W3 w'->w'.heap[b]? =W3.heap[b]? :=λb hb w' h=>h.block b hb
    have HLS:=aA hls;have An:=λ(w' :World) (h:Below W3.heap.size W3 w')=>(⟨(h.block (w.heap.size+2) (by have:=Di.out;omega)).trans HrO.out,(h.block wr.heap.size (by have:=Di.out;omega)).trans HrT.out,(h.block (wr.heap.size+1) (by have:=Di.out;omega)).trans HrF.out⟩:w'.heap[w.heap.size+2]? =some (.cells #[.slice A' j c'] 36 (0,0))/\w'.heap[wr.heap.size]? =some (.cells #[.int .i64 yt.keep,.slice yt.A yt.n yt.c] 45 (0,0))/\w'.heap[wr.heap.size+1]? =some (.cells #[.slice x.A1 x.n1 x.c1,.slice x.A2 x.n2 x.c2] 86 (0,0)))
    have xx:=aA An;clear hls An bk jm;refine Tyba ?_;go_wp2_with fail;refine (zC x.A2 x.n2 x.c2 f.p _ yt.keep yt.A yt.n yt.c tt.lost _ w5 ((hx.p.ext ZK).ext b5) ((ua.ext ZK).ext b5) (by omega) (by omega)).mono ?_;rintro e w6 ⟨A6,c6,rfl,ru,il⟩;have b6:=Below.ext b5 il;have hkp:=qH f.p yt.keep;have jd:=Hp.out;have s5:=b5.size;go_wp2_with fail;refine aD (xx.out w6 b6) ?_;refine TkA ?_;have xb :=bf.ext il;have J6:=Hsl.out;refine aF rfl ?_;refine aJ fC fI (.int .u8 0) 1 _ _ 22 5 W3.heap.size f.s (oT f.p yt.keep tt.lost) A6 (dM f.p yt.keep) c6 (.slice A5 x.n1 c5) (x.n1+dM f.p yt.keep) rfl rfl underlying22 jG rfl (by omega) rfl rfl xb ru.recs (by omega) (by omega) (by omega) (by have:=b6.size;omega) ?_;intro A7 c7 w7 ve Cu Oy Um Ul;have b7:Below W3.heap.size W3 w7:=xb.grow Cu b6 (Nat.le_refl _) b6.size;refine aD (xx.out w7 b7) ?_;refine Tyac ?_;have ha8:∀o,Below w7.heap.size w7 (w7.alloc o):=λo=>(Below.refl _ _).alloc (Nat.le_refl _) o
    have b8:=Below.ext b7 (ha8 (.cells #[.slice A7 (x.n1+dM f.p yt.keep) c7,.slice none 0 0] 86));have ax:a7 iG (λ_=>True) (w7.alloc (.cells #[.slice A7 (x.n1+dM f.p yt.keep) c7,.slice none 0 0] 86)) (.slice (some ⟨w7.heap.size,0,none⟩) 1 1) [⟨A7,x.n1+dM f.p yt.keep,c7,none,0,0⟩]:=⟨_,1,rfl,by simp,by simp [maxLen],Cs.lit _ _ _ _ _ trivial rfl⟩
    refine aF rfl ?_;go_wp2_with fail;refine aD (xx.out w7 b7) ?_;refine Tyah ?_;go_wp2_with fail;refine aD (xx.out _ b8) ?_;refine TkA ?_;have Mh:=Below.ext Jl b8;have nf:=hF.len;obtain ⟨xs,Lc,oo,Gg⟩:=hF;have ic:xs.length=j:=by omega
    have YH:=aA ic;have Nl:=Lc.ext Mh;have az:∀b,(Value.slice A' j c').ownBlock=some b->w.heap.size+3<=b/\b<wr.heap.size:=λb e=>World.ownsRow.lt Lc _ e
    clear ic;refine aF rfl ?_;refine aJ fZ oO pV 48 _ _ 34 86 (w.heap.size+3) xs [⟨A7,x.n1+dM f.p yt.keep,c7,none,0,0⟩] (some ⟨w7.heap.size,0,none⟩) 1 1 (.slice A' j c') (j+1) rfl rfl underlying34 tB rfl (by omega) rfl rfl Nl ax (by rw [YH.out]) (by have:=YH.out;omega) (by have:=YH.out;omega) (by have:=Mh.size;omega) ?_;intro A9 c9 w9 ao ai ck gq gp;have s8:=b8.size;have Yd:w9.heap[w.heap.size+2]? =some (.cells #[.slice A' j c'] 36 (0,0))/\w9.heap[wr.heap.size]? =some (.cells #[.int .i64 yt.keep,.slice yt.A yt.n yt.c] 45 (0,0))/\w9.heap[wr.heap.size+1]? =some (.cells #[.slice x.A1 x.n1 x.c1,.slice x.A2 x.n2 x.c2] 86 (0,0)):=by
     exact Tzc6
    have Ed:=Yd.1;refine aD Yd ?_;clear Yd;refine TkI ?_;refine aP ?_;have q9:w9.frozen? ⟨w.heap.size+2,0,none⟩=false:=frozen_of_row _ _ _ _ _ Ed
    have q9' :=bn Ed;have YP:=aA Ed;clear Ed;have ie:w9.grownBy (w9.setCell ⟨w.heap.size+2,0,none⟩ (.slice A9 (j+1) c9)) (some (w.heap.size+2)):=aL (mJ _ _);have Nr:(w9.setCell ⟨w.heap.size+2,0,none⟩ (.slice A9 (j+1) c9)).heap[w.heap.size+2]? =some (.cells #[.slice A9 (j+1) c9] 36 (0,0)):=heap_setCell_same _ _ _ _ _ _ YP.out
    have Uh:yz (λb=>w.heap.size+3<=b/\(Value.slice A' j c').ownBlock≠some b) (w7.alloc (.cells #[.slice A7 (x.n1+dM f.p yt.keep) c7,.slice none 0 0] 86)) ⟨A7,x.n1+dM f.p yt.keep,c7,none,0,0⟩ (jU ts j f):=by
     refine ⟨?_,a7.nil_ _ _⟩;rw [show (jU ts j f).s=f.s++oT f.p yt.keep tt.lost by unfold jU;rw [YV.out,YU.out]];exact Tzex
    have Of:=(j9.push ⟨oo,λi x' f' o6 xh =>(Gg i x' f' o6 xh).ext Mh⟩ ⟨A7,x.n1+dM f.p yt.keep,c7,none,0,0⟩ (jU ts j f) Uh ao ai ck).kept ie (by omega);rw [<-vN fs ts j f HF.out] at Of;have gf:Below w.heap.size w w9:=Nl.grow ai (Below.ext ag Mh) (by omega) (by have:=Mh.size;omega);have jc:=Below.grow gf ie (by omega);have hgg:W.grownBy (w9.setCell ⟨w.heap.size+2,0,none⟩ (.slice A9 (j+1) c9)) (some (w.heap.size+2)):=by
     have h1:=rZ ja (oY Mh);refine ⟨ie.os.trans (ai.os.trans h1.os),ie.tape.trans (ai.tape.trans h1.tape),ie.output.trans (ai.output.trans h1.output),Nat.le_trans h1.size (Nat.le_trans ai.size ie.size),λi hi fb=> ?_⟩;have hi8:i<(w7.alloc (.cells #[.slice A7 (x.n1+dM f.p yt.keep) c7,.slice none 0 0] 86)).heap.size:=Nat.lt_of_lt_of_le hi h1.size;exact Tzem
    exact Tzcr
   ·have dt:decide (j<nt)=false:=by simpa using Zs
    have Xf:jK ts j=⟨0,[]⟩:=by unfold jK;rw [List.getElem?_eq_none (by have:=Wz.out;omega)];rfl
    have Qs :(jK ts j).keep=0:=by rw [Xf]
    have Qr :(jK ts j).lost=[]:=by rw [Xf]
    have YV:=aA Qs;have YU:=aA Qr;clear Xf Qs Qr;go_wp2_with fail;obtain ⟨W3,ig⟩:=eX ((wr.alloc (.cells #[.int .i64 0,.slice none 0 0] 45)).alloc (.cells #[.slice x.A1 x.n1 x.c1,.slice x.A2 x.n2 x.c2] 86));have Jl:Below wr.heap.size wr W3:=by rw [ig];exact ((Below.refl _ _).alloc (Nat.le_refl _) _).alloc (by simp) _
    have Nq:W3.heap.size=wr.heap.size+2:=by rw [ig];simp
    have hrT:W3.heap[wr.heap.size]? =some (.cells #[.int .i64 0,.slice none 0 0] 45 (0,0)):=by rw [ig];exact (((Below.refl _ _).alloc (Nat.le_refl _) _).block wr.heap.size (by simp)).trans (heap_alloc_new wr _)
    have hrF:W3.heap[wr.heap.size+1]? =some (.cells #[.slice x.A1 x.n1 x.c1,.slice x.A2 x.n2 x.c2] 86 (0,0)):=by
     rw [ig];have:=heap_alloc_new (wr.alloc (.cells #[.int .i64 0,.slice none 0 0] 45)) (.cells #[.slice x.A1 x.n1 x.c1,.slice x.A2 x.n2 x.c2] 86);rw [World.size_alloc] at this;exact this
    have hrO:=(Jl.block (w.heap.size+2) hO).trans HO.out;rw [<-ig];have Di:=aA Nq;have HrT:=aA hrT;have HrF:=aA hrF;have HrO:=aA hrO;clear ig Nq hrT hrF hrO Ts Q7 UH;have ZK:=Below.ext ag Jl;have jk:∀(w' :World) (g o:Nat) (cs:Array Value) (e:TypeId) (v:Value),w'.heap[g]? =some (.cells cs e (0,0))->cs[o]? =some v->w'.cell? ⟨g,o,none⟩=some v:=λw' g o cs e v h hv=>by rw [cell_of_row _ _ _ _ _ _ h];exact hv
    have HC:=aA jk;clear jk;refine fH (λw' =>w'.heap[w.heap.size+2]? =some (.cells #[.slice A' j c'] 36 (0,0))/\w'.heap[wr.heap.size]? =some (.cells #[.int .i64 0,.slice none 0 0] 45 (0,0))/\w'.heap[wr.heap.size+1]? =some (.cells #[.slice x.A1 x.n1 x.c1,.slice x.A2 x.n2 x.c2] 86 (0,0))) 13 (by kernel_rfl) (by kernel_rfl) (by kernel_rfl) (by decide) ⟨HrO.out,HrT.out,HrF.out⟩ ?_;refine Tya3 ?_;have rh:=(hx.s.ext ZK).ext (w' :=W3.drew) (Below.refl _ _).drew;refine Tybb ?_;intro A5 c5 w5 bf bk jm qx qw;have b5:Below W3.heap.size W3 w5:=⟨bk.os,bk.tape,bk.output,bk.size,λi hi=>bk.block i hi (by simp [Value.ownBlock])⟩
    rw [List.nil_append] at bf;have hls:∀b,b<W3.heap.size->∀w',Below W3.heap.size W3 w'->w'.heap[b]? =W3.heap[b]? :=λb hb w' h=>h.block b hb
    have HLS:=aA hls;have An:=λ(w' :World) (h:Below W3.heap.size W3 w')=>(⟨(h.block (w.heap.size+2) (by have:=Di.out;omega)).trans HrO.out,(h.block wr.heap.size (by have:=Di.out;omega)).trans HrT.out,(h.block (wr.heap.size+1) (by have:=Di.out;omega)).trans HrF.out⟩:w'.heap[w.heap.size+2]? =some (.cells #[.slice A' j c'] 36 (0,0))/\w'.heap[wr.heap.size]? =some (.cells #[.int .i64 0,.slice none 0 0] 45 (0,0))/\w'.heap[wr.heap.size+1]? =some (.cells #[.slice x.A1 x.n1 x.c1,.slice x.A2 x.n2 x.c2] 86 (0,0)))
    have xx:=aA An;clear hls An bk jm;refine Tyba ?_;go_wp2_with fail;refine (zC x.A2 x.n2 x.c2 f.p _ 0 none 0 0 [] _ w5 ((hx.p.ext ZK).ext b5) (a7.nil_ (λ_=>True) _) (by omega) (by omega)).mono ?_;rintro e w6 ⟨A6,c6,rfl,ru,il⟩;have b6:=Below.ext b5 il;have hkp:=qH f.p 0;have jd:=Hp.out;have s5:=b5.size;go_wp2_with fail;refine aD (xx.out w6 b6) ?_;refine TkA ?_;have xb :=bf.ext il;have J6:=Hsl.out;refine aF rfl ?_;refine aJ fC fI (.int .u8 0) 1 _ _ 22 5 W3.heap.size f.s (oT f.p 0 []) A6 (dM f.p 0) c6 (.slice A5 x.n1 c5) (x.n1+dM f.p 0) rfl rfl underlying22 jG rfl (by omega) rfl rfl xb ru.recs (by omega) (by omega) (by omega) (by have:=b6.size;omega) ?_;intro A7 c7 w7 ve Cu Oy Um Ul;have b7:Below W3.heap.size W3 w7:=xb.grow Cu b6 (Nat.le_refl _) b6.size;refine aD (xx.out w7 b7) ?_;refine Tyac ?_;have ha8:∀o,Below w7.heap.size w7 (w7.alloc o):=λo=>(Below.refl _ _).alloc (Nat.le_refl _) o
    have b8:=Below.ext b7 (ha8 (.cells #[.slice A7 (x.n1+dM f.p 0) c7,.slice none 0 0] 86));have ax:a7 iG (λ_=>True) (w7.alloc (.cells #[.slice A7 (x.n1+dM f.p 0) c7,.slice none 0 0] 86)) (.slice (some ⟨w7.heap.size,0,none⟩) 1 1) [⟨A7,x.n1+dM f.p 0,c7,none,0,0⟩]:=⟨_,1,rfl,by simp,by simp [maxLen],Cs.lit _ _ _ _ _ trivial rfl⟩
    refine aF rfl ?_;go_wp2_with fail;refine aD (xx.out w7 b7) ?_;refine Tyah ?_;go_wp2_with fail;refine aD (xx.out _ b8) ?_;refine TkA ?_;have Mh:=Below.ext Jl b8;have nf:=hF.len;obtain ⟨xs,Lc,oo,Gg⟩:=hF;have ic:xs.length=j:=by omega
    have YH:=aA ic;have Nl:=Lc.ext Mh;have az:∀b,(Value.slice A' j c').ownBlock=some b->w.heap.size+3<=b/\b<wr.heap.size:=λb e=>World.ownsRow.lt Lc _ e
    clear ic;refine aF rfl ?_;refine aJ fZ oO pV 48 _ _ 34 86 (w.heap.size+3) xs [⟨A7,x.n1+dM f.p 0,c7,none,0,0⟩] (some ⟨w7.heap.size,0,none⟩) 1 1 (.slice A' j c') (j+1) rfl rfl underlying34 tB rfl (by omega) rfl rfl Nl ax (by rw [YH.out]) (by have:=YH.out;omega) (by have:=YH.out;omega) (by have:=Mh.size;omega) ?_;intro A9 c9 w9 ao ai ck gq gp;have s8:=b8.size;have Yd:w9.heap[w.heap.size+2]? =some (.cells #[.slice A' j c'] 36 (0,0))/\w9.heap[wr.heap.size]? =some (.cells #[.int .i64 0,.slice none 0 0] 45 (0,0))/\w9.heap[wr.heap.size+1]? =some (.cells #[.slice x.A1 x.n1 x.c1,.slice x.A2 x.n2 x.c2] 86 (0,0)):=by
     exact Tzc6
    have Ed:=Yd.1;refine aD Yd ?_;clear Yd;refine TkI ?_;refine aP ?_;have q9:w9.frozen? ⟨w.heap.size+2,0,none⟩=false:=frozen_of_row _ _ _ _ _ Ed
    have q9' :=bn Ed;have YP:=aA Ed;clear Ed;have ie:w9.grownBy (w9.setCell ⟨w.heap.size+2,0,none⟩ (.slice A9 (j+1) c9)) (some (w.heap.size+2)):=aL (mJ _ _);have Nr:(w9.setCell ⟨w.heap.size+2,0,none⟩ (.slice A9 (j+1) c9)).heap[w.heap.size+2]? =some (.cells #[.slice A9 (j+1) c9] 36 (0,0)):=heap_setCell_same _ _ _ _ _ _ YP.out
    have Uh:yz (λb=>w.heap.size+3<=b/\(Value.slice A' j c').ownBlock≠some b) (w7.alloc (.cells #[.slice A7 (x.n1+dM f.p 0) c7,.slice none 0 0] 86)) ⟨A7,x.n1+dM f.p 0,c7,none,0,0⟩ (jU ts j f):=by
     refine ⟨?_,a7.nil_ _ _⟩;rw [show (jU ts j f).s=f.s++oT f.p 0 [] by unfold jU;rw [YV.out,YU.out]];exact Tzex
    have Of:=(j9.push ⟨oo,λi x' f' o6 xh =>(Gg i x' f' o6 xh).ext Mh⟩ ⟨A7,x.n1+dM f.p 0,c7,none,0,0⟩ (jU ts j f) Uh ao ai ck).kept ie (by omega);rw [<-vN fs ts j f HF.out] at Of;have gf:Below w.heap.size w w9:=Nl.grow ai (Below.ext ag Mh) (by omega) (by have:=Mh.size;omega);have jc:=Below.grow gf ie (by omega);have hgg:W.grownBy (w9.setCell ⟨w.heap.size+2,0,none⟩ (.slice A9 (j+1) c9)) (some (w.heap.size+2)):=by
     have h1:=rZ ja (oY Mh);refine ⟨ie.os.trans (ai.os.trans h1.os),ie.tape.trans (ai.tape.trans h1.tape),ie.output.trans (ai.output.trans h1.output),Nat.le_trans h1.size (Nat.le_trans ai.size ie.size),λi hi fb=> ?_⟩;have hi8:i<(w7.alloc (.cells #[.slice A7 (x.n1+dM f.p 0) c7,.slice none 0 0] 86)).heap.size:=Nat.lt_of_lt_of_le hi h1.size;exact Tzem
    exact Tzcr
  ·obtain rfl:j=n:=by omega
   have qO:=bn HO.out;have Z5:=aA ((ja.block (w.heap.size+1) (by have:=jz.out;omega) (by simp)).trans R1.out);go_wp2_with (refine sR Z5 ?_)
   refine rC Z5 ?_;rw [List.take_of_length_le (by unfold lS;simp [HD1.out])] at hF;refine ⟨A',c',rfl,((hF.dsk.mono (S' :=λb=>w.heap.size+3<=b) (λb _ h=>h)).keep (λb hb hs=>setRow_other _ _ _ _ (by omega))).mono (λb _ h=>by omega),Below.setRow ag (by omega) _⟩
theorem pI (A1 A2:Option Addr) (n c1 c2:Nat) (fs:List au) (S1 S2:Nat->Prop) (w:World) (h1:fh S1 w (.slice A1 n c1) fs) (h2:fh S2 w (.slice A2 n c2) fs) (hn:n<=1000000):
 Calls Tryz.prog 17 #[.agg #[.slice A1 n c1],.agg #[.slice A2 n c2]] w λe w' =>e= .returned (.bool true)/\Below w.heap.size w w' :=by
 obtain ⟨W,hW,bW,fo,r1,r2⟩:∃W,W=(w.alloc (.cells #[.slice A1 n c1] 36)).alloc (.cells #[.slice A2 n c2] 36)/\Below w.heap.size w W/\W.heap.size=w.heap.size+2/\
  W.heap[w.heap.size]? =some (.cells #[.slice A1 n c1] 36 (0,0))/\W.heap[w.heap.size+1]? =some (.cells #[.slice A2 n c2] 36 (0,0)):=by
  refine ⟨_,rfl,((Below.refl _ w).alloc (Nat.le_refl _) _).alloc (by simp) _,by simp,?_,?_⟩
  ·exact Tzap
  ·have:=heap_alloc_new (w.alloc (.cells #[.slice A1 n c1] 36)) (.cells #[.slice A2 n c2] 36);rw [World.size_alloc] at this;exact this
 have dv:=h1.len;have k1:=h1.ext bW;have k2:=h2.ext bW;have q1:=bn r1;have q2:=bn r2;have R1:=aA q1;have R2:=aA q2;have Ht:∀w:World,(isAgg 34).run Tryz.prog w= .ok false w:=λw=>by simp [isAgg,run_underlying underlying34]
 have Bt:∀w:World,(isAgg 22).run Tryz.prog w= .ok false w:=λw=>by simp [isAgg,run_underlying underlying22]
 have Zc:=aA Ht;have Mq:=aA Bt;have jz:=aA fo;clear Ht Bt r1 r2 fo;go_enter func17,ntmps17;rw [hW] at q1 q2;go_wp2_with fail;rw [<-hW];clear q1 q2 hW;go_loopw [5] (λv wr=>∃j:Nat,v= .int .i64 j/\j<=n/\Below W.heap.size W wr) (λv _=>n-(intOf v).toNat);case atStart=>exact ⟨0,rfl,by omega,Below.refl _ _⟩
 case round=>
  obtain ⟨j,rfl,hj,ag⟩:=hrel;have e1:wr.cell? ⟨w.heap.size,0,none⟩=some (.slice A1 n c1):=(ag.cell (p:=⟨w.heap.size,0,none⟩) (by have:=jz.out;show w.heap.size<_;omega)).trans R1.out
  by_cases af:j<n
  ·obtain ⟨b1,o1,x1,f1,rfl,al,Zv,ev,u0,u1⟩:=k1.at_ af;obtain ⟨b2,o2,x2,f2,rfl,ar,hf2,ew,v0,v1⟩:=k2.at_ af;obtain rfl:f1=f2:=by rw [Zv] at hf2;cases hf2;rfl
   have gy:∀(w' :World) (p:Addr),Below W.heap.size W w'->p.block<W.heap.size->w'.cell? p=W.cell? p:=λw' p h hp=>h.cell hp
   have HC:=aA gy;have U0:=aA u0;have U1:=aA u1;have V0:=aA v0;have V1:=aA v1;clear Zv hf2 u0 u1 v0 v1 gy;go_wp2_with fail;refine aH (Below W.heap.size W) (by kernel_rfl) (by kernel_rfl) (ag.drew) ?_;refine Tybq ?_;refine lL (λw' hS=>aB (Mq.out _) ((HC.out w' ⟨b1,o1+j*2,none⟩ hS al).trans U0.out)) ?_;refine Tybn ?_;refine lL (λw' hS=>aB (Mq.out _) ((HC.out w' ⟨b2,o2+j*2,none⟩ hS ar).trans V0.out)) ?_;refine Tyai ?_;go_wp2_with fail;refine (rF _ _ f1.s _ _ wr.drew ((ev.s.ext ag).drew) ((ew.s.ext ag).drew)).mono ?_;rintro e w4 ⟨rfl,ia⟩;have b4:Below W.heap.size W w4:=Below.ext ag.drew ia;go_wp2_with fail;refine aD (b4) ?_;refine Tybq ?_;refine lL (λw' hS=>aB (Mq.out _) ((HC.out w' ⟨b1,o1+j*2+1,none⟩ hS al).trans U1.out)) ?_;refine Tybn ?_;refine lL (λw' hS=>aB (Mq.out _) ((HC.out w' ⟨b2,o2+j*2+1,none⟩ hS ar).trans V1.out)) ?_;refine Tyai ?_;go_wp2_with fail;refine (rF _ _ f1.p _ _ w4 (ev.p.ext b4) (ew.p.ext b4)).mono ?_;rintro e w5 ⟨rfl,gu⟩;have b5:=Below.ext b4 gu;go_wp2_with fail;refine aD (b5) ?_;refine Tyan ?_;go_wp2_with fail;go_wp2;go_roundw;case rel=>exact ⟨j+1,by go_num,by omega,b5⟩
   case measure=>simp [intOf];omega
  ·obtain rfl:j=n:=by omega
   go_wp2;go_ret;exact ⟨rfl,Below.ext bW ag⟩
theorem GM (n:Nat) (hn:n<=16) (w:World):
 Calls Tryz.prog 12 #[.int .i64 (n:Int)] w λe w' =>∃A c,e= .returned (.tuple #[.agg #[.slice A n c],.int .i64 0])/\fh (λb=>w.heap.size<b) w' (.slice A n c) (List.replicate n fP)/\Below w.heap.size w w' :=by
 have d0:decide ((n:Int)<0)=false:=by simp
 have d1:decide (16<n)=false:=by simp;omega
 have d2:decide ((16:Int)<(n:Int))=false:=by simp;omega
 have Kl:=DH n (by omega);have rf:(w.alloc (.cells #[.slice none 0 0] 36)).heap[w.heap.size]? =some (.cells #[.slice none 0 0] 36 (0,0)):=heap_alloc_new w _
 have aj:=NJ n (by omega) (w.alloc (.cells #[.slice none 0 0] 36));rw [World.size_alloc] at aj;have ha:∀o,Below (w.alloc (.cells #[.slice none 0 0] 36)).heap.size (w.alloc (.cells #[.slice none 0 0] 36)) ((w.alloc (.cells #[.slice none 0 0] 36)).alloc o):=λo=>(Below.refl _ _).alloc (Nat.le_refl _) o
 have od:=λo=>((ha o).block w.heap.size (by simp)).trans rf
 have al:∀o,Below w.heap.size w ((w.alloc (.cells #[.slice none 0 0] 36)).alloc o):=λo=>Below.ext ((Below.refl _ w).alloc (Nat.le_refl _) _) (ha o)
 have Hz1:=aA od;have YG:=aA aj;clear rf od aj;go_enter func12,ntmps12;exact Tzci
theorem wD (A:Option Addr) (n c k:Nat) (w:World) (hk:k<n) (hn:n<=1000):
 Calls Tryz.prog 101 #[.agg #[.slice A n c],.int .i64 (k:Int)] w λe w' =>e= .returned (.bool true)/\Below w.heap.size w w' :=by
 have d0:decide ((0:Int)<=(k:Int))=true:=by simp
 have d1:decide (k<n)=true:=by simpa using hk
 go_enter func101,ntmps101;exact Tzcj
theorem JC (A:Option Addr) (n c:Nat) (k:Int) (w:World) (hk:k<0∨(n:Int)<=k) (hn:n<=1000):
 Calls Tryz.prog 101 #[.agg #[.slice A n c],.int .i64 k] w λe w' =>e= .returned (.bool false)/\Below w.heap.size w w' :=by
 by_cases h0:k<0
 ·have d0:decide (0<=k)=false:=by simp;omega
  go_enter func101,ntmps101;exact Tzcj
 ·have d0:decide (0<=k)=true:=by simp;omega
  have d1:decide (k<(n:Int))=false:=by simp;omega
  go_enter func101,ntmps101;exact Tzcj
theorem CS (A:Option Addr) (n c:Nat) (fs:List au) (S:Nat->Prop) (w:World) (hD:fh S w (.slice A n c) fs) (hn:n<=1000) (k:Nat) (hk:k<n) (x:FV) (f:au) (hf:yz S w x f):
 Calls Tryz.prog 102 #[.agg #[.slice A n c],.int .i64 (k:Int),.agg #[.slice x.A1 x.n1 x.c1,.slice x.A2 x.n2 x.c2]] w λe w' =>∃A' c',e= .returned (.agg #[.slice A' n c'])/\fh (λb=>S b∨w.heap.size<=b) w' (.slice A' n c') (fs.set k f)/\Below w.heap.size w w' :=by
 obtain ⟨xs,hR,oo,fw⟩:=hD;have Rq:=hR.len;obtain ⟨W,hW⟩:=eX (((w.alloc (.cells #[.slice A n c] 36)).alloc (.cells #[.slice x.A1 x.n1 x.c1,.slice x.A2 x.n2 x.c2] 86)).alloc (.cells #[.slice none 0 0] 36));have aw:Below w.heap.size w W:=by rw [hW];exact (((Below.refl _ w).alloc (Nat.le_refl _) _).alloc (by simp) _).alloc (by simp;omega) _
 have fo:W.heap.size=w.heap.size+3:=by rw [hW];simp
 have q0:W.cell? ⟨w.heap.size+1,0,none⟩=some (.slice x.A1 x.n1 x.c1):=by rw [hW];go_simp
 have q1:W.cell? ⟨w.heap.size+1,1,none⟩=some (.slice x.A2 x.n2 x.c2):=by rw [hW];go_simp
 have hz:W.heap[w.heap.size+1+1]? =some (.cells #[.slice none 0 0] 36 (0,0)):=by
  exact Tzdx
 have jz:=aA fo;have Q0:=aA q0;have Q1:=aA q1;have Z:=aA hz;clear fo q0 q1 hz;go_enter func102,ntmps102;go_wp2_with (first|(refine aJ (o:=⟨some 10,_,_,_,_,_⟩) fZ oO pV 48 _ _ 34 86 W.heap.size [] xs A n c (.slice none 0 0) n rfl rfl underlying34 tB rfl (by omega) rfl rfl (a8.nil_ _ _ _) (D:=S) (by rw [<-hW];exact hR.ext aw) (by simp) (by simp;omega) (by simp;omega) (by rw [<-hW];exact Nat.le_refl _) ?_;intro A1 c1 w1 ec Cv Hf Om Ol;obtain ⟨g,rfl,fj,da⟩:=a8.some_ ec (by simp;omega);rw [<-hW] at Cv;rw [List.nil_append] at ec;have al:Below W.heap.size W w1:=⟨Cv.os,Cv.tape,Cv.output,Cv.size,λi hi=>Cv.block i hi (by simp [Value.ownBlock])⟩;obtain ⟨⟨u0,J5⟩,hf0⟩:=ec.cellF hk 0 (by omega);obtain ⟨⟨u1,Nm⟩,Zv⟩:=ec.cellF hk 1 (by omega);rw [Nat.add_zero] at J5 hf0;have Ts :=(al.cell (p:=⟨w.heap.size+1,0,none⟩) (by have:=jz.out;simp;omega)).trans Q0.out;have q1' :=(al.cell (p:=⟨w.heap.size+1,1,none⟩) (by have:=jz.out;simp;omega)).trans Q1.out;have ji:w1.grownBy ((w1.setCell ⟨g,k*2,none⟩ (.slice x.A1 x.n1 x.c1)).setCell ⟨g,k*2+1,none⟩ (.slice x.A2 x.n2 x.c2)) (some g):=nN (nN ⟨rfl,rfl,rfl,Nat.le_refl _,λ_ _ _=>rfl⟩);have Hz2:=aA ((ji.block (w.heap.size+1+1) (by have:=al.size;have:=jz.out;omega) (by have:=jz.out;simp;omega)).trans ((al.block _ (by have:=jz.out;omega)).trans Z.out));have Qm:=aA (ec.setF x hk);have Hgr2:=aA ji;clear ji Cv Hf)|(refine sR Hz2 ?_))
 exact Tzbd
theorem PZ (x:FV) (f:au) (S:Nat->Prop) (w:World) (hx:yz S w x f) (hlen:x.n1+x.n2<=10000000):
 Calls Tryz.prog 104 #[.agg #[.slice x.A1 x.n1 x.c1,.slice x.A2 x.n2 x.c2]] w λe w' =>∃A' c',e= .returned (.slice A' (x.n1+x.n2) c')/\a8 fV 1 w' w.heap.size 5 (.slice A' (x.n1+x.n2) c') (f.s++f.p)/\Below w.heap.size w w' :=by
 obtain ⟨W,hW⟩:=eX (w.alloc (.cells #[.slice x.A1 x.n1 x.c1,.slice x.A2 x.n2 x.c2] 86));have vk:Below w.heap.size w W:=by rw [hW];exact (Below.refl _ _).alloc (Nat.le_refl _) _
 have rW:W.heap[w.heap.size]? =some (.cells #[.slice x.A1 x.n1 x.c1,.slice x.A2 x.n2 x.c2] 86 (0,0)):=by rw [hW];exact heap_alloc_new _ _
 have fo:w.heap.size<W.heap.size:=(Array.getElem?_eq_some_iff.1 rW).1;have RW:=aA rW;have Bt:∀w:World,(isAgg 22).run Tryz.prog w= .ok false w:=λw=>by simp [isAgg,run_underlying underlying22]
 have Mq:=aA Bt;have J6:=hx.s.len.1;have Cn:=aA J6;have jk:∀(w' :World) (o:Nat) (v:Value),Below W.heap.size W w'->#[Value.slice x.A1 x.n1 x.c1,Value.slice x.A2 x.n2 x.c2][o]? =some v->w'.cell? ⟨w.heap.size,o,none⟩=some v:=λw' o v h hv=>by rw [cell_of_row _ _ _ _ _ _ ((h.block _ fo).trans RW.out)];exact hv
 have HC:=aA jk;clear rW Bt J6 jk;go_enter func104,ntmps104;go_wp2_with fail;rw [<-hW];clear hW;refine aH (Below W.heap.size W) (by kernel_rfl) (by kernel_rfl) ((Below.refl _ _).drew) ?_;refine TkA ?_;refine bZ (⟨w.heap.size,0,none⟩) (.slice x.A1 x.n1 x.c1) rfl rfl rfl (λw' hS=>aB (Mq.out _) (HC.out w' 0 _ hS rfl)) ?_;refine Tyac ?_;have rh:=(hx.s.ext vk).ext (w' :=W.drew) (Below.refl _ _).drew;refine aF rfl ?_;refine aJ fC fI (.int .u8 0) 1 _ _ 22 5 W.heap.size [] f.s x.A1 x.n1 x.c1 (.slice none 0 0) x.n1 rfl rfl underlying22 jG rfl (by omega) rfl rfl (a8.nil_ _ _ _) rh (by simp) (by simp;omega) (by simp;omega) (Nat.le_refl _) ?_;intro A5 c5 w5 bf bk jm qx qw;have b5:Below W.heap.size W w5:=⟨bk.os,bk.tape,bk.output,bk.size,λi hi=>bk.block i hi (by simp [Value.ownBlock])⟩
 rw [List.nil_append] at bf;clear bk jm;refine aD b5 ?_;refine Tyac ?_;refine bZ (⟨w.heap.size,1,none⟩) (.slice x.A2 x.n2 x.c2) rfl rfl rfl (λw' hS=>aB (Mq.out _) (HC.out w' 1 _ hS rfl)) ?_;refine Tyai ?_;refine aJ fC fI (.int .u8 0) 1 _ _ 22 5 W.heap.size f.s f.p x.A2 x.n2 x.c2 (.slice A5 x.n1 c5) (x.n1+x.n2) rfl rfl underlying22 jG rfl (by omega) rfl rfl bf ((hx.p.ext vk).ext b5) (by rw [Cn.out]) (by have:=Cn.out;omega) (by have:=Cn.out;omega) b5.size ?_;intro A7 c7 w7 ve Cu Oy Um Ul;have b7:Below W.heap.size W w7:=bf.grow Cu b5 (Nat.le_refl _) b5.size;refine aD b7 ?_;refine Tyac ?_;refine aP ?_;go_wp2_with fail;go_ret;exact ⟨A7,c7,rfl,ve.weak vk.size,Below.ext vk b7⟩
theorem uT (A:Option Addr) (n c:Nat) (fs:List au) (S:Nat->Prop) (w:World) (hD:fh S w (.slice A n c) fs) (hn:n<=1000) (k:Nat) (f:au) (hf:fs[k]? =some f) (hlen:f.s.length+f.p.length<=10000000):
 Calls Tryz.prog 45 #[.agg #[.slice A n c],.int .i64 (k:Int)] w λe w' =>∃A' c',e= .returned (.tuple #[.slice A' (f.s.length+f.p.length) c',.int .i64 0])/\a8 fV 1 w' w.heap.size 5 (.slice A' (f.s.length+f.p.length) c') (f.s++f.p)/\Below w.heap.size w w' :=by
 have hk:k<n:=by have:=(List.getElem?_eq_some_iff.1 hf).1;have:=hD.len;omega
 obtain ⟨b,off,x,f',rfl,hb,xh,hx,c0,c1⟩:=hD.at_ hk;obtain rfl:f' =f:=by rw [hf] at xh;cases xh;rfl
 have e1:=aA hx.s.len.1;have e2:=aA hx.p.len.1;have ze:x.n1+x.n2<=10000000:=by have:=e1.out;have:=e2.out;omega
 clear hf xh;obtain ⟨W,hW⟩:=eX (w.alloc (.cells #[.slice (some ⟨b,off,none⟩) n c] 36));have ha:Below w.heap.size w W:=by rw [hW];exact (Below.refl _ w).alloc (Nat.le_refl _) _
 have q0:W.cell? ⟨w.heap.size,0,none⟩=some (.slice (some ⟨b,off,none⟩) n c):=by rw [hW];go_simp
 have Q0:=aA q0;clear q0;go_enter func45,ntmps45;go_wp2_with fail;rw [<-hW];clear hW;refine (wD _ n c k W hk hn).mono ?_;rintro e w1 ⟨rfl,al⟩;have Ts :=(al.cell (p:=⟨w.heap.size,0,none⟩) (block_lt_of_cell Q0.out)).trans Q0.out;have fe:=Below.ext ha al;have Q7 :=(fe.cell (p:=⟨b,off+k*2,none⟩) hb).trans c0;have UH :=(fe.cell (p:=⟨b,off+k*2+1,none⟩) hb).trans c1;clear c0 c1;go_wp2_with fail;refine (PZ x f' _ w1 (hx.ext fe) ze).mono ?_;rintro e w2 ⟨A',c',rfl,aj,ar⟩;go_wp2;go_ret2;refine ⟨A',c',by rw [e1.out,e2.out];rfl,?_,Below.ext fe ar⟩;rw [e1.out,e2.out];exact aj.weak fe.size
theorem rJ (A:Option Addr) (n c:Nat) (fs:List au) (S:Nat->Prop) (w:World) (hD:fh S w (.slice A n c) fs) (hn:n<=1000) (k:Nat) (f:au) (hf:fs[k]? =some f) (Ab:Option Addr) (nb cb:Nat) (lb:List UInt8) (hb:By S w (.slice Ab nb cb) lb) (hlen:f.s.length+f.p.length+nb<=65536):
 Calls Tryz.prog 61 #[.agg #[.slice A n c],.int .i64 (k:Int),.slice Ab nb cb] w λe w' =>∃A' c',e= .returned (.tuple #[.agg #[.slice A' n c'],.int .i64 0])/\fh (λb=>S b∨w.heap.size<=b) w' (.slice A' n c') (fs.set k ⟨f.s,f.p++lb⟩)/\Below w.heap.size w w' :=by
 have hk:k<n:=by have:=(List.getElem?_eq_some_iff.1 hf).1;have:=hD.len;omega
 have sx:=hD.mono (S' :=λb=>S b/\b<w.heap.size) (λb hb hs=>⟨hs,hb⟩);obtain ⟨b,off,x,f',rfl,j6,xh,hx,c0,c1⟩:=sx.at_ hk;obtain rfl:f' =f:=by rw [hf] at xh;cases xh;rfl
 have e1:=aA hx.s.len.1;have e2:=aA hx.p.len.1;have ze:x.n1+x.n2+nb<=65536:=by have:=e1.out;have:=e2.out;omega
 clear hf xh;obtain ⟨W,hW,aw,fo,vd,iy⟩:=fQ w (.slice (some ⟨b,off,none⟩) n c);have jz:=aA fo;have d1:decide (65536<x.n1+x.n2+nb)=false:=by simp;omega
 go_enter func61,ntmps61;go_wp2_with fail;rw [<-hW];clear hW fo;refine (wD _ n c k W hk hn).mono ?_;rintro e w1 ⟨rfl,al⟩;have fe:=Below.ext aw al;have Gl:=al.size;have z0:=(al.block _ (by have:=jz.out;omega)).trans vd;have z1:=(al.block _ (by have:=jz.out;omega)).trans iy;have q0:=bn z0;have Q7 :=(fe.cell (p:=⟨b,off+k*2,none⟩) j6).trans c0;have UH :=(fe.cell (p:=⟨b,off+k*2+1,none⟩) j6).trans c1;have H0:=aA z0;have H1:=aA z1;clear vd iy z0 z1 c0 c1;obtain ⟨W1,px⟩:=eX (w1.alloc (.cells #[.slice x.A1 x.n1 x.c1,.slice x.A2 x.n2 x.c2] 86));have tg:Below w1.heap.size w1 W1:=by rw [px];exact (Below.refl _ _).alloc (Nat.le_refl _) _
 have Gm:W1.heap[w1.heap.size]? =some (.cells #[.slice x.A1 x.n1 x.c1,.slice x.A2 x.n2 x.c2] 86 (0,0)):=by rw [px];exact heap_alloc_new _ _
 have iz:W1.heap.size=w1.heap.size+1:=by rw [px];simp
 have b2:=Below.ext fe tg;have Hs1:=aA iz;have Hrow1:=aA Gm;have Q0:=aA q0;clear iz Gm;go_wp2_with (first|(refine aJ (o:=⟨some 33,_,_,_,_,_⟩) fC fI (.int .u8 0) 1 _ _ 22 5 W1.heap.size [] f'.p x.A2 x.n2 x.c2 (.slice none 0 0) x.n2 rfl rfl underlying22 jG rfl (by omega) rfl rfl (a8.nil_ _ _ _) (by rw [<-px];exact hx.p.ext b2) (by simp) (by simp;omega) (by simp;omega) (by rw [<-px];exact Nat.le_refl _) ?_;intro A5 c5 w5 bf bk jm qx qw;rw [<-px] at bk;rw [List.nil_append] at bf;have b5:Below W1.heap.size W1 w5:=⟨bk.os,bk.tape,bk.output,bk.size,λi hi=>bk.block i hi (by simp [Value.ownBlock])⟩;clear bk jm)|(refine eY 35 rfl ?_))
 refine ⟨?_⟩
 (refine aJ (o:=⟨some 35,_,_,_,_,_⟩) fC fI (.int .u8 0) 1 _ _ 22 5 W1.heap.size f'.p lb Ab nb cb (.slice A5 x.n2 c5) (x.n2+nb) rfl rfl underlying22 jG rfl (by omega) rfl rfl bf ((hb.ext b2).ext b5) (by rw [e2.out]) (by have:=e2.out;omega) (by have:=e2.out;omega) b5.size ?_;intro A3 c3 w3 tx Ek Y8 XU XT;have ea:Below W1.heap.size W1 w3:=bf.grow Ek b5 (Nat.le_refl _) b5.size;have ye:=(ea.block w1.heap.size (by have:=Hs1.out;omega)).trans Hrow1.out;have f0:w3.cell? ⟨w1.heap.size,0,none⟩=some (.slice x.A1 x.n1 x.c1):=(by rw [cell_of_row _ _ _ _ _ _ ye];rfl);have f1:w3.cell? ⟨w1.heap.size,1,none⟩=some (.slice x.A2 x.n2 x.c2):=(by rw [cell_of_row _ _ _ _ _ _ ye];rfl);have fz:w3.frozen? ⟨w1.heap.size,1,none⟩=false:=frozen_of_row _ _ _ _ _ ye;have mc:Below w1.heap.size w1 w3:=Below.ext tg ea;have q3:=(mc.cell (p:=⟨w.heap.size,0,none⟩) (by have:=jz.out;show w.heap.size<_;omega)).trans Q0.out;have hsz3:=mc.size;clear Ek Y8 q0 Q7 UH ye)
 go_wp2_with fail;have nw:w3.grownBy (w3.setCell ⟨w1.heap.size,1,none⟩ (.slice A3 (x.n2+nb) c3)) (some w1.heap.size):=aL ⟨rfl,rfl,rfl,Nat.le_refl _,λ_ _ _=>rfl⟩;have B4:Below w.heap.size w (w3.setCell ⟨w1.heap.size,1,none⟩ (.slice A3 (x.n2+nb) c3)):=Below.grow (Below.ext fe mc) nw fe.size;have Gp:=tx.kept nw (.inr (λe=>by have:=(World.ownsRow.lt tx _ e).1;have:=Hs1.out;omega));have z4:=((nw.block (w.heap.size+1) (by have:=jz.out;omega) (by have:=jz.out;simp;omega)).trans (mc.block _ (by have:=jz.out;omega))).trans H1.out;have Sk:w.heap.size+1<(w3.setCell ⟨w1.heap.size,1,none⟩ (.slice A3 (x.n2+nb) c3)).heap.size:=(Array.getElem?_eq_some_iff.1 z4).1;generalize w3.setCell ⟨w1.heap.size,1,none⟩ (.slice A3 (x.n2+nb) c3)=w4 at*;have uv:fh (λb=>(S b∨w.heap.size<=b)/\b≠w.heap.size+1) w4 (.slice (some ⟨b,off,none⟩) n c) fs:=(sx.ext B4).mono (λ_ _ h=>⟨.inl h.1,by have:=h.2;omega⟩);have XK:yz (λb=>(S b∨w.heap.size<=b)/\b≠w.heap.size+1) w4 ⟨x.A1,x.n1,x.c1,A3,x.n2+nb,c3⟩ ⟨f'.s,f'.p++lb⟩:=⟨(hx.s.ext B4).mono (λ_ _ h=>⟨.inl h.1,by have:=h.2;omega⟩),Gp.recs.mono (λ_ _ h=>⟨.inr (by have:=h.1;have:=Hs1.out;have:=jz.out;omega),by have:=h.1;have:=Hs1.out;have:=jz.out;omega⟩)⟩
 refine (CS _ n c fs _ _ uv hn k hk ⟨x.A1,x.n1,x.c1,A3,x.n2+nb,c3⟩ ⟨f'.s,f'.p++lb⟩ XK).mono ?_;exact Tzce
theorem nC (A:Option Addr) (n c:Nat) (fs:List au) (S:Nat->Prop) (w:World) (hD:fh S w (.slice A n c) fs) (hn:n<=1000) (k:Nat) (hk:k<n) (Ab:Option Addr) (nb cb:Nat) (lb:List UInt8) (Sb:Nat->Prop) (hb:By Sb w (.slice Ab nb cb) lb) (hlen:nb<=65536):
 Calls Tryz.prog 42 #[.agg #[.slice A n c],.int .i64 (k:Int),.slice Ab nb cb] w λe w' =>∃A' c',e= .returned (.tuple #[.agg #[.slice A' n c'],.int .i64 0])/\fh (λb=>S b∨w.heap.size<=b) w' (.slice A' n c') (fs.set k ⟨lb,[]⟩)/\Below w.heap.size w w' :=by
 have sx:=hD.mono (S' :=λb=>S b/\b<w.heap.size) (λb hb hs=>⟨hs,hb⟩);obtain ⟨W,hW,aw,fo,vd,iy⟩:=fQ w (.slice A n c);have jz:=aA fo;have d1:decide (65536<nb)=false:=by simpa using hlen
 have d2:decide ((65536:Int)<(nb:Int))=false:=by simp;omega
 go_enter func42,ntmps42;go_wp2_with fail;rw [<-hW];clear hW fo;refine (wD _ n c k W hk hn).mono ?_;rintro e w1 ⟨rfl,al⟩;have fe:=Below.ext aw al;have Gl:=al.size;have z0:=(al.block _ (by have:=jz.out;omega)).trans vd;have z1:=(al.block _ (by have:=jz.out;omega)).trans iy;have H0:=aA z0;have H1:=aA z1;clear vd iy z0 z1;go_wp2_with fail;refine Tyaz ?_;refine aJ fC fI (.int .u8 0) 1 _ _ 22 5 w1.heap.size [] lb Ab nb cb (.slice none 0 0) nb rfl rfl underlying22 jG rfl (by omega) rfl rfl (a8.nil_ _ _ _) ((hb.ext fe).ext (w' :=w1.drew) (Below.refl _ _).drew) (by simp) (by simp;omega) (by simp;omega) (Nat.le_refl _) ?_;intro A3 c3 w3 tx Ek Y8 XU XT;have mc:Below w1.heap.size w1 w3:=⟨Ek.os,Ek.tape,Ek.output,Ek.size,λi hi=>Ek.block i hi (by simp [Value.ownBlock])⟩
 rw [List.nil_append] at tx;clear Ek Y8;refine Tybs ?_;refine Tyai ?_;go_wp2_with fail;refine Tybs ?_;refine Tyah ?_;go_wp2_with fail;have B4:=Below.ext fe mc;have z4:=(mc.block _ (by have:=jz.out;omega)).trans H1.out;have Sk:w.heap.size+1<w3.heap.size:=(Array.getElem?_eq_some_iff.1 z4).1;have uv:fh (λb=>(S b/\b<w.heap.size)∨w.heap.size+2<=b) w3 (.slice A n c) fs:=(sx.ext B4).mono (λ_ _ h=> .inl h);have XK:yz (λb=>(S b/\b<w.heap.size)∨w.heap.size+2<=b) w3 ⟨A3,nb,c3,none,0,0⟩ ⟨lb,[]⟩:=⟨tx.recs.mono (λ_ _ h=> .inr (by have h1:w1.heap.size<=_:=h.1;have:=jz.out;omega)),a7.nil_ _ _⟩
 refine (CS _ n c fs _ _ uv hn k hk ⟨A3,nb,c3,none,0,0⟩ ⟨lb,[]⟩ XK).mono ?_;exact Tzbq
theorem EG (A:Option Addr) (n c:Nat) (k:Int) (hk:k<0∨(n:Int)<=k) (hn:n<=1000) (Ab:Option Addr) (nb cb:Nat) (w:World):
 Calls Tryz.prog 41 #[.agg #[.slice A n c],.int .i64 k,.slice Ab nb cb] w λe w' =>e= .returned (.tuple #[.agg #[.slice none 0 0],.int .i64 11])/\Below w.heap.size w w' :=by
 obtain ⟨W,hW,aw,fo,vd,iy⟩:=fQ w (.slice A n c);have jz:=aA fo;go_enter func41,ntmps41;go_wp2_with fail;rw [<-hW];clear hW fo;refine (tJ _ n c k W hk hn).mono ?_;exact Tzdz
theorem OF (A:Option Addr) (n c:Nat) (k:Int) (hk:k<0∨(n:Int)<=k) (hn:n<=1000) (w:World):
 Calls Tryz.prog 27 #[.agg #[.slice A n c],.int .i64 k] w λe w' =>e= .returned (.tuple #[.slice none 0 0,.int .i64 11])/\Below w.heap.size w w' :=by
 obtain ⟨W,hW⟩:=eX (w.alloc (.cells #[.slice A n c] 36));have ha:Below w.heap.size w W:=by rw [hW];exact (Below.refl _ w).alloc (Nat.le_refl _) _
 go_enter func27,ntmps27;go_wp2_with fail;rw [<-hW];clear hW;refine (tJ _ n c k W hk hn).mono ?_;rintro e w1 ⟨rfl,al⟩;go_wp2;go_ret2;exact ⟨rfl,Below.ext ha al⟩
theorem yJ (A:Option Addr) (n c:Nat) (k:Int) (hk:k<0∨(n:Int)<=k) (hn:n<=1000) (Ab:Option Addr) (nb cb:Nat) (w:World):
 Calls Tryz.prog 42 #[.agg #[.slice A n c],.int .i64 k,.slice Ab nb cb] w λe w' =>e= .returned (.tuple #[.agg #[.slice none 0 0],.int .i64 11])/\Below w.heap.size w w' :=by
 obtain ⟨W,hW,aw,fo,vd,iy⟩:=fQ w (.slice A n c);have jz:=aA fo;go_enter func42,ntmps42;go_wp2_with fail;rw [<-hW];clear hW fo;refine (JC _ n c k W hk hn).mono ?_;exact Tzdz
theorem EH (A:Option Addr) (n c:Nat) (k:Int) (hk:k<0∨(n:Int)<=k) (hn:n<=1000) (w:World):
 Calls Tryz.prog 45 #[.agg #[.slice A n c],.int .i64 k] w λe w' =>e= .returned (.tuple #[.slice none 0 0,.int .i64 11])/\Below w.heap.size w w' :=by
 obtain ⟨W,hW⟩:=eX (w.alloc (.cells #[.slice A n c] 36));have ha:Below w.heap.size w W:=by rw [hW];exact (Below.refl _ w).alloc (Nat.le_refl _) _
 go_enter func45,ntmps45;go_wp2_with fail;rw [<-hW];clear hW;refine (JC _ n c k W hk hn).mono ?_;rintro e w1 ⟨rfl,al⟩;go_wp2;go_ret2;exact ⟨rfl,Below.ext ha al⟩
end Go.Proofs.YtiblijmngokcgaaGreatDoor
