import Derived.Test.YtiblijmngokcgaaGreatDoorCodecAZs
import Derived.Lib.AppendZeros
set_option linter.unusedVariables false
set_option maxHeartbeats 4000000
set_option maxRecDepth 100000
namespace Go.Proofs.YtiblijmngokcgaaGreatDoor
open Go.Proofs.Tryz
open Go.RowKit
theorem QG (n:Nat) (h0:0<n) (hb:n*1<=140737488355328) (w:World):∃cap W,(Builtin.append_ #[22,3] 22 #[.slice none 0 0,.int .i64 (n:Int)]).run Tryz.prog w= .ok (.slice (some ⟨w.heap.size,0,none⟩) n cap) W/\
 a8 fV 1 W w.heap.size 5 (.slice (some ⟨w.heap.size,0,none⟩) 0 cap) []/\n<=cap/\cap<=9223372036854775807/\Below w.heap.size w W:=by
 obtain ⟨i,hi,hz,hs,dy⟩:=info_parts jG;have hn:n<=140737488355328:=by omega
 have h:=Lib.run_append_nil_zeros (P:=Tryz.prog) w 22 3 22 5 i (.int .u8 0) .i64 .i64 underlying22 underlying3 hi hz n h0 (by rw [hs];omega) (by omega) (by rw [dy];omega);have hg:=grownCap_ge w n 0 5;have hm:=grownCap_le_maxLen w n 0 5 (by unfold maxLen;omega);refine ⟨_,_,h,?_,hg,by unfold maxLen at hm;exact hm,((Below.refl _ w).drew).alloc (Nat.le_refl _) _⟩;refine ⟨rfl,.inr ⟨w.heap.size,_,_,rfl,Nat.le_refl _,heap_alloc_new w.drew _,by simp,hm,?_,by simp⟩⟩;rw [Array.size_append,size_zeroCells,size_zeroCells,show (Value.cells (.int .u8 0)).size=1 from rfl,<-Nat.add_mul];congr 1;omega
theorem TG (n:Nat) (hb:n*1<=140737488355328) (w:World):
 Calls Tryz.prog 128 #[.slice none 0 0,.int .i64 (n:Int)] w λe w' =>∃A c,e= .returned (.slice A 0 c)/\a8 fV 1 w' w.heap.size 5 (.slice A 0 c) []/\Below w.heap.size w w' :=by
 have hn:n<=140737488355328:=by omega
 by_cases h0:0<n
 ·obtain ⟨cap,W,im,aj,h1,h2,qy⟩:=QG n h0 hb w;have Mm:=aA im;clear im;have d1:decide (0<n)=true:=by simpa using h0
  go_enter func128,ntmps128;exact Tzcg
 ·obtain rfl:n=0:=by omega
  go_enter func128,ntmps128;exact Tzct
theorem wG (g:Nat) (A1 A2:Option Addr) (n1 c1 n2 c2:Nat) (l1 l2:List UInt8) (S1 S2:Nat->Prop) (w:World) (h0:w.cell? ⟨g,0,none⟩=some (.slice A1 n1 c1)) (h1:w.cell? ⟨g,1,none⟩=some (.slice A2 n2 c2))
 (r1:a7 fV S1 w (.slice A1 n1 c1) l1) (r2:a7 fV S2 w (.slice A2 n2 c2) l2) (hb:(n1+n2)*1<=140737488355328):
 Calls Tryz.prog 69 #[.slice (some ⟨g,0,none⟩) 2 2] w λe w' =>∃A c,e= .returned (.slice A (n1+n2) c)/\a8 fV 1 w' w.heap.size 5 (.slice A (n1+n2) c) (l1++l2)/\Below w.heap.size w w' :=by
 have hn:n1+n2<=140737488355328:=by omega
 have sm:g<w.heap.size:=block_lt_of_cell h0;obtain ⟨dv,dd,Ak⟩:=r1.len;obtain ⟨jh,pg,Iq⟩:=r2.len;have yx:=aA dv;have Hm1:=aA jh;clear dv jh;go_enter func69,ntmps69;go_wp2;go_loop [3,11] (λs i=>∃j:Nat,j<=2/\i= .int .i64 j/\s= .int .i64 ((if j=0 then 0 else if j=1 then n1 else n1+n2:Nat):Int)) (λ_ i=>2-(intOf i).toNat);case atStart=>exact ⟨0,by omega,rfl,rfl⟩
 case round=>
  obtain ⟨j,hj,rfl,rfl⟩:=hrel;obtain rfl|rfl|rfl:j=0∨j=1∨j=2:=by omega
  ·exact Tzcz
  ·exact Tzco
  ·refine Tybf ?_;go_wp2_with fail;rw [<-Int.natCast_add];refine (TG (n1+n2) hb w).mono ?_;rintro e w1 ⟨A,c,rfl,aj,al⟩;have Pn :=(al.cell (p:=⟨g,0,none⟩) sm).trans h0;have Pm :=(al.cell (p:=⟨g,1,none⟩) sm).trans h1;clear h0 h1;have Gl:=al.size;go_wp2;go_loopw [6,27] (λv i wr=>∃(j n' :Nat) (A' :Option Addr) (c' :Nat),j<=2/\i= .int .i64 j/\v= .slice A' n' c'/\n'<=n1+n2/\a8 fV 1 wr w.heap.size 5 (.slice A' n' c') (if j=0 then [] else if j=1 then l1 else l1++l2)/\Below w.heap.size w wr) (λ_ i _=>2-(intOf i).toNat);case atStart=>exact ⟨0,0,A,c,by omega,rfl,rfl,by omega,aj,al⟩
   case round=>
    obtain ⟨j,n',A',c',hj,rfl,rfl,Du,du,ag⟩:=hrel;have q0:=(ag.cell (p:=⟨g,0,none⟩) sm).trans ((al.cell (p:=⟨g,0,none⟩) sm).symm.trans Pn);have q1:=(ag.cell (p:=⟨g,1,none⟩) sm).trans ((al.cell (p:=⟨g,1,none⟩) sm).symm.trans Pm);have xa:=ag.size;clear Pn Pm;obtain rfl|rfl|rfl:j=0∨j=1∨j=2:=by omega
    ·simp only [if_true] at du;have hlen:=du.len.1;simp at hlen;subst hlen;go_wp2_with (refine aJ (o:=⟨some 33,_,_,_,_,_⟩) fC fI (.int .u8 0) 1 _ _ 22 5 w.heap.size [] l1 A1 n1 c1 (.slice A' 0 c') n1 rfl rfl underlying22 jG rfl (by omega) rfl rfl du (r1.ext ag) (by simp) (by simp;omega) (by simp;omega) xa ?_;intro A9 c9 w9 ao ai ck gq gp)
     exact Tzbu
    ·simp only [if_true,Nat.one_ne_zero,if_false] at du;have hlen:=du.len.1;rw [yx.out] at hlen;subst hlen;go_wp2_with (refine aJ (o:=⟨some 33,_,_,_,_,_⟩) fC fI (.int .u8 0) 1 _ _ 22 5 w.heap.size l1 l2 A2 n2 c2 (.slice A' n1 c') (n1+n2) rfl rfl underlying22 jG rfl (by omega) rfl rfl du (r2.ext ag) (by rw [yx.out]) (by rw [yx.out];exact hb) (by rw [yx.out];omega) xa ?_;intro A9 c9 w9 ao ai ck gq gp)
     exact Tzbs
    ·exact Tzbk
theorem SH (A:Option Addr) (n c:Nat) (l:List UInt8) (S:Nat->Prop) (w:World) (r:a7 fV S w (.slice A n c) l) (hb:n*1<=140737488355328):
 Calls Tryz.prog 100 #[.slice A n c] w λe w' =>∃A' c',e= .returned (.slice A' n c')/\a8 fV 1 w' w.heap.size 5 (.slice A' n c') l/\Below w.heap.size w w' :=by
 have hn:n<=140737488355328:=by omega
 obtain ⟨dv,dd,Ak⟩:=r.len;have yx:=aA dv;clear dv;have qn:∀(w:World) (a:Option Addr) (n c n' c' :Nat),(binOp .eql 22 (.slice a n c) (.slice none n' c')).run Tryz.prog w= .ok (.bool a.isNone) w:=λw a n c n' c' =>Lib.run_eql_slice_nil w _ _ a n c n' c' underlying22
 cases A with
 |none=>
  have VM:l=[]:=by
   obtain ⟨A',c',e,_,_,h3⟩:=r;cases e;cases l with
   |nil=>rfl
   |cons x l=>
    obtain ⟨_,_,q,_⟩:=h3 (by rw [List.flatMap_cons,List.length_append,fC];omega);cases q
  subst VM;obtain rfl:n=0:=by have:=yx.out;simpa using this.symm
  go_enter func100,ntmps100;exact Tzct
 |some ad=>
  have ha:Below w.heap.size w (w.alloc (.cells #[] 5)):=(Below.refl _ _).alloc (Nat.le_refl _) _;have Zr:=a8.empty_ (enc:=fV) (k:=1) w w.heap.size 5 (Nat.le_refl _);go_enter func100,ntmps100;go_wp2_with (refine aJ (o:=⟨some 7,_,_,_,_,_⟩) fC fI (.int .u8 0) 1 _ _ 22 5 w.heap.size [] l (some ad) n c (.slice (some ⟨w.heap.size,0,none⟩) 0 0) n rfl rfl underlying22 jG rfl (by omega) rfl rfl Zr (r.ext ha) (by simp) (by simp;omega) (by simp;omega) (by simp) ?_;intro A9 c9 w9 ao ai ck gq gp)
  exact Tzdf
structure FV where
 A1:Option Addr
 n1:Nat
 c1:Nat
 A2:Option Addr
 n2:Nat
 c2:Nat
def iG (x:FV):List Value:=[.slice x.A1 x.n1 x.c1,.slice x.A2 x.n2 x.c2]
theorem fZ (x:FV):(iG x).length=2:=rfl
theorem oO (x:FV):∀u∈iG x,u.oneCell' =true:=by
 intro u hu;simp [iG] at hu;rcases hu with rfl|rfl<;>rfl
def pV:Value:= .agg #[.slice none 0 0,.slice none 0 0]
theorem tB:(Tryz.prog.info? 86).map (λi=>(i.zero,i.size,i.bytes))=some (some pV,2,48):=by kernel_rfl
structure au where
 s:List UInt8
 p:List UInt8
deriving DecidableEq,Inhabited
structure yz (S:Nat->Prop) (w:World) (x:FV) (f:au):Prop where
 s:By S w (.slice x.A1 x.n1 x.c1) f.s
 p:By S w (.slice x.A2 x.n2 x.c2) f.p
theorem yz.ext {S:Nat->Prop} {w w' :World} {x:FV} {f:au} (h:yz S w x f) (hb:Below w.heap.size w w'):yz S w' x f:=⟨h.s.ext hb,h.p.ext hb⟩
theorem yz.mono {S S' :Nat->Prop} {w:World} {x:FV} {f:au} (h:yz S w x f) (hs:∀b,b<w.heap.size->S b->S' b):yz S' w x f:=⟨h.s.mono hs,h.p.mono hs⟩
theorem yz.keep {S:Nat->Prop} {w w' :World} {x:FV} {f:au} (h:yz S w x f) (hk:ae S w w'):yz S w' x f:=⟨a7.keep h.s hk,a7.keep h.p hk⟩
def fh (S:Nat->Prop) (w:World) (v:Value) (fs:List au):Prop:=∃xs,a7 iG S w v xs/\xs.length=fs.length/\∀(i:Nat) (x:FV) (f:au),xs[i]? =some x->fs[i]? =some f->yz S w x f
theorem fh.ext {S:Nat->Prop} {w w' :World} {v:Value} {fs:List au} (h:fh S w v fs) (hb:Below w.heap.size w w'):fh S w' v fs:=by
 obtain ⟨xs,h1,h2,h3⟩:=h;exact ⟨xs,h1.ext hb,h2,λi x f hx hf=>(h3 i x f hx hf).ext hb⟩
theorem fh.keep {S:Nat->Prop} {w w' :World} {v:Value} {fs:List au} (h:fh S w v fs) (hk:ae S w w'):fh S w' v fs:=by
 obtain ⟨xs,h1,h2,h3⟩:=h;exact ⟨xs,h1.keep hk,h2,λi x f hx hf=>(h3 i x f hx hf).keep hk⟩
theorem fh.mono {S S' :Nat->Prop} {w:World} {v:Value} {fs:List au} (h:fh S w v fs) (hs:∀b,b<w.heap.size->S b->S' b):fh S' w v fs:=by
 obtain ⟨xs,h1,h2,h3⟩:=h;exact ⟨xs,h1.mono hs,h2,λi x f hx hf=>(h3 i x f hx hf).mono hs⟩
theorem fh.lo {S:Nat->Prop} {w:World} {v:Value} {fs:List au} (h:fh S w v fs):fh (·<w.heap.size) w v fs:=h.mono (λ_ hb _=>hb)
theorem fh.len {S:Nat->Prop} {w:World} {A:Option Addr} {n c:Nat} {fs:List au} (h:fh S w (.slice A n c) fs):fs.length=n/\n<=c/\c<=9223372036854775807:=by
 obtain ⟨xs,h1,h2,h3⟩:=h;have:=h1.len;omega
theorem fh.at_ {S:Nat->Prop} {w:World} {A:Option Addr} {n c k:Nat} {fs:List au} (h:fh S w (.slice A n c) fs) (hk:k<n):
 ∃b off x f,A=some ⟨b,off,none⟩/\b<w.heap.size/\fs[k]? =some f/\yz S w x f/\w.cell? ⟨b,off+k*2,none⟩=some (.slice x.A1 x.n1 x.c1)/\w.cell? ⟨b,off+k*2+1,none⟩=some (.slice x.A2 x.n2 x.c2):=by
 have hl:=h.len;obtain ⟨xs,h1,h2,h3⟩:=h;obtain ⟨b,off,x,rfl,_,hb,hx,hc⟩:=h1.at_ fZ (j:=k) (by omega) (by omega);have hf:fs[k]? =some fs[k]:=List.getElem?_eq_getElem (by omega)
 exact ⟨b,off,x,_,rfl,hb,hf,h3 k x _ hx hf,hc 0 _ rfl,hc 1 _ rfl⟩
theorem ML (xs:List FV) (k:Nat) (x:FV) (hk:k<xs.length):(xs.set k x).flatMap iG=((xs.flatMap iG).set (k*2) (.slice x.A1 x.n1 x.c1)).set (k*2+1) (.slice x.A2 x.n2 x.c2):=by
 induction xs generalizing k with
 |nil=>simp at hk
 |cons y xs ih=>
  cases k with
  |zero=>rfl
  |succ k=>
   rw [List.set_cons_succ,List.flatMap_cons,ih k (by simpa using hk),List.flatMap_cons,show (k+1)*2=(k*2)+1+1 by omega];rfl
theorem a8.setF {w:World} {base:Nat} {e:TypeId} {g n c k:Nat} {xs:List FV} (h:a8 iG 2 w base e (.slice (some ⟨g,0,none⟩) n c) xs) (x:FV) (hk:k<n):
 a8 iG 2 ((w.setCell ⟨g,k*2,none⟩ (.slice x.A1 x.n1 x.c1)).setCell ⟨g,k*2+1,none⟩ (.slice x.A2 x.n2 x.c2)) base e (.slice (some ⟨g,0,none⟩) n c) (xs.set k x):=by
 have hl:=h.len.1;unfold a8 at*;rw [List.length_set,ML xs k x (by omega)];subst hl;exact (World.ownsRow.stored (World.ownsRow.stored h _ _).1 _ _).1
theorem a8.cellF {w:World} {base:Nat} {e:TypeId} {g n c k:Nat} {xs:List FV} (h:a8 iG 2 w base e (.slice (some ⟨g,0,none⟩) n c) xs) (hk:k<n) (i:Nat) (hi:i<2):(∃v,w.cell? ⟨g,k*2+i,none⟩=some v)/\w.frozen? ⟨g,k*2+i,none⟩=false:=by
 have hl:=h.len.1;obtain ⟨b,off,x,e1,_,hb,hx,hc⟩:=h.recs.at_ fZ (j:=k) (by omega) (by omega);refine ⟨?_,?_⟩
 ·rcases h.2 with ⟨e0,_⟩|⟨g',cap,cur,e0,_,hh,_,_,h3,_⟩
  ·cases e0
  ·cases e0;have h9:xs.length<=c:=by assumption
   have af:k*2+i<cur.size:=by rw [h3];omega
   exact ⟨cur[k*2+i],by rw [cell_of_row _ _ _ _ _ _ hh];exact Array.getElem?_eq_getElem af⟩
 ·subst hl;exact World.ownsRow.frozenAt h _
theorem SG (A:Option Addr) (n c:Nat) (l:List FV) (S:Nat->Prop) (w:World) (r:a7 iG S w (.slice A n c) l) (hb:n*48<=140737488355328):
 Calls Tryz.prog 127 #[.slice A n c] w λe w' =>∃A' c',e= .returned (.slice A' n c')/\a8 iG 2 w' w.heap.size 86 (.slice A' n c') l/\Below w.heap.size w w' :=by
 have hn:n<=140737488355328:=by omega
 obtain ⟨dv,dd,Ak⟩:=r.len;have yx:=aA dv;clear dv;have qn:∀(w:World) (a:Option Addr) (n c n' c' :Nat),(binOp .eql 34 (.slice a n c) (.slice none n' c')).run Tryz.prog w= .ok (.bool a.isNone) w:=λw a n c n' c' =>Lib.run_eql_slice_nil w _ _ a n c n' c' underlying34
 cases A with
 |none=>
  have VM:l=[]:=by
   obtain ⟨A',c',e,_,_,h3⟩:=r;cases e;cases l with
   |nil=>rfl
   |cons x l=>
    obtain ⟨_,_,q,_⟩:=h3 (by rw [List.flatMap_cons,List.length_append,fZ];omega);cases q
  subst VM;obtain rfl:n=0:=by have:=yx.out;simpa using this.symm
  go_enter func127,ntmps127;exact Tzct
 |some ad=>
  have ha:Below w.heap.size w (w.alloc (.cells #[] 86)):=(Below.refl _ _).alloc (Nat.le_refl _) _;have Zr:=a8.empty_ (enc:=iG) (k:=2) w w.heap.size 86 (Nat.le_refl _);go_enter func127,ntmps127;go_wp2_with (refine aJ (o:=⟨some 7,_,_,_,_,_⟩) fZ oO pV 48 _ _ 34 86 w.heap.size [] l (some ad) n c (.slice (some ⟨w.heap.size,0,none⟩) 0 0) n rfl rfl underlying34 tB rfl (by omega) rfl rfl Zr (r.ext ha) (by simp) (by simp;omega) (by simp;omega) (by simp) ?_;intro A9 c9 w9 ao ai ck gq gp)
  exact Tzdf
def zFV:FV:=⟨none,0,0,none,0,0⟩
def fP:au:=⟨[],[]⟩
theorem DH (n:Nat) (hn:n<=1000000) (w:World):(Instr.makeSlice 34 (.int .i64 (n:Int)) (.int .i64 (n:Int))).run Tryz.prog w= .ok (.slice (some ⟨w.heap.size,0,none⟩) n n) (w.alloc (.cells (madeCells (iG zFV).toArray (n*2)) 86)):=by
 obtain ⟨i,hi,hz,hs,hb⟩:=info_parts tB;have h:=run_make (P:=Tryz.prog) w 34 86 i pV underlying34 hi hz .i64 .i64 n n (by omega) (by omega) (by rw [hb];omega) (by omega);rw [h,hs];simp only [Int.toNat_natCast];rfl
theorem NJ (n:Nat) (hn:n<=1000000) (w:World):a8 iG 2 (w.alloc (.cells (madeCells (iG zFV).toArray (n*2)) 86)) w.heap.size 86 (.slice (some ⟨w.heap.size,0,none⟩) n n) (List.replicate n zFV):=by
 unfold a8;rw [List.length_replicate];refine ⟨by rw [gG fZ];simp,.inr ⟨w.heap.size,n,_,rfl,Nat.le_refl _,heap_alloc_new w _,Nat.le_refl _,by unfold maxLen;omega,by simp [madeCells],?_⟩⟩;rw [xW fZ zFV (by omega) n];exact List.take_of_length_le (by rw [gG fZ];simp)
theorem yT {S:Nat->Prop} {w:World} {v:Value} {n:Nat} (h:a7 iG S w v (List.replicate n zFV)):fh S w v (List.replicate n fP):=
 ⟨_,h,by simp,λi x f hx hf=>by
  rw [List.getElem?_replicate] at hx hf;split at hx
  ·cases hx;rw [if_pos (by assumption)] at hf;cases hf;exact ⟨a7.nil_ _ _,a7.nil_ _ _⟩
  ·cases hx⟩
theorem RD (n:Nat) (hn:n<=16) (w:World):
 Calls Tryz.prog 25 #[.int .i64 (n:Int)] w λe w' =>∃A c,e= .returned (.tuple #[.agg #[.slice A n c],.int .i64 0])/\fh (λb=>w.heap.size<b) w' (.slice A n c) (List.replicate n fP)/\Below w.heap.size w w' :=by
 have d0:decide ((n:Int)<0)=false:=by simp
 have d1:decide (16<n)=false:=by simp;omega
 have d2:decide ((16:Int)<(n:Int))=false:=by simp;omega
 have Kl:=DH n (by omega);have rf:(w.alloc (.cells #[.slice none 0 0] 36)).heap[w.heap.size]? =some (.cells #[.slice none 0 0] 36 (0,0)):=heap_alloc_new w _
 have aj:=NJ n (by omega) (w.alloc (.cells #[.slice none 0 0] 36));rw [World.size_alloc] at aj;have ha:∀o,Below (w.alloc (.cells #[.slice none 0 0] 36)).heap.size (w.alloc (.cells #[.slice none 0 0] 36)) ((w.alloc (.cells #[.slice none 0 0] 36)).alloc o):=λo=>(Below.refl _ _).alloc (Nat.le_refl _) o
 have od:=λo=>((ha o).block w.heap.size (by simp)).trans rf
 have al:∀o,Below w.heap.size w ((w.alloc (.cells #[.slice none 0 0] 36)).alloc o):=λo=>Below.ext ((Below.refl _ w).alloc (Nat.le_refl _) _) (ha o)
 have Hz1:=aA od;have YG:=aA aj;clear rf od aj;go_enter func25,ntmps25;exact Tzci
theorem qF (A:Option Addr) (n c k:Nat) (w:World) (hk:k<n) (hn:n<=1000):
 Calls Tryz.prog 67 #[.agg #[.slice A n c],.int .i64 (k:Int)] w λe w' =>e= .returned (.bool false)/\Below w.heap.size w w' :=by
 have d0:decide ((k:Int)<0)=false:=by simp
 have d1:decide (n<=k)=false:=by simpa using hk
 go_enter func67,ntmps67;exact Tzcj
theorem tJ (A:Option Addr) (n c:Nat) (k:Int) (w:World) (hk:k<0∨(n:Int)<=k) (hn:n<=1000):
 Calls Tryz.prog 67 #[.agg #[.slice A n c],.int .i64 k] w λe w' =>e= .returned (.bool true)/\Below w.heap.size w w' :=by
 by_cases h0:k<0
 ·have d0:decide (k<0)=true:=by simpa using h0
  go_enter func67,ntmps67;exact Tzcj
 ·have d0:decide (k<0)=false:=by simpa using h0
  have d1:decide ((n:Int)<=k)=true:=by simp;omega
  go_enter func67,ntmps67;exact Tzcj
theorem yZ (A:Option Addr) (n c:Nat) (fs:List au) (S:Nat->Prop) (w:World) (hD:fh S w (.slice A n c) fs) (hn:n<=1000) (k:Nat) (hk:k<n) (x:FV) (f:au) (hf:yz S w x f):
 Calls Tryz.prog 68 #[.agg #[.slice A n c],.int .i64 (k:Int),.agg #[.slice x.A1 x.n1 x.c1,.slice x.A2 x.n2 x.c2]] w λe w' =>∃A' c',e= .returned (.agg #[.slice A' n c'])/\fh (λb=>S b∨w.heap.size<=b) w' (.slice A' n c') (fs.set k f)/\Below w.heap.size w w' :=by
 obtain ⟨xs,hR,oo,fw⟩:=hD;have Rq:=hR.len;go_enter func68,ntmps68;go_wp2_with fail;obtain ⟨W,hW⟩:=eX (((w.alloc (.cells #[.slice A n c] 36)).alloc (.cells #[.slice x.A1 x.n1 x.c1,.slice x.A2 x.n2 x.c2] 86)).alloc (.cells #[.slice none 0 0] 36));have aw:Below w.heap.size w W:=by rw [hW];exact (((Below.refl _ w).alloc (Nat.le_refl _) _).alloc (by simp) _).alloc (by simp;omega) _
 have fo:W.heap.size=w.heap.size+3:=by rw [hW];simp
 have q0:W.cell? ⟨w.heap.size+1,0,none⟩=some (.slice x.A1 x.n1 x.c1):=by rw [hW];go_simp
 have q1:W.cell? ⟨w.heap.size+1,1,none⟩=some (.slice x.A2 x.n2 x.c2):=by rw [hW];go_simp
 have hz:W.heap[w.heap.size+1+1]? =some (.cells #[.slice none 0 0] 36 (0,0)):=by
  exact Tzdx
 rw [<-hW];clear hW;have jz:=aA fo;clear fo;refine (SG A n c xs _ W (hR.ext aw) (by omega)).mono ?_;rintro e w1 ⟨A1,c1,rfl,ec,al⟩;obtain ⟨g,rfl,fj,da⟩:=ec.some_ (by omega);obtain ⟨⟨u0,J5⟩,hf0⟩:=ec.cellF hk 0 (by omega);obtain ⟨⟨u1,Nm⟩,Zv⟩:=ec.cellF hk 1 (by omega);rw [Nat.add_zero] at J5 hf0;have Ts :=(al.cell (p:=⟨w.heap.size+1,0,none⟩) (by have:=jz.out;simp;omega)).trans q0;have q1' :=(al.cell (p:=⟨w.heap.size+1,1,none⟩) (by have:=jz.out;simp;omega)).trans q1;have od:=(al.block _ (by have:=jz.out;omega)).trans hz;clear q0 q1 hz;have dh:=ec.setF x hk;have ji:w1.grownBy ((w1.setCell ⟨g,k*2,none⟩ (.slice x.A1 x.n1 x.c1)).setCell ⟨g,k*2+1,none⟩ (.slice x.A2 x.n2 x.c2)) (some g):=nN (nN ⟨rfl,rfl,rfl,Nat.le_refl _,λ_ _ _=>rfl⟩);have J3:=(ji.block (w.heap.size+1+1) (by have:=jz.out;omega) (by have:=jz.out;simp;omega)).trans od;have Hz2:=aA J3;have Qm:=aA dh;have Hgr2:=aA ji;clear od J3 dh ji;go_wp2_with (refine sR Hz2 ?_)
 exact Tzbd
theorem OE (A:Option Addr) (n c:Nat) (fs:List au) (S:Nat->Prop) (w:World) (hD:fh S w (.slice A n c) fs) (hn:n<=1000) (k:Nat) (f:au) (hf:fs[k]? =some f) (hlen:f.s.length+f.p.length<=10000000):
 Calls Tryz.prog 27 #[.agg #[.slice A n c],.int .i64 (k:Int)] w λe w' =>∃A' c',e= .returned (.tuple #[.slice A' (f.s.length+f.p.length) c',.int .i64 0])/\a8 fV 1 w' w.heap.size 5 (.slice A' (f.s.length+f.p.length) c') (f.s++f.p)/\Below w.heap.size w w' :=by
 have hk:k<n:=by have:=(List.getElem?_eq_some_iff.1 hf).1;have:=hD.len;omega
 obtain ⟨b,off,x,f',rfl,hb,xh,hx,c0,c1⟩:=hD.at_ hk;obtain rfl:f' =f:=by rw [hf] at xh;cases xh;rfl
 have iz:=hx.s.len;have Ki:=hx.p.len;have e1:=aA iz.1;have e2:=aA Ki.1;have ze:x.n1+x.n2<=10000000:=by have:=e1.out;have:=e2.out;omega
 clear hf xh iz Ki;have ha:Below w.heap.size w (w.alloc (.cells #[.slice (some ⟨b,off,none⟩) n c] 36)):=(Below.refl _ w).alloc (Nat.le_refl _) _;go_enter func27,ntmps27;go_wp2_with fail;obtain ⟨W,hW⟩:=eX (w.alloc (.cells #[.slice (some ⟨b,off,none⟩) n c] 36));have q0:W.cell? ⟨w.heap.size,0,none⟩=some (.slice (some ⟨b,off,none⟩) n c):=by rw [hW];go_simp
 rw [<-hW] at ha;rw [<-hW];clear hW;refine (qF _ n c k W hk hn).mono ?_;rintro e w1 ⟨rfl,al⟩;have Ts :=(al.cell (p:=⟨w.heap.size,0,none⟩) (block_lt_of_cell q0)).trans q0;have Nz:=block_lt_of_cell Ts;have fe:=Below.ext ha al;have Q7 :=(fe.cell (p:=⟨b,off+k*2,none⟩) hb).trans c0;have UH :=(fe.cell (p:=⟨b,off+k*2+1,none⟩) hb).trans c1;have gv :=block_lt_of_cell Q7;clear q0 c0 c1;have Ht:∀w:World,(isAgg 34).run Tryz.prog w= .ok false w:=λw=>by simp [isAgg,run_underlying underlying34]
 have Bt:∀w:World,(isAgg 22).run Tryz.prog w= .ok false w:=λw=>by simp [isAgg,run_underlying underlying22]
 have Zc:=aA Ht;have Mq:=aA Bt;clear Ht Bt;go_wp2_with fail;refine aH (Below w1.heap.size w1) (by kernel_rfl) (by kernel_rfl) ((Below.refl _ _).drew) ?_;refine TkA ?_;refine lL (λw' hS=>aB (Zc.out _) ((hS.cell (p:=⟨w.heap.size,0,none⟩) Nz).trans Ts)) ?_;refine Tyac ?_;refine lL (λw' hS=>aB (Mq.out _) ((hS.cell (p:=⟨b,off+k*2,none⟩) gv).trans Q7)) ?_;refine Tyac ?_;refine lL (λw' hS=>aB (Zc.out _) ((hS.cell (p:=⟨w.heap.size,0,none⟩) Nz).trans Ts)) ?_;refine Tyac ?_;refine lL (λw' hS=>aB (Mq.out _) ((hS.cell (p:=⟨b,off+k*2+1,none⟩) gv).trans UH)) ?_;refine Tyac ?_;have px:Below w1.heap.size w1 (w1.alloc (.cells #[.slice x.A1 x.n1 x.c1,.slice x.A2 x.n2 x.c2] 22)).drew:=((Below.refl _ _).alloc (Nat.le_refl _) _).drew;refine aF rfl ?_;go_wp2_with fail;refine aD px ?_;refine Tyah ?_;go_wp2_with fail;refine (wG w1.heap.size x.A1 x.A2 x.n1 x.c1 x.n2 x.c2 f'.s f'.p _ _ _ (by go_simp) (by go_simp) ((hx.s.ext fe).ext px) ((hx.p.ext fe).ext px) (by omega)).mono ?_;rintro e w2 ⟨A',c',rfl,aj,ar⟩;have Hb :=Below.ext px ar;go_wp2_with fail;refine aD (Hb) ?_;refine Tyan ?_;go_wp2_with fail;go_wp2;go_ret2;have ef:=fe.size;refine ⟨A',c',by rw [e1.out,e2.out];rfl,?_,Below.ext fe Hb⟩;rw [e1.out,e2.out];exact aj.weak (by show w.heap.size<=(w1.alloc _).heap.size;rw [World.size_alloc];omega)
theorem fQ (w:World) (v:Value):∃W,W=(w.alloc (.cells #[v] 36)).alloc (.cells #[.slice none 0 0] 36)/\Below w.heap.size w W/\W.heap.size=w.heap.size+2/\
 W.heap[w.heap.size]? =some (.cells #[v] 36 (0,0))/\W.heap[w.heap.size+1]? =some (.cells #[.slice none 0 0] 36 (0,0)):=by
 refine ⟨_,rfl,((Below.refl _ w).alloc (Nat.le_refl _) _).alloc (by simp) _,by simp,?_,?_⟩
 ·exact Tzap
 ·have:=heap_alloc_new (w.alloc (.cells #[v] 36)) (.cells #[.slice none 0 0] 36);rw [World.size_alloc] at this;exact this
theorem KD (A:Option Addr) (n c:Nat) (fs:List au) (S:Nat->Prop) (w:World) (hD:fh S w (.slice A n c) fs) (hn:n<=1000) (k:Nat) (f:au) (hf:fs[k]? =some f) (Ab:Option Addr) (nb cb:Nat) (lb:List UInt8) (hb:By S w (.slice Ab nb cb) lb) (hlen:f.s.length+f.p.length+nb<=65536):
 Calls Tryz.prog 118 #[.agg #[.slice A n c],.int .i64 (k:Int),.slice Ab nb cb] w λe w' =>∃A' c',e= .returned (.tuple #[.agg #[.slice A' n c'],.int .i64 0])/\fh (λb=>S b∨w.heap.size<=b) w' (.slice A' n c') (fs.set k ⟨f.s,f.p++lb⟩)/\Below w.heap.size w w' :=by
 have hk:k<n:=by have:=(List.getElem?_eq_some_iff.1 hf).1;have:=hD.len;omega
 have sx:=hD.mono (S' :=λb=>S b/\b<w.heap.size) (λb hb hs=>⟨hs,hb⟩);obtain ⟨b,off,x,f',rfl,j6,xh,hx,c0,c1⟩:=sx.at_ hk;obtain rfl:f' =f:=by rw [hf] at xh;cases xh;rfl
 have e1:=aA hx.s.len.1;have e2:=aA hx.p.len.1;have ze:x.n1+x.n2+nb<=65536:=by have:=e1.out;have:=e2.out;omega
 clear hf xh;obtain ⟨W,hW,aw,fo,vd,iy⟩:=fQ w (.slice (some ⟨b,off,none⟩) n c);have jz:=aA fo;have d1:decide (65536<x.n1+x.n2+nb)=false:=by simp;omega
 go_enter func118,ntmps118;go_wp2_with fail;rw [<-hW];clear hW fo;refine (qF _ n c k W hk hn).mono ?_;rintro e w1 ⟨rfl,al⟩;have fe:=Below.ext aw al;have Gl:=al.size;have z0:=(al.block _ (by have:=jz.out;omega)).trans vd;have z1:=(al.block _ (by have:=jz.out;omega)).trans iy;have q0:=bn z0;have Q7 :=(fe.cell (p:=⟨b,off+k*2,none⟩) j6).trans c0;have UH :=(fe.cell (p:=⟨b,off+k*2+1,none⟩) j6).trans c1;have H0:=aA z0;have H1:=aA z1;clear vd iy z0 z1 c0 c1;go_wp2_with fail;obtain ⟨W1,px⟩:=eX (w1.alloc (.cells #[.slice x.A1 x.n1 x.c1,.slice x.A2 x.n2 x.c2] 86));obtain ⟨W2,fv⟩:=eX (W1.alloc (.cells #[.slice x.A2 x.n2 x.c2,.slice Ab nb cb] 22));have tg:Below w1.heap.size w1 W1:=by rw [px];exact (Below.refl _ _).alloc (Nat.le_refl _) _
 have jo:Below W1.heap.size W1 W2:=by rw [fv];exact (Below.refl _ _).alloc (Nat.le_refl _) _
 have Gm:W1.heap[w1.heap.size]? =some (.cells #[.slice x.A1 x.n1 x.c1,.slice x.A2 x.n2 x.c2] 86 (0,0)):=by rw [px];exact heap_alloc_new _ _
 have iz:W1.heap.size=w1.heap.size+1:=by rw [px];simp
 have Ds:W2.heap.size=w1.heap.size+2:=by rw [fv];simp [iz]
 have g0:W2.cell? ⟨w1.heap.size+1,0,none⟩=some (.slice x.A2 x.n2 x.c2):=by rw [fv,<-iz];go_simp
 have g1:W2.cell? ⟨w1.heap.size+1,1,none⟩=some (.slice Ab nb cb):=by rw [fv,<-iz];go_simp
 rw [<-px,<-fv];clear px fv;have b2:=Below.ext fe (Below.ext tg jo);have Hs2:=aA Ds;have Hs1:=aA iz;have VC:=(jo.block _ (by omega)).trans Gm;clear iz Ds;refine (wG (w1.heap.size+1) x.A2 Ab x.n2 x.c2 nb cb f'.p lb _ _ W2 g0 g1 (hx.p.ext b2) (hb.ext b2) (by omega)).mono ?_;rintro e w3 ⟨A3,c3,rfl,tx,ea⟩;have ye:=(ea.block _ (by have:=Hs2.out;omega)).trans VC;have f0:=bn ye;have f1:=fi ye;have fz:w3.frozen? ⟨w1.heap.size,1,none⟩=false:=frozen_of_row _ _ _ _ _ ye
 have mc:Below w1.heap.size w1 w3:=Below.ext (Below.ext tg jo) ea;have q3:=(mc.cell (p:=⟨w.heap.size,0,none⟩) (by have:=jz.out;show w.heap.size<_;omega)).trans q0;have hsz3:=mc.size;clear q0 Q7 UH g0 g1 Gm VC;go_wp2_with fail;have nw:w3.grownBy (w3.setCell ⟨w1.heap.size,1,none⟩ (.slice A3 (x.n2+nb) c3)) (some w1.heap.size):=aL ⟨rfl,rfl,rfl,Nat.le_refl _,λ_ _ _=>rfl⟩;have B4:Below w.heap.size w (w3.setCell ⟨w1.heap.size,1,none⟩ (.slice A3 (x.n2+nb) c3)):=Below.grow (Below.ext fe mc) nw fe.size;have Gp:=tx.kept nw (.inr (λe=>by have:=(World.ownsRow.lt tx _ e).1;have:=Hs2.out;omega));have z4:=((nw.block (w.heap.size+1) (by have:=jz.out;omega) (by have:=jz.out;simp;omega)).trans (mc.block _ (by have:=jz.out;omega))).trans H1.out;have Sk:w.heap.size+1<(w3.setCell ⟨w1.heap.size,1,none⟩ (.slice A3 (x.n2+nb) c3)).heap.size:=(Array.getElem?_eq_some_iff.1 z4).1;generalize w3.setCell ⟨w1.heap.size,1,none⟩ (.slice A3 (x.n2+nb) c3)=w4 at*;have uv:fh (λb=>(S b∨w.heap.size<=b)/\b≠w.heap.size+1) w4 (.slice (some ⟨b,off,none⟩) n c) fs:=(sx.ext B4).mono (λ_ _ h=>⟨.inl h.1,by have:=h.2;omega⟩);have XK:yz (λb=>(S b∨w.heap.size<=b)/\b≠w.heap.size+1) w4 ⟨x.A1,x.n1,x.c1,A3,x.n2+nb,c3⟩ ⟨f'.s,f'.p++lb⟩:=⟨(hx.s.ext B4).mono (λ_ _ h=>⟨.inl h.1,by have:=h.2;omega⟩),Gp.recs.mono (λ_ _ h=>⟨.inr (by have:=h.1;have:=Hs2.out;have:=jz.out;omega),by have:=h.1;have:=Hs2.out;have:=jz.out;omega⟩)⟩
 refine (yZ _ n c fs _ _ uv hn k hk ⟨x.A1,x.n1,x.c1,A3,x.n2+nb,c3⟩ ⟨f'.s,f'.p++lb⟩ XK).mono ?_;exact Tzce
theorem qB (A:Option Addr) (n c:Nat) (fs:List au) (S:Nat->Prop) (w:World) (hD:fh S w (.slice A n c) fs) (hn:n<=1000) (k:Nat) (hk:k<n) (Ab:Option Addr) (nb cb:Nat) (lb:List UInt8) (Sb:Nat->Prop) (hb:By Sb w (.slice Ab nb cb) lb) (hlen:nb<=65536):
 Calls Tryz.prog 41 #[.agg #[.slice A n c],.int .i64 (k:Int),.slice Ab nb cb] w λe w' =>∃A' c',e= .returned (.tuple #[.agg #[.slice A' n c'],.int .i64 0])/\fh (λb=>S b∨w.heap.size<=b) w' (.slice A' n c') (fs.set k ⟨lb,[]⟩)/\Below w.heap.size w w' :=by
 have sx:=hD.mono (S' :=λb=>S b/\b<w.heap.size) (λb hb hs=>⟨hs,hb⟩);obtain ⟨W,hW,aw,fo,vd,iy⟩:=fQ w (.slice A n c);have jz:=aA fo;have d1:decide (65536<nb)=false:=by simpa using hlen
 have d2:decide ((65536:Int)<(nb:Int))=false:=by simp;omega
 go_enter func41,ntmps41;go_wp2_with fail;rw [<-hW];clear hW fo;refine (qF _ n c k W hk hn).mono ?_;rintro e w1 ⟨rfl,al⟩;have fe:=Below.ext aw al;have Gl:=al.size;have z0:=(al.block _ (by have:=jz.out;omega)).trans vd;have z1:=(al.block _ (by have:=jz.out;omega)).trans iy;have H0:=aA z0;have H1:=aA z1;clear vd iy z0 z1;go_wp2_with fail;refine Tyaz ?_;go_wp2_with fail;refine (SH Ab nb cb lb _ _ ((hb.ext fe).ext (Below.refl _ _).drew) (by omega)).mono ?_;rintro e w3 ⟨A3,c3,rfl,tx,ea⟩;have mc:Below w1.heap.size w1 w3:=Below.ext (Below.refl _ _).drew ea;go_wp2_with fail;refine Tybs ?_;refine Tyah ?_;go_wp2_with fail;refine Tybs ?_;refine Tyah ?_;go_wp2_with fail;have B4:=Below.ext fe mc;have z4:=(mc.block _ (by have:=jz.out;omega)).trans H1.out;have Sk:w.heap.size+1<w3.heap.size:=(Array.getElem?_eq_some_iff.1 z4).1;have uv:fh (λb=>(S b/\b<w.heap.size)∨w.heap.size+2<=b) w3 (.slice A n c) fs:=(sx.ext B4).mono (λ_ _ h=> .inl h);have XK:yz (λb=>(S b/\b<w.heap.size)∨w.heap.size+2<=b) w3 ⟨A3,nb,c3,none,0,0⟩ ⟨lb,[]⟩:=⟨tx.recs.mono (λ_ _ h=> .inr (by have h1:w1.heap.size<=_:=h.1;have:=jz.out;omega)),a7.nil_ _ _⟩
 refine (yZ _ n c fs _ _ uv hn k hk ⟨A3,nb,c3,none,0,0⟩ ⟨lb,[]⟩ XK).mono ?_;exact Tzbq
def sX (q:List UInt8) (L:List Int):List UInt8:=q.mapIdx (λi c=>if ((i / 16:Nat):Int)∈L then 0 else c)
theorem IM (q:List UInt8) (L:List Int):(sX q L).length=q.length:=by simp [sX]
theorem IN (q:List UInt8) (L:List Int) (i:Nat):(sX q L)[i]? =q[i]?.map (λc=>if ((i / 16:Nat):Int)∈L then 0 else c):=by simp [sX]
def dM (p:List UInt8) (keep:Int):Nat:=(min (max keep 0) (p.length:Int)).toNat
theorem qH (p:List UInt8) (keep:Int):dM p keep<=p.length:=by unfold dM;omega
def oT (p:List UInt8) (keep:Int) (lost:List Int):List UInt8:=sX (p.take (dM p keep)) lost
theorem a8.setB {w:World} {base:Nat} {e:TypeId} {g n c:Nat} {l:List UInt8} (h:a8 fV 1 w base e (.slice (some ⟨g,0,none⟩) n c) l) (j:Nat) (x:UInt8):
 a8 fV 1 (w.setCell ⟨g,j,none⟩ (.int .u8 (x.toNat:Int))) base e (.slice (some ⟨g,0,none⟩) n c) (l.set j x):=by
 have hl:=h.len.1;unfold a8 at*;rw [List.length_set,yQ,List.map_set,<-yQ];subst hl;exact (World.ownsRow.stored h _ _).1
structure TV where
 keep:Int
 A:Option Addr
 n:Nat
 c:Nat
def SE (x:TV):List Value:=[.int .i64 x.keep,.slice x.A x.n x.c]
theorem MN (x:TV):(SE x).length=2:=rfl
structure xp where
 keep:Int
 lost:List Int
def UJ (S:Nat->Prop) (w:World) (v:Value) (ts:List xp):Prop:=∃xs,a7 SE S w v xs/\xs.length=ts.length/\∀(i:Nat) (x:TV) (t:xp),xs[i]? =some x->ts[i]? =some t->x.keep=t.keep/\a7 bB S w (.slice x.A x.n x.c) t.lost
theorem UJ.mono {S S' :Nat->Prop} {w:World} {v:Value} {ts:List xp} (h:UJ S w v ts) (hs:∀b,b<w.heap.size->S b->S' b):UJ S' w v ts:=by
 obtain ⟨xs,h1,h2,h3⟩:=h;exact ⟨xs,h1.mono hs,h2,λi x t hx ht=>⟨(h3 i x t hx ht).1,(h3 i x t hx ht).2.mono hs⟩⟩
theorem UJ.len {S:Nat->Prop} {w:World} {A:Option Addr} {n c:Nat} {ts:List xp} (h:UJ S w (.slice A n c) ts):ts.length=n/\n<=c/\c<=9223372036854775807:=by
 obtain ⟨xs,h1,h2,h3⟩:=h;have:=h1.len;omega
theorem UJ.at_ {S:Nat->Prop} {w:World} {A:Option Addr} {n c k:Nat} {ts:List xp} (h:UJ S w (.slice A n c) ts) (hk:k<n):
 ∃(b off:Nat) (x:TV) (t:xp),A=some ⟨b,off,none⟩/\b<w.heap.size/\ts[k]? =some t/\x.keep=t.keep/\a7 bB S w (.slice x.A x.n x.c) t.lost/\w.cell? ⟨b,off+k*2,none⟩=some (.int .i64 x.keep)/\w.cell? ⟨b,off+k*2+1,none⟩=some (.slice x.A x.n x.c):=by
 have hl:=h.len;obtain ⟨xs,h1,h2,h3⟩:=h;obtain ⟨b,off,x,rfl,_,hb,hx,hc⟩:=h1.at_ MN (j:=k) (by omega) (by omega);have hf:ts[k]? =some ts[k]:=List.getElem?_eq_getElem (by omega)
 exact ⟨b,off,x,_,rfl,hb,hf,(h3 k x _ hx hf).1,(h3 k x _ hx hf).2,hc 0 _ rfl,hc 1 _ rfl⟩
def jK (ts:List xp) (i:Nat):xp:=ts[i]?.getD ⟨0,[]⟩
def jU (ts:List xp) (i:Nat) (f:au):au:=⟨f.s++oT f.p (jK ts i).keep (jK ts i).lost,[]⟩
def lS (fs:List au) (ts:List xp):List au:=fs.mapIdx (jU ts)
theorem mJ (a:World) (row:Option Nat):a.grownBy a row:=⟨rfl,rfl,rfl,Nat.le_refl _,λ_ _ _=>rfl⟩
theorem rZ {a b c:World} {row:Option Nat} (h:a.grownBy b row) (k:b.grownBy c row):a.grownBy c row:=
 ⟨k.os.trans h.os,k.tape.trans h.tape,k.output.trans h.output,Nat.le_trans h.size k.size,λi hi fb=>(k.block i (Nat.lt_of_lt_of_le hi h.size) fb).trans (h.block i hi fb)⟩
theorem oY {a b:World} {row:Option Nat} (h:Below a.heap.size a b):a.grownBy b row:=⟨h.os,h.tape,h.output,h.size,λi hi _=>h.block i hi⟩
theorem a8.cellB {w:World} {base:Nat} {e:TypeId} {g n c:Nat} {l:List UInt8} (h:a8 fV 1 w base e (.slice (some ⟨g,0,none⟩) n c) l) {j:Nat} (hj:j<n):(∃x:UInt8,w.cell? ⟨g,j,none⟩=some (.int .u8 (x.toNat:Int)))/\w.frozen? ⟨g,j,none⟩=false:=by
 have hl:=h.len.1;obtain ⟨b,off,x,e1,_,_,hc⟩:=h.recs.byte (k:=j) hj;cases e1;rw [Nat.zero_add] at hc;refine ⟨⟨x,hc⟩,?_⟩;subst hl;exact World.ownsRow.frozenAt h _
end Go.Proofs.YtiblijmngokcgaaGreatDoor
