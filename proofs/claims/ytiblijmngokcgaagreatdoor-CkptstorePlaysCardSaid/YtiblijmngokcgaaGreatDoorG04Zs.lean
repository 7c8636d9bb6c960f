import Derived.Test.YtiblijmngokcgaaGreatDoorG02Zs
import Derived.Test.YtiblijmngokcgaaGreatDoorCodecBZs
set_option linter.unusedVariables false
set_option linter.unusedSimpArgs false
set_option maxHeartbeats 4000000
set_option maxRecDepth 100000
namespace Go.Proofs.YtiblijmngokcgaaGreatDoor
open Go.Proofs.Tryz
open Go.RowKit
def kj (B:Nat) (w:World) (g:Nat):Prop:=B<=g/\∃(A:Option Addr) (c:Nat) (l:List UInt8) (k:Nat),w.heap[g]? =some (.cells #[.slice A l.length c,.int .i64 (k:Int)] 80 (0,0))/\Bytes (·<B) w (.slice A l.length c) l/\k<=l.length/\l.length<=65536
theorem kj.kept {B:Nat} {w w' :World} {g:Nat} (h:kj B w g) (hk:∀b,b<w.heap.size->(b<B∨b=g)->w'.heap[b]? =w.heap[b]?):kj B w' g:=by
 obtain ⟨hB,A,c,l,k,h1,h2,h3,h4⟩:=h;have af:g<w.heap.size:=(Array.getElem?_eq_some_iff.1 h1).1;exact ⟨hB,A,c,l,k,(hk g af (.inr rfl)).trans h1,h2.keep (λb hb hs=>hk b hb (.inl hs)),h3,h4⟩
theorem kj.lt {B:Nat} {w:World} {g:Nat} (h:kj B w g):g<w.heap.size:=by
 obtain ⟨_,A,c,l,k,h1,_⟩:=h;exact (Array.getElem?_eq_some_iff.1 h1).1
theorem kj.ext {B:Nat} {w w' :World} {g:Nat} (h:kj B w g) (hb:Below w.heap.size w w'):kj B w' g:=h.kept λb gv _=>hb.block b gv
theorem kj.grown {B:Nat} {w w' :World} {g:Nat} {row:Option Nat} (h:kj B w g) (hg:w.grownBy w' row) (hr:∀m,row=some m->B<=m/\m≠g):kj B w' g:=
 h.kept λb gv hs=>hg.block b gv (λe=>by
  have:=hr b e.symm;rcases hs with hs|hs
  ·omega
  ·exact this.2 hs)
theorem kj.drew {B:Nat} {w:World} {g:Nat} (h:kj B w g):kj B w.drew g:=h
theorem FG (v:Value) (l:List UInt8) (S:Nat->Prop) (w:World) (ay:Nat) (hm:ay<=65536) (hv:Bytes S w v l):
 Calls Tryz.prog 10 #[v,.int .i64 (ay:Int)] w λe w' =>∃g,e= .returned (.pointer (some ⟨g,0,none⟩))/\kj w.heap.size w' g/\Below w.heap.size w w' :=by
 have hB:=hv.mono (S' :=(·<w.heap.size)) (λb hb _=>hb);obtain ⟨A,c,rfl,ej,ed,fq⟩:=hv;unfold maxLen at ed;have o5:∀o,Below w.heap.size w (w.alloc o):=λo=>(Below.refl _ _).alloc (Nat.le_refl _) o
 by_cases hlen:ay<l.length
 ·have d1:decide (ay<l.length)=true:=by simpa using hlen
  go_enter func10,ntmps10;go_wp2;go_ret;refine ⟨w.heap.size,rfl,⟨Nat.le_refl _,A,c,l.take ay,0,?_,?_,by omega,by simp;omega⟩,o5 _⟩
  ·rw [List.length_take,Nat.min_eq_left (by omega)];exact heap_alloc_new _ _
  ·rw [List.length_take,Nat.min_eq_left (by omega)];exact (hB.take_ (by omega)).ext (o5 _)
 ·have d1:decide (ay<l.length)=false:=by simpa using hlen
  go_enter func10,ntmps10;go_wp2;go_ret;exact ⟨w.heap.size,rfl,⟨Nat.le_refl _,A,c,l,0,heap_alloc_new _ _,hB.ext (o5 _),by omega,by omega⟩,o5 _⟩
theorem vO (g k n c:Nat) (A:Option Addr) (w:World) (t:TypeId) (h:w.heap[g]? =some (.cells #[.slice A n c,.int .i64 (k:Int)] t (0,0))) (hn:n<=65536) (hk:k<=n):
 Calls Tryz.prog 13 #[.pointer (some ⟨g,0,none⟩)] w λe w' =>e= .returned (.bool (decide (k<n)))/\w' =w.drew:=by
 have h0:=bn h;have h1:=fi h;clear h;go_enter func13,ntmps13;go_wp2_with fail;refine Tyad ?_;go_wp2_with fail;refine Tyaj ?_;go_wp2_with fail;refine Tyam ?_;go_wp2_with fail;go_ret;exact ⟨rfl,rfl⟩
theorem aV (B g n:Nat) (w:World) (h:kj B w g) (hn:1<=n) (S0:n<=65536):
 Calls Tryz.prog 14 #[.pointer (some ⟨g,0,none⟩),.int .i64 (n:Int)] w λe w' =>∃x:Nat,e= .returned (.int .i64 (x:Int))/\x<n/\kj B w' g/\w.grownBy w' (some g):=by
 have hC:=h;obtain ⟨hB,A,c,l,k,hr,dy,hk,hl⟩:=h;have Dv:=vO g k l.length c A w _ hr hl hk;by_cases af:k<l.length
 ·rw [decide_eq_true af] at Dv;have Qn:=aA Dv;clear Dv;have ar:=dy;obtain ⟨A',c',e,_,_,fq⟩:=dy;cases e;obtain ⟨b,off,x,rfl,hbB,vg,hx,kn⟩:=fq.byte af;have pj:b<g:=Nat.lt_of_lt_of_le hbB hB;have h0:=bn hr;have h1:=fi hr;have hf:w.frozen? ⟨g,1,none⟩=false:=frozen_of_row _ _ _ _ _ hr
  have Hr:=aA hr;have Ik:=fK x;clear hr hx fq;go_enter func14,ntmps14;go_wp2_with fail;refine (Qn.out).mono ?_;rintro e w1 ⟨rfl,rfl⟩;go_wp2_with fail;refine Tyad ?_;go_wp2_with fail;refine Tyaj ?_;go_wp2_with fail;refine Tyaj ?_;go_wp2_with fail;refine Tyam ?_;go_wp2_with fail;go_ret;have fj:w.grownBy (w.setCell ⟨g,1,none⟩ (.int .i64 ((k:Int)+1))) (some g):=aL ⟨rfl,rfl,rfl,Nat.le_refl _,λ_ _ _=>rfl⟩;refine ⟨x.toNat%n,gJ (by omega),Nat.mod_lt _ (by omega),⟨hB,some ⟨b,off,none⟩,c,l,k+1,?_,?_,af,hl⟩,⟨fj.os,fj.tape,fj.output,fj.size,fj.block⟩⟩
  ·exact heap_setCell_same w g 1 _ _ _ Hr.out
  ·exact ar.keep (λb' gv hs=>fj.block b' gv (by intro e;cases e;omega))
 ·rw [decide_eq_false af] at Dv;have Qn:=aA Dv;clear Dv;have Hr:=aA hr;clear hr;go_enter func14,ntmps14;go_wp2_with fail;refine (Qn.out).mono ?_;rintro e w1 ⟨rfl,rfl⟩;go_wp2;go_ret;exact ⟨0,rfl,by omega,hC,⟨rfl,rfl,rfl,Nat.le_refl _,λ_ _ _=>rfl⟩⟩
theorem aE {a b c:World} {row:Option Nat} (h:a.grownBy b row) (k:b.grownBy c row):a.grownBy c row:=
 ⟨k.os.trans h.os,k.tape.trans h.tape,k.output.trans h.output,Nat.le_trans h.size k.size,λi hi fb=>(k.block i (Nat.lt_of_lt_of_le hi h.size) fb).trans (h.block i hi fb)⟩
theorem cK {a b c:World} {g:Nat} {row:Option Nat} (h:a.grownBy b (some g)) (k:b.grownBy c row) (hr:∀m,row=some m->a.heap.size<=m∨m=g):a.grownBy c (some g):=
 ⟨k.os.trans h.os,k.tape.trans h.tape,k.output.trans h.output,Nat.le_trans h.size k.size,λi hi fb=>(k.block i (Nat.lt_of_lt_of_le hi h.size) (λe=>by
  rcases hr i e.symm with h1|h1
  ·omega
  ·exact fb (by rw [h1]))).trans (h.block i hi fb)⟩
theorem bC (a:World) (row:Option Nat):a.grownBy a row:=⟨rfl,rfl,rfl,Nat.le_refl _,λ_ _ _=>rfl⟩
theorem aN {a b:World} (h:Below a.heap.size a b) (row:Option Nat):a.grownBy b row:=⟨h.os,h.tape,h.output,h.size,λi hi _=>h.block i hi⟩
theorem ND {B g:Nat} {w wr w2 w5:World} {row:Option Nat} (o:Obj) (ur:g<w.heap.size) (ja:w.grownBy wr (some g)) (da:wr.grownBy w2 (some g)) (ly:kj B w2 g) (bk:(w2.alloc o).grownBy w5 row)
 (az:∀m,row=some m->w.heap.size<=m):kj B w5 g/\w.grownBy w5 (some g):=by
 have ha:Below w2.heap.size w2 (w2.alloc o):=(Below.refl _ _).alloc (Nat.le_refl _) _;refine ⟨(ly.ext ha).grown bk (λm hm=>⟨?_,?_⟩),cK (aE (aE ja da) (aN ha _)) bk (λm hm=> .inl (az m hm))⟩
 ·have:=az m hm;have:=ly.1;omega
 ·have:=az m hm;omega
theorem AY {L:List UInt8} {p:Nat} {c:UInt8} {r:List UInt8} (h:L.drop p=c::r):L[p]? =some c/\L.drop (p+1)=r:=by
 constructor
 ·have:=List.getElem?_drop (xs:=L) (i:=p) (j:=0);rw [h] at this;simpa using this.symm
 ·rw [<-List.drop_drop,h];rfl
theorem dF {L a r:List UInt8} {p:Nat} (h:L.drop p=a++r):L.drop (p+a.length)=r:=by
 rw [<-List.drop_drop,h,List.drop_left]
theorem LD (L post:List UInt8):∀(n i u p v:Nat),n+i=10->u<2^(7*i)->(0<i->0<v)->u+v*2^(7*i)<18446744073709551616->L.drop p=dS v++post->
 Dp L n i u p= .ok (u+v*2^(7*i),p+(dS v).length):=by
 intro n;induction n with
 |zero=>
  intro i u p v hn hu hv Sq hL;obtain rfl:i=10:=by omega
  have h1:=hv (by omega);have:2^(7*10)=1180591620717411303424:=by decide
  rw [this] at Sq;omega
 |succ n ih=>
  intro i u p v hn hu hv Sq hL;have hi9:i<=9:=by omega
  by_cases h1:v<128
  ·rw [mC h1] at hL ⊢;have hc:=(AY hL).1;have XP:(UInt8.ofNat v).toNat=v:=by rw [UInt8.toNat_ofNat'];exact Nat.mod_eq_of_lt (by omega)
   rw [jD hc (by
    rw [XP];rintro (⟨rfl,h2⟩|⟨h2,h3⟩)
    ·have e:2^(7*9)=9223372036854775808:=by decide
     rw [e] at Sq;omega
    ·have:=hv h2;omega) (by rw [XP];exact h1),XP]
   rfl
  ·have Ci:dS v=UInt8.ofNat (v%128+128)::dS (v / 128):=nS h1;rw [Ci] at hL;rw [Ci,List.length_cons];have hc:=AY hL;have XP:(UInt8.ofNat (v%128+128)).toNat=v%128+128:=by rw [UInt8.toNat_ofNat'];exact Nat.mod_eq_of_lt (by omega)
   have hi8:i<9:=by
    rcases Nat.lt_or_ge i 9 with h|h
    ·exact h
    ·obtain rfl:i=9:=by omega
     have e:2^(7*9)=9223372036854775808:=by decide
     rw [e] at Sq;omega
   rw [oA hc.1 (by
    rw [XP];rintro (⟨rfl,h2⟩|⟨h2,h3⟩)<;>omega) (by rw [XP];omega),XP]
   have e1:(2:Nat)^(7*(i+1))=128*2^(7*i):=by rw [show 7*(i+1)=7+7*i by omega,Nat.pow_add]
   have e2:u+(v%128+128-128)*2^(7*i)+v / 128*2^(7*(i+1))=u+v*2^(7*i):=by
    rw [e1,Nat.add_sub_cancel];generalize 2^(7*i)=P;have zf:v=v%128+v / 128*128:=by omega
    conv=>rhs;rw [zf,Nat.add_mul,Nat.mul_assoc]
    rw [Nat.add_assoc]
   have VA:=oH (i:=i) (u:=u) (x:=v%128+128-128) (by omega) hu (by omega);rw [ih (i+1) _ (p+1) (v / 128) (by omega) VA (by omega) (by rw [e2];exact Sq) hc.2,e2];congr 2;omega
theorem SO {z:Int} (h:av z):zd (zz z)=z:=by
 unfold zd zz;obtain ⟨h1,h2⟩:=h;by_cases hz:0<=z
 ·rw [if_pos hz,if_pos (by omega)];omega
 ·rw [if_neg hz,if_neg (by omega)];omega
theorem cY {L post:List UInt8} {p:Nat} {z:Int} (hz:av z) (h:L.drop p=cP z++post):aQ L p= .ok (z,p+(cP z).length):=by
 unfold aQ Vu;have Sq:zz z<18446744073709551616:=yN hz.1 hz.2;rw [LD L post 10 0 0 p (zz z) rfl (by decide) (by omega) (by simpa using Sq) h];simp [SO hz,cP]
theorem gZ (a:Int) (l:List Int):aI (a::l)=cP a++aI l:=rfl
theorem LG {L post:List UInt8} {p:Nat} {e:Ev} (hz:∀z∈e.l,av z) (h:L.drop p=aI e.l++post):cU L p= .ok (e,p+(aI e.l).length):=by
 unfold Ev.l at h hz ⊢;simp only [gZ,List.append_assoc] at h;unfold cU;have h0:=cY (hz _ (by simp)) h;have g0:=dF h;have h1:=cY (hz _ (by simp)) g0;have g1:=dF g0;have h2:=cY (hz _ (by simp)) g1;have g2:=dF g1;have h3:=cY (hz _ (by simp)) g2;have g3:=dF g2;have h4:=cY (hz _ (by simp)) g3;have g4:=dF g3;have h5:=cY (hz _ (by simp)) g4;have g5:=dF g4;have h6:=cY (hz _ (by simp)) g5;rw [aY h0,aY h1,aY h2,aY h3,aY h4,aY h5,aY h6];congr 2;simp only [gZ,List.length_append];simp [aI];omega
theorem KU {L post:List UInt8} {p:Nat} {e:n7} (hz:∀z∈e.l,av z) (h:L.drop p=aI e.l++post):dO L p= .ok (e,p+(aI e.l).length):=by
 unfold n7.l at h hz ⊢;simp only [gZ,List.append_assoc] at h;unfold dO;have h0:=cY (hz _ (by simp)) h;have g0:=dF h;have h1:=cY (hz _ (by simp)) g0;have g1:=dF g0;have h2:=cY (hz _ (by simp)) g1;have g2:=dF g1;have h3:=cY (hz _ (by simp)) g2;rw [aY h0,aY h1,aY h2,aY h3];congr 2;simp only [gZ,List.length_append];simp [aI];omega
theorem LB {L post:List UInt8} {p:Nat} {e:Ou} (hz:∀z∈e.l,av z) (h:L.drop p=aI e.l++post):eC L p= .ok (e,p+(aI e.l).length):=by
 unfold Ou.l at h hz ⊢;simp only [gZ,List.append_assoc] at h;unfold eC;have h0:=cY (hz _ (by simp)) h;have g0:=dF h;have h1:=cY (hz _ (by simp)) g0;rw [aY h0,aY h1];congr 2;simp only [gZ,List.length_append];simp [aI];omega
theorem oN (a b:List Int):aI (a++b)=aI a++aI b:=by simp [aI]
theorem NP (a b c d:List Int):aI (a++(b++(c++d)))=aI a++(aI b++(aI c++aI d)):=by simp only [oN]
theorem AX (z:Int):1<=(cP z).length:=by
 unfold cP;rw [dS];split<;>simp
theorem DP:∀(l:List Int),l.length<=(aI l).length
 |[]=>by simp
 |a::l=>by
  have:=AX a;have:=DP l;rw [gZ,List.length_append,List.length_cons];omega
theorem xC {α:Type} {L:List UInt8} {f:Nat->Except Nat (α×Nat)} {b:α->List Int}:∀(l:List α) (p:Nat) (post:List UInt8),(∀x∈l,∀p post,L.drop p=aI (b x)++post->f p= .ok (x,p+(aI (b x)).length))->L.drop p=aI (l.flatMap b)++post->
 bI f l.length p= .ok (l,p+(aI (l.flatMap b)).length)
 |[],p,post,hf,h=>by simp [bI,aI]
 |x::l,p,post,hf,h=>by
  rw [List.flatMap_cons,oN,List.append_assoc] at h;have h0:=hf x (by simp) p _ h;have h1:=xC l _ post (λy hy=>hf y (by simp [hy])) (dF h);rw [List.length_cons,bI,aY h0,aY h1,List.flatMap_cons,oN,List.length_append,Nat.add_assoc]
theorem lK {α:Type} {L:List UInt8} {f:Nat->Except Nat (α×Nat)} {b:α->List Int} (hb:∀a,1<=(b a).length) (l:List α) (p:Nat) (post:List UInt8) (hl:l.length<=1000000) (hf:∀x∈l,∀p post,L.drop p=aI (b x)++post->f p= .ok (x,p+(aI (b x)).length)) (h:L.drop p=aI ([(l.length:Int)]++l.flatMap b)++post):
 bF f L p= .ok (l,p+(aI ([(l.length:Int)]++l.flatMap b)).length):=by
 rw [oN,List.append_assoc] at h;have e1:aI [(l.length:Int)]=cP (l.length:Int):=by simp [aI]
 rw [e1] at h;have h0:=cY (z:=(l.length:Int)) ⟨by omega,by omega⟩ h;have h1:=dF h;have h2:=xC l _ post hf h1;have hlen:l.length<=(aI (l.flatMap b)).length:=by
  refine Nat.le_trans ?_ (DP _);clear h h0 h1 h2 e1 hl hf;induction l with
  |nil=>simp
  |cons x l ih=>rw [List.flatMap_cons,List.length_append,List.length_cons];have:=hb x;omega
 have hL:l.length+(p+(cP (l.length:Int)).length)<=L.length:=by
  have h3:=congrArg List.length h1;rw [List.length_drop,List.length_append] at h3;rcases Nat.eq_zero_or_pos l.length with h4|h4
  ·have h5:=congrArg List.length h;rw [List.length_drop,List.length_append] at h5;have:=AX (l.length:Int);omega
  ·omega
 rw [iM h0 (by omega),aY h2,oN,e1,List.length_append,<-Nat.add_assoc];rfl
theorem DO (l:List Int):l.flatMap (λa=> [a])=l:=by
 induction l with
 |nil=>rfl
 |cons a l ih=>rw [List.flatMap_cons,ih];rfl
theorem uY {L:List UInt8} (l:List Int) (p:Nat) (post:List UInt8) (hl:l.length<=1000000) (hz:∀z∈l,av z) (h:L.drop p=aI ([(l.length:Int)]++l)++post):bF (aQ L) L p= .ok (l,p+(aI ([(l.length:Int)]++l)).length):=by
 have:=lK (L:=L) (f:=aQ L) (b:=λa=> [a]) (λa=>by simp) l p post hl (λx hx p post h=>by
  have e:aI [x]=cP x:=by simp [aI]
  rw [e] at h ⊢;exact cY (hz x hx) h) (by rwa [DO])
 rwa [DO] at this
theorem KY {L:List UInt8} {p:Nat} {post:List UInt8} {e:Pg} (hz:∀z∈e.l,av z) (hl:e.cells.length<=1000000) (h:L.drop p=aI e.l++post):eJ L p= .ok (e,p+(aI e.l).length):=by
 have e1:e.l=e.num::([(e.cells.length:Int)]++e.cells):=rfl;rw [e1] at h ⊢;rw [gZ,List.append_assoc] at h;have h0:=cY (hz _ (by rw [e1];simp)) h;have h1:=uY e.cells _ post hl (λz Ij =>hz z (by rw [e1];simp [Ij])) (dF h);unfold eJ;rw [aY h0,aY h1,gZ,List.length_append,<-Nat.add_assoc]
theorem GS {L:List UInt8} {p:Nat} {post:List UInt8} {ps:List Pg} (hz:∀e∈ps,(∀z∈e.l,av z)/\e.cells.length<=1000000) (hl:ps.length<=1000000) (h:L.drop p=aI (wk ps)++post):eF L p= .ok (ps,p+(aI (wk ps)).length):=
 lK (b:=Pg.l) (λa=>by simp [Pg.l]) ps p post hl (λx hx p post h=>KY (hz x hx).1 (hz x hx).2 h) h
theorem KS {L:List UInt8} {p:Nat} {post:List UInt8} {s:bj} (hz:∀z∈s.l,av z) (h1:s.cells.length<=1000000) (h2:s.evs.length<=1000000) (h3:s.sent.length<=1000000) (h4:s.outs.length<=1000000) (h:L.drop p=aI s.l++post):eN L p= .ok (s,p+(aI s.l).length):=by
 have e:s.l=([(s.cells.length:Int)]++s.cells)++(([(s.evs.length:Int)]++s.evs.flatMap Ev.l)++(([(s.sent.length:Int)]++s.sent.flatMap n7.l)++([(s.outs.length:Int)]++s.outs.flatMap Ou.l))):=by
  simp only [bj.l,List.append_assoc]
 rw [e] at h hz ⊢;rw [NP,List.append_assoc,List.append_assoc,List.append_assoc] at h;have WZ:∀{α:Type} {b:α->List Int} {l:List α} {x:α} {z:Int},x∈l->z∈b x->z∈l.flatMap b:=λhx hz=>List.mem_flatMap.2 ⟨_,hx,hz⟩
 have g1:=uY s.cells p _ h1 (λz Ij =>hz z (by simp [Ij])) h;have d1:=dF h;have g2:=lK (f:=cU L) (b:=Ev.l) (λa=>by simp [Ev.l]) s.evs _ _ h2 (λx hx p post h=>LG (λz Ij =>hz z (by have:=WZ hx Ij;simp only [List.mem_append];simp only [this,true_or,or_true])) h) d1;have d2:=dF d1;have g3:=lK (f:=dO L) (b:=n7.l) (λa=>by simp [n7.l]) s.sent _ _ h3 (λx hx p post h=>KU (λz Ij =>hz z (by have:=WZ hx Ij;simp only [List.mem_append];simp only [this,true_or,or_true])) h) d2;have d3:=dF d2;have g4:=lK (f:=eC L) (b:=Ou.l) (λa=>by simp [Ou.l]) s.outs _ _ h4 (λx hx p post h=>LB (λz Ij =>hz z (by have:=WZ hx Ij;simp only [List.mem_append];simp only [this,true_or,or_true])) h) d3;unfold eN;rw [aY g1,aY g2,aY g3,aY g4,NP,List.length_append,List.length_append,List.length_append];congr 2;omega
end Go.Proofs.YtiblijmngokcgaaGreatDoor
