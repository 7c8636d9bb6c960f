import Derived.Test.YtiblijmngokcgaaGreatDoorG04Zs
import Derived.Deep.CutBlock
import Derived.Test.YtiblijmngokcgaaGreatDoorCodecCZs
set_option linter.unusedVariables false
set_option linter.unusedSimpArgs false
set_option maxHeartbeats 8000000
set_option maxRecDepth 100000
namespace Go.Proofs.YtiblijmngokcgaaGreatDoor
open Go.Proofs.Tryz
open Go.RowKit
theorem gO (w:World) (cs:Array Value) (T:TypeId):∃W,W=w.alloc (.cells cs T)/\Below w.heap.size w W/\W.heap.size=w.heap.size+1/\W.heap[w.heap.size]? =some (.cells cs T (0,0)):=
 ⟨_,rfl,(Below.refl _ _).alloc (Nat.le_refl _) _,by simp,heap_alloc_new _ _⟩
theorem bX (w w1:World) (cs:Array Value) (T:TypeId) (hb:Below w.heap.size w w1):∃W,W=w1.alloc (.cells cs T)/\Below w.heap.size w W/\Below w1.heap.size w1 W/\RowKit.Hid (W.heap.size=w1.heap.size+1)/\RowKit.Hid (W.heap[w1.heap.size]? =some (.cells cs T (0,0))):=
 ⟨_,rfl,hb.alloc hb.size _,(Below.refl _ _).alloc (Nat.le_refl _) _,aA (by simp),aA (heap_alloc_new _ _)⟩
theorem aO {a b:World} {g:Nat} (h:a.grownBy b (some g)) {j:Nat} (hj:j<a.heap.size) (fb:j≠g):b.heap[j]? =a.heap[j]? :=h.block j hj (by simp;omega)
def pS:List Int:=[9223372036854775807,(-9223372036854775808),2147483648,(-1),63,64,(-65),127,128,1099511627776]
theorem JG:∀z∈pS,av z:=by
 intro z hz;simp [pS] at hz;rcases hz with h|h|h|h|h|h|h|h|h|h<;>subst h<;>exact ⟨by omega,by omega⟩
theorem FD {w:World} {b x:Nat} (h:w.heap[b]? =some (.cells #[.int .i64 9223372036854775807,.int .i64 (-9223372036854775808),.int .i64 2147483648,.int .i64 (-1),.int .i64 63,.int .i64 64,.int .i64 (-65),.int .i64 127,.int .i64 128,.int .i64 1099511627776] 3 (0,0))) (hx:x<10):∃z,av z/\w.cell? ⟨b,x,none⟩=some (.int .i64 z):=by
 have hc:w.cell? ⟨b,x,none⟩=(pS.map (λz=>Value.int .i64 z))[x]? :=by
  rw [cell_of_row _ _ _ _ _ _ h];simp [pS]
 have hl:x<pS.length:=hx;refine ⟨pS[x],JG _ (List.getElem_mem hl),?_⟩;rw [hc,List.getElem?_map,List.getElem?_eq_getElem hl];rfl
theorem FH (B g:Nat) (w:World) (h:kj B w g):
 Calls Tryz.prog 157 #[.pointer (some ⟨g,0,none⟩)] w λe w' =>∃z:Int,e= .returned (.int .i64 z)/\av z/\kj B w' g/\w.grownBy w' (some g):=by
 have ur:=h.lt;obtain ⟨W,hW,bW,sW,rW⟩:=gO w #[.int .i64 9223372036854775807,.int .i64 (-9223372036854775808),.int .i64 2147483648,.int .i64 (-1),.int .i64 63,.int .i64 64,.int .i64 (-65),.int .i64 127,.int .i64 128,.int .i64 1099511627776] 3;have SW:=aA sW;have RW:=aA rW;clear sW rW;go_enter func157,ntmps157;go_wp2_with fail;rw [<-hW];clear hW;refine (aV B g 6 W (h.ext bW) (by omega) (by omega)).mono ?_;rintro e w1 ⟨x,rfl,hx,td,fj⟩;have vf:w.grownBy w1 (some g):=aE (aN bW _) fj;by_cases h5:x=5
 ·subst h5;go_wp2_with fail;refine (aV B g 10 w1 td (by omega) (by omega)).mono ?_;rintro e w2 ⟨y,rfl,hy,ly,da⟩;have iz:=fj.size;have r2:=(aO da (by have:=SW.out;omega) (by omega)).trans ((aO fj (by have:=SW.out;omega) (by omega)).trans RW.out);obtain ⟨z,hz,cz⟩:=FD r2 hy;go_wp2;go_ret;exact ⟨z,rfl,hz,ly,aE vf da⟩
 ·have d5:((x:Int)==5)=false:=by simp;omega
  go_wp2_with fail;refine (aV B g 12 w1 td (by omega) (by omega)).mono ?_;rintro e w2 ⟨y,rfl,hy,ly,da⟩;go_wp2;go_ret;exact ⟨(y:Int)-2,by go_num,⟨by omega,by omega⟩,ly,aE vf da⟩
theorem BB (B g:Nat) (w:World) (h:kj B w g):
 Calls Tryz.prog 99 #[.pointer (some ⟨g,0,none⟩)] w λe w' =>∃a:Ev,e= .returned (N9 a)/\(∀z∈a.l,av z)/\kj B w' g/\w.grownBy w' (some g):=by
 have ur:=h.lt;obtain ⟨W,hW,bW,sW,rW⟩:=gO w #[Value.int .i64 0,Value.int .i64 0,Value.int .i64 0,Value.int .i64 0,Value.int .i64 0,Value.int .i64 0,Value.int .i64 0] 78;have SW:=aA sW;have RW:=aA rW;clear sW rW;go_enter func99,ntmps99;go_wp2_with fail;rw [<-hW];clear hW;refine (aV B g 3 W (h.ext bW) (by omega) (by omega)).mono ?_;rintro e w1 ⟨x,rfl,hx,td,fj⟩;have vf:w.grownBy w1 (some g):=aE (aN bW _) fj;go_wp2_with fail;refine (aV B g 3 w1 td (by omega) (by omega)).mono ?_;rintro e w2 ⟨y,rfl,hy,ly,da⟩;have xf:=aE vf da;go_wp2_with fail;refine (FH B g w2 ly).mono ?_;rintro e w3 ⟨z,rfl,hz,ql,ee⟩;have Oa:=aE xf ee;have s1:=fj.size;have s2:=da.size;have s3:=ee.size;have r3:=(aO ee (by have:=SW.out;omega) (by omega)).trans ((aO da (by have:=SW.out;omega) (by omega)).trans ((aO fj (by have:=SW.out;omega) (by omega)).trans RW.out));obtain ⟨W4,ng,bW4,sW4,rW4⟩:=gO w3 #[Value.int .i64 (1+(x:Int)),Value.int .i64 (y:Int),Value.int .i64 0,Value.int .i64 0,Value.int .i64 0,Value.int .i64 0,Value.int .i64 z] 78;have R3:=aA ((bW4.block _ (by have:=SW.out;omega)).trans r3);have yo:=ql.ext bW4;have Lo:w.grownBy W4 (some g):=aE Oa (aN bW4 _);have c4:W4.cell? ⟨w3.heap.size,0,none⟩=some (.int .i64 (1+(x:Int))):=aM rW4 0 _ rfl
 rw [ng] at c4;have SW4:=aA sW4;have RW4:=aA rW4;clear sW4 rW4 r3;have hyR:av (y:Int):=⟨by omega,by omega⟩
 have Zm:av (1+(x:Int)):=⟨by omega,by omega⟩
 have h0R:av 0:=⟨by omega,by omega⟩
 have X4:=RW4;have Y4:=R3;rw [ng] at X4 Y4;by_cases h0:x=0
 ·subst h0;clear c4;have e1:(1+((0:Nat):Int))=1:=rfl;rw [e1] at ng RW4 Zm;have c4:=bn RW4.out;rw [ng] at c4;go_wp2_with (refine sN ?_)
  rw [<-ng];clear ng c4 X4 Y4;refine (aV B g 3 W4 yo (by omega) (by omega)).mono ?_;rintro e w5 ⟨p,rfl,hp,Iu,o8⟩;go_wp2_with fail;refine (aV B g 2 w5 Iu (by omega) (by omega)).mono ?_;rintro e w6 ⟨q,rfl,hq,hC6,hg6⟩;go_wp2_with fail;refine (aV B g 5 w6 hC6 (by omega) (by omega)).mono ?_;rintro e w7 ⟨r,rfl,hr,ZF,hg7⟩;go_wp2_with fail;refine (aV B g 3 w7 ZF (by omega) (by omega)).mono ?_;rintro e w8 ⟨s,rfl,hs,ZE,hg8⟩;have Uf:=aE o8 (aE hg6 (aE hg7 hg8));have Ud:=aE Lo Uf;have r8:=(aO Uf (by have:=SW4.out;omega) (by have:=SW.out;omega)).trans RW4.out;have t8:=(aO Uf (by have:=SW4.out;have:=SW.out;omega) (by omega)).trans R3.out;have k2:w8.cell? ⟨w3.heap.size,2,none⟩=some (.int .i64 0):=aM r8 2 _ rfl
  have k3:w8.cell? ⟨w3.heap.size,3,none⟩=some (.int .i64 0):=aM r8 3 _ rfl
  have k4:w8.cell? ⟨w3.heap.size,4,none⟩=some (.int .i64 0):=aM r8 4 _ rfl
  have k5:w8.cell? ⟨w3.heap.size,5,none⟩=some (.int .i64 0):=aM r8 5 _ rfl
  have f2:w8.frozen? ⟨w3.heap.size,2,none⟩=false:=frozen_of_row _ _ _ _ _ r8
  have f3:w8.frozen? ⟨w3.heap.size,3,none⟩=false:=frozen_of_row _ _ _ _ _ r8
  have f4:w8.frozen? ⟨w3.heap.size,4,none⟩=false:=frozen_of_row _ _ _ _ _ r8
  have f5:w8.frozen? ⟨w3.heap.size,5,none⟩=false:=frozen_of_row _ _ _ _ _ r8
  obtain ⟨W9,ow⟩:=eX (((((w8.setCell ⟨w3.heap.size,2,none⟩ (.int .i64 (p:Int))).setCell ⟨w3.heap.size,3,none⟩ (.int .i64 (q:Int))).setCell ⟨w3.heap.size,4,none⟩ (.int .i64 (r:Int))).setCell ⟨w3.heap.size,5,none⟩ (.int .i64 (s:Int))));have r9:W9.heap[w3.heap.size]? =some (.cells #[Value.int .i64 1,Value.int .i64 (y:Int),Value.int .i64 (p:Int),Value.int .i64 (q:Int),Value.int .i64 (r:Int),Value.int .i64 (s:Int),Value.int .i64 z] 78 (0,0)):=by
   rw [ow];exact heap_setCell_same _ _ _ _ _ _ (heap_setCell_same _ _ _ _ _ _ (heap_setCell_same _ _ _ _ _ _ (heap_setCell_same _ _ _ _ _ _ r8)))
  have hg9:w8.grownBy W9 (some w3.heap.size):=by rw [ow];exact aL (aL (aL (aL (bC _ _))))
  have sz8:=Uf.size;have t9:=(hg9.block w.heap.size (by have:=SW4.out;have:=SW.out;omega) (by have:=SW.out;simp;omega)).trans t8;have HR9:=aA r9;have HT9:=aA t9;have HG9:=aA hg9;clear r8 r9 t8 t9 hg9;go_upto_region 4 with fail;rw [<-ow];clear ow k2 k3 k4 k5 f2 f3 f4 f5;go_wp2_with (first|(refine wpList_load_row rfl 78 _ rfl _ rfl 78 _ (0,0) _ HR9.out underlying78 rfl (by kernel_rfl) ?_)|(refine sR HT9 ?_))
  refine rC HT9 ?_;have Oc:=aC W9 w.heap.size #[Value.int .i64 1,Value.int .i64 (y:Int),Value.int .i64 (p:Int),Value.int .i64 (q:Int),Value.int .i64 (r:Int),Value.int .i64 (s:Int),Value.int .i64 z];have Jr:=ZE.grown HG9.out (λm hm=>by cases hm;have:=h.1;have:=SW.out;constructor<;>omega);have Yo:=Jr.grown Oc (λm hm=>by cases hm;have:=h.1;constructor<;>omega);have Uc:=cK Ud HG9.out (λm hm=>by cases hm;have:=SW.out;exact .inl (by omega));have Ob:=cK Uc Oc (λm hm=>by cases hm;exact .inl (by omega));refine ⟨⟨1,y,p,q,r,s,z⟩,rfl,?_,Yo,Ob⟩;intro u hu;simp only [Ev.l,List.mem_cons,List.not_mem_nil,or_false] at hu;rcases hu with rfl|rfl|rfl|rfl|rfl|rfl|rfl
  ·exact Zm
  ·exact hyR
  ·exact ⟨by omega,by omega⟩
  ·exact ⟨by omega,by omega⟩
  ·exact ⟨by omega,by omega⟩
  ·exact ⟨by omega,by omega⟩
  ·exact hz
 ·have d0:((1:Int)+(x:Int)==1)=false:=by simp;omega
  go_wp2_with (first|(refine sN ?_)|(refine wpList_load_row rfl 78 _ rfl _ rfl 78 _ (0,0) _ X4.out underlying78 rfl (by kernel_rfl) ?_)|(refine sR Y4 ?_))
  rw [<-ng];clear ng;refine rC R3 ?_;have Oc:=aC W4 w.heap.size #[Value.int .i64 (1+(x:Int)),Value.int .i64 (y:Int),Value.int .i64 0,Value.int .i64 0,Value.int .i64 0,Value.int .i64 0,Value.int .i64 z];have Yo:=yo.grown Oc (λm hm=>by cases hm;have:=h.1;constructor<;>omega);have Ob:=cK Lo Oc (λm hm=>by cases hm;exact .inl (by omega));refine ⟨⟨1+(x:Int),y,0,0,0,0,z⟩,rfl,?_,Yo,Ob⟩;intro u hu;simp only [Ev.l,List.mem_cons,List.not_mem_nil,or_false] at hu;rcases hu with rfl|rfl|rfl|rfl|rfl|rfl|rfl
  ·exact Zm
  ·exact hyR
  ·exact h0R
  ·exact h0R
  ·exact h0R
  ·exact h0R
  ·exact hz
def nm (c:UInt8):ByteArray:=⟨#[c]⟩
def kJ (s:ByteArray):Prop:=s=nm 120∨s=nm 121∨s=nm 122
def mI (s:ByteArray):Prop:=s=nm 97∨s=nm 98
structure rm (B:Nat) (w:World):Prop where
 lt:2<=B
 le:B<=w.heap.size
 s0:w.cell? ⟨0,0,none⟩=some (.string (nm 120))
 s1:w.cell? ⟨0,1,none⟩=some (.string (nm 121))
 s2:w.cell? ⟨0,2,none⟩=some (.string (nm 122))
 a0:w.cell? ⟨1,0,none⟩=some (.string (nm 97))
 a1:w.cell? ⟨1,1,none⟩=some (.string (nm 98))
theorem rm.keep {B:Nat} {w w' :World} (h:rm B w) (hs:w.heap.size<=w'.heap.size) (hk:∀b,b<B->w'.heap[b]? =w.heap[b]?):rm B w' :=by
 have hl:=h.lt;have hle:=h.le;have c:∀(b o:Nat) (v:Value),b<B->w.cell? ⟨b,o,none⟩=some v->w'.cell? ⟨b,o,none⟩=some v:=λb o v hb hv=>
  ae.cell (S:=(·<B)) (λq _ hq=>hk q hq) hb hv
 exact ⟨hl,by omega,c _ _ _ (by omega) h.s0,c _ _ _ (by omega) h.s1,c _ _ _ (by omega) h.s2,c _ _ _ (by omega) h.a0,c _ _ _ (by omega) h.a1⟩
theorem rm.grown {B g:Nat} {w w' :World} (h:rm B w) (hg:w.grownBy w' (some g)) (hB:B<=g):rm B w' :=h.keep hg.size (λb hb=>hg.block b (by have:=h.le;omega) (by simp;omega))
theorem rm.ext {B:Nat} {w w' :World} (h:rm B w) (hb:Below w.heap.size w w'):rm B w' :=h.keep hb.size (λb gv =>hb.block b (by have:=h.le;omega))
theorem rm.drew {B:Nat} {w:World} (h:rm B w):rm B w.drew:=h.keep (Nat.le_refl _) (λ_ _=>rfl)
def bP:Nat->ByteArray
 |0=>nm 120
 |1=>nm 121
 |_=>nm 122
def fB:Nat->ByteArray
 |0=>nm 97
 |_=>nm 98
theorem lV (z:Nat):kJ (bP z):=by
 unfold bP;split
 ·exact .inl rfl
 ·exact .inr (.inl rfl)
 ·exact .inr (.inr rfl)
theorem wN (z:Nat):mI (fB z):=by
 unfold fB;split
 ·exact .inl rfl
 ·exact .inr rfl
theorem rm.scal {B x:Nat} {w:World} (h:rm B w) (hx:x<3):w.cell? ⟨0,x,none⟩=some (.string (bP x)):=by
 match x,hx with
 |0,_=>exact h.s0
 |1,_=>exact h.s1
 |2,_=>exact h.s2
theorem rm.arr {B x:Nat} {w:World} (h:rm B w) (hx:x<2):w.cell? ⟨1,x,none⟩=some (.string (fB x)):=by
 match x,hx with
 |0,_=>exact h.a0
 |1,_=>exact h.a1
theorem rm.row {B b4:Nat} {w:World} (h:rm B w) (hb:B<=b4) (cs:Array Value):rm B (w.setRow b4 cs):=h.keep (aC w b4 cs).size (λb gv =>(aC w b4 cs).block b (by have:=h.le;omega) (by simp;omega))
theorem iC (w:World):(isAgg 9).run Tryz.prog w= .ok false w:=by simp [isAgg,run_underlying underlying9]
def y7:Nat->Ex->Prop
 |0,_=>False
 |n+1,.mk op val name slot size args=>slot=0/\size=0/\(∀e∈args,y7 n e)/\
  ((op=1/\0<=val/\val<=200/\name=(ByteArray.mk #[])/\args=[])∨(op=2/\val=0/\kJ name/\args=[])∨(4<=op/\op<=7/\val=0/\name=(ByteArray.mk #[])/\args=[])∨
   (op=3/\val=0/\mI name/\args.length=1)∨(8<=op/\op<=9/\val=0/\name=(ByteArray.mk #[])/\args.length=1)∨(10<=op/\op<=22/\val=0/\name=(ByteArray.mk #[])/\args.length=2))
def Js (x:zc):Value:= .agg #[.int .i64 x.op,.int .i64 x.val,.string x.name,.int .i64 x.slot,.int .i64 x.size,.slice x.A x.n x.c]
theorem JM {n:Nat} {S:Nat->Prop} {w:World} {X:Nat} {x:zc} {t:Ex} (hr:w.heap[X]? =some (.cells #[.int .i64 x.op,.int .i64 x.val,.string x.name,.int .i64 x.slot,.int .i64 x.size,.slice x.A x.n x.c] 244 (0,0))) (hS:S X) (h:ab n S w x t):
 cw fE (ab n S w) S w (.slice (some ⟨X,0,none⟩) 1 1) [t]:=by
 refine ⟨[x],⟨_,1,rfl,by simp,by simp [maxLen],λ_=>⟨X,0,rfl,hS,λk u hu=> ?_⟩⟩,rfl,λi y s hy hs=> ?_⟩
 ·rw [cell_of_row _ _ _ _ _ _ hr,Nat.zero_add];simpa [fE] using hu
 ·match i with
  |0=>cases hy;cases hs;exact h
  |i+1=>simp at hy
theorem SB {n:Nat} {S:Nat->Prop} {w:World} {X:Nat} {x y:zc} {t u:Ex} (hr:w.heap[X]? =some (.cells #[.int .i64 x.op,.int .i64 x.val,.string x.name,.int .i64 x.slot,.int .i64 x.size,.slice x.A x.n x.c,.int .i64 y.op,.int .i64 y.val,.string y.name,.int .i64 y.slot,.int .i64 y.size,.slice y.A y.n y.c] 244 (0,0))) (hS:S X) (h:ab n S w x t) (h' :ab n S w y u):
 cw fE (ab n S w) S w (.slice (some ⟨X,0,none⟩) 2 2) [t,u]:=by
 refine ⟨[x,y],⟨_,2,rfl,by simp,by simp [maxLen],λ_=>⟨X,0,rfl,hS,λk v hv=> ?_⟩⟩,rfl,λi z s hz hs=> ?_⟩
 ·rw [cell_of_row _ _ _ _ _ _ hr,Nat.zero_add];simpa [fE] using hv
 ·match i with
  |0=>cases hz;cases hs;exact h
  |1=>cases hz;cases hs;exact h'
  |i+2=>simp at hz
theorem gB {V T:Type} {P:(Nat->Prop)->World->V->T->Prop} (hF:C9 P) {B g b4:Nat} {w w2:World} (hb:b4=w.heap.size) (hC:kj B w2 g) (sm:g<w.heap.size) (ja:w.grownBy w2 (some g)) {xv:V} {t:T} (fw:P (w.heap.size<·) w2 xv t) (cs:Array Value):
 P (w.heap.size<=·) (w2.setRow b4 cs) xv t/\kj B (w2.setRow b4 cs) g/\w.grownBy (w2.setRow b4 cs) (some g):=by
 have hg:=aC w2 b4 cs;refine ⟨hF.mono _ _ _ _ _ (λb _ h=>by omega) (hF.keep _ _ _ _ _ (λb gv h=>hg.block b gv (by simp;omega)) fw),hC.grown hg (λm hm=>by cases hm;have:=hC.1;constructor<;>omega),cK ja hg (λm hm=>by cases hm;exact .inl (by omega))⟩
theorem BA (n:Nat) (S0:n<=2) (ih:0<n->∀(B g:Nat) (w:World),kj B w g->rm B w->Calls Tryz.prog 190 #[.pointer (some ⟨g,0,none⟩),.int .i64 (n:Int)] w λe w' =>∃x t,e= .returned (Js x)/\y7 n t/\ab n (w.heap.size<=·) w' x t/\kj B w' g/\w.grownBy w' (some g)) (B g:Nat) (w:World) (h:kj B w g) (hG:rm B w):
 Calls Tryz.prog 190 #[.pointer (some ⟨g,0,none⟩),.int .i64 ((n:Int)+1)] w λe w' =>∃x t,e= .returned (Js x)/\y7 (n+1) t/\ab (n+1) (w.heap.size<=·) w' x t/\kj B w' g/\w.grownBy w' (some g):=by
 have ur:=h.lt;have th:=h.1;obtain ⟨W,hW,bW,sW,rW⟩:=gO w #[.int .i64 0,.int .i64 0,.string (ByteArray.mk #[]),.int .i64 0,.int .i64 0,.slice none 0 0] 244;have SW:=aA sW;have RW:=aA rW;clear sW rW;go_enter func190,ntmps190;go_upto_region 1 with fail;rw [<-hW];clear hW;obtain ⟨b4,ia⟩:=eX w.heap.size;rw [<-ia] at RW ⊢;have Km:b4≠g:=by omega
 have Ib:=aA ia;have aw:b4<W.heap.size:=by have:=SW.out;omega
 clear ia;have Me:=h.ext bW;have Ji:=aV B g 12 W Me (by omega) (by omega);rw [show ((12:Nat):Int)=12 from rfl] at Ji;have V9:=aA Ji;clear Ji;go_wp2_with fail;refine V9.out.mono ?_;rintro e w1 ⟨x,rfl,hx,td,fj⟩;have vf:w.grownBy w1 (some g):=aE (aN bW _) fj;have R1:=aA ((aO fj aw Km).trans RW.out);have al:b4<w1.heap.size:=by have:=fj.size;omega
 have G1:=hG.grown vf th;clear fj Me h bW RW SW aw;by_cases hc:n=0/\8<=x
 ·obtain ⟨S6,Ik⟩:=hc;have e1:decide ((n:Int)+1<=1)=true:=by simp;omega
  have e2:decide ((8:Int)<=(x:Int))=true:=by simp;omega
  obtain ⟨y,rfl⟩:∃y,x=y+8:=⟨x-8,by omega⟩
  have e3:(((y+8:Nat):Int)-8)=(y:Int):=by omega
  by_cases h2:y<2
  ·exact Tzav
  ·exact Tzaw
 ·by_cases Lk :n=0
  ·have Ik:x<8:=by omega
   have e1:decide ((n:Int)+1<=1)=true:=by simp;omega
   have e2:decide ((8:Int)<=(x:Int))=false:=by simp;omega
   clear hc;by_cases h2:x<2
   ·exact Tzav
   by_cases h4:x<4
   ·exact Tzaw
   by_cases h5:x=4
   ·exact Tzb4
   by_cases h6:x=5
   ·exact Tzax
   by_cases h7:x=6
   ·subst h7;exact Tzau
   obtain rfl:x=7:=by omega
   ·skip;exact Tzau
  ·have S6:0<n:=by omega
   have e1:decide ((n:Int)+1<=1)=false:=by simp;omega
   clear hc Lk;by_cases h2:x<2
   ·exact Tzav
   by_cases h4:x<4
   ·exact Tzaw
   by_cases h5:x=4
   ·exact Tzb4
   by_cases h6:x=5
   ·exact Tzax
   by_cases h7:x=6
   ·subst h7;exact Tzau
   by_cases h8:x=7
   ·subst h8;have jv:=aV B g 2 w1.drew td.drew (by omega) (by omega);rw [show ((2:Nat):Int)=2 from rfl] at jv;have wh:=aA jv;clear jv;go_upto_region 15 with fail;go_wp2_with fail;refine aH ((λw' =>rm B w')) (by kernel_rfl) (by kernel_rfl) (G1.drew) ?_;refine Tyah ?_;go_wp2_with fail;refine wh.out.mono ?_;rintro e w2 ⟨z,rfl,hz,ly,da⟩;have Ug:w1.grownBy w2 (some g):=aE (aN (Below.refl _ w1).drew _) da;have R2:=aA ((aO Ug al Km).trans R1.out);have xf:=aE vf Ug;have Ds:=Ug.size;have G2:=G1.grown Ug th;go_wp2_with fail;refine aD (G2) ?_;refine TkA ?_;refine lL (λw' ah =>aB (iC _) (ah.arr hz)) ?_;refine Tyai ?_;go_wp2_with fail;refine (ih S6 B g w2 ly G2).mono ?_;rintro e w3 ⟨x1,t1,rfl,Dx,fw,ql,ee⟩;have Aj:=ee.size;have G3:=G2.grown ee th;have ha:Below w3.heap.size w3 (w3.alloc (.cells #[.int .i64 x1.op,.int .i64 x1.val,.string x1.name,.int .i64 x1.slot,.int .i64 x1.size,.slice x1.A x1.n x1.c] 244)):=(Below.refl _ _).alloc (Nat.le_refl _) _;have R4:=aA ((ha.block b4 (by omega)).trans ((aO ee (by omega) Km).trans R2.out));have r4:=heap_alloc_new w3 (.cells #[.int .i64 x1.op,.int .i64 x1.val,.string x1.name,.int .i64 x1.slot,.int .i64 x1.size,.slice x1.A x1.n x1.c] 244);have yo:=ql.ext ha;have Lo:=aE (aE xf ee) (aN ha _);have ni:=ab.mono (S' :=λb=>w.heap.size<b) (λb _ h=>by have:=Ib.out;omega) _ _ _ (ab.keep (ae.of_below ha) _ _ _ fw);have G4:=G3.ext ha;unfold Js;go_wp2_with fail;refine aD (G3) ?_;refine Tyah ?_;go_wp2_with fail;refine aD G4 ?_;refine Tyah ?_;go_wp2_with fail;refine aD G4 ?_;refine Tyah ?_;have a9:=gB (bU (n+1)) (xv:=⟨3,0,fB z,0,0,some ⟨w3.heap.size,0,none⟩,1,1⟩) (t:= .mk 3 0 (fB z) 0 0 [t1]) Ib.out yo ur Lo (⟨rfl,rfl,rfl,rfl,rfl,JM r4 (by have:=Ib.out;show w.heap.size<w3.heap.size;omega) ni⟩) #[.int .i64 3,.int .i64 0,.string (fB z),.int .i64 0,.int .i64 0,.slice (some ⟨w3.heap.size,0,none⟩) 1 1];go_wp2_with (refine sR R4 ?_)
    refine aD (G4.row (by have:=Ib.out;have:=hG.le;omega) _) ?_;refine Tyan ?_;go_wp2_with fail;refine rC R4 ?_;exact ⟨⟨3,0,fB z,0,0,some ⟨w3.heap.size,0,none⟩,1,1⟩,.mk 3 0 (fB z) 0 0 [t1],rfl,⟨rfl,rfl,(by intro e he;simp at he;subst he;exact Dx),.inr (.inr (.inr (.inl ⟨rfl,rfl,wN z,rfl⟩)))⟩,a9.1,a9.2.1,a9.2.2⟩
   by_cases h9:x=8
   ·subst h9;have jv:=aV B g 2 w1 td (by omega) (by omega);rw [show ((2:Nat):Int)=2 from rfl] at jv;have wh:=aA jv;clear jv;go_upto_region 17 with fail;go_wp2_with fail;refine wh.out.mono ?_;rintro e w2 ⟨z,rfl,hz,ly,da⟩;have R2:=aA ((aO da al Km).trans R1.out);have xf:=aE vf da;have Ds:=da.size;go_wp2_with fail;refine (ih S6 B g w2 ly (G1.grown da th)).mono ?_;rintro e w3 ⟨x1,t1,rfl,Dx,fw,ql,ee⟩;have Aj:=ee.size;have ha:Below w3.heap.size w3 (w3.alloc (.cells #[.int .i64 x1.op,.int .i64 x1.val,.string x1.name,.int .i64 x1.slot,.int .i64 x1.size,.slice x1.A x1.n x1.c] 244)):=(Below.refl _ _).alloc (Nat.le_refl _) _;have R4:=aA ((ha.block b4 (by omega)).trans ((aO ee (by omega) Km).trans R2.out));have r4:=heap_alloc_new w3 (.cells #[.int .i64 x1.op,.int .i64 x1.val,.string x1.name,.int .i64 x1.slot,.int .i64 x1.size,.slice x1.A x1.n x1.c] 244);have yo:=ql.ext ha;have Lo:=aE (aE xf ee) (aN ha _);have ni:=ab.mono (S' :=λb=>w.heap.size<b) (λb _ h=>by have:=Ib.out;omega) _ _ _ (ab.keep (ae.of_below ha) _ _ _ fw);unfold Js;have a9:=gB (bU (n+1)) (xv:=⟨8+(z:Int),0,(ByteArray.mk #[]),0,0,some ⟨w3.heap.size,0,none⟩,1,1⟩) (t:= .mk (8+(z:Int)) 0 (ByteArray.mk #[]) 0 0 [t1]) Ib.out yo ur Lo (⟨rfl,rfl,rfl,rfl,rfl,JM r4 (by have:=Ib.out;show w.heap.size<w3.heap.size;omega) ni⟩) #[.int .i64 (8+(z:Int)),.int .i64 0,.string (ByteArray.mk #[]),.int .i64 0,.int .i64 0,.slice (some ⟨w3.heap.size,0,none⟩) 1 1];go_wp2_with (refine sR R4 ?_)
    refine rC R4 ?_;exact ⟨⟨8+(z:Int),0,(ByteArray.mk #[]),0,0,some ⟨w3.heap.size,0,none⟩,1,1⟩,.mk (8+(z:Int)) 0 (ByteArray.mk #[]) 0 0 [t1],rfl,⟨rfl,rfl,(by intro e he;simp at he;subst he;exact Dx),.inr (.inr (.inr (.inr (.inl ⟨by omega,by omega,rfl,rfl,rfl⟩))))⟩,a9.1,a9.2.1,a9.2.2⟩
   ·skip;go_upto_region 18 with fail;go_wp2_with fail;refine (ih S6 B g w1 td G1).mono ?_;rintro e w2 ⟨x1,t1,rfl,hdr1,hok1,ly,da⟩;have Ds:=da.size;obtain ⟨W3,ig,b3,s3,r3⟩:=gO w2 #[.int .i64 x1.op,.int .i64 x1.val,.string x1.name,.int .i64 x1.slot,.int .i64 x1.size,.slice x1.A x1.n x1.c] 244;have S3:=aA s3;have RA:=aA r3;obtain ⟨b6,il⟩:=eX w2.heap.size;have hb6W:b6<W3.heap.size:=by omega
    have hb6g:b6≠g:=by have:=ly.lt;omega
    have Z6:=aA il;have ql:=ly.ext b3;have Oa:=aE (aE vf da) (aN b3 _);have R3:=aA ((b3.block b4 (by omega)).trans ((aO da al Km).trans R1.out));have G3:=(G1.grown da th).ext b3;have Aj:=b3.size;clear s3 r3;unfold Js;go_upto_region 19 with (refine sN ?_)
    rw [<-ig];clear ig;rw [<-il] at RA ⊢;clear il;simp only [Act.put];have XN:=aV B g 13 W3.drew ql.drew (by omega) (by omega);rw [show ((13:Nat):Int)=13 from rfl] at XN;have C6:=aA XN;clear XN;go_wp2_with fail;refine aH ((λw' =>w'.heap[b6]? =some (.cells #[.int .i64 x1.op,.int .i64 x1.val,.string x1.name,.int .i64 x1.slot,.int .i64 x1.size,.slice x1.A x1.n x1.c] 244 (0,0)))) (by kernel_rfl) (by kernel_rfl) (RA.out) ?_;refine Tyah ?_;go_wp2_with fail;refine C6.out.mono ?_;rintro e w4 ⟨z,rfl,hz,yo,nw⟩;have Lr:W3.grownBy w4 (some g):=aE (aN (Below.refl _ W3).drew _) nw;have RA4:=aA ((aO Lr hb6W hb6g).trans RA.out);have R4:=aA ((aO Lr (by omega) Km).trans R3.out);have Io:=Lr.size;go_wp2_with fail;refine aD (RA4.out) ?_;refine TkA ?_;refine lL (λw' ah =>lB (t:=244) ah) ?_;refine Tyai ?_;go_wp2_with fail;refine (ih S6 B g w4 yo (G3.grown Lr th)).mono ?_;rintro e w5 ⟨x2,t2,rfl,hdr2,hok2,Iu,o8⟩;have RA5:=aA ((aO o8 (by omega) hb6g).trans RA4.out);have jw:=o8.size;have ha:Below w5.heap.size w5 (w5.alloc (.cells #[.int .i64 x1.op,.int .i64 x1.val,.string x1.name,.int .i64 x1.slot,.int .i64 x1.size,.slice x1.A x1.n x1.c,.int .i64 x2.op,.int .i64 x2.val,.string x2.name,.int .i64 x2.slot,.int .i64 x2.size,.slice x2.A x2.n x2.c] 244)):=(Below.refl _ _).alloc (Nat.le_refl _) _;have R6:=aA ((ha.block b4 (by omega)).trans ((aO o8 (by omega) Km).trans R4.out));have RA6:=bT ha RA5;have r6:=heap_alloc_new w5 (.cells #[.int .i64 x1.op,.int .i64 x1.val,.string x1.name,.int .i64 x1.slot,.int .i64 x1.size,.slice x1.A x1.n x1.c,.int .i64 x2.op,.int .i64 x2.val,.string x2.name,.int .i64 x2.slot,.int .i64 x2.size,.slice x2.A x2.n x2.c] 244);have hC6:=Iu.ext ha;have Ue:=aE (aE (aE Oa Lr) o8) (aN ha _);have k2:ae (w1.heap.size<=·) w2 (w5.alloc (.cells #[.int .i64 x1.op,.int .i64 x1.val,.string x1.name,.int .i64 x1.slot,.int .i64 x1.size,.slice x1.A x1.n x1.c,.int .i64 x2.op,.int .i64 x2.val,.string x2.name,.int .i64 x2.slot,.int .i64 x2.size,.slice x2.A x2.n x2.c] 244)):=λb hb h=>by
     have sm:=td.lt;exact (ha.block b (by omega)).trans ((aO o8 (by omega) (by omega)).trans ((aO Lr (by omega) (by omega)).trans (b3.block b hb)))
    have okA:=ab.mono (S' :=λb=>w.heap.size<b) (λb _ h=>by have:=Ib.out;omega) _ _ _ (ab.keep k2 _ _ _ hok1);have okB:=ab.mono (S' :=λb=>w.heap.size<b) (λb _ h=>by have:=Ib.out;omega) _ _ _ (ab.keep (ae.of_below ha) _ _ _ hok2);unfold Js;go_wp2_with fail;refine aD (RA5.out) ?_;refine Tyah ?_;go_wp2_with fail;refine aD RA6.out ?_;refine Tyah ?_;go_wp2_with fail;refine aD RA6.out ?_;refine Tyah ?_;have a9:=gB (bU (n+1)) (xv:=⟨10+(z:Int),0,(ByteArray.mk #[]),0,0,some ⟨w5.heap.size,0,none⟩,2,2⟩) (t:= .mk (10+(z:Int)) 0 (ByteArray.mk #[]) 0 0 [t1,t2]) Ib.out hC6 ur Ue (⟨rfl,rfl,rfl,rfl,rfl,SB r6 (by have:=Ib.out;show w.heap.size<w5.heap.size;omega) okA okB⟩) #[.int .i64 (10+(z:Int)),.int .i64 0,.string (ByteArray.mk #[]),.int .i64 0,.int .i64 0,.slice (some ⟨w5.heap.size,0,none⟩) 2 2];go_wp2_with (refine sR R6 ?_)
    refine aD ((setRow_other _ _ _ _ (by have:=Ib.out;have:=Z6.out;omega)).trans RA6.out) ?_;refine Tyan ?_;go_wp2_with fail;refine rC R6 ?_;exact ⟨⟨10+(z:Int),0,(ByteArray.mk #[]),0,0,some ⟨w5.heap.size,0,none⟩,2,2⟩,.mk (10+(z:Int)) 0 (ByteArray.mk #[]) 0 0 [t1,t2],rfl,⟨rfl,rfl,(by intro e he;simp at he;rcases he with he|he<;>subst he<;>assumption),.inr (.inr (.inr (.inr (.inr ⟨by omega,by omega,rfl,rfl,rfl⟩))))⟩,a9.1,a9.2.1,a9.2.2⟩
theorem dB:∀(n:Nat),n<=3->∀(B g:Nat) (w:World),0<n->kj B w g->rm B w->Calls Tryz.prog 190 #[.pointer (some ⟨g,0,none⟩),.int .i64 (n:Int)] w λe w' =>∃x t,e= .returned (Js x)/\y7 n t/\ab n (w.heap.size<=·) w' x t/\kj B w' g/\w.grownBy w' (some g)
 |0,_,_,_,_,h0,_,_=>by omega
 |n+1,hn,B,g,w,_,h,hG=>by
  have:=BA n (by omega) (λh0 B g w h hG=>dB n (by omega) B g w h0 h hG) B g w h hG;rw [show ((n+1:Nat):Int)=(n:Int)+1 by omega];exact this
end Go.Proofs.YtiblijmngokcgaaGreatDoor
