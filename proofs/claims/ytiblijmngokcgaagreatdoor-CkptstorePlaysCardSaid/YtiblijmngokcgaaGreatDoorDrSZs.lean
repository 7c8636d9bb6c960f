import Derived.Test.YtiblijmngokcgaaGreatDoorG08Zs
set_option linter.unusedVariables false
set_option linter.unusedSimpArgs false
set_option maxHeartbeats 16000000
set_option maxRecDepth 100000
namespace Go.Proofs.YtiblijmngokcgaaGreatDoor
open Go.Proofs.Tryz
open Go.RowKit
theorem y7.up:∀(n:Nat) (t:Ex),y7 n t->y7 (n+1) t
 |0,_,h=>h.elim
 |n+1,.mk ..,⟨h1,h2,h3,h4⟩=>⟨h1,h2,λe he=>y7.up n e (h3 e he),h4⟩
theorem y7.to3 {n:Nat} {t:Ex} (hn:n<=3) (h:y7 n t):y7 3 t:=by
 match n,hn with
 |0,_=>exact h.elim
 |1,_=>exact y7.up _ _ (y7.up _ _ h)
 |2,_=>exact y7.up _ _ h
 |3,_=>exact h
theorem ab.to3 {n:Nat} {S:Nat->Prop} {w:World} {x:zc} {t:Ex} (hn:n<=3) (h:ab n S w x t):ab 3 S w x t:=by
 match n,hn with
 |0,_=>exact h.elim
 |1,_=>exact ab.up _ _ _ (ab.up _ _ _ h)
 |2,_=>exact ab.up _ _ _ h
 |3,_=>exact h
def uj:Nat->Sm->Prop
 |0,_=>False
 |n+1,.mk kind name slot size place value body j0=>slot=0/\size=0/\y7 3 value/\(∀s∈body,uj n s)/\(∀s∈j0,uj n s)/\
  ((kind=1/\kJ name/\place=E8/\body=[]/\j0=[])∨(kind=2/\mI name/\y7 3 place/\body=[]/\j0=[])∨(kind=5/\name=ByteArray.mk #[]/\y7 3 place/\body=[]/\j0=[])∨
   (kind=6/\name=ByteArray.mk #[]/\place=E8/\body=[]/\j0=[])∨(kind=3/\name=ByteArray.mk #[]/\place=E8/\body.length<=10/\j0.length<=10)∨(kind=4/\name=ByteArray.mk #[]/\place=E8/\j0=[]/\body.length<=10))
theorem sB {V T:Type} {P:(Nat->Prop)->World->V->T->Prop} (hF:C9 P) {g b0:Nat} {w w' :World} {x:V} {t:T} (hg:w.grownBy w' (some g)) (hl:g<b0) (h:P (b0<=·) w x t):P (b0<=·) w' x t:=
 hF.keep _ _ _ _ _ (λb hb h=>hg.block b hb (by simp;omega)) h
theorem mY {V T:Type} {enc:V->List Value} {P:(Nat->Prop)->World->V->T->Prop} (hF:C9 P):C9 (λS w (v:Value) (ts:List T)=>cw enc (P S w) S w v ts):=
 ⟨λS w w' v ts hk h=>h.keep hk (λx t=>hF.keep _ _ _ x t hk),λS S' w v ts hs h=>h.mono hs (λx t=>hF.mono _ _ _ x t hs)⟩
theorem gR {S:Nat->Prop} {w:World} {X:Nat} {x:Kw} (hr:w.heap[X]? =some (.cells (bJ x).toArray 246 (0,0))) (hS:S X):a7 bJ S w (.slice (some ⟨X,0,none⟩) 1 1) [x]:=
 ⟨_,1,rfl,by simp,by simp [maxLen],λ_=>⟨X,0,rfl,hS,λk u hu=>by
  rw [cell_of_row _ _ _ _ _ _ hr,Nat.zero_add];simpa using hu⟩⟩
theorem yM (n:Nat) (S0:n<=2) (ih:0<n->∀(ay:Nat) (B g:Nat) (w:World),ay<=10->kj B w g->rm B w->Calls Tryz.prog 156 #[.pointer (some ⟨g,0,none⟩),.int .i64 (ay:Int),.int .i64 (n:Int)] w λe w' =>∃A c m ts,e= .returned (.slice A m c)/\m<=ay/\(∀s∈ts,uj n s)/\cy bJ 18 (λS w=>ak n S w) w' w.heap.size 246 (.slice A m c) ts/\kj B w' g/\w.grownBy w' (some g)) (ay:Nat) (hm:ay<=10) (B g:Nat) (w:World) (h:kj B w g) (hG:rm B w):
 Calls Tryz.prog 156 #[.pointer (some ⟨g,0,none⟩),.int .i64 (ay:Int),.int .i64 ((n:Int)+1)] w λe w' =>∃A c m ts,e= .returned (.slice A m c)/\m<=ay/\(∀s∈ts,uj (n+1) s)/\cy bJ 18 (λS w=>ak (n+1) S w) w' w.heap.size 246 (.slice A m c) ts/\kj B w' g/\w.grownBy w' (some g):=by
 have ur:=h.lt;have th:=h.1;go_enter func156,ntmps156;go_wp2_with fail;refine (aV B g (ay+1) w h (by omega) (by omega)).mono ?_;rintro e w1 ⟨N,rfl,hN,td,fj⟩;clear h;go_wp2;go_loopw [7,8] (λv i wr=>∃(j:Nat) (A:Option Addr) (c m:Nat) (ts:List Sm),i= .int .i64 (j:Int)/\v= .slice A m c/\m+j=N/\(∀s∈ts,uj (n+1) s)/\cy bJ 18 (λS w=>ak (n+1) S w) wr w.heap.size 246 (.slice A m c) ts/\kj B wr g/\w.grownBy wr (some g)) (λ_ i _=>(intOf i).toNat);case atStart=>exact ⟨N,none,0,0,[],rfl,rfl,by omega,by simp,cy.nil_ _ _ _ _ _ _,td,fj⟩
 case round=>
  obtain ⟨j,A,c,m,ts,rfl,rfl,hmj,Dx,hO,hC,ja⟩:=hrel;have Vl:=aA Dx;have hlen:=hO.len;clear Dx;by_cases af:0<j
  ·have kn:=aV B g 10 wr hC (by omega) (by omega);rw [show ((10:Nat):Int)=10 from rfl] at kn;have Hcx:=aA kn;clear kn;have dj:decide ((0:Int)<(j:Int))=true:=by simp;omega
   go_wp2_with fail;refine Hcx.out.mono ?_;rintro e w2 ⟨x,rfl,hx,ly,da⟩;have ji:=aE ja da;have G2:=hG.grown ji th;have iz:=ja.size;have Ds:=da.size;have Ma:∀o,(Value.slice A m c).ownBlock=some o->w.heap.size<=o/\o<wr.heap.size:=λo e=>by
    obtain ⟨xs,ho,_,_⟩:=hO;exact World.ownsRow.lt ho o e
   have dw:cy bJ 18 (λS w=>ak (n+1) S w) w2 w.heap.size 246 (.slice A m c) ts:=hO.keepR (bH (n+1)) (λb hb fe=>aO da hb (by omega));obtain ⟨dv,dd,Ak⟩:=hlen;have zp:=aA dv;clear da hO hC Hcx dv;by_cases hc:n=0/\7<=x
   ·obtain ⟨Lk,Zn⟩:=hc;have e1:decide ((n:Int)+1<=1)=true:=by simp;omega
    have e2:decide ((7:Int)<=(x:Int))=true:=by simp;omega
    obtain ⟨y,rfl⟩:∃y,x=y+7:=⟨x-7,by omega⟩
    have e3:(((y+7:Nat):Int)-7)=(y:Int):=by omega
    have hy:y<3:=by omega
    clear Lk
    ·exact Tzaa
   ·by_cases Lk :n=0
    ·have Zn:x<7:=by omega
     have e1:decide ((n:Int)+1<=1)=true:=by simp;omega
     have e2:decide ((7:Int)<=(x:Int))=false:=by simp;omega
     clear hc Lk;by_cases h3:x<3
     ·exact Tzaa
     by_cases h4:x=3
     ·exact Tzac
     by_cases h6:x<6
     ·exact Tzad
     ·obtain rfl:x=6:=by omega
      exact Tzaf
    ·have S6:0<n:=by omega
     have e1:decide ((n:Int)+1<=1)=false:=by simp;omega
     clear hc Lk;by_cases h3:x<3
     ·exact Tzaa
     by_cases h4:x=3
     ·exact Tzac
     by_cases h6:x<6
     ·exact Tzad
     by_cases h7:x=6
     ·subst h7;exact Tzaf
     by_cases h9:x<9
     ·skip;have wg:=aA (dB 2 (by omega) B g w2 (by omega) (ly) (G2));go_upto_region 18 with fail;go_wp2_with fail;refine wg.out.mono ?_;rintro e w3 ⟨x3,t3,rfl,Jh,tf,ql,Lg⟩;have ee:w2.grownBy w3 (some g):=Lg;have Aj:=ee.size;have G3:=G2.grown ee th;unfold Js;have C6:=aA (ih S6 2 B g w3 (by omega) (ql) (G3));go_wp2_with fail;refine C6.out.mono ?_;rintro e w4 ⟨A4,c4,m4,WS,rfl,hm4,Em,ni,yo,Nw⟩;have nw:w3.grownBy w4 (some g):=Nw;have Io:=nw.size;have G4:=G3.grown nw th;have YK:=aA (ih S6 1 B g w4 (by omega) (yo) (G4));go_wp2_with fail;refine YK.out.mono ?_;rintro e w5 ⟨A5,c5,m5,ts5,rfl,hm5,XL,U4,Iu,hq5⟩;have o8:w4.grownBy w5 (some g):=hq5;have jw:=o8.size;have G5:=G4.grown o8 th;have ha:Below w5.heap.size w5 (w5.alloc (.cells #[.int .i64 3,.string (ByteArray.mk #[]),.int .i64 0,.int .i64 0,.int .i64 0,.int .i64 0,.string (ByteArray.mk #[]),.int .i64 0,.int .i64 0,.slice none 0 0,.int .i64 x3.op,.int .i64 x3.val,.string x3.name,.int .i64 x3.slot,.int .i64 x3.size,.slice x3.A x3.n x3.c,.slice A4 m4 c4,.slice A5 m5 c5] 246)):=(Below.refl _ _).alloc (Nat.le_refl _) _;have Bh:w.grownBy w5 (some g):=aE (aE (aE (ji) ee) nw) o8;have Pf:cy bJ 18 (λS w=>ak (n+1) S w) w5 w.heap.size 246 (.slice A m c) ts:=dw.keepR (bH (n+1)) (λb hb fe=>(aO o8 (by omega) (by omega)).trans ((aO nw (by omega) (by omega)).trans (aO ee (by omega) (by omega))));obtain ⟨xs,ho,oo,ze⟩:=Pf.ext (bH (n+1)) ha;have ic:=aA ho.len.1;have Pk:=Iu.ext ha;have Bi:w.grownBy (w5.alloc (.cells #[.int .i64 3,.string (ByteArray.mk #[]),.int .i64 0,.int .i64 0,.int .i64 0,.int .i64 0,.string (ByteArray.mk #[]),.int .i64 0,.int .i64 0,.slice none 0 0,.int .i64 x3.op,.int .i64 x3.val,.string x3.name,.int .i64 x3.slot,.int .i64 x3.size,.slice x3.A x3.n x3.c,.slice A4 m4 c4,.slice A5 m5 c5] 246)) (some g):=aE Bh (aN ha _);have Cz:=ha.size;have re:∀b,w2.heap.size<=b->w.heap.size<=b/\(Value.slice A m c).ownBlock≠some b:=λb hb=>⟨by omega,λe=>by have:=Ma b e;omega⟩
      have fw:ak (n+1) (λb=>w.heap.size<=b/\(Value.slice A m c).ownBlock≠some b) (w5.alloc (.cells #[.int .i64 3,.string (ByteArray.mk #[]),.int .i64 0,.int .i64 0,.int .i64 0,.int .i64 0,.string (ByteArray.mk #[]),.int .i64 0,.int .i64 0,.slice none 0 0,.int .i64 x3.op,.int .i64 x3.val,.string x3.name,.int .i64 x3.slot,.int .i64 x3.size,.slice x3.A x3.n x3.c,.slice A4 m4 c4,.slice A5 m5 c5] 246)) ⟨3,(ByteArray.mk #[]),0,0,gM,x3,A4,m4,c4,A5,m5,c5⟩ (.mk 3 (ByteArray.mk #[]) 0 0 E8 t3 WS ts5):=⟨rfl,rfl,rfl,rfl,nV 2 _ _,ab.mono (w:=(w5.alloc (.cells #[.int .i64 3,.string (ByteArray.mk #[]),.int .i64 0,.int .i64 0,.int .i64 0,.int .i64 0,.string (ByteArray.mk #[]),.int .i64 0,.int .i64 0,.slice none 0 0,.int .i64 x3.op,.int .i64 x3.val,.string x3.name,.int .i64 x3.slot,.int .i64 x3.size,.slice x3.A x3.n x3.c,.slice A4 m4 c4,.slice A5 m5 c5] 246))) (λb _ h=>re b (Nat.le_trans (by omega) h)) _ _ _ (ab.keep (ae.of_below ha) _ _ _ (ab.to3 (by omega) (sB (bU _) o8 (by omega) (sB (bU _) nw (by omega) (tf))))),(mY (bH n)).mono _ _ (w5.alloc (.cells #[.int .i64 3,.string (ByteArray.mk #[]),.int .i64 0,.int .i64 0,.int .i64 0,.int .i64 0,.string (ByteArray.mk #[]),.int .i64 0,.int .i64 0,.slice none 0 0,.int .i64 x3.op,.int .i64 x3.val,.string x3.name,.int .i64 x3.slot,.int .i64 x3.size,.slice x3.A x3.n x3.c,.slice A4 m4 c4,.slice A5 m5 c5] 246)) _ _ (λb _ h=>re b (Nat.le_trans (by omega) h)) ((mY (bH n)).keep _ _ _ _ _ (ae.of_below ha) (sB (mY (bH n)) o8 (by omega) (ni.ls (bH n)))),(mY (bH n)).mono _ _ (w5.alloc (.cells #[.int .i64 3,.string (ByteArray.mk #[]),.int .i64 0,.int .i64 0,.int .i64 0,.int .i64 0,.string (ByteArray.mk #[]),.int .i64 0,.int .i64 0,.slice none 0 0,.int .i64 x3.op,.int .i64 x3.val,.string x3.name,.int .i64 x3.slot,.int .i64 x3.size,.slice x3.A x3.n x3.c,.slice A4 m4 c4,.slice A5 m5 c5] 246)) _ _ (λb _ h=>re b (Nat.le_trans (by omega) h)) ((mY (bH n)).keep _ _ _ _ _ (ae.of_below ha) (U4.ls (bH n)))⟩
      have ax:a7 bJ (λ_=>True) (w5.alloc (.cells #[.int .i64 3,.string (ByteArray.mk #[]),.int .i64 0,.int .i64 0,.int .i64 0,.int .i64 0,.string (ByteArray.mk #[]),.int .i64 0,.int .i64 0,.slice none 0 0,.int .i64 x3.op,.int .i64 x3.val,.string x3.name,.int .i64 x3.slot,.int .i64 x3.size,.slice x3.A x3.n x3.c,.slice A4 m4 c4,.slice A5 m5 c5] 246)) (.slice (some ⟨w5.heap.size,0,none⟩) 1 1) [⟨3,(ByteArray.mk #[]),0,0,gM,x3,A4,m4,c4,A5,m5,c5⟩]:=gR (heap_alloc_new _ _) trivial;have fu:∀o,(Value.slice A m c).ownBlock=some o->w.heap.size<=o:=λo e=>(World.ownsRow.lt ho o e).1
      have hd:uj (n+1) (.mk 3 (ByteArray.mk #[]) 0 0 E8 t3 WS ts5):=⟨rfl,rfl,y7.to3 (by omega) Jh,Em,XL,.inr (.inr (.inr (.inr (.inl ⟨rfl,rfl,rfl,by have:=ni.len.1;omega,by have:=U4.len.1;omega⟩))))⟩
      go_wp2_with (refine aJ (o:=⟨some 102,_,_,_,_,_⟩) dE eU (.agg #[.int .i64 0,.string (ByteArray.mk #[]),.int .i64 0,.int .i64 0,.int .i64 0,.int .i64 0,.string (ByteArray.mk #[]),.int .i64 0,.int .i64 0,.slice none 0 0,.int .i64 0,.int .i64 0,.string (ByteArray.mk #[]),.int .i64 0,.int .i64 0,.slice none 0 0,.slice none 0 0,.slice none 0 0]) 232 _ _ 27 246 w.heap.size xs [⟨3,(ByteArray.mk #[]),0,0,gM,x3,A4,m4,c4,A5,m5,c5⟩] (some ⟨w5.heap.size,0,none⟩) 1 1 (.slice A m c) (m+1) rfl rfl underlying27 gX rfl (by omega) rfl rfl ho ax (by rw [ic.out]) (by rw [ic.out];omega) (by rw [ic.out];omega) (by omega) ?_;intro Az cz wz rq mj Bo Ok Oj)
      have Lq:w.grownBy wz (some g):=cK Bi mj (λq hq=> .inl (fu q hq));have Pj:=Pk.grown mj (λq hq=>by have:=fu q hq;constructor<;>omega);go_roundw
      case rel=>exact ⟨j-1,Az,cz,m+1,ts++ [.mk 3 (ByteArray.mk #[]) 0 0 E8 t3 WS ts5],by congr 1;omega,rfl,by omega,λs hs=>by
       rcases List.mem_append.1 hs with hs|hs
       ·exact Vl.out s hs
       ·rw [List.mem_singleton] at hs;subst hs;exact hd,cy.push (bH (n+1)) ⟨oo,ze⟩ _ _ fw rq mj Bo,Pj,Lq⟩
      case measure=>simp [intOf];omega
     ·obtain rfl:x=9:=by omega
      have wg:=aA (dB 2 (by omega) B g w2 (by omega) (ly) (G2));go_upto_region 8 with fail;go_wp2_with fail;refine wg.out.mono ?_;rintro e w3 ⟨x3,t3,rfl,Jh,tf,ql,Lg⟩;have ee:w2.grownBy w3 (some g):=Lg;have Aj:=ee.size;have G3:=G2.grown ee th;unfold Js;have C6:=aA (ih S6 2 B g w3 (by omega) (ql) (G3));go_wp2_with fail;refine C6.out.mono ?_;rintro e w4 ⟨A4,c4,m4,WS,rfl,hm4,Em,ni,yo,Nw⟩;have nw:w3.grownBy w4 (some g):=Nw;have Io:=nw.size;have G4:=G3.grown nw th;have ha:Below w4.heap.size w4 (w4.alloc (.cells #[.int .i64 4,.string (ByteArray.mk #[]),.int .i64 0,.int .i64 0,.int .i64 0,.int .i64 0,.string (ByteArray.mk #[]),.int .i64 0,.int .i64 0,.slice none 0 0,.int .i64 x3.op,.int .i64 x3.val,.string x3.name,.int .i64 x3.slot,.int .i64 x3.size,.slice x3.A x3.n x3.c,.slice A4 m4 c4,.slice none 0 0] 246)):=(Below.refl _ _).alloc (Nat.le_refl _) _;have Bh:w.grownBy w4 (some g):=aE (aE (ji) ee) nw;have Pf:cy bJ 18 (λS w=>ak (n+1) S w) w4 w.heap.size 246 (.slice A m c) ts:=dw.keepR (bH (n+1)) (λb hb fe=>(aO nw (by omega) (by omega)).trans (aO ee (by omega) (by omega)));obtain ⟨xs,ho,oo,ze⟩:=Pf.ext (bH (n+1)) ha;have ic:=aA ho.len.1;have Pk:=yo.ext ha;have Bi:w.grownBy (w4.alloc (.cells #[.int .i64 4,.string (ByteArray.mk #[]),.int .i64 0,.int .i64 0,.int .i64 0,.int .i64 0,.string (ByteArray.mk #[]),.int .i64 0,.int .i64 0,.slice none 0 0,.int .i64 x3.op,.int .i64 x3.val,.string x3.name,.int .i64 x3.slot,.int .i64 x3.size,.slice x3.A x3.n x3.c,.slice A4 m4 c4,.slice none 0 0] 246)) (some g):=aE Bh (aN ha _);have Cz:=ha.size;have re:∀b,w2.heap.size<=b->w.heap.size<=b/\(Value.slice A m c).ownBlock≠some b:=λb hb=>⟨by omega,λe=>by have:=Ma b e;omega⟩
      have fw:ak (n+1) (λb=>w.heap.size<=b/\(Value.slice A m c).ownBlock≠some b) (w4.alloc (.cells #[.int .i64 4,.string (ByteArray.mk #[]),.int .i64 0,.int .i64 0,.int .i64 0,.int .i64 0,.string (ByteArray.mk #[]),.int .i64 0,.int .i64 0,.slice none 0 0,.int .i64 x3.op,.int .i64 x3.val,.string x3.name,.int .i64 x3.slot,.int .i64 x3.size,.slice x3.A x3.n x3.c,.slice A4 m4 c4,.slice none 0 0] 246)) ⟨4,(ByteArray.mk #[]),0,0,gM,x3,A4,m4,c4,none,0,0⟩ (.mk 4 (ByteArray.mk #[]) 0 0 E8 t3 WS []):=⟨rfl,rfl,rfl,rfl,nV 2 _ _,ab.mono (w:=(w4.alloc (.cells #[.int .i64 4,.string (ByteArray.mk #[]),.int .i64 0,.int .i64 0,.int .i64 0,.int .i64 0,.string (ByteArray.mk #[]),.int .i64 0,.int .i64 0,.slice none 0 0,.int .i64 x3.op,.int .i64 x3.val,.string x3.name,.int .i64 x3.slot,.int .i64 x3.size,.slice x3.A x3.n x3.c,.slice A4 m4 c4,.slice none 0 0] 246))) (λb _ h=>re b (Nat.le_trans (by omega) h)) _ _ _ (ab.keep (ae.of_below ha) _ _ _ (ab.to3 (by omega) (sB (bU _) nw (by omega) (tf)))),(mY (bH n)).mono _ _ (w4.alloc (.cells #[.int .i64 4,.string (ByteArray.mk #[]),.int .i64 0,.int .i64 0,.int .i64 0,.int .i64 0,.string (ByteArray.mk #[]),.int .i64 0,.int .i64 0,.slice none 0 0,.int .i64 x3.op,.int .i64 x3.val,.string x3.name,.int .i64 x3.slot,.int .i64 x3.size,.slice x3.A x3.n x3.c,.slice A4 m4 c4,.slice none 0 0] 246)) _ _ (λb _ h=>re b (Nat.le_trans (by omega) h)) ((mY (bH n)).keep _ _ _ _ _ (ae.of_below ha) (ni.ls (bH n))),cw.nil_ _ _ _ _⟩
      have ax:a7 bJ (λ_=>True) (w4.alloc (.cells #[.int .i64 4,.string (ByteArray.mk #[]),.int .i64 0,.int .i64 0,.int .i64 0,.int .i64 0,.string (ByteArray.mk #[]),.int .i64 0,.int .i64 0,.slice none 0 0,.int .i64 x3.op,.int .i64 x3.val,.string x3.name,.int .i64 x3.slot,.int .i64 x3.size,.slice x3.A x3.n x3.c,.slice A4 m4 c4,.slice none 0 0] 246)) (.slice (some ⟨w4.heap.size,0,none⟩) 1 1) [⟨4,(ByteArray.mk #[]),0,0,gM,x3,A4,m4,c4,none,0,0⟩]:=gR (heap_alloc_new _ _) trivial;have fu:∀o,(Value.slice A m c).ownBlock=some o->w.heap.size<=o:=λo e=>(World.ownsRow.lt ho o e).1
      have hd:uj (n+1) (.mk 4 (ByteArray.mk #[]) 0 0 E8 t3 WS []):=⟨rfl,rfl,y7.to3 (by omega) Jh,Em,(by simp),.inr (.inr (.inr (.inr (.inr ⟨rfl,rfl,rfl,rfl,by have:=ni.len.1;omega⟩))))⟩
      go_wp2_with (refine aJ (o:=⟨some 37,_,_,_,_,_⟩) dE eU (.agg #[.int .i64 0,.string (ByteArray.mk #[]),.int .i64 0,.int .i64 0,.int .i64 0,.int .i64 0,.string (ByteArray.mk #[]),.int .i64 0,.int .i64 0,.slice none 0 0,.int .i64 0,.int .i64 0,.string (ByteArray.mk #[]),.int .i64 0,.int .i64 0,.slice none 0 0,.slice none 0 0,.slice none 0 0]) 232 _ _ 27 246 w.heap.size xs [⟨4,(ByteArray.mk #[]),0,0,gM,x3,A4,m4,c4,none,0,0⟩] (some ⟨w4.heap.size,0,none⟩) 1 1 (.slice A m c) (m+1) rfl rfl underlying27 gX rfl (by omega) rfl rfl ho ax (by rw [ic.out]) (by rw [ic.out];omega) (by rw [ic.out];omega) (by omega) ?_;intro Az cz wz rq mj Bo Ok Oj)
      have Lq:w.grownBy wz (some g):=cK Bi mj (λq hq=> .inl (fu q hq));have Pj:=Pk.grown mj (λq hq=>by have:=fu q hq;constructor<;>omega);go_roundw
      case rel=>exact ⟨j-1,Az,cz,m+1,ts++ [.mk 4 (ByteArray.mk #[]) 0 0 E8 t3 WS []],by congr 1;omega,rfl,by omega,λs hs=>by
       rcases List.mem_append.1 hs with hs|hs
       ·exact Vl.out s hs
       ·rw [List.mem_singleton] at hs;subst hs;exact hd,cy.push (bH (n+1)) ⟨oo,ze⟩ _ _ fw rq mj Bo,Pj,Lq⟩
      case measure=>simp [intOf];omega
  ·obtain rfl:j=0:=by omega
   go_wp2;go_ret;exact ⟨A,c,m,ts,rfl,by omega,Vl.out,hO,hC,ja⟩
theorem jV:∀(n:Nat),n<=3->∀(ay:Nat) (B g:Nat) (w:World),0<n->ay<=10->kj B w g->rm B w->Calls Tryz.prog 156 #[.pointer (some ⟨g,0,none⟩),.int .i64 (ay:Int),.int .i64 (n:Int)] w λe w' =>∃A c m ts,e= .returned (.slice A m c)/\m<=ay/\(∀s∈ts,uj n s)/\cy bJ 18 (λS w=>ak n S w) w' w.heap.size 246 (.slice A m c) ts/\kj B w' g/\w.grownBy w' (some g)
 |0,_,_,_,_,_,h0,_,_,_=>by omega
 |n+1,hn,ay,B,g,w,_,hm,h,hG=>by
  have:=yM n (by omega) (λh0 ay B g w hm h hG=>jV n (by omega) ay B g w h0 hm h hG) ay hm B g w h hG;rw [show ((n+1:Nat):Int)=(n:Int)+1 by omega];exact this
end Go.Proofs.YtiblijmngokcgaaGreatDoor
