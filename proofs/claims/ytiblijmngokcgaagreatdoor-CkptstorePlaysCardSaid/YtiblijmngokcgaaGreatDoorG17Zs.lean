import Derived.Test.YtiblijmngokcgaaGreatDoorCkGZs
import Derived.Test.YtiblijmngokcgaaGreatDoorRepZs
set_option linter.unusedVariables false
set_option linter.unusedSimpArgs false
set_option maxHeartbeats 8000000
set_option maxRecDepth 100000
namespace Go.Proofs.YtiblijmngokcgaaGreatDoor
open Go.Proofs.Tryz
open Go.RowKit
structure Qj (w:World) (p:UZ) (V:Nat) (A1:Option Addr) (m1 c1:Nat) (A2:Option Addr) (m2 c2:Nat) (A3:Option Addr) (m3 c3:Nat) (A4:Option Addr) (m4 c4:Nat):Prop where
 var:w.heap[V]? =some (.cells (fG p.i p.s p.k) 199 (0,0))
 st:te 3 w (.slice A1 m1 c1) p.st
 me:te 3 w (.slice A2 m2 c2) p.me
 ti:te 3 w (.slice A3 m3 c3) p.ti
 inp:te 3 w (.slice A4 m4 c4) p.inp
theorem Qj.vlt {w:World} {p:UZ} {V:Nat} {A1:Option Addr} {m1 c1:Nat} {A2:Option Addr} {m2 c2:Nat} {A3:Option Addr} {m3 c3:Nat} {A4:Option Addr} {m4 c4:Nat} (h:Qj w p V A1 m1 c1 A2 m2 c2 A3 m3 c3 A4 m4 c4):V<w.heap.size:=(Array.getElem?_eq_some_iff.1 h.var).1
theorem Qj.ext {w w' :World} {p:UZ} {V:Nat} {A1:Option Addr} {m1 c1:Nat} {A2:Option Addr} {m2 c2:Nat} {A3:Option Addr} {m3 c3:Nat} {A4:Option Addr} {m4 c4:Nat} (h:Qj w p V A1 m1 c1 A2 m2 c2 A3 m3 c3 A4 m4 c4) (hb:Below w.heap.size w w'):Qj w' p V A1 m1 c1 A2 m2 c2 A3 m3 c3 A4 m4 c4:=
 ⟨(hb.block V h.vlt).trans h.var,h.st.ext hb,h.me.ext hb,h.ti.ext hb,h.inp.ext hb⟩
theorem Qj.of {S:Nat->Prop} {w:World} {v:Value} {p:UZ} (h:NS S w v p):∃V A1 m1 c1 A2 m2 c2 A3 m3 c3 A4 m4 c4,v= .agg #[.slice (some ⟨V,0,none⟩) 5 5,.slice A1 m1 c1,.slice A2 m2 c2,.slice A3 m3 c3,.slice A4 m4 c4]/\Qj w p V A1 m1 c1 A2 m2 c2 A3 m3 c3 A4 m4 c4:=by
 obtain ⟨V,A1,m1,c1,A2,m2,c2,A3,m3,c3,A4,m4,c4,rfl,_,hv,h1,h2,h3,h4⟩:=h;have mn:∀{v ts},gD S w v ts->te 3 w v ts:=λh=>cw.mono h (λb hb _=>hb) (λx t h=>ak.mono (λb hb _=>hb) 3 x t h)
 exact ⟨V,A1,m1,c1,A2,m2,c2,A3,m3,c3,A4,m4,c4,rfl,hv,mn h1,mn h2,mn h3,mn h4⟩
theorem JR (w:World) (p:UZ) (V:Nat) (A1:Option Addr) (m1 c1:Nat) (A2:Option Addr) (m2 c2:Nat) (A3:Option Addr) (m3 c3:Nat) (A4:Option Addr) (m4 c4:Nat) (hP:Qj w p V A1 m1 c1 A2 m2 c2 A3 m3 c3 A4 m4 c4) (hI:L0 p):
 Calls Tryz.prog 184 #[.agg #[.slice (some ⟨V,0,none⟩) 5 5,.slice A1 m1 c1,.slice A2 m2 c2,.slice A3 m3 c3,.slice A4 m4 c4]] w λe w' =>∃d:Int,e= .returned (.int .i64 d)/\0<=d/\d<=6/\Below w.heap.size w w' :=by
 obtain ⟨W,hW,bW,kW,SW,R0⟩:=bX w w #[.slice (some ⟨V,0,none⟩) 5 5,.slice A1 m1 c1,.slice A2 m2 c2,.slice A3 m3 c3,.slice A4 m4 c4] 145 (Below.refl _ _);have af:w.heap.size<W.heap.size:=by have:=SW.out;omega
 have HR:=aA (λ(w' :World) (h:Below W.heap.size W w')=>(h.block w.heap.size af).trans R0.out);have H1:=aA (λ(w' :World) (h:Below W.heap.size W w')=>qE 3 (by omega) A1 m1 c1 p.st w' (hP.st.ext (Below.ext bW h)) (λs hs=>Fb.of (hI.st s hs)));have H2:=aA (λ(w' :World) (h:Below W.heap.size W w')=>qE 3 (by omega) A2 m2 c2 p.me w' (hP.me.ext (Below.ext bW h)) (λs hs=>Fb.of (hI.me s hs)));have H3:=aA (λ(w' :World) (h:Below W.heap.size W w')=>qE 3 (by omega) A3 m3 c3 p.ti w' (hP.ti.ext (Below.ext bW h)) (λs hs=>Fb.of (hI.ti s hs)));have H4:=aA (λ(w' :World) (h:Below W.heap.size W w')=>qE 3 (by omega) A4 m4 c4 p.inp w' (hP.inp.ext (Below.ext bW h)) (λs hs=>Fb.of (hI.inp s hs)));clear hP R0;go_enter func184,ntmps184;go_upto_region 1 with fail;rw [<-hW];clear hW;have y0:Below W.heap.size W W.drew:=(Below.refl _ W).drew;go_wp2_with fail;refine Tyag ?_;refine TkA ?_;refine lL (λw' ah =>aB (nU _) (fi (HR.out w' ah))) ?_;refine Tyai ?_;go_wp2_with fail;refine (H1.out _ y0).mono ?_;rintro e w1 ⟨d1,rfl,g1,l1,b1⟩;have y1:=Below.ext y0 b1;go_wp2_with fail;refine aD (y1) ?_;refine TkA ?_;refine lL (λw' ah =>aB (nU _) (gn (HR.out w' ah))) ?_;refine Tyai ?_;go_wp2_with fail;refine (H2.out _ y1).mono ?_;rintro e w2 ⟨d2,rfl,g2,l2,b2⟩;have y2:=Below.ext y1 b2;go_wp2_with fail;refine aD (y2) ?_;refine TkA ?_;refine lL (λw' ah =>aB (nU _) (lj (HR.out w' ah))) ?_;refine Tyai ?_;go_wp2_with fail;refine (H3.out _ y2).mono ?_;rintro e w3 ⟨d3,rfl,g3,l3,b3⟩;have y3:=Below.ext y2 b3;go_wp2_with fail;refine aD (y3) ?_;refine TkA ?_;refine lL (λw' ah =>aB (nU _) (Tw (HR.out w' ah))) ?_;refine Tyai ?_;go_wp2_with fail;refine (H4.out _ y3).mono ?_;rintro e w4 ⟨d4,rfl,g4,l4,b4⟩;have y4:=Below.ext y3 b4;go_wp2_with fail;refine aD (y4) ?_;refine TkA ?_;refine xK rfl rfl rfl rfl rfl rfl ?_;refine TkI ?_;have J9:0<=Ke d1 d2 d3 d4/\Ke d1 d2 d3 d4<=6:=by unfold Ke;omega
 obtain ⟨dm,XM⟩:=eX (Ke d1 d2 d3 d4);rw [<-XM] at J9 ⊢;clear XM;obtain ⟨Sf,jh⟩:=J9;refine Tyan ?_;go_wp2_with fail;go_wp2;go_ret;exact ⟨dm,rfl,Sf,jh,Below.ext bW y4⟩
theorem QL {i s k:Int} (h1:1<=s) (h5:s<=5) (hi1: -2<=i) (XC:i<=4) (iq:0<=k) (uc:k<=2) {j:Nat} (hj:j<5):∃(c:UInt8) (z y:Int),FE c/\0<=z/\z<=5/\(z=0∨y=0)/\-2<=y/\y<=4/\((fG i s k).toList.drop (j*3)).take 3=[.string (ByteArray.mk #[c]),.int .i64 z,.int .i64 y]:=by
 have:j=0∨j=1∨j=2∨j=3∨j=4:=by omega
 rcases this with rfl|rfl|rfl|rfl|rfl
 ·exact ⟨120,0,i,.inr (.inr (.inl rfl)),by omega,by omega,.inl rfl,hi1,XC,rfl⟩
 ·exact ⟨97,s,0,.inl rfl,by omega,by omega,.inr rfl,by omega,by omega,rfl⟩
 ·exact ⟨121,0,0,.inr (.inr (.inr (.inl rfl))),by omega,by omega,.inl rfl,by omega,by omega,rfl⟩
 ·exact ⟨122,0,k,.inr (.inr (.inr (.inr rfl))),by omega,by omega,.inl rfl,by omega,by omega,rfl⟩
 ·exact ⟨98,2,0,.inr (.inl rfl),by omega,by omega,.inr rfl,by omega,by omega,rfl⟩
theorem JV (w:World) (p:UZ) (V:Nat) (A1:Option Addr) (m1 c1:Nat) (A2:Option Addr) (m2 c2:Nat) (A3:Option Addr) (m3 c3:Nat) (A4:Option Addr) (m4 c4:Nat) (hP:Qj w p V A1 m1 c1 A2 m2 c2 A3 m3 c3 A4 m4 c4) (hI:L0 p):
 Calls Tryz.prog 152 #[.agg #[.slice (some ⟨V,0,none⟩) 5 5,.slice A1 m1 c1,.slice A2 m2 c2,.slice A3 m3 c3,.slice A4 m4 c4]] w λe w' =>e= .returned (.int .i64 0)/\Below w.heap.size w w' :=by
 obtain ⟨W,hW,bW,kW,SW,R0⟩:=bX w w #[.slice (some ⟨V,0,none⟩) 5 5,.slice A1 m1 c1,.slice A2 m2 c2,.slice A3 m3 c3,.slice A4 m4 c4] 145 (Below.refl _ _);have af:w.heap.size<W.heap.size:=by have:=SW.out;omega
 have HP:=aA (λ(w' :World) (h:Below W.heap.size W w')=>hP.ext (Below.ext bW h));have HR:=aA (λ(w' :World) (h:Below W.heap.size W w')=>(h.block w.heap.size af).trans R0.out);have HI:=aA hI;have hDp:=aA (JR W p V A1 m1 c1 A2 m2 c2 A3 m3 c3 A4 m4 c4 (HP.out W (Below.refl _ _)) hI);clear hP hI;go_enter func152,ntmps152;go_upto_region 1 with fail;rw [<-hW];clear hW;go_wp2_with (refine lD (t:=145) R0 ?_)
 refine hDp.out.mono ?_;rintro e w1 ⟨d,rfl,hd0,hd6,b1⟩;have d7:decide (16<d)=false:=by simp;omega
 have q1:=bn (HR.out w1 b1);clear hd0 hd6 R0;go_wp2;go_loopw [3] (λa wr=>∃j:Nat,a= .int .i64 j/\j<=5/\Below W.heap.size W wr) (λa _=>5-(intOf a).toNat);case atStart=>exact ⟨0,rfl,by omega,b1⟩
 case round=>
  obtain ⟨j,rfl,hj,hb⟩:=hrel;have qr:=bn (HR.out wr hb);by_cases hl:j<5
  ·have hp0:=HP.out wr hb;have XD:=HI.out;obtain ⟨c,z,y,Un,rf,hz5,hzy,Ge,Mu,az⟩:=QL XD.s1 XD.s2 XD.i1 XD.i2 XD.k1 XD.k2 hl;have RV:=aA hp0.var;have gd:=aA (fU (o:=j*3) (nm:=ByteArray.mk #[c]) (z:=z) (y:=y) hp0.var az);clear hp0 XD az;obtain ⟨W2,fv,b2,k2,S2,R2⟩:=bX wr wr #[.string (ByteArray.mk #[c]),.int .i64 z,.int .i64 y] 199 (Below.refl _ _);obtain ⟨bx,ff⟩:=eX wr.heap.size;rw [<-ff] at R2;have tm:=aA ff;have e0:=bn R2.out;have e1:=fi R2.out;have e2:=gn R2.out;clear ff;have f1:decide (z<0)=false:=by simp;omega
   have f2:(y== -9223372036854775808)=false:=by simp;omega
   go_upto_region 7 with (first|(refine aK (t:=199) (A:=⟨V,j*3,none⟩) rfl rfl rfl gd.out ?_)|(refine sN ?_))
   try dsimp only
   rw [<-fv,<-tm.out];clear fv;refine Tyal ?_;go_wp2_with fail;refine (mN c Un W2).mono ?_;rintro e w3 ⟨rfl,rfl⟩;have bend:Below W.heap.size W w3:=Below.ext hb k2;clear Un;by_cases hz:z=0
   ·have f3:(z != 0)=false:=by simp [hz]
    exact Tze0
   ·have f3:(z != 0)=true:=by simpa using hz
    obtain rfl:y=0:=hzy.resolve_left hz;exact Tze0
  ·obtain rfl:j=5:=by omega
   have y0:=hb;have q2:=fi (HR.out wr y0);have h1:=aA (qL 3 A1 m1 c1 p.st wr (HP.out wr y0).st HI.out.st);go_wp2_with fail;refine h1.out.mono ?_;rintro e x1 ⟨rfl,z1⟩;have y1:=Below.ext y0 z1;have q3:=gn (HR.out x1 y1);have h2:=aA (qL 3 A2 m2 c2 p.me x1 (HP.out x1 y1).me HI.out.me);go_wp2_with fail;refine h2.out.mono ?_;rintro e x2 ⟨rfl,z2⟩;have y2:=Below.ext y1 z2;have q4:=lj (HR.out x2 y2);have h3:=aA (qL 3 A3 m3 c3 p.ti x2 (HP.out x2 y2).ti HI.out.ti);go_wp2_with fail;refine h3.out.mono ?_;rintro e x3 ⟨rfl,z3⟩;have y3:=Below.ext y2 z3;have q5:=Tw (HR.out x3 y3);have h4:=aA (qL 3 A4 m4 c4 p.inp x3 (HP.out x3 y3).inp HI.out.inp);go_wp2_with fail;refine h4.out.mono ?_;rintro e x4 ⟨rfl,z4⟩;have y4:=Below.ext y3 z4;go_wp2;go_ret;exact ⟨rfl,Below.ext bW y4⟩
structure Mi (r:ir):Prop where
 c:∀z∈r.cells,av z
 l:∀e∈r.l,av e.to/\av e.value
 n:r.l.length<=8
theorem Mi.pay {r:ir} (h:Mi r):Mi r.pay:=⟨h.c,h.l,h.n⟩
theorem Mi.eff {r:ir} (h:Mi r) {e:Ef} (h1:av e.to) (h2:av e.value):Mi (r.eff e):=by
 unfold ir.eff;split
 ·rename_i hl;refine ⟨h.c,λx hx=> ?_,by simp;omega⟩;rcases List.mem_append.1 hx with hx|hx
  ·exact h.l x hx
  ·rw [List.mem_singleton] at hx;subst hx;exact ⟨h1,h2⟩
 ·exact h
theorem Mi.set {r:ir} (h:Mi r) (k:Nat) {z:Int} (hz:av z):Mi {r with cells:=r.cells.set k z}:=by
 refine ⟨λx hx=> ?_,h.l,h.n⟩;rcases List.mem_or_eq_of_mem_set hx with hx|rfl
 ·exact h.c x hx
 ·exact hz
theorem OA {n:Nat} {v:Env} {r:ir} {s:Sm} (hs:Aw (n+1) s) (hv:qo v) (hr:Mi r):Mi (pH v r s):=by
 obtain ⟨kind,name,slot,size,p,e,body,j0⟩:=s;obtain ⟨_,_,_,hp,he,_,_⟩:=hs;have h1:av (uy r v e):=pT hr.c hv 3 e he;have h2:av (uy r v p):=pT hr.c hv 3 p hp;unfold pH;dsimp only;split
 ·split
  ·exact hr.set _ h1
  ·exact hr
 ·split
  ·split
   ·exact hr.set _ h1
   ·exact hr
  ·split
   ·split
    ·exact hr.eff h2 h1
    ·exact hr
   ·split
    ·exact hr.eff (show av 0 from ⟨by decide,by decide⟩) h1
    ·exact hr
theorem fy.in_ {v:Env} {l:List Sm} {r r' :ir} {ok:Bool} (h:fy v l r r' ok) (hv:qo v):∀n,(∀s∈l,Aw n s)->Mi r->Mi r' :=by
 have tl:∀{n:Nat} {s:Sm} {l:List Sm},(∀x∈s::l,Aw n x)->∀x∈l,Aw n x:=λh x hx=>h x (List.mem_cons_of_mem _ hx)
 have hd:∀{n:Nat} {s:Sm} {l:List Sm},(∀x∈s::l,Aw n x)->Aw n s:=λh=>h _ (List.mem_cons_self ..)
 induction h with
 |nil r=>intro n _ h;exact h
 |out _=>intro n _ h;exact h
 |sim k1 k2 hu _ ih=>
  intro n hl hr;match n,hd hl with
  |m+1,hh=>exact ih (m+1) (tl hl) (OA hh hv hr.pay)
 |cond hu _ _ J2 X6=>
  intro n hl hr;match n,hd hl with
  |m+1,hh=>
   refine X6 (m+1) (tl hl) (J2 m ?_ hr.pay);split
   ·exact hh.2.2.2.2.2.1
   ·exact hh.2.2.2.2.2.2
 |condF hu _ J2=>
  intro n hl hr;match n,hd hl with
  |m+1,hh=>
   refine J2 m ?_ hr.pay;split
   ·exact hh.2.2.2.2.2.1
   ·exact hh.2.2.2.2.2.2
 |stop hu he _ ih=>intro n hl hr;exact ih n (tl hl) hr.pay
 |go hu he _ _ J2 X6=>
  intro n hl hr;match n,hd hl with
  |m+1,hh=>exact X6 (m+1) hl (J2 m hh.2.2.2.2.2.1 hr.pay)
 |goF hu he _ J2=>
  intro n hl hr;match n,hd hl with
  |m+1,hh=>exact J2 m hh.2.2.2.2.2.1 hr.pay
structure Kv (k m:Nat) (s:bj):Prop where
 c:∀z∈s.cells,av z
 e:∀x∈s.evs,∀z∈x.l,av z
 sn:∀x∈s.sent,(∀z∈x.l,av z)/\0<=x.a/\x.a<=(k:Int)
 o:∀x∈s.outs,(∀z∈x.l,av z)/\0<=x.a/\x.a<=(k:Int)
 n:s.sent.length+s.outs.length<=m
theorem vZ {idx:Int} {k:Nat} (h0:0<=idx) (hk:idx<=(k:Int)) (Dw:k<=1000000):∀(l:List Ef) (o:Nat),o+l.length<=1000000->(∀e∈l,av e.to/\av e.value)->∀x∈jF idx o l,(∀z∈x.l,av z)/\0<=x.a/\x.a<=(k:Int)
 |[],_,_,_,x,hx=>by simp [jF] at hx
 |e::l,o,ho,h,x,hx=>by
  have ht:=λy hy=>h y (List.mem_cons_of_mem _ hy)
  have he:=h e (List.mem_cons_self ..);rw [List.length_cons] at ho;unfold jF at hx;split at hx
  ·rcases List.mem_cons.1 hx with rfl|hx
   ·refine ⟨λz hz=> ?_,h0,hk⟩;simp only [n7.l,List.mem_cons,List.not_mem_nil,or_false] at hz;rcases hz with rfl|rfl|rfl|rfl
    ·exact ⟨by omega,by omega⟩
    ·exact ⟨by omega,by omega⟩
    ·exact he.1
    ·exact he.2
   ·exact vZ h0 hk Dw l (o+1) (by omega) ht x hx
  ·exact vZ h0 hk Dw l o (by omega) ht x hx
theorem tU {idx:Int} {k:Nat} (h0:0<=idx) (hk:idx<=(k:Int)) (Dw:k<=1000000):∀(l:List Ef),(∀e∈l,av e.to/\av e.value)->∀x∈gL idx l,(∀z∈x.l,av z)/\0<=x.a/\x.a<=(k:Int)
 |[],_,x,hx=>by simp [gL] at hx
 |e::l,h,x,hx=>by
  have ht:=λy hy=>h y (List.mem_cons_of_mem _ hy)
  have he:=h e (List.mem_cons_self ..);unfold gL at hx;split at hx
  ·exact tU h0 hk Dw l ht x hx
  ·rcases List.mem_cons.1 hx with rfl|hx
   ·refine ⟨λz hz=> ?_,h0,hk⟩;simp only [Ou.l,List.mem_cons,List.not_mem_nil,or_false] at hz;rcases hz with rfl|rfl
    ·exact ⟨by omega,by omega⟩
    ·exact he.2
   ·exact tU h0 hk Dw l ht x hx
theorem Fy.in_ {body:List Sm} {v:Env} {idx:Int} {s s' :bj} {k m:Nat} (h:Fy body v idx s s') (hb:∀x∈body,Aw 3 x) (hv:qo v) (h0:0<=idx) (hk:idx<=(k:Int)) (Dw:k<=1000000) (hs:Kv k m s):Kv k (m+8) s' :=by
 obtain ⟨r,ok,hr,rfl⟩:=h;have hi:=hr.in_ hv 3 hb ⟨hs.c,λe he=>by simp at he,by simp⟩;have h8:=hi.n;refine ⟨hi.c,hs.e,λx hx=> ?_,λx hx=> ?_,?_⟩
 ·rcases List.mem_append.1 hx with hx|hx
  ·exact hs.sn x hx
  ·exact vZ h0 hk Dw _ 0 (by omega) hi.l x hx
 ·rcases List.mem_append.1 hx with hx|hx
  ·exact hs.o x hx
  ·exact tU h0 hk Dw _ hi.l x hx
 ·have h1:=pY idx r.l 0;have h2:=rN idx r.l;have h3:=hs.n;show (s.sent++jF idx 0 r.l).length+(s.outs++gL idx r.l).length<=m+8;rw [List.length_append,List.length_append];omega
theorem gw.in_ {c:Cd} {self procs:Int} {s s' :bj} {e:Ev} {k m:Nat} (h:gw c self procs s e s') (hc:Ca c) (sk:av self) (zh:av procs) (he:∀z∈e.l,av z) (hk:s.evs.length+1<=k) (Dw:k<=1000000) (hs:Kv k m s):Kv k (m+8) s' :=by
 have ha:Kv k m (iK s e):=⟨hs.c,λx hx=>by
  rcases List.mem_append.1 hx with hx|hx
  ·exact hs.e x hx
  ·rw [List.mem_singleton] at hx;subst hx;exact he,hs.sn,hs.o,hs.n⟩
 have h2:av e.k2:=he _ (by simp [Ev.l]);have h6:av e.k6:=he _ (by simp [Ev.l]);unfold gw at h;split at h
 ·exact Fy.in_ h hc.me ⟨sk,zh,h2,h6⟩ (by omega) (by omega) Dw ha
 ·split at h
  ·exact Fy.in_ h hc.ti ⟨sk,zh,sk,h6⟩ (by omega) (by omega) Dw ha
  ·split at h
   ·exact Fy.in_ h hc.inp ⟨sk,zh,sk,h6⟩ (by omega) (by omega) Dw ha
   ·rw [h];exact ⟨ha.c,ha.e,ha.sn,ha.o,Nat.le_trans ha.n (by omega)⟩
theorem gw.evs_ {c:Cd} {self procs:Int} {s s' :bj} {e:Ev} (h:gw c self procs s e s'):s'.evs=s.evs++ [e]:=by
 unfold gw at h;split at h
 ·obtain ⟨r,ok,_,rfl⟩:=h;rfl
 ·split at h
  ·obtain ⟨r,ok,_,rfl⟩:=h;rfl
  ·split at h
   ·obtain ⟨r,ok,_,rfl⟩:=h;rfl
   ·rw [h];rfl
theorem ra.in_ {c:Cd} {self procs:Int} {s s' :bj} {l:List Ev} (h:ra c self procs s l s') (hc:Ca c) (sk:av self) (zh:av procs):∀{k m:Nat},(∀e∈l,∀z∈e.l,av z)->s.evs.length+l.length<=k->k<=1000000->Kv k m s->Kv k (m+8*l.length) s'/\s'.evs=s.evs++l:=by
 induction h with
 |nil s=>intro k m _ _ _ hs;exact ⟨by simpa using hs,by simp⟩
 |cons h1 h2 ih=>
  intro k m hl hk Dw hs;rw [List.length_cons] at hk;have he:=hl _ (List.mem_cons_self ..);have hn:=gw.evs_ h1;have hi:=gw.in_ h1 hc sk zh he (by omega) Dw hs;obtain ⟨g1,g2⟩:=ih (λe h=>hl e (List.mem_cons_of_mem _ h)) (by rw [hn,List.length_append,List.length_singleton];omega) Dw hi;refine ⟨?_,by rw [g2,hn];simp⟩;have hh:∀n:Nat,m+8*(n+1)=m+8+8*n:=λn=>by omega
  rw [List.length_cons,hh];exact g1
theorem qf.in_ {c:Cd} {self procs:Int} {l:List Ev} {s:bj} (h:qf c self procs l s) (hc:Ca c) (sk:av self) (zh:av procs) (hl:∀e∈l,∀z∈e.l,av z) (hn:l.length<=1000):Kv l.length (8*(l.length+1)) s/\s.evs=l/\s.cells.length=c.init.length:=by
 obtain ⟨s0,h1,h2⟩:=h;have h00:(0:Int)<=(l.length:Int):=by omega
 have i0:Kv l.length 0 ⟨c.init,[],[],[]⟩:=⟨hc.init,λx hx=>by simp at hx,λx hx=>by simp at hx,λx hx=>by simp at hx,by simp⟩
 have i1:=Fy.in_ h1 hc.st ⟨sk,zh,sk,(show av 0 from ⟨by decide,by decide⟩)⟩ (by omega) h00 (by omega) i0;have e1:=(Fy.pre h1).2;have c1:=(Fy.pre h1).1.cells;have e1' :s0.evs=[]:=e1;obtain ⟨g1,g2⟩:=ra.in_ h2 hc sk zh hl (by rw [e1'];simp) (by omega) i1;have c2:=(ra.pre h2).1.cells;refine ⟨?_,by rw [g2,e1'];simp,by rw [c2,c1]⟩;have:8*(l.length+1)=0+8+8*l.length:=by omega
 rw [this];exact g1
theorem Kv.ok {k m:Nat} {s:bj} (h:Kv k m s) (hc:s.cells.length<=2000000):vw s:=⟨h.c,h.e,λx hx=>(h.sn x hx).1,λx hx=>(h.o x hx).1,hc⟩
end Go.Proofs.YtiblijmngokcgaaGreatDoor
