import Derived.Test.YtiblijmngokcgaaGreatDoorMacZs
import Derived.Test.YtiblijmngokcgaaGreatDoorCodecAZs
import Derived.Test.YtiblijmngokcgaaGreatDoorKitZs
namespace Go.Proofs.YtiblijmngokcgaaGreatDoor
open Go.RowKit
set_option maxRecDepth 100000
set_option linter.unusedVariables false
abbrev InR (z:Int):Prop:= -9223372036854775808≤z∧z≤9223372036854775807
theorem cE:∀(zs:List Int),(∀z∈zs,InR z)→(aK zs).length≤10*zs.length
 |[],_=>by simp [aK]
 |z::zs,h=>by
  have h1:=cE zs (fun z hz=>h z (by simp [hz]))
  have h2:=lG (h z (by simp)).1 (h z (by simp)).2
  unfold aK at*
  rw [List.flatMap_cons,List.length_append,List.length_cons]
  omega
theorem gG (a b:List Int):aK (a++b)=aK a++aK b:=by unfold aK;exact List.flatMap_append ..
theorem mY (w:World) (t:TypeId) (zs:List Int) (cs:Array Value) (n:Nat) (hn:n=zs.length) (h:cs.toList=zs.flatMap bJ) (hle:n≤1000):Recs bJ (fun b=>b=w.heap.size) (w.alloc (.cells cs t)) (.slice (some ⟨w.heap.size,0,none⟩) n n) zs:=by
 subst hn
 refine ⟨_,zs.length,rfl,Nat.le_refl _,by unfold maxLen;omega,fun _=>⟨w.heap.size,0,rfl,rfl,fun j u hu=> ?_⟩⟩
 rw [cell_of_row _ _ _ _ _ _ (heap_alloc_new w _),Nat.zero_add,←h] at*
 simpa using hu
theorem Below.of_row {w0 w w' :World} {row:Option Nat} (hb:Below w0.heap.size w0 w) (hg:w.grownBy w' row) (hr:∀m,row=some m→w0.heap.size≤m):Below w0.heap.size w0 w' :=hb.grown hg hb.size hr
set_option maxHeartbeats 400000 in
theorem iQ (w0 w:World) (row:Option Nat) (v:Value) (l:List UInt8) (hb:Below w0.heap.size w0 w) (hacc:Acc w w0.heap.size row v l) (Au:Option Addr) (nu cu:Nat) (zs:List Int) (hu:Recs bJ (fun b=>row≠some b) w (.slice Au nu cu) zs) (hz:∀z∈zs,InR z) (hlen:l.length+10*nu≤100000000000):
 Calls Tryz.prog 107 #[v,.slice Au nu cu] w fun e w' =>∃v' row',e= .returned v'∧Acc w' w0.heap.size row' v' (l++aK zs)∧Below w0.heap.size w0 w'∧w.grownBy w' row:=by
 refine (xH w0.heap.size row v l w hacc hb.size Au nu cu zs hu hz hlen).mono ?_
 rintro e w' ⟨v',row',rfl,hacc',hrow,hg⟩
 exact ⟨v',row',rfl,hacc',Below.of_row hb hg (fun m hm=>(hacc.lo m hm).1),hg⟩
theorem Acc.avoid {w:World} {base:Nat} {row:Option Nat} {v:Value} {l:List UInt8} (h:Acc w base row v l) {b:Nat} (hb:b<base∨w.heap.size≤b):row≠some b:=fun e=>by
 have:=h.lo b e
 omega
structure Ev where
 k0:Int
 k1:Int
 k2:Int
 k3:Int
 k4:Int
 k5:Int
 k6:Int
deriving DecidableEq,Inhabited
def Ev.l (e:Ev):List Int:=[e.k0,e.k1,e.k2,e.k3,e.k4,e.k5,e.k6]
def cQ (e:Ev):List Value:=[.int .i64 e.k0,.int .i64 e.k1,.int .i64 e.k2,.int .i64 e.k3,.int .i64 e.k4,.int .i64 e.k5,.int .i64 e.k6]
theorem dS (e:Ev):(cQ e).length=7:=rfl
def evV (e:Ev):Value:= .agg #[.int .i64 e.k0,.int .i64 e.k1,.int .i64 e.k2,.int .i64 e.k3,.int .i64 e.k4,.int .i64 e.k5,.int .i64 e.k6]
set_option maxHeartbeats 1000000 in
theorem yO (w0 w:World) (row:Option Nat) (v:Value) (l:List UInt8) (hb:Below w0.heap.size w0 w) (hacc:Acc w w0.heap.size row v l) (e:Ev) (hz:∀z∈e.l,InR z) (hlen:l.length≤10000000000):
 Calls Tryz.prog 109 #[v,evV e] w fun r w' =>∃v' row',r= .returned v'∧Acc w' w0.heap.size row' v' (l++aK e.l)∧Below w0.heap.size w0 w' :=by
 obtain ⟨W,hW⟩:∃W,W=(w.alloc (.cells #[.int .i64 e.k0,.int .i64 e.k1,.int .i64 e.k2,.int .i64 e.k3,.int .i64 e.k4,.int .i64 e.k5,.int .i64 e.k6] 78)).alloc (.cells #[.int .i64 e.k0,.int .i64 e.k1,.int .i64 e.k2,.int .i64 e.k3,.int .i64 e.k4,.int .i64 e.k5,.int .i64 e.k6] 3):=⟨_,rfl⟩
 have haW:Below w.heap.size w W:=by rw [hW];exact ((Below.refl _ _).alloc (Nat.le_refl _) _).alloc (by simp) _
 have hlit:Recs bJ (fun b=>row≠some b) W (.slice (some ⟨w.heap.size+1,0,none⟩) 7 7) e.l:=by
  rw [hW]
  have:=mY (w.alloc (.cells #[.int .i64 e.k0,.int .i64 e.k1,.int .i64 e.k2,.int .i64 e.k3,.int .i64 e.k4,.int .i64 e.k5,.int .i64 e.k6] 78)) 3 e.l #[.int .i64 e.k0,.int .i64 e.k1,.int .i64 e.k2,.int .i64 e.k3,.int .i64 e.k4,.int .i64 e.k5,.int .i64 e.k6] 7 rfl rfl (by omega)
  rw [World.size_alloc] at this
  exact this.mono (fun b _ h=>hacc.avoid (.inr (by omega)))
 have hput:=iQ w0 W row v l (Below.ext hb haW) (hacc.ext haW) _ 7 7 e.l hlit hz (by omega)
 have Hput:=Lib.hid hput
 clear hput hlit
 unfold evV
 go_enter Tryz.func109,Tryz.ntmps109
 go_wp2_with fail
 rw [←hW]
 refine Hput.out.mono ?_
 rintro r w2 ⟨v',row',rfl,h2,h3,_⟩
 go_wp2
 go_ret
 exact ⟨v',row',rfl,h2,h3⟩
theorem oN {w:World} {v:Value} {l:List UInt8} {S:Nat→Prop} (h:Bytes S w v l):∃A c,v= .slice A l.length c:=by
 obtain ⟨A,c,e,_⟩:=h
 exact ⟨A,c,e⟩
end Go.Proofs.YtiblijmngokcgaaGreatDoor
namespace Go.Proofs.YtiblijmngokcgaaGreatDoor
open Go.RowKit
set_option maxRecDepth 100000
set_option linter.unusedVariables false
theorem vT {w w0:World} {A:Option Addr} {n c:Nat} {l:List UInt8} {S:Nat→Prop} (base:Nat) (hb:Bytes S w (.slice A n c) l) (hn:n≤10000000000):Acc w base none (.slice A n n) l:=by
 have hl:=hb.len.1
 subst hl
 exact .inr ⟨rfl,⟨A,rfl⟩,(hb.clip (c' :=l.length) (Nat.le_refl _) (by unfold maxLen;omega)).mono (fun _ _ _=>trivial)⟩
theorem rS {w:World} {α:Type} {enc:α→List Value} {S:Nat→Prop} {v:Value} {l:List α} (h:Recs enc S w v l):Recs enc (fun b=>(none:Option Nat)≠some b) w v l:=h.mono (fun _ _ _=>by simp)
theorem tO {w:World} {base:Nat} {row:Option Nat} {v u:Value} {l:List UInt8} {α:Type} {enc:α→List Value} {zs:List α} (h:Acc w base row v l) (hu:Recs enc (·<base) w u zs):Recs enc (fun b=>row≠some b) w u zs:=hu.mono (fun b _ hb=>h.avoid (.inl hb))
structure PgV where
 num:Int
 A:Option Addr
 n:Nat
 c:Nat
deriving Inhabited
def gZ (x:PgV):List Value:=[.int .i64 x.num,.slice x.A x.n x.c]
theorem lU (x:PgV):(gZ x).length=2:=rfl
structure Pg where
 num:Int
 cells:List Int
deriving DecidableEq,Inhabited
def Pg.l (p:Pg):List Int:=[p.num,(p.cells.length:Int)]++p.cells
def pgL (ps:List Pg):List Int:=[(ps.length:Int)]++ps.flatMap Pg.l
def Pgs (S:Nat→Prop) (w:World) (v:Value) (ps:List Pg):Prop:=∃xs,Recs gZ S w v xs∧xs.length=ps.length∧∀(i:Nat) (x:PgV) (p:Pg),xs[i]? =some x→ps[i]? =some p→x.num=p.num∧Recs bJ S w (.slice x.A x.n x.c) p.cells
theorem Pgs.ext {S:Nat→Prop} {w w' :World} {v:Value} {ps:List Pg} (h:Pgs S w v ps) (hb:Below w.heap.size w w'):Pgs S w' v ps:=by
 obtain ⟨xs,h1,h2,h3⟩:=h
 exact ⟨xs,h1.ext hb,h2,fun i x p hx hp=>⟨(h3 i x p hx hp).1,(h3 i x p hx hp).2.ext hb⟩⟩
theorem Pgs.len {S:Nat→Prop} {w:World} {A:Option Addr} {n c:Nat} {ps:List Pg} (h:Pgs S w (.slice A n c) ps):ps.length=n∧n≤c∧c≤9223372036854775807:=by
 obtain ⟨xs,h1,h2,h3⟩:=h
 have:=h1.len
 omega
theorem Pgs.at_ {S:Nat→Prop} {w:World} {A:Option Addr} {n c k:Nat} {ps:List Pg} (h:Pgs S w (.slice A n c) ps) (hk:k<n):
 ∃(b off:Nat) (x:PgV) (p:Pg),A=some ⟨b,off,none⟩∧S b∧b<w.heap.size∧ps[k]? =some p∧x.num=p.num∧Recs bJ S w (.slice x.A x.n x.c) p.cells∧w.cell? ⟨b,off+k*2,none⟩=some (.int .i64 x.num)∧w.cell? ⟨b,off+k*2+1,none⟩=some (.slice x.A x.n x.c):=by
 have hl:=h.len
 obtain ⟨xs,h1,h2,h3⟩:=h
 obtain ⟨b,off,x,rfl,hs,hb,hx,hc⟩:=h1.at_ lU (j:=k) (by omega) (by omega)
 have hf:ps[k]? =some ps[k]:=List.getElem?_eq_getElem (by omega)
 exact ⟨b,off,x,_,rfl,hs,hb,hf,(h3 k x _ hx hf).1,(h3 k x _ hx hf).2,hc 0 _ rfl,hc 1 _ rfl⟩
def wB (p:Pg):Prop:=InR p.num∧(∀z∈p.cells,InR z)∧p.cells.length≤2000000
theorem pC {α β:Type} (f:α→List β) (l:List α) (k:Nat) (x:α) (h:l[k]? =some x):(l.take (k+1)).flatMap f=(l.take k).flatMap f++f x:=by
 rw [List.take_add_one,h,List.flatMap_append]
 simp
set_option maxHeartbeats 2000000 in
theorem uL (A:Option Addr) (n c:Nat) (l:List UInt8) (S:Nat→Prop) (w:World) (hv:Bytes S w (.slice A n c) l) (Ap:Option Addr) (np cp:Nat) (ps:List Pg) (hP:Pgs (·<w.heap.size) w (.slice Ap np cp) ps) (hok:∀p∈ps,wB p) (hlen:n≤1000000) (hnp:np≤400):
 Calls Tryz.prog 114 #[.slice A n c,.slice Ap np cp] w fun r w' =>∃v',r= .returned v'∧Bytes (fun _=>True) w' v' (l++aK (pgL ps))∧Below w.heap.size w w' :=by
 have hl:=hv.len
 have HL:=Lib.hid hl.1
 have hpl:=hP.len
 have HPL:=Lib.hid hpl.1
 have hpl2:=hpl.2
 have HOK:=Lib.hid hok
 clear hok hpl
 have ha:Below w.heap.size w (w.alloc (.cells #[.int .i64 (np:Int)] 3)):=(Below.refl _ _).alloc (Nat.le_refl _) _
 have hlit:=rS (mY w 3 [(np:Int)] #[.int .i64 (np:Int)] 1 rfl rfl (by omega))
 have hput:=iQ w (w.alloc (.cells #[.int .i64 (np:Int)] 3)) none (.slice A n n) l ha (vT (w0:=w) w.heap.size (hv.ext ha) (by omega)) _ 1 1 [(np:Int)] hlit (by intro z hz;simp at hz;subst hz;exact ⟨by omega,by omega⟩) (by have:=HL.out;omega)
 have Hput:=Lib.hid hput
 clear hput hlit
 go_enter Tryz.func114,Tryz.ntmps114
 go_wp2_with fail
 refine (nI A n c w hl.2.1 hl.2.2).mono ?_
 rintro e w1 ⟨rfl,rfl⟩
 go_wp2_with fail
 refine (Hput.out).mono ?_
 rintro e w2 ⟨v2,row2,rfl,hacc2,hb2,_⟩
 go_wp2
 have hl2:(l++aK [(np:Int)]).length≤n+10:=by
  have h1:=cE [(np:Int)] (by intro z hz;simp at hz;subst hz;exact ⟨by omega,by omega⟩)
  have h2:=HL.out
  rw [List.length_append]
  rw [List.length_singleton] at h1
  omega
 go_loopw [0,15] (fun v i wr=>∃(k:Nat) (row:Option Nat),i= .int .i64 k∧k≤np∧Acc wr w1.heap.size row v (l++aK ([(np:Int)]++(ps.take k).flatMap Pg.l))∧(l++aK ([(np:Int)]++(ps.take k).flatMap Pg.l)).length≤n+10+k*30000000∧Below w1.heap.size w1 wr) (fun _ i _=>np-(intOf i).toNat)
 case atStart=>exact ⟨0,row2,rfl,by omega,by simpa using hacc2,by simpa using hl2,hb2⟩
 case round=>
  clear hacc2 hb2 hl2
  obtain ⟨k,row,rfl,hk,hacc,hll,hbr⟩:=hrel
  by_cases hlt:k<np
  ·obtain ⟨b,off,x,p,rfl,hbS,hbl,hpk,hnum,hcs,c0,c1⟩:=(hP.ext hbr).at_ hlt
   have hpo:=HOK.out p (List.mem_of_getElem? hpk)
   have hfl:=pC Pg.l ps k p hpk
   have hcl:=hcs.len
   have HCL:=Lib.hid hcl.1
   obtain ⟨lk,hlk⟩:∃lk,lk=l++aK ([(np:Int)]++(ps.take k).flatMap Pg.l):=⟨_,rfl⟩
   have htgt:l++aK ([(np:Int)]++(ps.take (k+1)).flatMap Pg.l)=lk++aK [p.num,(p.cells.length:Int)]++aK p.cells:=by
    rw [hfl,hlk,show Pg.l p=[p.num,(p.cells.length:Int)]++p.cells from rfl]
    simp only [gG,List.append_assoc]
   have HTG:=Lib.hid htgt
   rw [←hlk] at hacc hll
   have hsz:=hbr.size
   have Hnum:=Lib.hid hnum
   clear hpk hfl htgt hlk hnum
   -- the page's box,and the two numbers
   obtain ⟨W3,hW3⟩:∃W3,W3=wr.alloc (.cells #[.int .i64 x.num,.slice x.A x.n x.c] 163):=⟨_,rfl⟩
   have hb3:Below wr.heap.size wr W3:=by rw [hW3];exact (Below.refl _ _).alloc (Nat.le_refl _) _
   have r3:W3.heap[wr.heap.size]? =some (.cells #[.int .i64 x.num,.slice x.A x.n x.c] 163 (0,0)):=by rw [hW3];exact heap_alloc_new _ _
   have hs3:W3.heap.size=wr.heap.size+1:=by rw [hW3];simp
   have ha3:Below W3.heap.size W3 (W3.alloc (.cells #[.int .i64 x.num,.int .i64 (x.n:Int)] 3)):=(Below.refl _ _).alloc (Nat.le_refl _) _
   have ha4:=Below.ext hb3 ha3
   have hlit:=(mY W3 3 [x.num,(x.n:Int)] #[.int .i64 x.num,.int .i64 (x.n:Int)] 2 rfl rfl (by omega)).mono (S' :=fun b=>row≠some b) (fun b _ h=>hacc.avoid (.inr (by omega)))
   have hrng:∀z∈ [x.num,(x.n:Int)],InR z:=by
    intro z hz
    simp at hz
    rcases hz with rfl|rfl
    ·rw [Hnum.out];exact hpo.1
    ·exact ⟨by omega,by omega⟩
   have hput:=iQ w1 (W3.alloc (.cells #[.int .i64 x.num,.int .i64 (x.n:Int)] 3)) row _ lk (Below.ext hbr ha4) (hacc.ext ha4) _ 2 2 _ hlit hrng (by omega)
   have Hput2:=Lib.hid hput
   have R3:=Lib.hid r3
   have HlL:=cE _ hrng
   rw [hs3] at Hput2
   clear hput hlit r3
   go_wp2_with fail
   rw [←hW3]
   refine Hput2.out.mono ?_
   rintro r w5 ⟨v5,row5,rfl,hacc5,hb5,hg5⟩
   have r5:=(hg5.block wr.heap.size (by simp;omega) (fun e=>(hacc.avoid (.inr (Nat.le_refl _))) e.symm)).trans ((ha3.block wr.heap.size (by omega)).trans R3.out)
   have q5:w5.cell? ⟨wr.heap.size,1,none⟩=some (.slice x.A x.n x.c):=by rw [cell_of_row _ _ _ _ _ _ r5];rfl
   have hcs5:Recs bJ (·<w1.heap.size) w5 (.slice x.A x.n x.c) p.cells:=hcs.keep (fun b _ hs=>(hb5.block b hs).trans (hbr.block b hs).symm)
   have hput:=iQ w1 w5 row5 v5 _ hb5 hacc5 x.A x.n x.c p.cells (tO hacc5 hcs5) hpo.2.1 (by have:=hpo.2.2;have:=HCL.out;rw [List.length_append];simp at HlL;omega)
   have Hput3:=Lib.hid hput
   clear hput
   go_wp2_with fail
   refine Hput3.out.mono ?_
   rintro r w6 ⟨v6,row6,rfl,hacc6,hb6,_⟩
   have hel:=cE p.cells hpo.2.1
   have hn1:[x.num,(x.n:Int)]=[p.num,(p.cells.length:Int)]:=by rw [Hnum.out,HCL.out]
   rw [hn1,←HTG.out] at hacc6
   have hln:(l++aK ([(np:Int)]++(ps.take (k+1)).flatMap Pg.l)).length≤n+10+(k+1)*30000000:=by
    rw [HTG.out,List.length_append,List.length_append,←hn1]
    have:=hpo.2.2
    simp at HlL
    omega
   exact Tzcb
  ·obtain rfl:k=np:=by omega
   rw [List.take_of_length_le (by have:=HPL.out;omega)] at hacc
   have hfin:l++aK ([(k:Int)]++ps.flatMap Pg.l)=l++aK (pgL ps):=by unfold pgL;rw [HPL.out]
   rw [hfin] at hacc
   go_wp2
   go_ret
   exact ⟨_,rfl,hacc.bytes,hbr⟩
end Go.Proofs.YtiblijmngokcgaaGreatDoor
namespace Go.Proofs.YtiblijmngokcgaaGreatDoor
open Go.RowKit
set_option maxRecDepth 100000
set_option linter.unusedVariables false
structure Dt where
 proc:Int
 index:Int
 ev:Ev
deriving DecidableEq,Inhabited
def Dt.l (d:Dt):List Int:=[d.proc,d.index]++d.ev.l
theorem aU:∀w:World,(isAgg 3).run Tryz.prog w= .ok false w:=fun w=>by simp [isAgg,run_underlying Tryz.underlying3]
theorem fC:∀w:World,(isAgg 23).run Tryz.prog w= .ok false w:=fun w=>by simp [isAgg,run_underlying Tryz.underlying23]
theorem aA {w:World} {g:Nat} {cs:Array Value} {e:TypeId} (h:w.heap[g]? =some (.cells cs e (0,0))) (o:Nat) (v:Value) (hv:cs[o]? =some v):w.cell? ⟨g,o,none⟩=some v:=by rw [cell_of_row _ _ _ _ _ _ h];exact hv
end Go.Proofs.YtiblijmngokcgaaGreatDoor
namespace Go.Proofs.YtiblijmngokcgaaGreatDoor
open Go.RowKit
set_option maxRecDepth 100000
set_option linter.unusedVariables false
structure Snd where
 a:Int
 b:Int
 c:Int
 d:Int
deriving DecidableEq,Inhabited
def Snd.l (x:Snd):List Int:=[x.a,x.b,x.c,x.d]
def dK (x:Snd):List Value:=[.int .i64 x.a,.int .i64 x.b,.int .i64 x.c,.int .i64 x.d]
theorem eF (x:Snd):(dK x).length=4:=rfl
structure Ou where
 a:Int
 b:Int
deriving DecidableEq,Inhabited
def Ou.l (x:Ou):List Int:=[x.a,x.b]
def dM (x:Ou):List Value:=[.int .i64 x.a,.int .i64 x.b]
theorem eG (x:Ou):(dM x).length=2:=rfl
structure Stt where
 cells:List Int
 evs:List Ev
 sent:List Snd
 outs:List Ou
deriving DecidableEq,Inhabited
def Stt.l (s:Stt):List Int:=[(s.cells.length:Int)]++s.cells++ [(s.evs.length:Int)]++s.evs.flatMap Ev.l++ [(s.sent.length:Int)]++s.sent.flatMap Snd.l++ [(s.outs.length:Int)]++s.outs.flatMap Ou.l
structure SttOk (s:Stt):Prop where
 cells:∀z∈s.cells,InR z
 evs:∀e∈s.evs,∀z∈e.l,InR z
 sent:∀e∈s.sent,∀z∈e.l,InR z
 outs:∀e∈s.outs,∀z∈e.l,InR z
 small:s.cells.length≤2000000
theorem IF {P:Program} {code:Code} {Q:Exit→Act→World→Prop} {a:Act} {w:World} (F:Value→Option Nat→World→Prop) (mk:Value→Act)
 (h1:code.wp P (fun e a' w' =>e= .normal∧∃x row,F x row w'∧a' =mk x) a w) (h2:∀x row w',F x row w'→Q .normal (mk x) w'):code.wp P Q a w:=
 Code.wp_mono (fun e a' w' ⟨he,x,row,hF,ha⟩=>by subst he ha;exact h2 x row w' hF) h1
theorem oB (z:Nat) (hz:z≤1000000000):∀x∈ [(z:Int)],InR x:=by
 intro x hx
 simp at hx
 subst hx
 exact ⟨by omega,by omega⟩
set_option maxHeartbeats 8000000 in
theorem nT (A:Option Addr) (n c:Nat) (l:List UInt8) (S:Nat→Prop) (w:World) (hv:Bytes S w (.slice A n c) l) (s:Stt) (Ac Ae As Ao:Option Addr) (nc cc ne ce ns cs no co:Nat) (hC:Recs bJ (·<w.heap.size) w (.slice Ac nc cc) s.cells) (hE:Recs cQ (·<w.heap.size) w (.slice Ae ne ce) s.evs) (hS:Recs dK (·<w.heap.size) w (.slice As ns cs) s.sent) (hO:Recs dM (·<w.heap.size) w (.slice Ao no co) s.outs) (hok:SttOk s) (hlen:n≤1000000) (hne:ne≤400) (hns:ns≤400) (hno:no≤400):
 Calls Tryz.prog 47 #[.slice A n c,.agg #[.slice Ac nc cc,.slice Ae ne ce,.slice As ns cs,.slice Ao no co]] w fun r w' =>∃v',r= .returned v'∧Bytes (fun _=>True) w' v' (l++aK s.l)∧Below w.heap.size w w' :=by
 have hl:=hv.len
 have HL:=Lib.hid hl.1
 have HC:=Lib.hid hC.len.1
 have HE:=Lib.hid hE.len.1
 have HS:=Lib.hid hS.len.1
 have HO:=Lib.hid hO.len.1
 have hC2:=hC.len.2
 have hE2:=hE.len.2
 have hS2:=hS.len.2
 have hO2:=hO.len.2
 have HOK:=Lib.hid hok
 have hsm:nc≤2000000:=by have:=hok.small;have:=HC.out;omega
 clear hok
 obtain ⟨W,hW⟩:∃W,W=w.alloc (.cells #[.slice Ac nc cc,.slice Ae ne ce,.slice As ns cs,.slice Ao no co] 51):=⟨_,rfl⟩
 have haW:Below w.heap.size w W:=by rw [hW];exact (Below.refl _ _).alloc (Nat.le_refl _) _
 have rW:W.heap[w.heap.size]? =some (.cells #[.slice Ac nc cc,.slice Ae ne ce,.slice As ns cs,.slice Ao no co] 51 (0,0)):=by rw [hW];exact heap_alloc_new _ _
 have hsW:w.heap.size<W.heap.size:=(Array.getElem?_eq_some_iff.1 rW).1
 have RW:=Lib.hid rW
 have hCW:=(hC.ext haW).mono (S' :=(·<W.heap.size)) (fun b _ h=>by omega)
 have hEW:=(hE.ext haW).mono (S' :=(·<W.heap.size)) (fun b _ h=>by omega)
 have hSW:=(hS.ext haW).mono (S' :=(·<W.heap.size)) (fun b _ h=>by omega)
 have hOW:=(hO.ext haW).mono (S' :=(·<W.heap.size)) (fun b _ h=>by omega)
 have ha2:Below W.heap.size W (W.alloc (.cells #[.int .i64 (nc:Int)] 3)).drew:=((Below.refl _ _).alloc (Nat.le_refl _) _).drew
 have hlit:=rS (mY W 3 [(nc:Int)] #[.int .i64 (nc:Int)] 1 rfl rfl (by omega)).drew
 have hput:=iQ W (W.alloc (.cells #[.int .i64 (nc:Int)] 3)).drew none (.slice A n n) l ha2 (vT (w0:=W) W.heap.size (hv.ext (Below.ext haW ha2)) (by omega)) _ 1 1 [(nc:Int)] hlit (oB nc (by omega)) (by have:=HL.out;omega)
 have Hput:=Lib.hid hput
 clear rW hput hlit hC hE hS hO
 go_enter Tryz.func47,Tryz.ntmps47
 go_wp2_with fail
 rw [←hW]
 clear hW
 apply IF (fun v row w' =>Acc w' W.heap.size row v (l++aK [(nc:Int)])∧Below W.heap.size W w')
 ·refine tQ (Below W.heap.size W) [0,1,2,3,4,5,6,7] [0,2,3,4,5,1,6,7] 1 5 (by kernel_rfl) (by kernel_rfl) (by kernel_rfl) (by kernel_rfl) (by decide) (by decide) (by decide) (by decide) ((Below.refl _ _).drew) ?_ ?_
  all_goals simp only [bL,List.filterMap_cons,List.filterMap_nil,List.getElem?_cons_zero,List.getElem?_cons_succ]
  ·refine TkA ?_
   refine aL rfl ?_
   go_wp2_with fail
   refine (nI A n c W.drew hl.2.1 hl.2.2).mono ?_
   rintro r w1 ⟨rfl,rfl⟩
   go_wp2_with fail
   refine aI ((Below.refl _ _).drew) ?_
   refine TkA ?_
   refine aE (⟨w.heap.size,0,none⟩) (.slice Ac nc cc) rfl rfl rfl (fun w' hS=>aG (fC _) (aA ((hS.block _ hsW).trans RW.out) 0 _ rfl)) ?_
   refine TkI ?_
   refine TkA ?_
   refine aL rfl ?_
   go_wp2_with fail
   refine aI ha2 ?_
   exact Tzck
  ·refine TkA ?_
   refine aE (⟨w.heap.size,0,none⟩) (.slice Ac nc cc) rfl rfl rfl (fun w' hS=>aG (fC _) (aA ((hS.block _ hsW).trans RW.out) 0 _ rfl)) ?_
   refine TkI ?_
   refine TkA ?_
   refine aL rfl ?_
   go_wp2_with fail
   refine aI ha2 ?_
   refine TkA ?_
   refine aL rfl ?_
   go_wp2_with fail
   refine (nI A n c (W.alloc (.cells #[.int .i64 (nc:Int)] 3)).drew hl.2.1 hl.2.2).mono ?_
   rintro r w1 ⟨rfl,rfl⟩
   go_wp2_with fail
   refine aI (ha2) ?_
   exact Tzck
 intro v2 row2 w2 ⟨hacc2,hb2⟩
 clear Hput ha2
 obtain ⟨l2,hl2⟩:∃l2,l2=l++aK [(nc:Int)]:=⟨_,rfl⟩
 have hL2:l2.length≤n+10:=by
  have h1:=cE _ (oB nc (by omega))
  have h2:=HL.out
  rw [hl2,List.length_append]
  rw [List.length_singleton] at h1
  omega
 rw [←hl2] at hacc2
 have K2:=Lib.hid hl2
 have q2:w2.cell? ⟨w.heap.size,0,none⟩=some (.slice Ac nc cc):=aA ((hb2.block _ hsW).trans RW.out) 0 _ rfl
 have hput:=iQ W w2 row2 v2 l2 hb2 hacc2 Ac nc cc s.cells (tO hacc2 (hCW.ext hb2)) HOK.out.cells (by omega)
 have Hput:=Lib.hid hput
 clear hput hl2
 go_wp2_with fail
 refine Hput.out.mono ?_
 rintro r w3 ⟨v3,row3,rfl,hacc3,hb3,_⟩
 obtain ⟨l3,hl3⟩:∃l3,l3=l2++aK s.cells:=⟨_,rfl⟩
 have hL3:l3.length≤n+10+20000000:=by
  have h1:=cE _ HOK.out.cells
  have h2:=HC.out
  rw [hl3,List.length_append]
  omega
 rw [←hl3] at hacc3
 have K3:=Lib.hid hl3
 clear hl3 q2 Hput
 have q3:w3.cell? ⟨w.heap.size,1,none⟩=some (.slice Ae ne ce):=aA ((hb3.block _ hsW).trans RW.out) 1 _ rfl
 have ha3:Below w3.heap.size w3 (w3.alloc (.cells #[.int .i64 (ne:Int)] 3)):=(Below.refl _ _).alloc (Nat.le_refl _) _
 have hlit:=(mY w3 3 [(ne:Int)] #[.int .i64 (ne:Int)] 1 rfl rfl (by omega)).mono (S' :=fun b=>row3≠some b) (fun b _ h=>hacc3.avoid (.inr (by omega)))
 have hput:=iQ W _ row3 v3 l3 (Below.ext hb3 ha3) (hacc3.ext ha3) _ 1 1 [(ne:Int)] hlit (oB ne (by omega)) (by omega)
 have Hput:=Lib.hid hput
 clear hput hlit
 go_wp2_with fail
 refine Hput.out.mono ?_
 rintro r w4 ⟨v4,row4,rfl,hacc4,hb4,_⟩
 obtain ⟨l4,hl4⟩:∃l4,l4=l3++aK [(ne:Int)]:=⟨_,rfl⟩
 have hL4:l4.length≤n+20000020:=by
  have h1:=cE _ (oB ne (by omega))
  rw [hl4,List.length_append]
  rw [List.length_singleton] at h1
  omega
 rw [←hl4] at hacc4
 have K4:=Lib.hid hl4
 have q4:w4.cell? ⟨w.heap.size,1,none⟩=some (.slice Ae ne ce):=aA ((hb4.block _ hsW).trans RW.out) 1 _ rfl
 clear hl4 q3 Hput ha3
 go_wp2
 go_loopw [0,31] (fun v i wr=>∃(k:Nat) (row:Option Nat),i= .int .i64 k∧k≤ne∧Acc wr W.heap.size row v (l4++aK ((s.evs.take k).flatMap Ev.l))∧(l4++aK ((s.evs.take k).flatMap Ev.l)).length≤n+20000020+k*70∧Below W.heap.size W wr) (fun _ i _=>ne-(intOf i).toNat)
 case atStart=>exact ⟨0,row4,rfl,by omega,by simpa [aK] using hacc4,by simpa [aK] using hL4,hb4⟩
 case round=>
  clear hacc4 hb4 q4
  obtain ⟨k,row,rfl,hk,hacc,hll,hbr⟩:=hrel
  by_cases hlt:k<ne
  ·obtain ⟨b,off,x,rfl,hbS,hbl,hxk,hc⟩:=(hEW.ext hbr).at_ dS (j:=k) (by have:=HE.out;omega) (by omega)
   have hxr:=HOK.out.evs x (List.mem_of_getElem? hxk)
   have hfl:=pC Ev.l s.evs k x hxk
   have c0:=hc 0 _ rfl
   have c1:=hc 1 _ rfl
   have c2:=hc 2 _ rfl
   have c3:=hc 3 _ rfl
   have c4:=hc 4 _ rfl
   have c5:=hc 5 _ rfl
   have c6:=hc 6 _ rfl
   rw [Nat.add_zero] at c0
   obtain ⟨lk,hlk⟩:∃lk,lk=l4++aK ((s.evs.take k).flatMap Ev.l):=⟨_,rfl⟩
   have htgt:l4++aK ((s.evs.take (k+1)).flatMap Ev.l)=lk++aK x.l:=by rw [hfl,hlk,gG,List.append_assoc]
   have HTG:=Lib.hid htgt
   rw [←hlk] at hacc hll
   have hsz:=hbr.size
   clear hxk hfl htgt hlk hc
   obtain ⟨W5,hW5⟩:∃W5,W5=wr.alloc (.cells #[.int .i64 x.k0,.int .i64 x.k1,.int .i64 x.k2,.int .i64 x.k3,.int .i64 x.k4,.int .i64 x.k5,.int .i64 x.k6] 78):=⟨_,rfl⟩
   have hb5:Below wr.heap.size wr W5:=by rw [hW5];exact (Below.refl _ _).alloc (Nat.le_refl _) _
   have hput:=yO W W5 row _ lk (Below.ext hbr hb5) (hacc.ext hb5) x hxr (by omega)
   unfold evV at hput
   have Hput:=Lib.hid hput
   clear hput
   go_wp2_with fail
   rw [←hW5]
   refine Hput.out.mono ?_
   rintro r w6 ⟨v6,row6,rfl,hacc6,hb6⟩
   have hel:=cE x.l hxr
   rw [←HTG.out] at hacc6
   have hln:(l4++aK ((s.evs.take (k+1)).flatMap Ev.l)).length≤n+20000020+(k+1)*70:=by
    rw [HTG.out,List.length_append]
    have:x.l.length=7:=rfl
    omega
   exact Tzcb
  ·obtain rfl:k=ne:=by omega
   rw [List.take_of_length_le (by have:=HE.out;omega)] at hacc hll
   obtain ⟨l5,hl5⟩:∃l5,l5=l4++aK (s.evs.flatMap Ev.l):=⟨_,rfl⟩
   rw [←hl5] at hacc hll
   have K5:=Lib.hid hl5
   have hL5:l5.length≤n+20028020:=by omega
   clear hl5 hll
   obtain ⟨v5,hv5⟩:∃v5,v5=u0:=⟨_,rfl⟩
   obtain ⟨w5,hw5⟩:∃w5,w5=wr:=⟨_,rfl⟩
   obtain ⟨row5,hr5⟩:∃row5,row5=row:=⟨_,rfl⟩
   rw [←hr5] at hacc
   clear hr5
   rw [←hw5] at hacc hbr
   rw [←hv5] at hacc
   have hb5:=hbr
   have hacc5:=hacc
   rw [←hw5,←hv5]
   clear hw5 hv5 hacc hbr
   have q5:w5.cell? ⟨w.heap.size,2,none⟩=some (.slice As ns cs):=aA ((hb5.block _ hsW).trans RW.out) 2 _ rfl
   have ha5:Below w5.heap.size w5 (w5.alloc (.cells #[.int .i64 (ns:Int)] 3)):=(Below.refl _ _).alloc (Nat.le_refl _) _
   have hlit:=(mY w5 3 [(ns:Int)] #[.int .i64 (ns:Int)] 1 rfl rfl (by omega)).mono (S' :=fun b=>row5≠some b) (fun b _ h=>hacc5.avoid (.inr (by omega)))
   have hput:=iQ W _ row5 v5 l5 (Below.ext hb5 ha5) (hacc5.ext ha5) _ 1 1 [(ns:Int)] hlit (oB ns (by omega)) (by omega)
   have Hput:=Lib.hid hput
   clear hput hlit
   go_wp2_with fail
   refine Hput.out.mono ?_
   rintro r w6 ⟨v6,row6,rfl,hacc6,hb6,_⟩
   obtain ⟨l6,hl6⟩:∃l6,l6=l5++aK [(ns:Int)]:=⟨_,rfl⟩
   have hL6:l6.length≤n+20028030:=by
    have h1:=cE _ (oB ns (by omega))
    rw [hl6,List.length_append]
    rw [List.length_singleton] at h1
    omega
   rw [←hl6] at hacc6
   have K6:=Lib.hid hl6
   have q6:w6.cell? ⟨w.heap.size,2,none⟩=some (.slice As ns cs):=aA ((hb6.block _ hsW).trans RW.out) 2 _ rfl
   clear hl6 q5 Hput ha5
   go_wp2
   go_loopw [0,48] (fun v i wr=>∃(k:Nat) (row:Option Nat),i= .int .i64 k∧k≤ns∧Acc wr W.heap.size row v (l6++aK ((s.sent.take k).flatMap Snd.l))∧(l6++aK ((s.sent.take k).flatMap Snd.l)).length≤n+20028030+k*40∧Below W.heap.size W wr) (fun _ i _=>ns-(intOf i).toNat)
   case atStart=>exact ⟨0,row6,rfl,by omega,by simpa [aK] using hacc6,by simpa [aK] using hL6,hb6⟩
   case round=>
    clear hacc6 hb6 q6
    obtain ⟨k,row,rfl,hk,hacc,hll,hbr⟩:=hrel
    by_cases hlt:k<ns
    ·obtain ⟨b,off,x,rfl,hbS,hbl,hxk,hc⟩:=(hSW.ext hbr).at_ eF (j:=k) (by have:=HS.out;omega) (by omega)
     have hxr:=HOK.out.sent x (List.mem_of_getElem? hxk)
     have hfl:=pC Snd.l s.sent k x hxk
     have c0:=hc 0 _ rfl
     have c1:=hc 1 _ rfl
     have c2:=hc 2 _ rfl
     have c3:=hc 3 _ rfl
     rw [Nat.add_zero] at c0
     obtain ⟨lk,hlk⟩:∃lk,lk=l6++aK ((s.sent.take k).flatMap Snd.l):=⟨_,rfl⟩
     have htgt:l6++aK ((s.sent.take (k+1)).flatMap Snd.l)=lk++aK x.l:=by rw [hfl,hlk,gG,List.append_assoc]
     have HTG:=Lib.hid htgt
     rw [←hlk] at hacc hll
     have hsz:=hbr.size
     clear hxk hfl htgt hlk hc
     obtain ⟨W5,hW5⟩:∃W5,W5=wr.alloc (.cells #[.int .i64 x.a,.int .i64 x.b,.int .i64 x.c,.int .i64 x.d] 127):=⟨_,rfl⟩
     have hb5:Below wr.heap.size wr W5:=by rw [hW5];exact (Below.refl _ _).alloc (Nat.le_refl _) _
     have hs5:W5.heap.size=wr.heap.size+1:=by rw [hW5];simp
     have ha5:Below W5.heap.size W5 (W5.alloc (.cells #[.int .i64 x.a,.int .i64 x.b,.int .i64 x.c,.int .i64 x.d] 3)):=(Below.refl _ _).alloc (Nat.le_refl _) _
     have ha6:=Below.ext hb5 ha5
     have hlit:=(mY W5 3 x.l #[.int .i64 x.a,.int .i64 x.b,.int .i64 x.c,.int .i64 x.d] 4 rfl rfl (by omega)).mono (S' :=fun b=>row≠some b) (fun b _ h=>hacc.avoid (.inr (by omega)))
     have hput:=iQ W _ row _ lk (Below.ext hbr ha6) (hacc.ext ha6) _ 4 4 x.l hlit hxr (by omega)
     rw [hs5] at hput
     have Hput:=Lib.hid hput
     clear hput hlit
     go_wp2_with fail
     rw [←hW5]
     refine Hput.out.mono ?_
     rintro r w6 ⟨v6,row6,rfl,hacc6,hb6,_⟩
     have hel:=cE x.l hxr
     rw [←HTG.out] at hacc6
     have hln:(l6++aK ((s.sent.take (k+1)).flatMap Snd.l)).length≤n+20028030+(k+1)*40:=by
      rw [HTG.out,List.length_append]
      have:x.l.length=4:=rfl
      omega
     exact Tzcb
    ·obtain rfl:k=ns:=by omega
     rw [List.take_of_length_le (by have:=HS.out;omega)] at hacc hll
     obtain ⟨l7,hl7⟩:∃l7,l7=l6++aK (s.sent.flatMap Snd.l):=⟨_,rfl⟩
     rw [←hl7] at hacc hll
     have K7:=Lib.hid hl7
     have hL7:l7.length≤n+20044030:=by omega
     clear hl7 hll
     obtain ⟨v7,hv7⟩:∃v7,v7=u0:=⟨_,rfl⟩
     obtain ⟨w7,hw7⟩:∃w7,w7=wr:=⟨_,rfl⟩
     obtain ⟨row7,hr7⟩:∃row7,row7=row:=⟨_,rfl⟩
     rw [←hr7] at hacc
     clear hr7
     rw [←hw7] at hacc hbr
     rw [←hv7] at hacc
     have hb7:=hbr
     have hacc7:=hacc
     rw [←hw7,←hv7]
     clear hw7 hv7 hacc hbr
     have q7:w7.cell? ⟨w.heap.size,3,none⟩=some (.slice Ao no co):=aA ((hb7.block _ hsW).trans RW.out) 3 _ rfl
     have ha7:Below w7.heap.size w7 (w7.alloc (.cells #[.int .i64 (no:Int)] 3)):=(Below.refl _ _).alloc (Nat.le_refl _) _
     have hlit:=(mY w7 3 [(no:Int)] #[.int .i64 (no:Int)] 1 rfl rfl (by omega)).mono (S' :=fun b=>row7≠some b) (fun b _ h=>hacc7.avoid (.inr (by omega)))
     have hput:=iQ W _ row7 v7 l7 (Below.ext hb7 ha7) (hacc7.ext ha7) _ 1 1 [(no:Int)] hlit (oB no (by omega)) (by omega)
     have Hput:=Lib.hid hput
     clear hput hlit
     go_wp2_with fail
     refine Hput.out.mono ?_
     rintro r w8 ⟨v8,row8,rfl,hacc8,hb8,_⟩
     obtain ⟨l8,hl8⟩:∃l8,l8=l7++aK [(no:Int)]:=⟨_,rfl⟩
     have hL8:l8.length≤n+20044050:=by
      have h1:=cE _ (oB no (by omega))
      rw [hl8,List.length_append]
      rw [List.length_singleton] at h1
      omega
     rw [←hl8] at hacc8
     have K8:=Lib.hid hl8
     have q8:w8.cell? ⟨w.heap.size,3,none⟩=some (.slice Ao no co):=aA ((hb8.block _ hsW).trans RW.out) 3 _ rfl
     clear hl8 q7 Hput ha7
     go_wp2
     go_loopw [0,73] (fun v i wr=>∃(k:Nat) (row:Option Nat),i= .int .i64 k∧k≤no∧Acc wr W.heap.size row v (l8++aK ((s.outs.take k).flatMap Ou.l))∧(l8++aK ((s.outs.take k).flatMap Ou.l)).length≤n+20044050+k*20∧Below W.heap.size W wr) (fun _ i _=>no-(intOf i).toNat)
     case atStart=>exact ⟨0,row8,rfl,by omega,by simpa [aK] using hacc8,by simpa [aK] using hL8,hb8⟩
     case round=>
      clear hacc8 hb8 q8
      obtain ⟨k,row,rfl,hk,hacc,hll,hbr⟩:=hrel
      by_cases hlt:k<no
      ·obtain ⟨b,off,x,rfl,hbS,hbl,hxk,hc⟩:=(hOW.ext hbr).at_ eG (j:=k) (by have:=HO.out;omega) (by omega)
       have hxr:=HOK.out.outs x (List.mem_of_getElem? hxk)
       have hfl:=pC Ou.l s.outs k x hxk
       have c0:=hc 0 _ rfl
       have c1:=hc 1 _ rfl
       rw [Nat.add_zero] at c0
       obtain ⟨lk,hlk⟩:∃lk,lk=l8++aK ((s.outs.take k).flatMap Ou.l):=⟨_,rfl⟩
       have htgt:l8++aK ((s.outs.take (k+1)).flatMap Ou.l)=lk++aK x.l:=by rw [hfl,hlk,gG,List.append_assoc]
       have HTG:=Lib.hid htgt
       rw [←hlk] at hacc hll
       have hsz:=hbr.size
       clear hxk hfl htgt hlk hc
       obtain ⟨W5,hW5⟩:∃W5,W5=wr.alloc (.cells #[.int .i64 x.a,.int .i64 x.b] 129):=⟨_,rfl⟩
       have hb5:Below wr.heap.size wr W5:=by rw [hW5];exact (Below.refl _ _).alloc (Nat.le_refl _) _
       have hs5:W5.heap.size=wr.heap.size+1:=by rw [hW5];simp
       have ha5:Below W5.heap.size W5 (W5.alloc (.cells #[.int .i64 x.a,.int .i64 x.b] 3)):=(Below.refl _ _).alloc (Nat.le_refl _) _
       have ha6:=Below.ext hb5 ha5
       have hlit:=(mY W5 3 x.l #[.int .i64 x.a,.int .i64 x.b] 2 rfl rfl (by omega)).mono (S' :=fun b=>row≠some b) (fun b _ h=>hacc.avoid (.inr (by omega)))
       have hput:=iQ W _ row _ lk (Below.ext hbr ha6) (hacc.ext ha6) _ 2 2 x.l hlit hxr (by omega)
       rw [hs5] at hput
       have Hput:=Lib.hid hput
       clear hput hlit
       go_wp2_with fail
       rw [←hW5]
       refine Hput.out.mono ?_
       rintro r w6 ⟨v6,row6,rfl,hacc6,hb6,_⟩
       have hel:=cE x.l hxr
       rw [←HTG.out] at hacc6
       have hln:(l8++aK ((s.outs.take (k+1)).flatMap Ou.l)).length≤n+20044050+(k+1)*20:=by
        rw [HTG.out,List.length_append]
        have:x.l.length=2:=rfl
        omega
       exact Tzcb
      ·obtain rfl:k=no:=by omega
       rw [List.take_of_length_le (by have:=HO.out;omega)] at hacc hll
       obtain ⟨l9,hl9⟩:∃l9,l9=l8++aK (s.outs.flatMap Ou.l):=⟨_,rfl⟩
       rw [←hl9] at hacc hll
       have K9:=Lib.hid hl9
       have hL9:l9.length≤n+20052050:=by omega
       clear hl9 hll
       obtain ⟨v9,hv9⟩:∃v9,v9=u0:=⟨_,rfl⟩
       obtain ⟨w9,hw9⟩:∃w9,w9=wr:=⟨_,rfl⟩
       obtain ⟨row9,hr9⟩:∃row9,row9=row:=⟨_,rfl⟩
       rw [←hr9] at hacc
       clear hr9
       rw [←hw9] at hacc hbr
       rw [←hv9] at hacc
       have hb9:=hbr
       have hacc9:=hacc
       rw [←hw9,←hv9]
       clear hw9 hv9 hacc hbr
       have hfin:l++aK s.l=l9:=by
        unfold Stt.l
        rw [K9.out,K8.out,K7.out,K6.out,K5.out,K4.out,K3.out,K2.out,HC.out,HE.out,HS.out,HO.out]
        simp only [gG,List.append_assoc]
       go_wp2
       go_ret
       exact ⟨_,rfl,by rw [hfin];exact hacc9.bytes,Below.ext haW hb9⟩
end Go.Proofs.YtiblijmngokcgaaGreatDoor
namespace Go.Proofs.YtiblijmngokcgaaGreatDoor
open Go.RowKit
set_option maxRecDepth 100000
set_option linter.unusedVariables false
theorem mO:∀w:World,(isAgg 30).run Tryz.prog w= .ok false w:=fun w=>by simp [isAgg,run_underlying Tryz.underlying30]
end Go.Proofs.YtiblijmngokcgaaGreatDoor
namespace Go.Proofs.YtiblijmngokcgaaGreatDoor
open Go.RowKit
set_option maxRecDepth 100000
set_option linter.unusedVariables false
def bnd {α β:Type} (x:Except Nat (α×Nat)) (f:α→Nat→Except Nat (β×Nat)):Except Nat (β×Nat):=match x with| .ok (a,q)=>f a q| .error k=> .error k
theorem aR {α β:Type} {x:Except Nat (α×Nat)} {f:α→Nat→Except Nat (β×Nat)} {a:α} {q:Nat} (h:x= .ok (a,q)):bnd x f=f a q:=by rw [h];rfl
theorem cL {α β:Type} {x:Except Nat (α×Nat)} {f:α→Nat→Except Nat (β×Nat)} {k:Nat} (h:x= .error k):bnd x f= .error k:=by rw [h];rfl
def dG (L:List UInt8) (p:Nat):Except Nat (Ev×Nat):=bnd (bA L p) fun a0 p1=>bnd (bA L p1) fun a1 p2=>bnd (bA L p2) fun a2 p3=>bnd (bA L p3) fun a3 p4=>bnd (bA L p4) fun a4 p5=>bnd (bA L p5) fun a5 p6=>bnd (bA L p6) fun a6 p7=> .ok (⟨a0,a1,a2,a3,a4,a5,a6⟩,p7)
def eA (L:List UInt8) (p:Nat):Except Nat (Snd×Nat):=bnd (bA L p) fun a0 p1=>bnd (bA L p1) fun a1 p2=>bnd (bA L p2) fun a2 p3=>bnd (bA L p3) fun a3 p4=> .ok (⟨a0,a1,a2,a3⟩,p4)
def eM (L:List UInt8) (p:Nat):Except Nat (Ou×Nat):=bnd (bA L p) fun a0 p1=>bnd (bA L p1) fun a1 p2=> .ok (⟨a0,a1⟩,p2)
def dD {α:Type} (f:Nat→Except Nat (α×Nat)):Nat→Nat→Except Nat (List α×Nat)
 |0,p=> .ok ([],p)
 |n+1,p=>bnd (f p) fun a q=>bnd (dD f n q) fun l q' => .ok (a::l,q')
def bB {α:Type} (f:Nat→Except Nat (α×Nat)) (L:List UInt8) (p:Nat):Except Nat (List α×Nat):=
 bnd (bA L p) fun n q=>if n<0∨(L.length:Int)-(q:Int)<n then .error 9 else dD f n.toNat q
def eR (L:List UInt8) (p:Nat):Except Nat (Pg×Nat):=bnd (bA L p) fun a p1=>bnd (bB (bA L) L p1) fun l p2=> .ok (⟨a,l⟩,p2)
def eJ (L:List UInt8) (p:Nat):Except Nat (List Pg×Nat):=bB (eR L) L p
def eH (L:List UInt8) (p:Nat):Except Nat (Stt×Nat):=bnd (bB (bA L) L p) fun a p1=>bnd (bB (dG L) L p1) fun b p2=>bnd (bB (eA L) L p2) fun c p3=>bnd (bB (eM L) L p3) fun d p4=> .ok (⟨a,b,c,d⟩,p4)
theorem iM {α:Type} {f:Nat→Except Nat (α×Nat)} {n q q1:Nat} {a:α} {acc:List α} (h:f q= .ok (a,q1)):bnd (dD f (n+1) q) (fun l q' => .ok (acc++l,q'))=bnd (dD f n q1) (fun l q' => .ok ((acc++ [a])++l,q')):=by
 rw [dD,aR h]
 cases dD f n q1 with
 |ok x=>show Except.ok (acc++a::x.1,x.2)=Except.ok (acc++ [a]++x.1,x.2);rw [List.append_assoc];rfl
 |error k=>rfl
theorem jS {α β:Type} {f:Nat→Except Nat (α×Nat)} {n q k:Nat} {g:List α→Nat→Except Nat (β×Nat)} (h:f q= .error k):bnd (dD f (n+1) q) g= .error k:=by
 rw [dD,cL h]
 rfl
theorem fT {α:Type} {f:Nat→Except Nat (α×Nat)} {L:List UInt8} {p q m:Nat} (h:bA L p= .ok ((m:Int),q)) (hm:¬(L.length:Int)-(q:Int)<(m:Int)):bB f L p=bnd (dD f m q) (fun l q' => .ok ([]++l,q')):=by
 unfold bB
 rw [aR h,if_neg (by omega),Int.toNat_natCast]
 cases dD f m q with
 |ok x=>rfl
 |error k=>rfl
theorem eO {α:Type} {f:Nat→Except Nat (α×Nat)} {L:List UInt8} {p q:Nat} {n:Int} (h:bA L p= .ok (n,q)) (hm:n<0∨(L.length:Int)-(q:Int)<n):bB f L p= .error 9:=by
 unfold bB
 rw [aR h,if_pos hm]
def snV (x:Snd):Value:= .agg #[.int .i64 x.a,.int .i64 x.b,.int .i64 x.c,.int .i64 x.d]
def ouV (x:Ou):Value:= .agg #[.int .i64 x.a,.int .i64 x.b]
structure RB (B r:Nat) (L:List UInt8) (T:TypeId) (c2:Array Value) (w:World) (wr:World) (q:Nat) (c3:Array Value):Prop where
 rd:Rdr B wr r L q
 lt:r<w.heap.size
 gr:w.grownBy wr (some r)
 b2:wr.heap[w.heap.size]? =some (.cells c2 T (0,0))
 b3:wr.heap[w.heap.size+1]? =some (.cells c3 T (0,0))
section
variable {B r : Nat} {L : List UInt8} {T : TypeId} {c2 : Array Value} {w wr w' : World} {q q' : Nat} {c3 : Array Value}
theorem RB.new (h:Rdr B w r L q):∃W,W=(w.alloc (.cells c2 T)).alloc (.cells c3 T)∧RB B r L T c2 w W q c3:=by
 have hlt:=h.lt
 have hb1:Below w.heap.size w (w.alloc (.cells c2 T)):=(Below.refl _ w).alloc (Nat.le_refl _) _
 have hb2:Below (w.alloc (.cells c2 T)).heap.size (w.alloc (.cells c2 T)) ((w.alloc (.cells c2 T)).alloc (.cells c3 T)):=(Below.refl _ _).alloc (Nat.le_refl _) _
 have hb:=Below.ext hb1 hb2
 refine ⟨_,rfl,h.ext hb,hlt,⟨hb.os,hb.tape,hb.output,hb.size,fun i hi _=>hb.block i hi⟩,(hb2.block _ (by simp)).trans (heap_alloc_new _ _),?_⟩
 have:=heap_alloc_new (w.alloc (.cells c2 T)) (.cells c3 T)
 rwa [World.size_alloc] at this
theorem RB.sz (h:RB B r L T c2 w wr q c3):w.heap.size+2≤wr.heap.size:=(Array.getElem?_eq_some_iff.1 h.b3).1
theorem RB.call (h:RB B r L T c2 w wr q c3) (hR:Rdr B w' r L q') (hg:wr.grownBy w' (some r)):RB B r L T c2 w w' q' c3:=
 have hs:=h.sz
 have hl:=h.lt
 ⟨hR,h.lt,bD h.gr hg,(hg.block _ (by omega) (by simp;omega)).trans h.b2,(hg.block _ (by omega) (by simp;omega)).trans h.b3⟩
theorem RB.set (h:RB B r L T c2 w wr q c3) (o:Nat) (v:Value):RB B r L T c2 w (wr.setCell ⟨w.heap.size+1,o,none⟩ v) q (c3.setIfInBounds o v):=
 have hs:=h.sz
 have hl:=h.lt
 have hB:=h.rd.1
 have hg:wr.grownBy (wr.setCell ⟨w.heap.size+1,o,none⟩ v) (some (w.heap.size+1)):=aO ⟨rfl,rfl,rfl,Nat.le_refl _,fun _ _ _=>rfl⟩
 ⟨h.rd.grown hg (fun m hm=>by cases hm;omega),h.lt,⟨hg.os.trans h.gr.os,hg.tape.trans h.gr.tape,hg.output.trans h.gr.output,Nat.le_trans h.gr.size hg.size,fun i hi hne=>(hg.block i (Nat.lt_of_lt_of_le hi h.gr.size) (by simp;omega)).trans (h.gr.block i hi hne)⟩,
  (hg.block _ (by omega) (by simp)).trans h.b2,heap_setCell_same _ _ o _ _ _ h.b3⟩
theorem RB.end_ (h:RB B r L T c2 w wr q c3) (cs:Array Value):Rdr B (wr.setRow w.heap.size cs) r L q∧w.grownBy (wr.setRow w.heap.size cs) (some r):=
 have hs:=h.sz
 have hl:=h.lt
 have hB:=h.rd.1
 have hg:=aJ wr w.heap.size cs
 ⟨h.rd.grown hg (fun m hm=>by cases hm;omega),⟨hg.os.trans h.gr.os,hg.tape.trans h.gr.tape,hg.output.trans h.gr.output,Nat.le_trans h.gr.size hg.size,fun i hi hne=>(hg.block i (Nat.lt_of_lt_of_le hi h.gr.size) (by simp;omega)).trans (h.gr.block i hi hne)⟩⟩
theorem RB.cell (h:RB B r L T c2 w wr q c3) (o:Nat) {v:Value} (hv:c3[o]? =some v):wr.cell? ⟨w.heap.size+1,o,none⟩=some v:=by rw [cell_of_row _ _ _ _ _ _ h.b3];exact hv
theorem RB.frz (h:RB B r L T c2 w wr q c3) (o:Nat):wr.frozen? ⟨w.heap.size+1,o,none⟩=false:=frozen_of_row _ _ _ _ _ h.b3
end
end Go.Proofs.YtiblijmngokcgaaGreatDoor
