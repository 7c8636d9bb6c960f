import Derived.Test.YtiblijmngokcgaaGreatDoorMacZs
import Derived.WalkKit
import Derived.WalkSpells
import Derived.WalkLawsBesides
import Derived.Lib.Hide
import Derived.Lib.SlBytesConst
import Derived.Outline
import Derived.Deep.MidRow
import Derived.Deep.Draws
import Derived.Laws.Rows
import Derived.Laws.Tables
import Derived.Deep.WholeRow
import Derived.OrdersHeld
import Derived.Deep.QuietTactic
import Derived.BigQuiet
import Derived.Maps.AppendAt
import Derived.OwnWalk
import Derived.Laws.MakeOwn
namespace Go.Proofs.YtiblijmngokcgaaGreatDoor
open Go.RowKit
set_option linter.unusedVariables false
theorem jC {k:IntKind} {a b:Int} (h:a=b):Ending.returned (.int k a)= .returned (.int k b):=by rw [h]
def bv (c:UInt8):Value:= .int .u8 (c.toNat:Int)
theorem vX (c:UInt8):bv c= .int .u8 (c.toNat:Int):=rfl
theorem gI (c:UInt8):c.toNat<256:=c.toNat_lt
def Cs (S:Nat→Prop) (w:World) (A:Option Addr) (xs:List Value):Prop:=
 0<xs.length→∃b off,A=some ⟨b,off,none⟩∧S b∧∀j u,xs[j]? =some u→w.cell? ⟨b,off+j,none⟩=some u
def Keep (S:Nat→Prop) (w w' :World):Prop:=∀b,b<w.heap.size→S b→w'.heap[b]? =w.heap[b]?
theorem Below.ext {w w1 w2:World} (h:Below w.heap.size w w1) (k:Below w1.heap.size w1 w2):Below w.heap.size w w2:=h.trans (k.mono h.size)
theorem aO {w wr:World} {g j:Nat} {v:Value} (h:w.grownBy wr (some g)):w.grownBy (wr.setCell ⟨g,j,none⟩ v) (some g):=
 ⟨h.os,h.tape,h.output,by simpa [World.setCell] using h.size,fun k hk hne=>(Below.heap_setCell wr ⟨g,j,none⟩ v k (fun e=>hne (by rw [e]))).trans (h.block k hk hne)⟩
theorem Below.grow {w w1 w2:World} {g:Nat} (h:Below w.heap.size w w1) (hg:w1.grownBy w2 (some g)) (hle:w.heap.size≤g):Below w.heap.size w w2:=h.grown hg h.size (fun k e=>by cases e;exact hle)
theorem Keep.of_below {S:Nat→Prop} {w w' :World} (h:Below w.heap.size w w'):Keep S w w' :=fun b hb _=>h.block b hb
theorem Keep.of_grown {w w' :World} {m:Nat} (h:w.grownBy w' (some m)):Keep (·≠m) w w' :=fun b hb hs=>h.block b hb (by simpa using hs)
theorem Keep.cell {S:Nat→Prop} {w w' :World} (h:Keep S w w') {b o:Nat} {v:Value} (hs:S b) (hc:w.cell? ⟨b,o,none⟩=some v):w'.cell? ⟨b,o,none⟩=some v:=
 (World.cell?_of_block (h b (block_lt_of_cell hc) hs)).trans hc
theorem Cs.keep {S:Nat→Prop} {w w' :World} {A:Option Addr} {xs:List Value} (h:Cs S w A xs) (hk:Keep S w w'):Cs S w' A xs:=fun hn=>by
 obtain ⟨b,off,rfl,hs,hc⟩:=h hn
 exact ⟨b,off,rfl,hs,fun j u hu=>hk.cell hs (hc j u hu)⟩
theorem Cs.mono {S S' :Nat→Prop} {w:World} {A:Option Addr} {xs:List Value} (h:Cs S w A xs) (hs:∀b,b<w.heap.size→S b→S' b):Cs S' w A xs:=fun hn=>by
 obtain ⟨b,off,rfl,hb,hc⟩:=h hn
 refine ⟨b,off,rfl,hs b ?_ hb,hc⟩
 have:=hc 0 (xs[0]) (List.getElem?_eq_getElem hn)
 exact block_lt_of_cell this
theorem Cs.nil_ (S:Nat→Prop) (w:World) (A:Option Addr):Cs S w A []:=fun h=>absurd h (by simp)
theorem Cs.at_ {S:Nat→Prop} {w:World} {A:Option Addr} {xs:List Value} {k:Nat} {u:Value} (h:Cs S w A xs) (hu:xs[k]? =some u):
 ∃b off,A=some ⟨b,off,none⟩∧S b∧b<w.heap.size∧w.cell? ⟨b,off+k,none⟩=some u:=by
 obtain ⟨hk,_⟩:=List.getElem?_eq_some_iff.1 hu
 obtain ⟨b,off,rfl,hs,hc⟩:=h (by omega)
 exact ⟨b,off,rfl,hs,block_lt_of_cell (hc k u hu),hc k u hu⟩
theorem Cs.drop_ {S:Nat→Prop} {w:World} {A:Option Addr} {xs:List Value} (h:Cs S w A xs) (k:Nat) {c:Prop} [Decidable c] (hc:c→xs.length≤k):
 Cs S w (if c then A else A.map (·.add k)) (xs.drop k):=fun hn=>by
 rw [List.length_drop] at hn
 obtain ⟨b,off,rfl,hs,hcell⟩:=h (by omega)
 rw [if_neg (fun e=>by have:=hc e;omega)]
 refine ⟨b,off+k,by simp [Addr.add_mid],hs,fun j u hu=> ?_⟩
 rw [List.getElem?_drop] at hu
 rw [Nat.add_assoc]
 exact hcell _ u hu
theorem Cs.take_ {S:Nat→Prop} {w:World} {A:Option Addr} {xs:List Value} (h:Cs S w A xs) (k:Nat):Cs S w A (xs.take k):=fun hn=>by
 rw [List.length_take] at hn
 obtain ⟨b,off,rfl,hs,hcell⟩:=h (by omega)
 refine ⟨b,off,rfl,hs,fun j u hu=>hcell j u ?_⟩
 rw [List.getElem?_take] at hu
 split at hu
 ·exact hu
 ·cases hu
def Bytes (S:Nat→Prop) (w:World) (v:Value) (l:List UInt8):Prop:=∃A c,v= .slice A l.length c∧l.length≤c∧c≤maxLen∧Cs S w A (l.map bv)
theorem Bytes.keep {S:Nat→Prop} {w w' :World} {v:Value} {l:List UInt8} (h:Bytes S w v l) (hk:Keep S w w'):Bytes S w' v l:=by
 obtain ⟨A,c,rfl,h1,h2,h3⟩:=h
 exact ⟨A,c,rfl,h1,h2,h3.keep hk⟩
theorem Bytes.ext {S:Nat→Prop} {w w' :World} {v:Value} {l:List UInt8} (h:Bytes S w v l) (hk:Below w.heap.size w w'):Bytes S w' v l:=h.keep (Keep.of_below hk)
theorem Bytes.mono {S S' :Nat→Prop} {w:World} {v:Value} {l:List UInt8} (h:Bytes S w v l) (hs:∀b,b<w.heap.size→S b→S' b):Bytes S' w v l:=by
 obtain ⟨A,c,rfl,h1,h2,h3⟩:=h
 exact ⟨A,c,rfl,h1,h2,h3.mono hs⟩
theorem Bytes.drew {S:Nat→Prop} {w:World} {v:Value} {l:List UInt8} (h:Bytes S w v l):Bytes S w.drew v l:=h
theorem Bytes.nil_ (S:Nat→Prop) (w:World):Bytes S w (.slice none 0 0) []:=⟨none,0,rfl,by simp,by simp [maxLen],Cs.nil_ _ _ _⟩
theorem Cs.byte {S:Nat→Prop} {w:World} {A:Option Addr} {l:List UInt8} {k:Nat} (h:Cs S w A (l.map bv)) (hk:k<l.length):
 ∃b off x,A=some ⟨b,off,none⟩∧S b∧b<w.heap.size∧l[k]? =some x∧w.cell? ⟨b,off+k,none⟩=some (.int .u8 (x.toNat:Int)):=by
 obtain ⟨b,off,rfl,hs,hb,hc⟩:=h.at_ (k:=k) (u:=bv l[k]) (by simp [hk])
 exact ⟨b,off,l[k],rfl,hs,hb,List.getElem?_eq_getElem hk,hc⟩
theorem Cs.lit {S:Nat→Prop} (w:World) (C:Array Value) (e:TypeId) (fr:Nat×Nat) (xs:List Value) (hS:S w.heap.size) (h:C.toList.take xs.length=xs):
 Cs S (w.alloc (.cells C e fr)) (some ⟨w.heap.size,0,none⟩) xs:=fun _=>by
 refine ⟨_,0,rfl,hS,fun j u hu=> ?_⟩
 rw [cell_of_row _ _ _ C e fr (heap_alloc_new w _)]
 rw [←h,List.getElem?_take] at hu
 split at hu
 ·simpa using hu
 ·cases hu
theorem Bytes.lit {S:Nat→Prop} (w:World) (C:Array Value) (e:TypeId) (fr:Nat×Nat) (l:List UInt8) (n c:Nat) (hS:S w.heap.size) (hn:l.length=n) (hc:n≤c) (hm:c≤maxLen) (h:C.toList.take n=l.map bv):
 Bytes S (w.alloc (.cells C e fr)) (.slice (some ⟨w.heap.size,0,none⟩) n c) l:=by
 subst hn
 exact ⟨_,c,rfl,hc,hm,Cs.lit w C e fr _ hS (by simpa using h)⟩
theorem Bytes.take_ {S:Nat→Prop} {w:World} {A:Option Addr} {n c:Nat} {l:List UInt8} (h:Bytes S w (.slice A n c) l) {k:Nat} (hk:k≤n):Bytes S w (.slice A k c) (l.take k):=by
 obtain ⟨A',c',e,h1,h2,h3⟩:=h
 cases e
 exact ⟨A,c,by rw [List.length_take,Nat.min_eq_left hk],by rw [List.length_take,Nat.min_eq_left hk];omega,h2,by rw [List.map_take];exact h3.take_ k⟩
theorem Bytes.clip {S:Nat→Prop} {w:World} {A:Option Addr} {n c c' :Nat} {l:List UInt8} (h:Bytes S w (.slice A n c) l) (h1:n≤c') (h2:c'≤maxLen):Bytes S w (.slice A n c') l:=by
 obtain ⟨A',c'',e,g1,g2,g3⟩:=h
 cases e
 exact ⟨A,c',rfl,h1,h2,g3⟩
theorem Bytes.len {S:Nat→Prop} {w:World} {A:Option Addr} {n c:Nat} {l:List UInt8} (h:Bytes S w (.slice A n c) l):l.length=n∧n≤c∧c≤9223372036854775807:=by
 obtain ⟨A',c',e,h1,h2,h3⟩:=h
 cases e
 unfold maxLen at h2
 exact ⟨rfl,h1,h2⟩
theorem Bytes.drop_ {S:Nat→Prop} {w:World} {A:Option Addr} {n c:Nat} {l:List UInt8} (h:Bytes S w (.slice A n c) l) {k:Nat} (hk:k≤n) {q:Prop} [Decidable q] (hq:q→n≤k):
 Bytes S w (.slice (if q then A else A.map (·.add k)) (n-k) (c-k)) (l.drop k):=by
 obtain ⟨A',c',e,h1,h2,h3⟩:=h
 cases e
 refine ⟨_,c-k,by rw [List.length_drop],by rw [List.length_drop];omega,by omega,?_⟩
 rw [List.map_drop]
 exact h3.drop_ k (fun x=>by simpa using hq x)
def IsRow (k:IntKind) (w:World) (a:Option Addr) (len cap:Nat) (zs:List Int):Prop:=
 (a=none∧len=0∧cap=0∧zs=[])∨
 ∃x,a=some x∧len≤cap∧cap≤maxLen∧zs.length=cap∧(∀i,i<zs.length→w.cell? (x.add i)=some (.int k (zs.getD i 0)))∧∀n∈zs,(Lit.int k n).wf=true
theorem tS {w:World} {x:Addr} {v:Value} (h:w.cell? (x.add 0)=some v):∃b off,x=⟨b,off,none⟩:=by
 obtain ⟨b,off,spot⟩:=x
 have e:(⟨b,off,spot⟩:Addr).add 0=⟨b,off,spot⟩:=by simp [Addr.add]
 rw [e] at h
 cases spot with
 |none=>exact ⟨b,off,rfl⟩
 |some s=>simp [World.cell?] at h;split at h<;>simp at h
theorem GS {n:Int} (h:(Lit.int .u8 n).wf=true):0≤n∧n<256:=by
 simp [Lit.wf,IntKind.min,IntKind.max,IntKind.bits,IntKind.signed] at h
 omega
theorem IsRow.bytes {w:World} {a:Option Addr} {len cap:Nat} {zs:List Int} (h:IsRow .u8 w a len cap zs):
 ∃l:List UInt8,l.length=len∧len≤cap∧cap≤9223372036854775807∧Bytes (·<w.heap.size) w (.slice a len cap) l:=by
 rcases h with ⟨rfl,rfl,rfl,rfl⟩|⟨x,rfl,hl,hm,hz,hc,hw⟩
 ·exact ⟨[],rfl,by omega,by omega,Bytes.nil_ _ _⟩
 ·refine ⟨(zs.take len).map (fun n=>UInt8.ofNat n.toNat),by simp;omega,hl,by unfold maxLen at hm;omega,some x,cap,by simp;omega,by simp;omega,hm,?_⟩
  intro hn
  have hn' :0<zs.length:=by simp at hn;omega
  obtain ⟨b,off,rfl⟩:=tS (hc 0 hn')
  refine ⟨b,off,rfl,block_lt_of_cell (hc 0 hn'),fun j u hu=> ?_⟩
  have hj:j<zs.length∧j<len:=by
   have:=(List.getElem?_eq_some_iff.1 hu).1
   simp at this;omega
  have:=hc j hj.1
  rw [Addr.add_mid] at this
  rw [this]
  have hm:=GS (hw zs[j] (List.getElem_mem hj.1))
  simp [hj.1,hj.2,vX] at hu
  rw [←hu]
  simp [hj.1]
  omega
theorem uI {P:Program} (w:World) (at_:Array TypeId) (ty:TypeId) (a b:Int):(Builtin.min_ at_ ty #[.int .i64 a,.int .i64 b]).run P w= .ok (.int .i64 (min a b)) w:=by
 have e:min a b=if b<a then b else a:=by split<;>omega
 rw [e]
 rfl
theorem DS {P:Program} (w:World) (at_:Array TypeId) (ty:TypeId) (a b:Int):(Builtin.max_ at_ ty #[.int .i64 a,.int .i64 b]).run P w= .ok (.int .i64 (max a b)) w:=by
 have e:max a b=if a<b then b else a:=by split<;>omega
 rw [e]
 rfl
def fP (l:List UInt8):Array Value:=(l.map bv).toArray
theorem tN (l:List UInt8):(fP l).size=l.length:=by simp [fP]
theorem qJ (l:List UInt8) (j:Nat):(fP l)[j]? =(l[j]?).map bv:=by simp [fP]
theorem GI (l:List UInt8) (j:Nat) (c:UInt8):(fP l).setIfInBounds j (bv c)=fP (l.set j c):=by
 simp [fP,List.map_set]
theorem rZ (n:Nat):madeCells #[.int .u8 0] n=fP (List.replicate n 0):=by
 apply Array.ext_getElem?
 intro i
 rw [qJ]
 by_cases h:i<n
 ·simp [madeCells,h,vX,Nat.mod_one]
 ·simp [madeCells,h]
def BRow (w:World) (g:Nat) (t:TypeId) (l:List UInt8):Prop:=w.heap[g]? =some (.cells (fP l) t (0,0))
theorem BRow.lt {w:World} {g:Nat} {t:TypeId} {l:List UInt8} (h:BRow w g t l):g<w.heap.size:=by
 rcases Nat.lt_or_ge g w.heap.size with hlt|hge
 ·exact hlt
 ·unfold BRow at h;rw [Array.getElem?_eq_none hge] at h;cases h
theorem BRow.at_ {w:World} {g:Nat} {t:TypeId} {l:List UInt8} {j:Nat} (h:BRow w g t l) (hj:j<l.length):∃x,l[j]? =some x∧w.cell? ⟨g,j,none⟩=some (.int .u8 (x.toNat:Int)):=by
 refine ⟨l[j],List.getElem?_eq_getElem hj,?_⟩
 rw [cell_of_row _ _ _ _ _ _ h,qJ,List.getElem?_eq_getElem hj]
 rfl
theorem BRow.frozen {w:World} {g:Nat} {t:TypeId} {l:List UInt8} (h:BRow w g t l) (j:Nat):w.frozen? ⟨g,j,none⟩=false:=frozen_of_row _ _ _ _ _ h
theorem BRow.new (w:World) (t:TypeId) (l:List UInt8):BRow (w.alloc (.cells (fP l) t)) w.heap.size t l:=heap_alloc_new w _
theorem BRow.drew {w:World} {g:Nat} {t:TypeId} {l:List UInt8} (h:BRow w g t l):BRow w.drew g t l:=h
theorem BRow.set_ {w:World} {g:Nat} {t:TypeId} {l:List UInt8} (h:BRow w g t l) (j:Nat) (c:UInt8):BRow (w.setCell ⟨g,j,none⟩ (.int .u8 (c.toNat:Int))) g t (l.set j c):=by
 unfold BRow at*
 rw [heap_setCell_same _ _ _ _ _ _ h,←GI]
 rfl
theorem BRow.ext {w w' :World} {g:Nat} {t:TypeId} {l:List UInt8} (h:BRow w g t l) (hb:Below w.heap.size w w'):BRow w' g t l:=(hb.block g h.lt).trans h
theorem BRow.keep {S:Nat→Prop} {w w' :World} {g:Nat} {t:TypeId} {l:List UInt8} (h:BRow w g t l) (hk:Keep S w w') (hs:S g):BRow w' g t l:=(hk g h.lt hs).trans h
theorem BRow.bytes {S:Nat→Prop} {w:World} {g:Nat} {t:TypeId} {l:List UInt8} (h:BRow w g t l) {n c:Nat} (hn:n=l.length) (hc:n≤c) (hm:c≤maxLen) (hS:S g):Bytes S w (.slice (some ⟨g,0,none⟩) n c) l:=by
 subst hn
 refine ⟨_,c,rfl,hc,hm,fun _=>⟨g,0,rfl,hS,fun j u hu=> ?_⟩⟩
 rw [cell_of_row _ _ _ _ _ _ h,qJ]
 simpa using hu
theorem BRow.below {B:Nat} {a w:World} {g j:Nat} {c:Value} (h:Below B a w) (hg:B≤g):Below B a (w.setCell ⟨g,j,none⟩ c):=h.setCell hg _
theorem aC {P:Program} {ops:Array Oper} {rest:List Oper} {op:Oper} {a:Act} {w:World} {Q:Exit→Act→World→Prop} (hgd:op.guard=none) (ty:TypeId) (x y:Operand) (ho:op.op= .store ty x y)
 (g:Nat) (t:TypeId) (old cells:Array Value) (hx:a.eval x= .pointer (some ⟨g,0,none⟩)) (hy:a.eval y= .agg cells) (hg:w.heap[g]? =some (.cells old t (0,0)))
 (hi:(P.info? ty).map (·.size)=some cells.size) (hs:old.size=cells.size) (h1:cells.all (·.oneCell')=true)
 (h:wpList P ops Q rest (a.put op.dst undef) (w.setRow g cells)):wpList P ops Q (op::rest) a w:=
 wpList_plain hgd fun _ hK=>by
  unfold Oper.wp execOp
  simp only [ho,hx,hy,Instr.storeAt,Instr.sureAddr,Sem.run_bind,Sem.run_pure,Result.andThen_ok,run_storeVar_row w g t ty old cells hg hi hs h1]
  exact hK _ _ h
theorem aF {P:Program} {ops:Array Oper} {rest:List Oper} {op:Oper} {a:Act} {w:World} {Q:Exit→Act→World→Prop} (hgd:op.guard=none) (ty:TypeId) (x y:Operand) (ho:op.op= .store ty x y)
 (t:TypeId) (old cells:Array Value) (hx:a.eval x= .pointer (some ⟨w.heap.size,0,none⟩)) (hy:a.eval y= .agg cells)
 (hi:(P.info? ty).map (·.size)=some cells.size) (hs:old.size=cells.size) (h1:cells.all (·.oneCell')=true)
 (h:wpList P ops Q rest (a.put op.dst undef) (w.alloc (.cells cells t))):wpList P ops Q (op::rest) a (w.alloc (.cells old t)):=by
 refine aC hgd ty x y ho w.heap.size t old cells hx hy (heap_alloc_new w _) hi hs h1 ?_
 rw [World.setRow_alloc_new]
 exact h
theorem Below.setRow {B:Nat} {a w:World} (h:Below B a w) {g:Nat} (hg:B≤g) (cs:Array Value):Below B a (w.setRow g cs):=
 ⟨h.os,h.tape,h.output,by simpa using h.size,fun k hk=>(setRow_other w g k cs (by omega)).trans (h.block k hk)⟩
end Go.Proofs.YtiblijmngokcgaaGreatDoor
namespace Go.Proofs.YtiblijmngokcgaaGreatDoor
set_option linter.unusedVariables false
def Only (K:Act→World→Prop):Exit→Act→World→Prop
 | .normal,a,w=>K a w
 |_,_,_=>False
theorem mF (K:Act→World→Prop) (a:Act) (w:World):Only K .normal a w=K a w:=rfl
theorem lJ {K:Act→World→Prop}:¬LetsOut (Only K):=fun ⟨_,_,h⟩=>h
theorem Only.to {Q:Exit→Act→World→Prop}:∀(e:Exit) (a:Act) (w:World),Only (Q .normal) e a w→Q e a w:=fun e a w h=>by
 cases e<;>first|exact h|exact (h:False).elim
section
variable {P : Program} {ops : Array Oper} {K0 : Act → World → Prop} {S : World → Prop} {kd : Oper → Nat}
def Qu (P:Program) (o:Oper):Prop:=∀ρ w,(∃v,(execOp ρ o).run P w= .ok (.value v) w)∨(∃h w',(execOp ρ o).run P w= .halt h w')
theorem jP {o:Oper} {a:Act} {K:Act→World→Prop} {h:Halt} {w:World}:¬o.upon P a K (Only K0) (.halt h w):=by
 cases h<;>simp [Oper.upon,Only]
def bK (P:Program) (ops:Array Oper) (S:World→Prop) (kd:Oper→Nat) (K0:Act→World→Prop):List Oper→Act→World→Prop
 |[],a,w=>K0 a w
 |o::rest,a,w=>
  if kd o=0 then∃v,YieldsIf P ops S o v a∧bK P ops S kd K0 rest (a.put o.dst v) w
  else wpList P ops (Only (fun a' w' =>S w'∧bK P ops S kd K0 rest a' w')) [o] a w
theorem mQ {o:Oper} {a:Act} {w:World} {K:Act→World→Prop}:
 wpList P ops (Only K) [o] a w↔(if Region.wanted o (yielded ops a.tmps)=true then o.wp P a w K (Only K) else K (a.put o.dst undef) w):=by
 simp only [wpList]
 split
 ·constructor
  ·rintro (h|⟨_,h⟩)
   ·exact Oper.wp_mono (fun _ _ h=>h) h
   ·exact (lJ h).elim
  ·intro h
   exact .inl (Oper.wp_mono (fun _ _ h=>h) h)
 ·exact Iff.rfl
theorem jA {o:Oper} {a:Act} {w:World} {K K1 K2:Act→World→Prop} (h:o.wp P a w K (Only K1)):o.wp P a w K (Only K2):=by
 unfold Oper.wp at*
 generalize (execOp a.eval o).run P w=r at*
 cases r with
 |ok n w' =>
  cases n<;>simp only [Oper.upon] at h ⊢
  case value u=>exact h
  case skip=>exact h
  case defer d=>exact h
  case enter f args=>
   refine Calls.mono h fun e w'' he=> ?_
   cases e with
   |returned u=>exact he
   |panicked c=>exact he
   |outgrown=>exact (lJ he).elim
  case row row args=>exact h
 |halt x w' =>exact (jP h).elim
theorem gF {o:Oper} {a:Act} {w:World} {rest:List Oper} (hk:kd o≠0):
 bK P ops S kd K0 (o::rest) a w↔(if Region.wanted o (yielded ops a.tmps)=true then o.wp P a w (fun a' w' =>S w'∧bK P ops S kd K0 rest a' w') (Only K0) else (S w∧bK P ops S kd K0 rest (a.put o.dst undef) w)):=by
 show (if kd o=0 then _ else _)↔_
 rw [if_neg hk,mQ]
 split
 ·exact ⟨jA,jA⟩
 ·exact Iff.rfl
def YW (P:Program) (ops:Array Oper) (w:World) (o:Oper) (v:Value) (a:Act):Prop:=
 (Region.wanted o (yielded ops a.tmps)=true∧(execOp a.eval o).run P w= .ok (.value v) w)∨(Region.wanted o (yielded ops a.tmps)=false∧v=undef)
theorem YW.wpOp {i:Nat} {o:Oper} {v:Value} {a:Act} {w:World} {Q:Exit→Act→World→Prop} (hi:ops[i]? =some o) (hy:YW P ops w o v a) {K:Act→World→Prop} (h:K (a.put o.dst v) w):wpOp P ops Q i K a w:=by
 unfold Go.wpOp
 simp only [hi]
 rcases hy with ⟨hw,hv⟩|⟨hw,rfl⟩
 ·simp only [hw,if_true,Oper.wp,hv,Oper.upon];exact .inl h
 ·simp only [hw,Bool.false_eq_true,if_false];exact h
theorem jN {o:Oper} {v:Value} {a:Act} {w:World} (hy:YieldsIf P ops S o v a) (hS:S w):YW P ops w o v a:=by
 rcases hy with ⟨x,y⟩|z
 ·exact .inl ⟨x,y w hS⟩
 ·exact .inr z
theorem YW.cons {o:Oper} {v:Value} {a:Act} {w:World} {rest:List Oper} (hk:kd o≠0) (hS:S w) (hy:YW P ops w o v a) (h:bK P ops S kd K0 rest (a.put o.dst v) w):bK P ops S kd K0 (o::rest) a w:=by
 rw [gF hk]
 rcases hy with ⟨hw,hv⟩|⟨hw,rfl⟩
 ·simp only [hw,if_true,Oper.wp,hv,Oper.upon];exact ⟨hS,h⟩
 ·simp only [hw,Bool.false_eq_true,if_false];exact ⟨hS,h⟩
theorem YW.same {o:Oper} {v:Value} {a a' :Act} {w:World} (hy:YW P ops w o v a) (he:execOp a'.eval o=execOp a.eval o)
 (hw:Region.wanted o (yielded ops a'.tmps)=Region.wanted o (yielded ops a.tmps)):YW P ops w o v a' :=by
 unfold YW at*
 rw [he,hw]
 exact hy
theorem eL {o:Oper} {v:Value} {a:Act} {w:World} {rest:List Oper} (hk:kd o=0) (hy:YieldsIf P ops S o v a) (h:bK P ops S kd K0 rest (a.put o.dst v) w):bK P ops S kd K0 (o::rest) a w:=by
 show (if kd o=0 then _ else _)
 rw [if_pos hk]
 exact ⟨v,hy,h⟩
theorem mK {o:Oper} {a:Act} {w:World} {rest:List Oper} (hS:S w) (hq:kd o=0∨(kd o=1∧Qu P o)) (h:bK P ops S kd K0 (o::rest) a w):
 ∃v,YW P ops w o v a∧(kd o=0→YieldsIf P ops S o v a)∧bK P ops S kd K0 rest (a.put o.dst v) w:=by
 rcases hq with h0|⟨h1,hq⟩
 ·replace h:(if kd o=0 then _ else _):=h
  rw [if_pos h0] at h
  obtain ⟨v,hv,h⟩:=h
  exact ⟨v,jN hv hS,fun _=>hv,h⟩
 ·rw [gF (by omega)] at h
  by_cases hw:Region.wanted o (yielded ops a.tmps)=true
  ·simp only [hw,if_true] at h
   unfold Oper.wp at h
   rcases hq a.eval w with ⟨v,hv⟩|⟨x,w',hx⟩
   ·rw [hv] at h
    exact ⟨v,.inl ⟨hw,hv⟩,fun h0=>by omega,h.2⟩
   ·rw [hx] at h
    exact (jP h).elim
  ·simp only [hw] at h
   exact ⟨undef,.inr ⟨by simpa using hw,rfl⟩,fun h0=>by omega,h.2⟩
theorem JP {o:Oper} {v:Value} {a:Act} {w:World} {rest:List Oper} (hS:S w) (hy:YW P ops w o v a) (h0:kd o=0→YieldsIf P ops S o v a) (h:bK P ops S kd K0 rest (a.put o.dst v) w):bK P ops S kd K0 (o::rest) a w:=by
 by_cases hk:kd o=0
 ·exact eL hk (h0 hk) h
 ·exact hy.cons hk hS h
theorem cG {x y:Oper} (hs:∀cs b,y.op≠ .select cs b) (hap:x.apart ops y=true) (a:Act) (v:Value):
 execOp (a.put x.dst v).eval y=execOp a.eval y∧Region.wanted y (yielded ops (a.put x.dst v).tmps)=Region.wanted y (yielded ops a.tmps):=
 ⟨execOp_put y hs a x.dst v (Oper.apart_spec hap).1,wanted_put y a x.dst v (Oper.apart_spec hap).1⟩
theorem bR {x y:Oper} (hs:∀cs b,x.op≠ .select cs b) (hap:x.apart ops y=true) (a:Act) (v:Value):
 execOp (a.put y.dst v).eval x=execOp a.eval x∧Region.wanted x (yielded ops (a.put y.dst v).tmps)=Region.wanted x (yielded ops a.tmps):=
 ⟨execOp_put x hs a y.dst v (Oper.apart_spec hap).2.2,wanted_put x a y.dst v (Oper.apart_spec hap).2.2⟩
theorem lC {oj:Oper} (hj:kd oj=1∧Qu P oj) (hsj:∀cs b,oj.op≠ .select cs b) {post:List Oper}:
 ∀(pre:List Oper) (a:Act) (w:World),S w→(∀k∈pre,(kd k=0∨(kd k=1∧Qu P k))∧oj.apart ops k=true∧∀cs b,k.op≠ .select cs b)→bK P ops S kd K0 (pre++oj::post) a w→
  ∃v,YW P ops w oj v a∧bK P ops S kd K0 (pre++post) (a.put oj.dst v) w
 |[],a,w,hS,_,h=>by
  obtain ⟨v,h1,_,h2⟩:=mK hS (.inr hj) h
  exact ⟨v,h1,h2⟩
 |k::pre,a,w,hS,hp,h=>by
  obtain ⟨hk,hap,hsk⟩:=hp k (by simp)
  obtain ⟨u,hu,hu0,h1⟩:=mK hS hk h
  obtain ⟨v,hv,h2⟩:=lC hj hsj pre _ w hS (fun x hx=>hp x (by simp [hx])) h1
  obtain ⟨e1,e2⟩:=bR hsj hap a u
  obtain ⟨e3,e4⟩:=cG hsk hap a v
  refine ⟨v,hv.same e1.symm e2.symm,JP hS (hu.same e3 e4) (fun h0=>(hu0 h0).of_same e3 e4) ?_⟩
  rw [Act.put_comm a v u (Oper.apart_spec hap).2.1]
  exact h2
theorem oW {o:Oper} {a:Act} {w:World} {K:Act→World→Prop} (h:o.wp P a w K (Only K0)):
 ∃u w',(K (a.put o.dst u) w'∨∃d,K ({a with defers:=d::a.defers}.put o.dst u) w'):=by
 unfold Oper.wp at h
 generalize (execOp a.eval o).run P w=r at*
 cases r with
 |ok n w' =>
  cases n<;>simp only [Oper.upon] at h
  case value u=>exact ⟨u,w',.inl h⟩
  case skip=>exact ⟨undef,w',.inl h⟩
  case defer d=>exact ⟨undef,w',.inr ⟨d,h⟩⟩
  case enter f args=>
   obtain ⟨e,w2,fr,hR,_⟩:=h []
   cases e with
   |returned u=>exact ⟨u,w2,.inl hR⟩
   |panicked c=>exact hR.elim
   |outgrown=>exact (lJ hR).elim
  case row row args=>
   obtain ⟨u,w2,hR,_⟩:=h default []
   exact ⟨u,w2,.inl hR⟩
 |halt x w' =>exact (jP h).elim
theorem iJ {oj k:Oper} {v:Value} (hap:oj.apart ops k=true) (hsk:∀cs b,k.op≠ .select cs b) {K:Act→World→Prop} {a:Act} {w:World}
 (h:k.wp P a w (fun a' w' =>K (a'.put oj.dst v) w') (Only K0)):k.wp P (a.put oj.dst v) w K (Only K0):=by
 have h2:=(Oper.apart_spec hap).2.1
 unfold Oper.wp at*
 rw [(cG hsk hap a v).1]
 generalize (execOp a.eval k).run P w=r at*
 cases r with
 |ok n w' =>
  cases n<;>simp only [Oper.upon] at h ⊢
  case value u=>rw [Act.put_comm a v u h2];exact h
  case skip=>rw [Act.put_comm a v undef h2];exact h
  case defer d=>rw [Act.put_defers,Act.put_comm _ v undef h2];exact h
  case enter f args=>
   refine Calls.mono h fun e w'' he=> ?_
   cases e with
   |returned u=>
    show K ((a.put oj.dst v).put k.dst u) w''
    rw [Act.put_comm a v u h2];exact he
   |panicked c=>exact he
   |outgrown=>exact he
  case row row args=>exact Rows.mono h fun u w'' he=>by rw [Act.put_comm a v u h2];exact he
 |halt x w' =>exact (jP h).elim
theorem nN {k:Oper} {K:Act→World→Prop} {a:Act} {w:World} (h:k.wp P a w K (Only K0)):
 k.wp P a w (fun a' w' =>K a' w'∧((∃u,a' =a.put k.dst u)∨∃d u,a' ={a with defers:=d::a.defers}.put k.dst u)) (Only K0):=by
 unfold Oper.wp at*
 generalize (execOp a.eval k).run P w=r at*
 cases r with
 |ok n w' =>
  cases n<;>simp only [Oper.upon] at h ⊢
  case value u=>exact ⟨h,.inl ⟨u,rfl⟩⟩
  case skip=>exact ⟨h,.inl ⟨undef,rfl⟩⟩
  case defer d=>exact ⟨h,.inr ⟨d,undef,rfl⟩⟩
  case enter f args=>
   refine Calls.mono h fun e w'' he=> ?_
   cases e with
   |returned u=>exact ⟨he,.inl ⟨u,rfl⟩⟩
   |panicked c=>exact he
   |outgrown=>exact he
  case row row args=>exact Rows.mono h fun u w'' he=>⟨he,.inl ⟨u,rfl⟩⟩
 |halt x w' =>exact (jP h).elim
theorem eN {oj:Oper} {a:Act} {w:World} (hS:S w) {v v' :Value} (hy:YieldsIf P ops S oj v a) (hy' :YieldsIf P ops S oj v' a):v=v' :=by
 rcases hy with ⟨hw,hr⟩|⟨hw,rfl⟩<;>rcases hy' with ⟨hw',hr'⟩|⟨hw',rfl⟩
 ·have:=(hr w hS).symm.trans (hr' w hS);simpa using this
 ·rw [hw] at hw';cases hw'
 ·rw [hw] at hw';cases hw'
 ·rfl
theorem iC {oj:Oper} (hj:kd oj=0) (hsj:∀cs b,oj.op≠ .select cs b) {post:List Oper}:
 ∀(pre:List Oper) (a:Act) (w:World),S w→(∀k∈pre,oj.apart ops k=true∧∀cs b,k.op≠ .select cs b)→bK P ops S kd K0 (pre++oj::post) a w→
  ∃v,YieldsIf P ops S oj v a∧bK P ops S kd K0 (pre++post) (a.put oj.dst v) w
 |[],a,w,hS,_,h=>by
  obtain ⟨v,hv,h0,h1⟩:=mK hS (.inl hj) h
  exact ⟨v,h0 hj,h1⟩
 |k::pre,a,w,hS,hp,h=>by
  obtain ⟨hap,hsk⟩:=hp k (by simp)
  have ih:=fun a w hS=>iC hj hsj (post:=post) pre a w hS (fun x hx=>hp x (by simp [hx]))
  have back:∀u v,YieldsIf P ops S oj v (a.put k.dst u)→YieldsIf P ops S oj v a:=fun u v hy=>
   hy.of_same (bR hsj hap a u).1.symm (bR hsj hap a u).2.symm
  have backD:∀d u v,YieldsIf P ops S oj v ({a with defers:=d::a.defers}.put k.dst u)→YieldsIf P ops S oj v a:=fun d u v hy=>by
   exact Tzco
  replace h:bK P ops S kd K0 (k::(pre++oj::post)) a w:=h
  by_cases hk:kd k=0
  ·obtain ⟨u,hu,hu0,h1⟩:=mK hS (.inl hk) h
   obtain ⟨v,hv,h2⟩:=ih _ w hS h1
   obtain ⟨e3,e4⟩:=cG hsk hap a v
   refine ⟨v,back u v hv,eL hk ((hu0 hk).of_same e3 e4) ?_⟩
   rw [Act.put_comm a v u (Oper.apart_spec hap).2.1]
   exact h2
  ·rw [gF hk] at h
   by_cases hw:Region.wanted k (yielded ops a.tmps)=true
   ·simp only [hw,if_true] at h
    obtain ⟨v,hv⟩:∃v,YieldsIf P ops S oj v a:=by
     obtain ⟨u,w',h1|⟨d,h1⟩⟩:=oW h
     ·obtain ⟨v,hv,_⟩:=ih _ _ h1.1 h1.2
      exact ⟨v,back u v hv⟩
     ·obtain ⟨v,hv,_⟩:=ih _ _ h1.1 h1.2
      exact ⟨v,backD d u v hv⟩
    refine ⟨v,hv,?_⟩
    show bK P ops S kd K0 (k::(pre++post)) (a.put oj.dst v) w
    rw [gF hk,(cG hsk hap a v).2]
    simp only [hw,if_true]
    refine iJ hap hsk ?_
    refine Oper.wp_mono (fun a' w' h1=> ?_) (nN h)
    obtain ⟨⟨hS',h1⟩,hsh⟩:=h1
    obtain ⟨v',hv',h2⟩:=ih _ _ hS' h1
    have:v=v' :=by
     exact Tzcq
    subst this
    exact ⟨hS',h2⟩
   ·simp only [hw] at h
    obtain ⟨v,hv,h2⟩:=ih _ _ h.1 h.2
    refine ⟨v,back _ v hv,?_⟩
    show bK P ops S kd K0 (k::(pre++post)) (a.put oj.dst v) w
    rw [gF hk,(cG hsk hap a v).2]
    simp only [hw]
    rw [Act.put_comm a v undef (Oper.apart_spec hap).2.1]
    exact ⟨h.1,h2⟩
theorem gN {j:Nat} {oj:Oper} (hj:ops[j]? =some oj) (hkj:kd oj≠0) (hsj:∀cs b,oj.op≠ .select cs b) {post:List Oper}:
 ∀(pre:List Oper) (a:Act) (w:World),S w→(∀k∈pre,kd k=0∧k.apart ops oj=true∧∀cs b,k.op≠ .select cs b)→bK P ops S kd K0 (pre++oj::post) a w→
  wpOp P ops (Only K0) j (fun a' w' =>S w'∧bK P ops S kd K0 (pre++post) a' w') a w
 |[],a,w,hS,_,h=>by
  replace h:bK P ops S kd K0 (oj::post) a w:=h
  rw [gF hkj] at h
  unfold wpOp
  simp only [hj]
  split
  ·rename_i hw
   simp only [hw,if_true] at h
   exact .inl h
  ·rename_i hw
   simp only [hw] at h
   exact h
 |k::pre,a,w,hS,hp,h=>by
  obtain ⟨hk,hap,hsk⟩:=hp k (by simp)
  obtain ⟨u,_,hu,h1⟩:=mK hS (.inl hk) h
  have h2:=gN hj hkj hsj (post:=post) pre (a.put k.dst u) w hS (fun x hx=>hp x (by simp [hx])) h1
  have h3:=wpOp_putIf hj hap hsk hsj (fun c a w h=>h) (hu hk) h2
  refine wpOp_mono (fun a' w' h4=> ?_) h3
  obtain ⟨hy,hS',h5⟩:=h4
  exact ⟨hS',eL hk hy h5⟩
def sH (acc:Array Nat) (o:Oper):Nat:=o.after.toList.foldl (fun s e=>if Region.binds .any e then s ||| 2^e.on ||| acc.getD e.on 0 else s) 0
def bef (l:List Oper):Array Nat:=l.foldl (fun acc o=>acc.push (sH acc o)) #[]
theorem tD (acc:Array Nat) (i:Nat):∀(es:List Edge) (s:Nat),(es.foldl (fun s e=>if Region.binds .any e then s ||| 2^e.on ||| acc.getD e.on 0 else s) s).testBit i=true→
 s.testBit i=true∨∃e∈es,Region.binds .any e=true∧(e.on=i∨(acc.getD e.on 0).testBit i=true)
 |[],s,h=> .inl h
 |e::es,s,h=>by
  rw [List.foldl_cons] at h
  rcases tD acc i es _ h with h1|⟨x,hx,hb,hi⟩
  ·split at h1
   ·rename_i hb
    rw [Nat.testBit_or,Nat.testBit_or,Nat.testBit_two_pow] at h1
    simp only [Bool.or_eq_true,decide_eq_true_eq] at h1
    rcases h1 with (h1|h1)|h1
    ·exact .inl h1
    ·exact .inr ⟨e,by simp,hb,.inl h1⟩
    ·exact .inr ⟨e,by simp,hb,.inr h1⟩
   ·exact .inl h1
  ·exact .inr ⟨x,by simp [hx],hb,hi⟩
theorem GM (l:List Oper) (o:Oper):bef (l++ [o])=(bef l).push (sH (bef l) o):=by simp [bef,List.foldl_append]
theorem nJ (l:List Oper):(bef l).size=l.length:=by
 have:∀(l:List Oper) (acc:Array Nat),(l.foldl (fun acc o=>acc.push (sH acc o)) acc).size=acc.size+l.length:=by
  intro l
  induction l with
  |nil=>intro acc;rfl
  |cons o l ih=>intro acc;rw [List.foldl_cons,ih];simp;omega
 simpa [bef] using this l #[]
theorem fQ (L:Nat→Prop) (l:List Oper):(∀k o,l[k]? =some o→L k→∀e∈o.after,Region.binds .any e=true→L e.on)→
 ∀j o,l[j]? =some o→(∀e∈o.after,Region.binds .any e=true→L e.on)→∀i,((bef l).getD j 0).testBit i=true→L i:=by
 suffices H:∀n,∀l:List Oper,l.length=n→(∀k o,l[k]? =some o→L k→∀e∈o.after,Region.binds .any e=true→L e.on)→
  ∀j o,l[j]? =some o→(∀e∈o.after,Region.binds .any e=true→L e.on)→∀i,((bef l).getD j 0).testBit i=true→L i from H l.length l rfl
 intro n
 induction n with
 |zero=>
  intro l hl _ j o hj
  rw [List.eq_nil_of_length_eq_zero hl] at hj
  simp at hj
 |succ n ih=>
  intro l hl hcl j o hj hpre i hbit
  obtain ⟨l0,x,rfl⟩:∃l0 x,l=l0++ [x]:=⟨l.dropLast,l.getLast (by intro h;simp [h] at hl),(List.dropLast_concat_getLast _).symm⟩
  have hl0:l0.length=n:=by simp at hl;omega
  have hcl0:∀k o,l0[k]? =some o→L k→∀e∈o.after,Region.binds .any e=true→L e.on:=fun k o hk=>hcl k o (by
   rw [List.getElem?_append_left (List.getElem?_eq_some_iff.1 hk).1];exact hk)
  have ih' :=ih l0 hl0 hcl0
  rw [GM] at hbit
  by_cases hjn:j<n
  ·rw [List.getElem?_append_left (by omega)] at hj
   refine ih' j o hj hpre i ?_
   rw [Array.getD_eq_getD_getElem?,Array.getElem?_push_lt (by rw [nJ];omega)] at hbit
   rw [Array.getD_eq_getD_getElem?,Array.getElem?_eq_getElem (by rw [nJ];omega)]
   exact hbit
  ·have hjl:j<(l0++ [x]).length:=(List.getElem?_eq_some_iff.1 hj).1
   have hjn' :j=n:=by simp at hjl;omega
   subst hjn'
   rw [List.getElem?_append_right (by omega)] at hj
   simp [hl0] at hj
   subst hj
   rw [Array.getD_eq_getD_getElem?,show j=(bef l0).size by rw [nJ];omega,Array.getElem?_push_size] at hbit
   rcases tD _ i _ _ hbit with h0|⟨e,he,hb,h1|h1⟩
   ·simp at h0
   ·rw [←h1];exact hpre e (by simpa using he) hb
   ·have hLe:=hpre e (by simpa using he) hb
    have hlt:e.on<l0.length:=by
     rcases Nat.lt_or_ge e.on l0.length with h|h
     ·exact h
     ·rw [Array.getD_eq_getD_getElem?,Array.getElem?_eq_none (by rw [nJ];omega)] at h1
      simp at h1
    exact ih' e.on l0[e.on] (List.getElem?_eq_getElem hlt) (hcl0 e.on _ (List.getElem?_eq_getElem hlt) hLe) i h1
def bY (kd:Oper→Nat) (ops:Array Oper) (x y:Oper):Bool:=
 x.apart ops y && y.apart ops x && (kd x==0 || kd y==0 || (kd x==1 && kd y==1))
def nA (kd:Oper→Nat) (ops:Array Oper) (l:List Oper) (b:Array Nat) (j:Nat):Bool:=
 match l[j]? with
 |none=>true
 |some y=>(y.after.all fun e=> !Region.binds .any e || decide (e.on<j)) &&
  (List.range j).all fun i=>match l[i]? with
   |none=>true
   |some x=>(b.getD j 0).testBit i || bY kd ops x y
def mE (kd:Oper→Nat) (l:List Oper):Bool:=Region.noSelect l.toArray && (List.range l.length).all (nA kd l.toArray l (bef l))
section
variable {P : Program} {K0 : Act → World → Prop}
def bL (l:List Oper) (rem:List Nat):List Oper:=rem.filterMap (fun i=>l[i]?)
theorem bT (l:List Oper) (r s:List Nat):bL l (r++s)=bL l r++bL l s:=by simp [bL]
theorem eP {l:List Oper} {j:Nat} {o:Oper} (h:l[j]? =some o) (s:List Nat):bL l (j::s)=o::bL l s:=by simp [bL,h]
theorem eS {l:List Oper} {r:List Nat} {o:Oper} (h:o∈bL l r):∃i∈r,l[i]? =some o:=by simpa [bL] using h
theorem uX (kd:Oper→Nat) (S:World→Prop) (hk1:∀o,kd o=1→Qu P o) (l:List Oper) (hB:mE kd l=true):
 ∀(n:Nat) (rem:List Nat) (listed:Array Bool) (a:Act) (w:World),S w→rem.length=n→(∀j,j∈rem↔listed.getD j true=false)→rem.Pairwise (·<·)→listed.size=l.length→
  (∀k o,l[k]? =some o→listed.getD k false=true→∀e∈o.after,Region.binds .any e=true→listed.getD e.on false=true)→
  bK P l.toArray S kd K0 (bL l rem) a w→wpAny P .any l.toArray (Only K0) n listed a w:=by
 have hns:Region.noSelect l.toArray=true:=by simp [mE] at hB;exact hB.1
 have hsel:∀(j:Nat) (o:Oper),l[j]? =some o→∀cs b,o.op≠ .select cs b:=fun j o ho cs b=>Region.noSelect_spec hns j o cs b (by simpa using ho)
 have hat:∀j o,l[j]? =some o→(∀e∈o.after,Region.binds .any e=true→e.on<j)∧∀i x,i<j→l[i]? =some x→((bef l).getD j 0).testBit i=true∨bY kd l.toArray x o=true:=by
  exact Tzb3
 intro n
 induction n with
 |zero=>
  intro rem listed a w _ hn hmem _ _ _ h
  exact Tzbu
 |succ n ih=>
  intro rem listed a w hS hn hmem hpw hsz hcl h
  have inr:∀j,j∈rem→j<l.length:=fun j hj=>by
   have:=(hmem j).1 hj
   exact Tzbr
  have unl:∀j,j<l.length→j∉rem→listed.getD j false=true:=fun j hj hm=>by
   exact Tzbv
  refine ⟨fun h0=> ?_,fun j hj=> ?_⟩
  ·exfalso
   match rem,hn with
   |m::rem',_=>
    have hm:m∈m::rem' :=by simp
    have hml:=inr m hm
    have ho:l[m]? =some l[m]:=List.getElem?_eq_getElem hml
    have:m∈Region.ready .any l.toArray listed:=mem_ready.2 ⟨(hmem m).1 hm,l[m],by simp,fun e he hb=>by
     have hlt:=(hat m _ ho).1 e he hb
     refine unl e.on (by omega) (fun hin=> ?_)
     rcases List.mem_cons.1 hin with rfl|hin
     ·omega
     ·have:=(List.pairwise_cons.1 hpw).1 _ hin
      omega⟩
    rw [h0] at this
    cases this
  ·obtain ⟨hun,o,ho,hpre⟩:=mem_ready.1 hj
   have ho' :l[j]? =some o:=by simpa using ho
   have hin:j∈rem:=(hmem j).2 hun
   obtain ⟨pre,post,rfl⟩:=List.append_of_mem hin
   rw [List.pairwise_append] at hpw
   obtain ⟨hp1,hp2,hp3⟩:=hpw
   have hjl:=inr j hin
   -- none of those before it is waited for
   have hpair:∀i x,i∈pre→l[i]? =some x→bY kd l.toArray x o=true:=fun i x hi hx=>by
    have hij:i<j:=hp3 i hi j (by simp)
    rcases (hat j o ho').2 i x hij hx with hb|hb
    ·exfalso
     have:=fQ (fun k=>listed.getD k false=true) l (fun k o hk hL=>hcl k o hk hL) j o ho' (fun e he hb=>hpre e he hb) i hb
     have h2:=(hmem i).1 (by simp [hi])
     have hlt:i<listed.size:=by omega
     simp [hlt] at this h2
     rw [this] at h2
     cases h2
    ·exact hb
   have hnj:j∉pre++post:=by
    exact Tzbi
   have hK:∀a' w',S w'→bK P l.toArray S kd K0 (bL l (pre++post)) a' w'→wpAny P .any l.toArray (Only K0) n (listed.setIfInBounds j true) a' w' :=by
    intro a' w' hS' h'
    refine ih (pre++post) _ a' w' hS' (by simp at hn ⊢;omega) (fun i=> ?_) ?_ (by simpa using hsz) ?_ h'
    ·exact Tza3
    ·exact Tzbt
    ·exact Tza2
   exact Tzag
theorem jH (l:List Oper):bL l (List.range l.length)=l:=by
 unfold bL
 apply List.ext_getElem?
 intro i
 have:∀(m:Nat) (hm:m≤l.length),(List.range m).filterMap (fun i=>l[i]?)=l.take m:=by
  exact Tzch
 rw [this _ (Nat.le_refl _),List.take_length]
def cY (o:Oper):Nat:=
 match o.op with
 | .move _| .assign _| .pick .. | .binOp .. | .unOp .. | .convert .. | .nilCheck _| .slice .. | .fieldAddr .. | .field .. | .indexAddr .. | .index .. | .extract .. =>0
 | .call {callee:= .builtin .len,.. }| .call {callee:= .builtin .cap,.. }| .call {callee:= .builtin .min,.. }| .call {callee:= .builtin .max,.. }=>0
 | .load .. =>1
 |_=>2
def C1 {α:Type} (P:Program) (w:World) (s:Sem α):Prop:=(∃v,s.run P w= .ok v w)∨(∃h w',s.run P w= .halt h w')
theorem C1.bind {α β:Type} {w:World} {s:Sem α} {f:α→Sem β} (h:C1 P w s) (hf:∀v,C1 P w (f v)):C1 P w (s >>= f):=by
 rcases h with ⟨v,hv⟩|⟨x,w',hx⟩
 ·rcases hf v with ⟨u,hu⟩|⟨x,w',hx⟩
  ·exact .inl ⟨u,by rw [Sem.run_bind,hv];exact hu⟩
  ·exact .inr ⟨x,w',by rw [Sem.run_bind,hv];exact hx⟩
 ·exact .inr ⟨x,w',by rw [Sem.run_bind,hx];rfl⟩
theorem C1.pure {α:Type} {w:World} (v:α):C1 P w (pure v:Sem α):= .inl ⟨v,rfl⟩
theorem C1.halt {α:Type} {w:World} (h:Halt):C1 P w (.halt h:Sem α):= .inr ⟨h,w,rfl⟩
theorem C1.program {w:World}:C1 P w program:= .inl ⟨P,rfl⟩
theorem C1.load {w:World} (a:Addr) (m:Mode):C1 P w (load a m):=by
 unfold Go.load
 cases h:w.cell? a with
 |some v=>exact .inl ⟨v,by simp [Sem.run,h]⟩
 |none=>
  cases h2:w.farLoad P a (m== .atomic) with
  |ok r=>exact .inl ⟨r.1,by simp [Sem.run,h,h2]⟩
  |error x=>exact .inr ⟨x,w,by simp [Sem.run,h,h2]⟩
theorem C1.typeInfo {w:World} (t:TypeId):C1 P w (typeInfo t):=by
 unfold Go.typeInfo
 refine C1.program.bind fun p=> ?_
 split
 ·exact C1.pure _
 ·exact C1.halt _
theorem C1.underlying {w:World} (t:TypeId):C1 P w (underlying t):=by
 unfold Go.underlying
 refine C1.program.bind fun p=> ?_
 split
 ·exact C1.pure _
 ·exact C1.halt _
theorem C1.isAgg {w:World} (t:TypeId):C1 P w (isAgg t):=by
 unfold Go.isAgg
 refine (C1.underlying t).bind fun d=> ?_
 split<;>exact C1.pure _
theorem C1.loadCellsFrom {w:World} (a:Addr):∀(n i:Nat) (acc:Array Value),C1 P w (loadCellsFrom a i n acc)
 |0,_,acc=>C1.pure acc
 |n+1,i,acc=>(C1.load _ _).bind fun v=>C1.loadCellsFrom a n (i+1) _
theorem C1.loadVar {w:World} (t:TypeId) (a:Addr):C1 P w (loadVar t a):=by
 unfold Go.loadVar
 refine (C1.isAgg t).bind fun b=> ?_
 cases b
 ·exact C1.load _ _
 ·refine C1.bind ?_ fun n=> ?_
  ·exact (C1.typeInfo t).bind fun i=>C1.pure _
  ·exact (C1.loadCellsFrom a _ _ _).bind fun _=>C1.pure _
theorem C1.loadAt {w:World} (t:TypeId) (v:Value):C1 P w (Instr.loadAt t v):=by
 unfold Instr.loadAt
 refine C1.bind ?_ fun a=>C1.loadVar t a
 unfold Instr.sureAddr
 split
 ·exact C1.pure _
 ·exact C1.halt _
theorem xG {o:Oper} (h:cY o=1):Qu P o:=by
 intro ρ w
 obtain ⟨t,x,ho⟩:∃t x,o.op= .load t x:=by
  unfold cY at h
  split at h<;>first|exact ⟨_,_,by assumption⟩|cases h
 have hc:C1 P w (Instr.loadAt t (ρ x)):=C1.loadAt t (ρ x)
 have e:execOp ρ o=(do pure (.value (←Instr.loadAt t (ρ x)))):=by
  unfold execOp
  simp only [ho]
 rw [e]
 rcases hc with ⟨v,hv⟩|⟨x,w',hx⟩
 ·exact .inl ⟨v,by rw [Sem.run_bind,hv];rfl⟩
 ·exact .inr ⟨x,w',by rw [Sem.run_bind,hx];rfl⟩
def IsV (P:Program) (s:Sem Next):Prop:=∀w n w',s.run P w= .ok n w'→∃v,n= .value v
theorem IsV.v (s:Sem Value):IsV P (do pure (.value (←s))):=fun w n w' h=>by
 rw [Sem.run_bind] at h
 cases hs:s.run P w with
 |ok v w1=>rw [hs] at h;cases h;exact ⟨v,rfl⟩
 |halt x w1=>rw [hs] at h;cases h
theorem IsV.bind {α:Type} (s:Sem α) (f:α→Sem Next) (hf:∀v,IsV P (f v)):IsV P (s >>= f):=fun w n w' h=>by
 rw [Sem.run_bind] at h
 cases hs:s.run P w with
 |ok v w1=>rw [hs] at h;exact hf v _ _ _ h
 |halt x w1=>rw [hs] at h;cases h
theorem IsV.pure (v:Value):IsV P (pure (.value v)):=fun w n w' h=>by cases h;exact ⟨v,rfl⟩
theorem IsV.halt (x:Halt):IsV P (.halt x):=fun w n w' h=>by cases h
theorem IsV.nilPanic:IsV P (runtimePanic .nilDeref):=by
 unfold runtimePanic
 refine IsV.bind _ _ fun p=> ?_
 exact IsV.halt _
theorem yD {o:Oper} (h:cY o=0) (ρ:Operand→Value):IsV P (execOp ρ o):=by
 unfold cY at h
 unfold execOp
 split at h<;>first|(cases h;done)|skip
 all_goals (rename_i hop;simp only [hop])
 all_goals first
  |exact IsV.pure _
  |exact IsV.v _
  |exact IsV.bind _ _ fun _=>IsV.pure _
  |skip
 ·split
  ·exact IsV.nilPanic
  ·exact IsV.nilPanic
  ·exact IsV.nilPanic
  ·split
   ·exact IsV.nilPanic
   ·refine IsV.bind _ _ fun p=>IsV.bind _ _ fun b=> ?_
    split
    ·exact IsV.bind _ _ fun _=>IsV.pure _
    ·exact IsV.pure _
   ·exact IsV.pure _
  ·exact IsV.pure _
theorem lex_q {o:Oper} {a:Act} {w:World} {rest:List Oper} (hk:cY o=0) (hS:∃w,S w) (h:wpQuiet P ops S (fun a' =>bK P ops S cY K0 rest a' w) [o] a):bK P ops S cY K0 (o::rest) a w:=by
 simp only [wpQuiet] at h
 by_cases hw:Region.wanted o (yielded ops a.tmps)=true
 ·simp only [hw,if_true] at h
  obtain ⟨v,hv,h⟩:=h
  refine eL hk (v:=v) (.inl ⟨hw,fun w' hw' => ?_⟩) h
  have:=hv w' hw'
  exact Tzbh
 ·simp only [hw] at h
  exact eL hk (.inr ⟨by simpa using hw,rfl⟩) h
theorem lex_skip {o:Oper} {a:Act} {w:World} {rest:List Oper} (hk:(cY o==0)=false) (hw:Region.wanted o (yielded ops a.tmps)=false) (hS:S w) (h:bK P ops S cY K0 rest (a.put o.dst undef) w):bK P ops S cY K0 (o::rest) a w:=by
 rw [gF (by simpa using hk)]
 simp only [hw,Bool.false_eq_true,if_false]
 exact ⟨hS,h⟩
theorem lex_e {o:Oper} {a:Act} {w:World} {rest:List Oper} (hk:(cY o==0)=false) (h:wpList P ops (Only (fun a' w' =>S w'∧bK P ops S cY K0 rest a' w')) [o] a w):bK P ops S cY K0 (o::rest) a w:=by
 show (if cY o=0 then _ else _)
 rw [if_neg (by simpa using hk)]
 exact h
theorem lex_go {a:Act} {w:World} {rest:List Oper} (hS:S w) (h:bK P ops S cY K0 rest a w):Only (fun a' w' =>S w'∧bK P ops S cY K0 rest a' w') .normal a w:=⟨hS,h⟩
theorem bG {a:Act} {w:World} (h:K0 a w):bK P ops S cY K0 [] a w:=h
theorem KS {o:Oper} {ρ:Operand→Value} {T E:TypeId} {x:Operand} {lo hi mx:Option Operand} {A:Option Addr} {n c sz:Nat} (l h m:Nat)
 (ho:o.op= .slice T x lo hi mx) (hx:ρ x= .slice A n c) (ht:P.underlying T=some (.slice E)) (hi' :(P.info? E).map (·.size)=some sz)
 (hlo:(lo=none∧l=0)∨∃y k e,lo=some y∧ρ y= .int k e∧e=(l:Int)) (hhi:(hi=none∧mx=none∧h=n)∨∃y k e,hi=some y∧ρ y= .int k e∧e=(h:Int))
 (hmx:(mx=none∧m=c)∨∃y k e,mx=some y∧ρ y= .int k e∧e=(m:Int)) (h1:l≤h) (h2:h≤m) (h3:m≤c) (w:World):
 (execOp ρ o).run P w= .ok (.value (.slice (if m=l then A else A.map (·.add (l*sz))) (h-l) (m-l))) w:=by
 obtain ⟨i,hi1,hi2⟩:∃i,P.info? E=some i∧i.size=sz:=by
  cases hq:P.info? E with
  |none=>rw [hq] at hi';cases hi'
  |some i=>rw [hq] at hi';exact ⟨i,rfl,by simpa using hi'⟩
 have hb:∀(k:IntKind) (z y:Nat) (code:BoundsCode),z≤y→(Instr.sliceBound (.int k (z:Int)) y code).run P w= .ok z w:=fun k z y code hz=>by
  have hz' :(0:Int)≤(z:Int)∧(z:Int)≤(y:Int):=⟨by omega,by omega⟩
  simp [Instr.sliceBound,asIntOf,hz']
 have hsz:(sizeOf E).run P w= .ok sz w:=by simp [sizeOf,typeInfo,hi1,hi2]
 have e:execOp ρ o=(do pure (.value (←Instr.sliceAt T (ρ x) (lo.map ρ) (hi.map ρ) (mx.map ρ)))):=by
  unfold execOp
  simp only [ho]
 rw [e,hx]
 have key:(Instr.sliceAt T (.slice A n c) (lo.map ρ) (hi.map ρ) (mx.map ρ)).run P w= .ok (.slice (if m=l then A else A.map (·.add (l*sz))) (h-l) (m-l)) w:=by
  have hbs:(Instr.sliceBounds true n c (lo.map ρ) (hi.map ρ) (mx.map ρ)).run P w= .ok (l,h,m) w:=by
   unfold Instr.sliceBounds
   rcases hmx with ⟨rfl,rfl⟩|⟨ym,km,em,rfl,hm1,rfl⟩<;>rcases hhi with ⟨rfl,hmn,rfl⟩|⟨yh,kh,eh,rfl,hh1,rfl⟩<;>rcases hlo with ⟨rfl,rfl⟩|⟨yl,kl,el,rfl,hl1,rfl⟩<;>
    first|(cases hmn;done)|simp [*]
  simp only [Instr.sliceAt,Sem.run_bind,run_underlying ht,Result.andThen_ok,Instr.slice,hbs,hsz,Sem.run_pure]
 rw [Sem.run_bind,key]
 rfl
theorem Cs.part {D:Nat→Prop} {w:World} {A:Option Addr} {xs:List Value} {n sz l h m:Nat} (hc:Cs D w A xs) (hn:xs.length=n*sz) (h1:l≤h) (h2:h≤m) (h3:h≤n):
 Cs D w (if m=l then A else A.map (·.add (l*sz))) ((xs.drop (l*sz)).take ((h-l)*sz)):=by
 by_cases e:m=l
 ·have:h-l=0:=by omega
  rw [this]
  simp only [Nat.zero_mul,List.take_zero]
  exact Cs.nil_ _ _ _
 ·rw [if_neg e]
  have:=(hc.drop_ (l*sz) (c:=False) (fun x=>x.elim))
  rw [if_neg (fun x=>x)] at this
  exact this.take_ _
theorem Bytes.part {D:Nat→Prop} {w:World} {A:Option Addr} {n c l h m:Nat} {L:List UInt8} (hb:Bytes D w (.slice A n c) L) (h1:l≤h) (h2:h≤m) (h3:h≤n) (h4:m≤c):
 Bytes D w (.slice (if m=l then A else A.map (·.add (l*1))) (h-l) (m-l)) ((L.drop l).take (h-l)):=by
 obtain ⟨A',c',e,g1,g2,g3⟩:=hb
 cases e
 have hl:((L.drop l).take (h-l)).length=h-l:=by rw [List.length_take,List.length_drop];omega
 refine ⟨_,m-l,by rw [hl],by rw [hl];omega,by omega,?_⟩
 have:=Cs.part (sz:=1) (n:=L.length) (l:=l) (h:=h) (m:=m) g3 (by simp) h1 h2 h3
 simpa [List.map_take,List.map_drop] using this
theorem aP (S:World→Prop) {id:Nat} {l:List Oper} {Q:Exit→Act→World→Prop} {a:Act} {w:World}
 (hm:P.follows .mixedOrders=true) (hB:mE cY l=true) (hS:S w.drew) (h:bK P l.toArray S cY (Q .normal) l a w.drew):(Code.region id l.toArray true).wp P Q a w:=by
 refine Code.wp_mono Only.to (wp_region_any hm ?_)
 have:=uX (K0:=Q .normal) cY S (fun o=>xG) l hB l.length (List.range l.length) (Array.replicate l.length false) a w.drew hS (by simp) (fun j=>by
  by_cases hj:j<l.length
  ·simp [hj]
  ·simp [hj]) List.pairwise_lt_range (by simp) (fun k o hk hL=>by
  have hlt:=(List.getElem?_eq_some_iff.1 hk).1
  simp [hlt] at hL) (by rw [jH];exact h)
 simpa using this
end
end
end Go.Proofs.YtiblijmngokcgaaGreatDoor
namespace Go.Proofs.YtiblijmngokcgaaGreatDoor
open Go.RowKit
set_option linter.unusedVariables false
section
variable {P : Program} {w : World}
theorem nR (base:Nat) (t ty e:TypeId) (i:TypeInfo) (size:Nat) (ht:P.underlying t=some (.slice e)) (hi:P.info? e=some i)
 (v:Value) (n:Nat) (xs:List Value) (hown:w.ownsRow base e size v n xs) (c:Nat):(Builtin.append_ #[t,t] ty #[v,.slice none 0 c]).run P w= .ok v w:=by
 rcases hown.2 with ⟨rfl,rfl⟩|⟨g,cap,cur,rfl,_,_,hnc,_⟩
 ·simp [Builtin.append_,run_underlying ht,sizeOf,typeInfo,hi,Builtin.lenOf,Builtin.firstCells]
 ·simp [Builtin.append_,run_underlying ht,sizeOf,typeInfo,hi,Builtin.lenOf,Builtin.firstCells,hnc,storeCells]
theorem nM {base:Nat} {e:TypeId} {size n:Nat} {v:Value} {xs:List Value} (h:w.ownsRow base e size v n xs):∃A c,v= .slice A n c∧n≤c∧c≤maxLen:=by
 rcases h.2 with ⟨rfl,rfl⟩|⟨g,cap,cur,rfl,_,_,h1,h2,_⟩
 ·exact ⟨none,0,rfl,by omega,by simp [maxLen]⟩
 ·exact ⟨_,cap,rfl,h1,h2⟩
theorem IK {D:Nat→Prop} (base:Nat) (t ty e:TypeId) (z:Value) (size bytes:Nat) (ht:P.underlying t=some (.slice e)) (hinfo:(P.info? e).map (fun i=>(i.zero,i.size,i.bytes))=some (some z,size,bytes)) (hzs:z.cells.size=size) (hsz:0<size)
 (v:Value) (n:Nat) (xs:List Value) (hown:w.ownsRow base e size v n xs) (A:Option Addr) (m c:Nat) (news:List Value) (hl:news.length=m*size) (hr:Cs D w A news) (h1:∀u∈news,u.oneCell' =true)
 (hbytes:(n+m)*bytes≤140737488355328) (h63:n+m≤maxLen) (hbase:base≤w.heap.size):
 ∃A' c' w',(Builtin.append_ #[t,t] ty #[v,.slice A m c]).run P w= .ok (.slice A' (n+m) c') w'∧w'.ownsRow base e size (.slice A' (n+m) c') (n+m) (xs++news)∧w.grownBy w' v.ownBlock∧
  ((Value.slice A' (n+m) c').ownBlock=v.ownBlock∨(Value.slice A' (n+m) c').ownBlock=some w.heap.size)∧n+m≤c'∧c'≤maxLen:=by
 obtain ⟨i,hi,hz,hs,hby⟩:=info_parts hinfo
 have key:∃v' w',(Builtin.append_ #[t,t] ty #[v,.slice A m c]).run P w= .ok v' w'∧w'.ownsRow base e size v' (n+m) (xs++news)∧w.grownBy w' v.ownBlock∧(v'.ownBlock=v.ownBlock∨v'.ownBlock=some w.heap.size):=by
  rcases A with _|ad
  ·have hm:news=[]:=by
    cases news with
    |nil=>rfl
    |cons x xs=>obtain ⟨_,_,h,_⟩:=hr (by simp);cases h
   subst hm
   have hm0:m=0:=by
    rcases Nat.eq_zero_or_pos m with h|h
    ·exact h
    ·have:=Nat.mul_pos h hsz;simp at hl;omega
   subst hm0
   exact ⟨v,w,nR base t ty e i size ht hi v n xs hown c,by simpa using hown,⟨rfl,rfl,rfl,Nat.le_refl _,fun _ _ _=>rfl⟩,.inl rfl⟩
  ·have hcells:∀j u,news[j]? =some u→w.cell? (ad.add j)=some u:=by
    intro j u hu
    have hn:0<news.length:=by have:=(List.getElem?_eq_some_iff.1 hu).1;omega
    obtain ⟨b,off,h,_,hc⟩:=hr hn
    cases h
    rw [Addr.add_mid]
    exact hc j u hu
   obtain ⟨v',w',a1,a2,a3,_,a5⟩:=run_append_own_at (P:=P) w base t ty e i z size bytes ht hi hz hs hby hzs hsz v n xs hown ad m c news hl hcells h1 h63 hbytes hbase
   exact ⟨v',w',a1,a2,a3,a5⟩
 obtain ⟨v',w',a1,a2,a3,a4⟩:=key
 obtain ⟨A',c',rfl,b1,b2⟩:=nM a2
 exact ⟨A',c',w',a1,a2,a3,a4,b1,b2⟩
theorem qM {D:Nat→Prop} {ops:Array Oper} {rest:List Oper} {o:Oper} {a:Act} {Q:Exit→Act→World→Prop} (hgd:o.guard=none) (s x:Operand) (t:TypeId)
 (ho:o.op= .call {callee:= .builtin .append,args:= #[s,x],argTypes:= #[t,t]})
 (base:Nat) (e:TypeId) (z:Value) (size bytes:Nat) (ht:P.underlying t=some (.slice e)) (hinfo:(P.info? e).map (fun i=>(i.zero,i.size,i.bytes))=some (some z,size,bytes)) (hzs:z.cells.size=size) (hsz:0<size)
 (v:Value) (n:Nat) (xs:List Value) (hs:a.eval s=v) (hown:w.ownsRow base e size v n xs) (A:Option Addr) (m c:Nat) (news:List Value) (hx:a.eval x= .slice A m c) (hl:news.length=m*size) (hr:Cs D w A news) (h1:∀u∈news,u.oneCell' =true)
 (hbytes:(n+m)*bytes≤140737488355328) (h63:n+m≤maxLen) (hbase:base≤w.heap.size) (N:Nat) (hN:N=n+m)
 (K:∀A' c' w',w'.ownsRow base e size (.slice A' N c') N (xs++news)→w.grownBy w' v.ownBlock→((Value.slice A' N c').ownBlock=v.ownBlock∨(Value.slice A' N c').ownBlock=some w.heap.size)→N≤c'→c'≤9223372036854775807→wpList P ops Q rest (a.put o.dst (.slice A' N c')) w'):
 wpList P ops Q (o::rest) a w:=by
 subst hN
 obtain ⟨A',c',w',a1,a2,a3,a4,a5,a6⟩:=IK (P:=P) base t o.type e z size bytes ht hinfo hzs hsz v n xs hown A m c news hl hr h1 hbytes h63 hbase
 refine wpList_plain hgd fun _ hK=> ?_
 unfold Oper.wp execOp
 simp only [ho,resolve,invoke,builtin,Sem.run_bind,Sem.run_pure,Result.andThen_ok,List.map_toArray,List.map_cons,List.map_nil,hs,hx,a1]
 exact hK _ _ (K A' c' w' a2 a3 a4 a5 (by unfold maxLen at a6;exact a6))
end
def OwnB (w:World) (base:Nat) (e:TypeId) (v:Value) (l:List UInt8):Prop:=w.ownsRow base e 1 v l.length (l.map bv)
section
variable {w w' : World} {base : Nat} {e : TypeId} {v : Value} {l : List UInt8}
theorem OwnB.nil_ (w:World) (base:Nat) (e:TypeId):OwnB w base e (.slice none 0 0) []:=World.ownsRow_nil _ _ _ _
theorem OwnB.bytes (h:OwnB w base e v l):Bytes (fun b=>base≤b∧v.ownBlock=some b) w v l:=by
 rcases h.2 with ⟨rfl,hn⟩|⟨g,cap,cur,rfl,hb,hh,h1,h2,h3,h4⟩
 ·rw [List.eq_nil_of_length_eq_zero hn]
  exact Bytes.nil_ _ _
 ·exact Tzc0
theorem OwnB.kept {row:Option Nat} (h:OwnB w base e v l) (hg:w.grownBy w' row) (hne:v.ownBlock=none∨v.ownBlock≠row):OwnB w' base e v l:=World.ownsRow.kept h hg hne
theorem OwnB.ext (h:OwnB w base e v l) (hb:Below w.heap.size w w'):OwnB w' base e v l:=
 World.ownsRow.kept h (row:=none) ⟨hb.os,hb.tape,hb.output,hb.size,fun k hk _=>hb.block k hk⟩ (by cases v.ownBlock<;>simp)
theorem OwnB.drew (h:OwnB w base e v l):OwnB w.drew base e v l:=h
theorem OwnB.at_ {g n c j:Nat} (h:OwnB w base e (.slice (some ⟨g,0,none⟩) n c) l) (hj:j<l.length):∃x,l[j]? =some x∧w.cell? ⟨g,j,none⟩=some (.int .u8 (x.toNat:Int)):=by
 obtain ⟨A,c',e,h1,h2,h3⟩:=h.bytes
 cases e
 obtain ⟨b,off,x,e,_,_,hx,hc⟩:=h3.byte hj
 cases e
 exact ⟨x,hx,by simpa using hc⟩
theorem OwnB.frozen {g n c:Nat} (h:OwnB w base e (.slice (some ⟨g,0,none⟩) n c) l) (j:Nat):w.frozen? ⟨g,j,none⟩=false:=by
 obtain ⟨A,c',e,_⟩:=h.bytes
 cases e
 exact World.ownsRow.frozenAt h j
theorem OwnB.set_ {g n c:Nat} (h:OwnB w base e (.slice (some ⟨g,0,none⟩) n c) l) (j:Nat) (x:UInt8):OwnB (w.setCell ⟨g,j,none⟩ (.int .u8 (x.toNat:Int))) base e (.slice (some ⟨g,0,none⟩) n c) (l.set j x):=by
 obtain ⟨A,c',e,_⟩:=h.bytes
 cases e
 have:=(World.ownsRow.stored h j (bv x)).1
 unfold OwnB
 rw [List.length_set,List.map_set]
 exact this
theorem OwnB.lit (w:World) (t:TypeId) (l:List UInt8) (n:Nat) (hl:n=l.length) (hn:n≤9223372036854775807) (base:Nat) (hb:base≤w.heap.size):OwnB (w.alloc (.cells (fP l) t)) base t (.slice (some ⟨w.heap.size,0,none⟩) n n) l:=by
 subst hl
 refine ⟨by simp,.inr ⟨w.heap.size,l.length,fP l,rfl,hb,heap_alloc_new w _,by simp,by unfold maxLen;exact hn,by rw [tN,Nat.mul_one],by simp only [fP,Nat.mul_one];exact List.take_of_length_le (by simp)⟩⟩
theorem OwnB.grow {a w2:World} {B:Nat} (h:OwnB w base e v l) (hg:w.grownBy w2 v.ownBlock) (hb:Below B a w) (hB:B≤base) (hw:base≤w.heap.size):Below B a w2:=
 hb.grown hg (Nat.le_trans hB hw) (fun k hk=>Nat.le_trans hB (World.ownsRow.lt h k hk).1)
theorem OwnB.some_ {A:Option Addr} {n c:Nat} (h:OwnB w base e (.slice A n c) l) (hl:0<l.length):∃g,A=some ⟨g,0,none⟩∧base≤g∧g<w.heap.size:=by
 exact Tzdg
theorem OwnB.len {A:Option Addr} {n c:Nat} (h:OwnB w base e (.slice A n c) l):l.length=n∧n≤c∧c≤9223372036854775807:=h.bytes.len
end
theorem lZ {P:Program} {w:World} {D:Nat→Prop} {ops:Array Oper} {rest:List Oper} {o:Oper} {a:Act} {Q:Exit→Act→World→Prop} (s x:Operand) (t e:TypeId) (base:Nat) (l r:List UInt8) (A:Option Addr) (m c:Nat) (v:Value) (N:Nat)
 (hgd:o.guard=none) (ho:o.op= .call {callee:= .builtin .append,args:= #[s,x],argTypes:= #[t,t]}) (ht:P.underlying t=some (.slice e)) (hinfo:(P.info? e).map (fun i=>(i.zero,i.size,i.bytes))=some (some (.int .u8 0),1,1))
 (hs:a.eval s=v) (hx:a.eval x= .slice A m c) (hown:OwnB w base e v l) (hr:Bytes D w (.slice A m c) r) (hN:N=l.length+m) (hbytes:l.length+m≤140737488355328) (hbase:base≤w.heap.size)
 (K:∀A' c' w',OwnB w' base e (.slice A' N c') (l++r)→w.grownBy w' v.ownBlock→((Value.slice A' N c').ownBlock=v.ownBlock∨(Value.slice A' N c').ownBlock=some w.heap.size)→N≤c'→c'≤9223372036854775807→wpList P ops Q rest (a.put o.dst (.slice A' N c')) w'):
 wpList P ops Q (o::rest) a w:=by
 obtain ⟨A2,c2,e2,g1,g2,g3⟩:=hr
 cases e2
 refine qM hgd s x t ho base e (.int .u8 0) 1 1 ht hinfo rfl (by omega) v l.length (l.map bv) hs hown A r.length c (r.map bv) hx (by simp) g3 (fun u hu=> ?_) (by omega) (by unfold maxLen;omega) hbase N hN ?_
 ·obtain ⟨y,_,rfl⟩:=List.mem_map.1 hu
  rfl
 ·intro A' c' w' h1 h2 h3 h4 h5
  refine K A' c' w' ?_ h2 h3 h4 h5
  unfold OwnB
  rw [List.length_append,List.map_append,←hN]
  exact h1
end Go.Proofs.YtiblijmngokcgaaGreatDoor
namespace Go.Proofs.YtiblijmngokcgaaGreatDoor
open Go.RowKit
set_option linter.unusedVariables false
theorem pE {α:Type} {enc:α→List Value} {k:Nat} (hk:∀x,(enc x).length=k):∀(l:List α) (j i:Nat) (x:α),l[j]? =some x→i<k→(l.flatMap enc)[j*k+i]? =(enc x)[i]?
 |[],j,i,x,h,_=>by simp at h
 |y::l,0,i,x,h,hi=>by
  simp at h
  subst h
  rw [List.flatMap_cons,Nat.zero_mul,Nat.zero_add,List.getElem?_append_left (by rw [hk];exact hi)]
 |y::l,j+1,i,x,h,hi=>by
  rw [List.flatMap_cons,List.getElem?_append_right (by rw [hk,Nat.add_mul];omega),hk,show (j+1)*k+i-k=j*k+i by rw [Nat.add_mul];omega]
  exact pE hk l j i x (by simpa using h) hi
theorem fN {α:Type} {enc:α→List Value} {k:Nat} (hk:∀x,(enc x).length=k) (l:List α):(l.flatMap enc).length=l.length*k:=by
 induction l with
 |nil=>simp
 |cons x l ih=>rw [List.flatMap_cons,List.length_append,hk,ih,List.length_cons,Nat.add_mul];omega
theorem oH {α:Type} {enc:α→List Value} {k:Nat} (hk:∀x,(enc x).length=k):∀(l:List α) (j:Nat),(l.flatMap enc).take (j*k)=(l.take j).flatMap enc
 |[],j=>by simp
 |x::l,0=>by simp
 |x::l,j+1=>by
  rw [List.flatMap_cons,List.take_succ_cons,List.flatMap_cons,List.take_append,hk,List.take_of_length_le (by rw [hk,Nat.add_mul];omega),show (j+1)*k-k=j*k by rw [Nat.add_mul];omega,oH hk l j]
theorem oI {α:Type} {enc:α→List Value} {k:Nat} (hk:∀x,(enc x).length=k):∀(l:List α) (j:Nat),(l.flatMap enc).drop (j*k)=(l.drop j).flatMap enc
 |[],j=>by simp
 |x::l,0=>by simp
 |x::l,j+1=>by
  rw [List.flatMap_cons,List.drop_succ_cons,List.drop_append,hk,List.drop_of_length_le (by rw [hk,Nat.add_mul];omega),show (j+1)*k-k=j*k by rw [Nat.add_mul];omega,oI hk l j,List.nil_append]
def Recs {α:Type} (enc:α→List Value) (S:Nat→Prop) (w:World) (v:Value) (l:List α):Prop:=∃A c,v= .slice A l.length c∧l.length≤c∧c≤maxLen∧Cs S w A (l.flatMap enc)
section
variable {α : Type} {enc : α → List Value} {k : Nat} {S S' : Nat → Prop} {w w' : World} {v : Value} {l : List α}
theorem Recs.keep (h:Recs enc S w v l) (hk:Keep S w w'):Recs enc S w' v l:=by
 obtain ⟨A,c,rfl,h1,h2,h3⟩:=h
 exact ⟨A,c,rfl,h1,h2,h3.keep hk⟩
theorem Recs.ext (h:Recs enc S w v l) (hb:Below w.heap.size w w'):Recs enc S w' v l:=h.keep (Keep.of_below hb)
theorem Recs.mono (h:Recs enc S w v l) (hs:∀b,b<w.heap.size→S b→S' b):Recs enc S' w v l:=by
 obtain ⟨A,c,rfl,h1,h2,h3⟩:=h
 exact ⟨A,c,rfl,h1,h2,h3.mono hs⟩
theorem Recs.drew (h:Recs enc S w v l):Recs enc S w.drew v l:=h
theorem Recs.nil_ (S:Nat→Prop) (w:World):Recs enc S w (.slice none 0 0) []:=⟨none,0,rfl,by simp,by simp [maxLen],Cs.nil_ _ _ _⟩
theorem Recs.len {A:Option Addr} {n c:Nat} (h:Recs enc S w (.slice A n c) l):l.length=n∧n≤c∧c≤9223372036854775807:=by
 obtain ⟨A',c',e,h1,h2,_⟩:=h
 cases e
 unfold maxLen at h2
 exact ⟨rfl,h1,h2⟩
theorem Recs.at_ (hk:∀x,(enc x).length=k) {A:Option Addr} {n c j:Nat} (h:Recs enc S w (.slice A n c) l) (hj:j<l.length) (hk0:0<k):
 ∃b off x,A=some ⟨b,off,none⟩∧S b∧b<w.heap.size∧l[j]? =some x∧∀i u,(enc x)[i]? =some u→w.cell? ⟨b,off+j*k+i,none⟩=some u:=by
 obtain ⟨A',c',e,h1,h2,h3⟩:=h
 cases e
 have hx:l[j]? =some l[j]:=List.getElem?_eq_getElem hj
 have hpos:0<(l.flatMap enc).length:=by rw [fN hk];exact Nat.mul_pos (by omega) hk0
 obtain ⟨b,off,rfl,hs,hc⟩:=h3 hpos
 refine ⟨b,off,l[j],rfl,hs,?_,hx,fun i u hu=> ?_⟩
 ·exact block_lt_of_cell (hc 0 _ (List.getElem?_eq_getElem hpos))
 ·have hi:i<k:=by have:=(List.getElem?_eq_some_iff.1 hu).1;rw [hk] at this;exact this
  have:=hc (j*k+i) u (by rw [pE hk l j i _ hx hi];exact hu)
  rw [←Nat.add_assoc] at this
  exact this
theorem Recs.take_ (hk:∀x,(enc x).length=k) {A:Option Addr} {n c j:Nat} (h:Recs enc S w (.slice A n c) l) (hj:j≤n):Recs enc S w (.slice A j c) (l.take j):=by
 obtain ⟨A',c',e,h1,h2,h3⟩:=h
 cases e
 have e:(l.take j).length=j:=by rw [List.length_take];omega
 refine ⟨A,c,by rw [e],by omega,h2,?_⟩
 rw [←oH hk]
 exact Cs.take_ h3 (j*k)
theorem Recs.drop_ (hk:∀x,(enc x).length=k) {A:Option Addr} {n c j:Nat} (h:Recs enc S w (.slice A n c) l) (hj:j≤n) {q:Prop} [Decidable q] (hq:q→n≤j):Recs enc S w (.slice (if q then A else A.map (·.add (j*k))) (n-j) (c-j)) (l.drop j):=by
 obtain ⟨A',c',e,h1,h2,h3⟩:=h
 cases e
 refine ⟨_,c-j,by rw [List.length_drop],by rw [List.length_drop];omega,by omega,?_⟩
 rw [←oI hk]
 refine Cs.drop_ h3 (j*k) (fun hq' => ?_)
 rw [fN hk]
 exact Nat.mul_le_mul_right _ (hq hq')
end
def OwnR {α:Type} (enc:α→List Value) (k:Nat) (w:World) (base:Nat) (e:TypeId) (v:Value) (l:List α):Prop:=w.ownsRow base e k v l.length (l.flatMap enc)
section
variable {α : Type} {enc : α → List Value} {k : Nat} {w w' : World} {base : Nat} {e : TypeId} {v : Value} {l : List α}
theorem OwnR.nil_ (w:World) (base:Nat) (e:TypeId):OwnR enc k w base e (.slice none 0 0) []:=World.ownsRow_nil _ _ _ _
theorem OwnR.recs (h:OwnR enc k w base e v l):Recs enc (fun b=>base≤b∧v.ownBlock=some b) w v l:=by
 rcases h.2 with ⟨rfl,hn⟩|⟨g,cap,cur,rfl,hb,hh,h1,h2,h3,h4⟩
 ·rw [List.eq_nil_of_length_eq_zero hn]
  exact Recs.nil_ _ _
 ·exact Tzc0
theorem OwnR.kept {row:Option Nat} (h:OwnR enc k w base e v l) (hg:w.grownBy w' row) (hne:v.ownBlock=none∨v.ownBlock≠row):OwnR enc k w' base e v l:=World.ownsRow.kept h hg hne
theorem OwnR.ext (h:OwnR enc k w base e v l) (hb:Below w.heap.size w w'):OwnR enc k w' base e v l:=
 World.ownsRow.kept h (row:=none) ⟨hb.os,hb.tape,hb.output,hb.size,fun k hk _=>hb.block k hk⟩ (by cases v.ownBlock<;>simp)
theorem OwnR.drew (h:OwnR enc k w base e v l):OwnR enc k w.drew base e v l:=h
theorem OwnR.len {A:Option Addr} {n c:Nat} (h:OwnR enc k w base e (.slice A n c) l):l.length=n∧n≤c∧c≤9223372036854775807:=h.recs.len
theorem OwnR.grow {a w2:World} {B:Nat} (h:OwnR enc k w base e v l) (hg:w.grownBy w2 v.ownBlock) (hb:Below B a w) (hB:B≤base) (hw:base≤w.heap.size):Below B a w2:=
 hb.grown hg (Nat.le_trans hB hw) (fun k hk=>Nat.le_trans hB (World.ownsRow.lt h k hk).1)
end
theorem aV {α:Type} {enc:α→List Value} {k:Nat} {P:Program} {w:World} {D:Nat→Prop} {ops:Array Oper} {rest:List Oper} {o:Oper} {a:Act} {Q:Exit→Act→World→Prop} (hk:∀x,(enc x).length=k) (h1:∀x,∀u∈enc x,u.oneCell' =true) (z:Value) (bytes:Nat) (s x:Operand) (t e:TypeId) (base:Nat) (l r:List α) (A:Option Addr) (m c:Nat) (v:Value) (N:Nat)
 (hgd:o.guard=none) (ho:o.op= .call {callee:= .builtin .append,args:= #[s,x],argTypes:= #[t,t]}) (ht:P.underlying t=some (.slice e)) (hinfo:(P.info? e).map (fun i=>(i.zero,i.size,i.bytes))=some (some z,k,bytes)) (hzs:z.cells.size=k) (hk0:0<k)
 (hs:a.eval s=v) (hx:a.eval x= .slice A m c) (hown:OwnR enc k w base e v l) (hr:Recs enc D w (.slice A m c) r) (hN:N=l.length+m) (hbytes:(l.length+m)*bytes≤140737488355328) (h63:l.length+m≤9223372036854775807) (hbase:base≤w.heap.size)
 (K:∀A' c' w',OwnR enc k w' base e (.slice A' N c') (l++r)→w.grownBy w' v.ownBlock→((Value.slice A' N c').ownBlock=v.ownBlock∨(Value.slice A' N c').ownBlock=some w.heap.size)→N≤c'→c'≤9223372036854775807→wpList P ops Q rest (a.put o.dst (.slice A' N c')) w'):
 wpList P ops Q (o::rest) a w:=by
 obtain ⟨A2,c2,e2,g1,g2,g3⟩:=hr
 cases e2
 refine qM hgd s x t ho base e z k bytes ht hinfo hzs hk0 v l.length (l.flatMap enc) hs hown A r.length c (r.flatMap enc) hx (fN hk r) g3 (fun u hu=> ?_) hbytes (by unfold maxLen;exact h63) hbase N hN ?_
 ·obtain ⟨y,_,hy⟩:=List.mem_flatMap.1 hu
  exact h1 y u hy
 ·intro A' c' w' g1 g2 g3 g4 g5
  refine K A' c' w' ?_ g2 g3 g4 g5
  unfold OwnR
  rw [List.length_append,List.flatMap_append,←hN]
  exact g1
theorem OwnR.some_ {α:Type} {enc:α→List Value} {k:Nat} {w:World} {base:Nat} {e:TypeId} {A:Option Addr} {n c:Nat} {l:List α} (h:OwnR enc k w base e (.slice A n c) l) (hl:0<l.length):∃g,A=some ⟨g,0,none⟩∧base≤g∧g<w.heap.size:=by
 exact Tzdg
theorem OwnR.weak {α:Type} {enc:α→List Value} {k:Nat} {w:World} {base base' :Nat} {e:TypeId} {v:Value} {l:List α} (h:OwnR enc k w base e v l) (hb:base'≤base):OwnR enc k w base' e v l:=by
 exact Tzda
theorem CO {α:Type} {enc:α→List Value} {k:Nat} (hk:∀x,(enc x).length=k) (x:α) (hk0:0<k) (m:Nat):(madeCells (enc x).toArray (m*k)).toList=(List.replicate m x).flatMap enc:=by
 apply List.ext_getElem?
 intro i
 by_cases hi:i<m*k
 ·have hr:i%k<k:=Nat.mod_lt _ hk0
  have hj:i / k<m:=Nat.div_lt_of_lt_mul (by rw [Nat.mul_comm];exact hi)
  have e:=pE hk (List.replicate m x) (i / k) (i%k) x (by simp [hj]) hr
  rw [Nat.div_add_mod' i k] at e
  rw [e]
  simp [madeCells,hi,hk]
  rw [List.getElem?_eq_getElem (by rw [hk];exact hr)]
  simp
 ·rw [List.getElem?_eq_none (by simp [madeCells];omega),List.getElem?_eq_none (by rw [fN hk];simp;omega)]
end Go.Proofs.YtiblijmngokcgaaGreatDoor
namespace Go.Proofs.YtiblijmngokcgaaGreatDoor
set_option linter.unusedVariables false
def aY (o:Oper):Nat:=
 match o.op with
 | .load .. =>0
 |_=>cY o
section
variable {P : Program} {ops : Array Oper} {K0 : Act → World → Prop} {S : World → Prop}
theorem lO {o:Oper} (h:aY o=1):Qu P o:=by
 unfold aY at h
 split at h
 ·cases h
 ·exact xG h
theorem xL {o:Oper} {a:Act} {w:World} {rest:List Oper} (hk:cY o=0) (h:wpQuiet P ops (fun _=>True) (fun a' =>bK P ops S aY K0 rest a' w) [o] a):bK P ops S aY K0 (o::rest) a w:=by
 have hk' :aY o=0:=by
  unfold aY
  split
  ·rfl
  ·exact hk
 simp only [wpQuiet] at h
 by_cases hw:Region.wanted o (yielded ops a.tmps)=true
 ·simp only [hw,if_true] at h
  obtain ⟨v,hv,h⟩:=h
  refine eL hk' (v:=v) (.inl ⟨hw,fun w' hw' => ?_⟩) h
  have:=hv w' trivial
  exact Tzbh
 ·simp only [hw] at h
  exact eL hk' (.inr ⟨by simpa using hw,rfl⟩) h
theorem aE {o:Oper} {a:Act} {w:World} {rest:List Oper} {t:TypeId} {x:Operand} (A:Addr) (v:Value) (ho:o.op= .load t x) (hw:Region.wanted o (yielded ops a.tmps)=true) (hx:a.eval x= .pointer (some A))
 (hv:∀w',S w'→(loadVar t A).run P w' = .ok v w') (h:bK P ops S aY K0 rest (a.put o.dst v) w):bK P ops S aY K0 (o::rest) a w:=by
 refine eL (by unfold aY;rw [ho]) (v:=v) (.inl ⟨hw,fun w' hw' => ?_⟩) h
 exact Tzcv
theorem qY {o:Oper} {a:Act} {w:World} {rest:List Oper} (hk:aY o=0) (hw:Region.wanted o (yielded ops a.tmps)=false) (h:bK P ops S aY K0 rest (a.put o.dst undef) w):bK P ops S aY K0 (o::rest) a w:=
 eL hk (.inr ⟨hw,rfl⟩) h
theorem iH {o:Oper} {a:Act} {w:World} {rest:List Oper} (hk:(aY o==0)=false) (hw:Region.wanted o (yielded ops a.tmps)=false) (hS:S w) (h:bK P ops S aY K0 rest (a.put o.dst undef) w):bK P ops S aY K0 (o::rest) a w:=by
 rw [gF (by simpa using hk)]
 simp only [hw,Bool.false_eq_true,if_false]
 exact ⟨hS,h⟩
theorem aL {o:Oper} {a:Act} {w:World} {rest:List Oper} (hk:(aY o==0)=false) (h:wpList P ops (Only (fun a' w' =>S w'∧bK P ops S aY K0 rest a' w')) [o] a w):bK P ops S aY K0 (o::rest) a w:=by
 show (if aY o=0 then _ else _)
 rw [if_neg (by simpa using hk)]
 exact h
theorem aI {a:Act} {w:World} {rest:List Oper} (hS:S w) (h:bK P ops S aY K0 rest a w):Only (fun a' w' =>S w'∧bK P ops S aY K0 rest a' w') .normal a w:=⟨hS,h⟩
theorem aZ {a:Act} {w:World} (h:K0 a w):bK P ops S aY K0 [] a w:=h
theorem aM (S:World→Prop) {id:Nat} {l:List Oper} {Q:Exit→Act→World→Prop} {a:Act} {w:World}
 (hm:P.follows .mixedOrders=true) (hB:mE aY l=true) (hS:S w.drew) (h:bK P l.toArray S aY (Q .normal) l a w.drew):(Code.region id l.toArray true).wp P Q a w:=by
 refine Code.wp_mono Only.to (wp_region_any hm ?_)
 have:=uX (K0:=Q .normal) aY S (fun o=>lO) l hB l.length (List.range l.length) (Array.replicate l.length false) a w.drew hS (by simp) (fun j=>by
  by_cases hj:j<l.length
  ·simp [hj]
  ·simp [hj]) List.pairwise_lt_range (by simp) (fun k o hk hL=>by
  have hlt:=(List.getElem?_eq_some_iff.1 hk).1
  simp [hlt] at hL) (by rw [jH];exact h)
 simpa using this
theorem aG {w:World} {t:TypeId} {A:Addr} {v:Value} (ht:(isAgg t).run P w= .ok false w) (hc:w.cell? A=some v):(loadVar t A).run P w= .ok v w:=by
 unfold loadVar
 rw [Sem.run_bind,ht]
 simp [load,Sem.run,hc]
end
end Go.Proofs.YtiblijmngokcgaaGreatDoor
namespace Go.Proofs.YtiblijmngokcgaaGreatDoor
set_option linter.unusedVariables false
section
variable {P : Program} {ops : Array Oper} {K0 : Act → World → Prop} {S : World → Prop}
def oV (o:Oper):Bool:=
 match o.op with
 | .slice .. =>false
 |_=>cY o==0
theorem JG {o:Oper} {a:Act} {w:World} {rest:List Oper} (hk:oV o=true) (h:wpQuiet P ops (fun _=>True) (fun a' =>bK P ops S aY K0 rest a' w) [o] a):bK P ops S aY K0 (o::rest) a w:=
 xL (by
  unfold oV at hk
  split at hk
  ·cases hk
  ·simpa using hk) h
theorem Recs.part {α:Type} {enc:α→List Value} {k:Nat} (hk:∀x,(enc x).length=k) {D:Nat→Prop} {w:World} {A:Option Addr} {n c l h m:Nat} {L:List α} (hb:Recs enc D w (.slice A n c) L) (h1:l≤h) (h2:h≤m) (h3:h≤n) (h4:m≤c):
 Recs enc D w (.slice (if m=l then A else A.map (·.add (l*k))) (h-l) (m-l)) ((L.drop l).take (h-l)):=by
 obtain ⟨A',c',e,g1,g2,g3⟩:=hb
 cases e
 have hl:((L.drop l).take (h-l)).length=h-l:=by rw [List.length_take,List.length_drop];omega
 refine ⟨_,m-l,by rw [hl],by rw [hl];omega,by omega,?_⟩
 have:=Cs.part (sz:=k) (n:=L.length) (l:=l) (h:=h) (m:=m) g3 (fN hk L) h1 h2 h3
 rw [oI hk,oH hk] at this
 exact this
theorem mZ {α:Type} {enc:α→List Value} {k:Nat} (hk:∀x,(enc x).length=k) {o:Oper} {a:Act} {w:World} {rest:List Oper} {T E:TypeId} {x:Operand} {lo hi mx:Option Operand} {A:Option Addr} {n c:Nat} {D:Nat→Prop} {w0:World} {L:List α} (l h m n' c' :Nat) (L' :List α)
 (hgd:Region.wanted o (yielded ops a.tmps)=true) (ho:o.op= .slice T x lo hi mx) (hx:a.eval x= .slice A n c) (ht:P.underlying T=some (.slice E)) (hi' :(P.info? E).map (·.size)=some k)
 (hlo:(lo=none∧l=0)∨∃y kd e,lo=some y∧a.eval y= .int kd e∧e=(l:Int)) (hhi:(hi=none∧mx=none∧h=n)∨∃y kd e,hi=some y∧a.eval y= .int kd e∧e=(h:Int))
 (hmx:(mx=none∧m=c)∨∃y kd e,mx=some y∧a.eval y= .int kd e∧e=(m:Int)) (hb:Recs enc D w0 (.slice A n c) L) (h1:l≤h) (h2:h≤m) (h3:h≤n) (h4:m≤c) (hn' :n' =h-l) (hc' :c' =m-l) (hL' :L' =(L.drop l).take (h-l))
 (K:∀A',Recs enc D w0 (.slice A' n' c') L'→n'≤c'→bK P ops S aY K0 rest (a.put o.dst (.slice A' n' c')) w):bK P ops S aY K0 (o::rest) a w:=by
 subst hn' hc' hL'
 refine eL (by unfold aY cY;simp [ho]) (.inl ⟨hgd,fun w' _=> ?_⟩) (K _ (hb.part hk h1 h2 h3 h4) (by omega))
 exact KS l h m ho hx ht hi' hlo hhi hmx h1 h2 h4 w'
end
end Go.Proofs.YtiblijmngokcgaaGreatDoor
namespace Go.Proofs.YtiblijmngokcgaaGreatDoor
set_option linter.unusedVariables false
section
variable {P : Program} {K0 : Act → World → Prop}
theorem tA (kd:Oper→Nat) (S:World→Prop) (hk1:∀o,kd o=1→Qu P o) (l:List Oper) (hns:Region.noSelect l.toArray=true) (rk:Nat→Nat) (x y:Nat)
 (hat:∀j o,l[j]? =some o→(∀e∈o.after,Region.binds .any e=true→e.on<l.length∧rk e.on<rk j)∧∀i u,rk i<rk j→l[i]? =some u→((bef l).getD j 0).testBit i=true∨bY kd l.toArray u o=true∨(i=x∧j=y)∨(i=y∧j=x)):
 ∀(n:Nat) (rem:List Nat) (listed:Array Bool) (a:Act) (w:World),S w→rem.length=n→(∀j,j∈rem↔listed.getD j true=false)→rem.Pairwise (fun i j=>rk i<rk j)→¬(x∈rem∧y∈rem)→listed.size=l.length→
  (∀k o,l[k]? =some o→listed.getD k false=true→∀e∈o.after,Region.binds .any e=true→listed.getD e.on false=true)→
  bK P l.toArray S kd K0 (bL l rem) a w→wpAny P .any l.toArray (Only K0) n listed a w:=by
 have hsel:∀(j:Nat) (o:Oper),l[j]? =some o→∀cs b,o.op≠ .select cs b:=fun j o ho cs b=>Region.noSelect_spec hns j o cs b (by simpa using ho)
 intro n
 induction n with
 |zero=>
  intro rem listed a w _ hn hmem _ _ _ _ h
  exact Tzbu
 |succ n ih=>
  intro rem listed a w hS hn hmem hpw hxy hsz hcl h
  have inr:∀j,j∈rem→j<l.length:=fun j hj=>by
   have:=(hmem j).1 hj
   exact Tzbr
  have unl:∀j,j<l.length→j∉rem→listed.getD j false=true:=fun j hj hm=>by
   exact Tzbv
  refine ⟨fun h0=> ?_,fun j hj=> ?_⟩
  ·exact Tzbs
  ·obtain ⟨hun,o,ho,hpre⟩:=mem_ready.1 hj
   have ho' :l[j]? =some o:=by simpa using ho
   have hin:j∈rem:=(hmem j).2 hun
   obtain ⟨pre,post,rfl⟩:=List.append_of_mem hin
   rw [List.pairwise_append] at hpw
   obtain ⟨hp1,hp2,hp3⟩:=hpw
   have hjl:=inr j hin
   -- none of those before it is waited for
   have hpair:∀i u,i∈pre→l[i]? =some u→bY kd l.toArray u o=true:=fun i u hi hx=>by
    have hij:rk i<rk j:=hp3 i hi j (by simp)
    rcases (hat j o ho').2 i u hij hx with hb|hb|hb
    ·exact Tzcg
    ·exact hb
    ·exfalso
     rcases hb with ⟨rfl,rfl⟩|⟨rfl,rfl⟩
     ·exact hxy ⟨by simp [hi],by simp⟩
     ·exact hxy ⟨by simp,by simp [hi]⟩
   have hnj:j∉pre++post:=by
    exact Tzbi
   have hK:∀a' w',S w'→bK P l.toArray S kd K0 (bL l (pre++post)) a' w'→wpAny P .any l.toArray (Only K0) n (listed.setIfInBounds j true) a' w' :=by
    intro a' w' hS' h'
    refine ih (pre++post) _ a' w' hS' (by simp at hn ⊢;omega) (fun i=> ?_) ?_ (fun ⟨q1,q2⟩=>hxy ⟨by simp at q1 ⊢;rcases q1 with q1|q1<;>simp [q1],by simp at q2 ⊢;rcases q2 with q2|q2<;>simp [q2]⟩) (by simpa using hsz) ?_ h'
    ·exact Tza3
    ·exact Tzbt
    ·exact Tza2
   exact Tzag
def bX (p:List Nat) (i:Nat):Nat:=p.idxOf i
def BY (kd:Oper→Nat) (l:List Oper) (b:Array Nat) (p:List Nat) (x y j:Nat):Bool:=
 match l[j]? with
 |none=>true
 |some o=>(o.after.all fun e=> !Region.binds .any e || (decide (e.on<l.length) && decide (bX p e.on<bX p j))) &&
  (List.range l.length).all fun i=>match l[i]? with
   |none=>true
   |some u=> !decide (bX p i<bX p j) || (b.getD j 0).testBit i || bY kd l.toArray u o || (i==x && j==y) || (i==y && j==x)
def xM (kd:Oper→Nat) (l:List Oper) (b:Array Nat) (x y j:Nat):Bool:=
 match l[j]? with
 |none=>true
 |some o=>kd o==0 || j==x || j==y || ((b.getD j 0).testBit x && (b.getD j 0).testBit y)
def oY (kd:Oper→Nat) (l:List Oper) (p:List Nat) (x y:Nat):Bool:=
 Region.noSelect l.toArray && (List.range l.length).all (fun j=>BY kd l (bef l) p x y j && xM kd l (bef l) x y j && decide (j∈p)) && decide p.Nodup && decide (p.length=l.length) && p.all (fun j=>decide (j<l.length))
theorem kI {kd:Oper→Nat} {l:List Oper} {p:List Nat} {x y:Nat} (h:oY kd l p x y=true):
 Region.noSelect l.toArray=true∧(∀j o,l[j]? =some o→(∀e∈o.after,Region.binds .any e=true→e.on<l.length∧bX p e.on<bX p j)∧∀i u,bX p i<bX p j→l[i]? =some u→((bef l).getD j 0).testBit i=true∨bY kd l.toArray u o=true∨(i=x∧j=y)∨(i=y∧j=x))∧
 (∀j o,l[j]? =some o→kd o=0∨j=x∨j=y∨(((bef l).getD j 0).testBit x=true∧((bef l).getD j 0).testBit y=true))∧(∀j,j<l.length↔j∈p)∧p.Nodup∧p.length=l.length:=by
 simp only [oY,Bool.and_eq_true,List.all_eq_true,List.mem_range,decide_eq_true_eq] at h
 obtain ⟨⟨⟨⟨h1,h2⟩,h3⟩,h4⟩,h5⟩:=h
 refine ⟨h1,fun j o ho=> ?_,fun j o ho=> ?_,fun j=>⟨fun hj=>(h2 j hj).2,h5 j⟩,h3,h4⟩
 ·have hj:=(List.getElem?_eq_some_iff.1 ho).1
  have:=(h2 j hj).1.1
  simp only [BY,ho,Bool.and_eq_true,Array.all_eq_true_iff_forall_mem,List.all_eq_true,List.mem_range] at this
  refine ⟨fun e he hb=> ?_,fun i u hi hu=> ?_⟩
  ·have h:=this.1 e he
   simpa [hb] using h
  ·have h:=this.2 i (List.getElem?_eq_some_iff.1 hu).1
   simp only [hu,Bool.or_eq_true,Bool.not_eq_true',decide_eq_false_iff_not,Bool.and_eq_true,beq_iff_eq] at h
   rcases h with (((h|h)|h)|h)|h
   ·exact absurd hi h
   ·exact .inl h
   ·exact .inr (.inl h)
   ·exact .inr (.inr (.inl h))
   ·exact .inr (.inr (.inr h))
 ·have hj:=(List.getElem?_eq_some_iff.1 ho).1
  have:=(h2 j hj).1.2
  simp only [xM,ho,Bool.or_eq_true,Bool.and_eq_true,beq_iff_eq] at this
  rcases this with ((h|h)|h)|h
  ·exact .inl h
  ·exact .inr (.inl h)
  ·exact .inr (.inr (.inl h))
  ·exact .inr (.inr (.inr h))
theorem BZ (kd:Oper→Nat) (S:World→Prop) (hk1:∀o,kd o=1→Qu P o) (l:List Oper) (p1 p2:List Nat) (x y:Nat) (hB1:oY kd l p1 x y=true) (hB2:oY kd l p2 x y=true) (hx0:∀o,l[x]? =some o→kd o≠0∧kd o≠1) (hy0:∀o,l[y]? =some o→kd o≠0∧kd o≠1) (hlx:x<l.length) (hly:y<l.length) (hr1:bX p1 x<bX p1 y) (hr2:bX p2 y<bX p2 x):
 ∀(n:Nat) (r1 r2:List Nat) (listed:Array Bool) (a:Act) (w:World),S w→r1.length=n→r2.length=n→(∀j,j∈r1↔listed.getD j true=false)→(∀j,j∈r2↔listed.getD j true=false)→r1.Pairwise (fun i j=>bX p1 i<bX p1 j)→r2.Pairwise (fun i j=>bX p2 i<bX p2 j)→x∈r1→y∈r1→listed.size=l.length→
  (∀k o,l[k]? =some o→listed.getD k false=true→∀e∈o.after,Region.binds .any e=true→listed.getD e.on false=true)→
  bK P l.toArray S kd K0 (bL l r1) a w→bK P l.toArray S kd K0 (bL l r2) a w→wpAny P .any l.toArray (Only K0) n listed a w:=by
 obtain ⟨hns,hat1,hkk,hin1,hnd1,hlen1⟩:=kI hB1
 obtain ⟨_,hat2,_,hin2,hnd2,hlen2⟩:=kI hB2
 have hsel:∀(j:Nat) (o:Oper),l[j]? =some o→∀cs b,o.op≠ .select cs b:=fun j o ho cs b=>Region.noSelect_spec hns j o cs b (by simpa using ho)
 have hne:x≠y:=fun e=>by rw [e] at hr1;omega
 intro n
 induction n with
 |zero=>
  intro r1 r2 listed a w _ hn _ _ _ _ _ hx _ _ _ _ _
  rw [List.eq_nil_of_length_eq_zero hn] at hx
  cases hx
 |succ n ih=>
  intro r1 r2 listed a w hS hn1 hn2 hm1 hm2 hp1 hp2 hx hy hsz hcl h1 h2
  have inr:∀j,j∈r1→j<l.length:=fun j hj=>by
   have:=(hm1 j).1 hj
   exact Tzbr
  have unl:∀j,j<l.length→j∉r1→listed.getD j false=true:=fun j hj hm=>by
   have:¬listed.getD j true=false:=fun e=>hm ((hm1 j).2 e)
   have hlt:j<listed.size:=by omega
   simp [hlt] at this ⊢
   exact this
  have step:∀(r:List Nat) (p:List Nat),(∀j,j∈r↔listed.getD j true=false)→r.length=n+1→∀j,j∈r→∀pre post,r=pre++j::post→r.Pairwise (fun i j=>bX p i<bX p j)→
   (pre++post).length=n∧(∀i,i∈pre++post↔(listed.setIfInBounds j true).getD i true=false)∧(pre++post).Pairwise (fun i j=>bX p i<bX p j)∧j∉pre++post∧(∀i∈pre,bX p i<bX p j):=by
   intro r p hm hn j hj pre post hr hp
   subst hr
   rw [List.pairwise_append] at hp
   obtain ⟨q1,q2,q3⟩:=hp
   have hnj:j∉pre++post:=by
    intro hin
    rcases List.mem_append.1 hin with hin|hin
    ·have:=q3 j hin j (by simp);omega
    ·have:=(List.pairwise_cons.1 q2).1 j hin;omega
   refine ⟨by simp at hn ⊢;omega,fun i=> ?_,?_,hnj,fun i hi=>q3 i hi j (by simp)⟩
   ·by_cases hij:j=i
    ·subst hij
     have hlt:j<listed.size:=by
      have:=(hm j).1 hj
      rcases Nat.lt_or_ge j listed.size with h' |h'
      ·exact h'
      ·simp [Array.getElem?_eq_none h'] at this
     constructor
     ·intro hin;exact absurd hin hnj
     ·intro hin;simp [hlt] at hin
    ·rw [getD_set_ne true hij,←hm i]
     simp [Ne.symm hij]
   ·rw [List.pairwise_append]
    exact ⟨q1,(List.pairwise_cons.1 q2).2,fun u hu v hv=>q3 u hu v (by simp [hv])⟩
  have hcl' :∀j o,l[j]? =some o→(∀e∈o.after,Region.binds .any e=true→listed.getD e.on false=true)→∀k o',l[k]? =some o'→(listed.setIfInBounds j true).getD k false=true→∀e∈o'.after,Region.binds .any e=true→(listed.setIfInBounds j true).getD e.on false=true:=by
   intro j o ho hpre k o' hk hL e he hb
   refine getD_set_true ?_
   by_cases hjk:j=k
   ·subst hjk
    rw [ho] at hk
    cases hk
    exact hpre e he hb
   ·rw [getD_set_ne false hjk] at hL
    exact hcl k o' hk hL e he hb
  refine ⟨fun h0=> ?_,fun j hj=> ?_⟩
  ·exfalso
   match r1,hn1 with
   |m::rem',_=>
    have hm:m∈m::rem' :=by simp
    have hml:=inr m hm
    have ho:l[m]? =some l[m]:=List.getElem?_eq_getElem hml
    have:m∈Region.ready .any l.toArray listed:=mem_ready.2 ⟨(hm1 m).1 hm,l[m],by simp,fun e he hb=>by
     obtain ⟨hlt0,hlt⟩:=(hat1 m _ ho).1 e he hb
     refine unl e.on hlt0 (fun hin=> ?_)
     rcases List.mem_cons.1 hin with hin|hin
     ·rw [hin] at hlt
      omega
     ·have:=(List.pairwise_cons.1 hp1).1 _ hin
      omega⟩
    rw [h0] at this
    cases this
  ·obtain ⟨hun,o,ho,hpre⟩:=mem_ready.1 hj
   have ho' :l[j]? =some o:=by simpa using ho
   have hin:j∈r1:=(hm1 j).2 hun
   have hin2' :j∈r2:=(hm2 j).2 hun
   obtain ⟨pr1,po1,e1⟩:=List.append_of_mem hin
   obtain ⟨pr2,po2,e2⟩:=List.append_of_mem hin2'
   obtain ⟨s1,s2,s3,s4,s5⟩:=step r1 p1 hm1 hn1 j hin pr1 po1 e1 hp1
   obtain ⟨t1,t2,t3,t4,t5⟩:=step r2 p2 hm2 hn2 j hin2' pr2 po2 e2 hp2
   have nobef:∀i,i∈r1→¬((bef l).getD j 0).testBit i=true:=fun i hi hb=>by
    have:=fQ (fun k=>listed.getD k false=true) l (fun k o hk hL=>hcl k o hk hL) j o ho' (fun e he hb=>hpre e he hb) i hb
    have h2:=(hm1 i).1 hi
    have hlt:i<listed.size:=by have:=inr i hi;omega
    simp [hlt] at this h2
    rw [this] at h2
    cases h2
   have in12:∀i,i∈r2→i∈r1:=fun i hi=>(hm1 i).2 ((hm2 i).1 hi)
   rw [e1,bT,eP ho'] at h1
   rw [e2,bT,eP ho'] at h2
   by_cases hjx:j=x
   ·subst hjx
    have hxp:∀i u,i∈pr1→l[i]? =some u→bY kd l.toArray u o=true:=fun i u hi hu=>by
     rcases (hat1 j o ho').2 i u (s5 i hi) hu with hb|hb|⟨q1,q2⟩|⟨q1,q2⟩
     ·exact absurd hb (nobef i (by rw [e1];simp [hi]))
     ·exact hb
     ·exact absurd q2 hne
     ·rw [q1] at hi;have:=s5 y hi;omega
    have hko:=hx0 o ho'
    have h3:=gN (ops:=l.toArray) ho hko.1 (hsel j o ho') (bL l pr1) a w hS (fun u hu=>by
     obtain ⟨i,hi,hu'⟩:=eS hu
     have hb:=hxp i u hi hu'
     simp only [bY,Bool.and_eq_true,Bool.or_eq_true,beq_iff_eq] at hb
     refine ⟨?_,hb.1.1,hsel i u hu'⟩
     rcases hb.2 with (q|q)|q
     ·exact q
     ·exact absurd q hko.1
     ·exact absurd q.2 hko.2) h1
    refine wpOp_mono (fun a' w' h4=> ?_) h3
    rw [←bT] at h4
    exact tA kd S hk1 l hns (bX p1) j y hat1 n (pr1++po1) _ a' w' h4.1 s1 s2 s3 (fun h=>s4 h.1) (by simpa using hsz) (hcl' j o ho' hpre) h4.2
   by_cases hjy:j=y
   ·subst hjy
    have hxp:∀i u,i∈pr2→l[i]? =some u→bY kd l.toArray u o=true:=fun i u hi hu=>by
     rcases (hat2 j o ho').2 i u (t5 i hi) hu with hb|hb|⟨q1,q2⟩|⟨q1,q2⟩
     ·exact absurd hb (nobef i (in12 i (by rw [e2];simp [hi])))
     ·exact hb
     ·rw [q1] at hi;have:=t5 x hi;omega
     ·exact absurd q2.symm hne
    have hko:=hy0 o ho'
    have h3:=gN (ops:=l.toArray) ho hko.1 (hsel j o ho') (bL l pr2) a w hS (fun u hu=>by
     obtain ⟨i,hi,hu'⟩:=eS hu
     have hb:=hxp i u hi hu'
     simp only [bY,Bool.and_eq_true,Bool.or_eq_true,beq_iff_eq] at hb
     refine ⟨?_,hb.1.1,hsel i u hu'⟩
     rcases hb.2 with (q|q)|q
     ·exact q
     ·exact absurd q hko.1
     ·exact absurd q.2 hko.2) h2
    refine wpOp_mono (fun a' w' h4=> ?_) h3
    rw [←bT] at h4
    exact tA kd S hk1 l hns (bX p2) x j hat2 n (pr2++po2) _ a' w' h4.1 t1 t2 t3 (fun h=>t4 h.2) (by simpa using hsz) (hcl' j o ho' hpre) h4.2
   have k0:kd o=0:=by
    rcases hkk j o ho' with q|q|q|q
    ·exact q
    ·exact absurd q hjx
    ·exact absurd q hjy
    ·exact absurd q.1 (nobef x hx)
   have pk:∀(p:List Nat) (hat:∀j o,l[j]? =some o→(∀e∈o.after,Region.binds .any e=true→e.on<l.length∧bX p e.on<bX p j)∧∀i u,bX p i<bX p j→l[i]? =some u→((bef l).getD j 0).testBit i=true∨bY kd l.toArray u o=true∨(i=x∧j=y)∨(i=y∧j=x)) (pr:List Nat),(∀i∈pr,i∈r1∧bX p i<bX p j)→∀u∈bL l pr,o.apart l.toArray u=true∧∀cs b,u.op≠ .select cs b:=by
    intro p hat pr hpr u hu
    obtain ⟨i,hi,hu'⟩:=eS hu
    refine ⟨?_,hsel i u hu'⟩
    rcases (hat j o ho').2 i u (hpr i hi).2 hu' with hb|hb|⟨q1,q2⟩|⟨q1,q2⟩
    ·exact absurd hb (nobef i (hpr i hi).1)
    ·simp only [bY,Bool.and_eq_true] at hb
     exact hb.1.2
    ·exact absurd q2 hjy
    ·exact absurd q2 hjx
   obtain ⟨v1,y1,g1⟩:=iC (ops:=l.toArray) k0 (hsel j o ho') (bL l pr1) a w hS (pk p1 hat1 pr1 (fun i hi=>⟨by rw [e1];simp [hi],s5 i hi⟩)) h1
   obtain ⟨v2,y2,g2⟩:=iC (ops:=l.toArray) k0 (hsel j o ho') (bL l pr2) a w hS (pk p2 hat2 pr2 (fun i hi=>⟨in12 i (by rw [e2];simp [hi]),t5 i hi⟩)) h2
   obtain rfl:v1=v2:=eN hS y1 y2
   rw [←bT] at g1 g2
   refine (jN y1 hS).wpOp ho (ih (pr1++po1) (pr2++po2) _ _ w hS s1 t1 s2 t2 s3 t3 ?_ ?_ (by simpa using hsz) (hcl' j o ho' hpre) g1 g2)
   ·rw [e1] at hx
    simp at hx ⊢
    rcases hx with q|q|q
    ·exact .inl q
    ·exact absurd q.symm hjx
    ·exact .inr q
   ·rw [e1] at hy
    simp at hy ⊢
    rcases hy with q|q|q
    ·exact .inl q
    ·exact absurd q.symm hjy
    ·exact .inr q
theorem tQ (S:World→Prop) (p1 p2:List Nat) (x y:Nat) {id:Nat} {l:List Oper} {Q:Exit→Act→World→Prop} {a:Act} {w:World}
 (hm:P.follows .mixedOrders=true) (hB1:oY aY l p1 x y=true) (hB2:oY aY l p2 x y=true) (hk:((List.range l.length).all fun j=> !(j==x || j==y) || match l[j]? with|none=>false|some o=>aY o==2)=true)
 (hlx:x<l.length) (hly:y<l.length) (hr1:bX p1 x<bX p1 y) (hr2:bX p2 y<bX p2 x) (hS:S w.drew)
 (h1:bK P l.toArray S aY (Q .normal) (bL l p1) a w.drew) (h2:bK P l.toArray S aY (Q .normal) (bL l p2) a w.drew):(Code.region id l.toArray true).wp P Q a w:=by
 refine Code.wp_mono Only.to (wp_region_any hm ?_)
 obtain ⟨_,_,_,hin1,hnd1,hlen1⟩:=kI hB1
 obtain ⟨_,_,_,hin2,hnd2,hlen2⟩:=kI hB2
 have kinds:∀j,j=x∨j=y→∀o,l[j]? =some o→aY o≠0∧aY o≠1:=by
  intro j hj o ho
  have:=List.all_eq_true.1 hk j (List.mem_range.2 (List.getElem?_eq_some_iff.1 ho).1)
  rcases hj with rfl|rfl<;>simp [ho] at this<;>omega
 have mem:∀(p:List Nat),(∀j,j<l.length↔j∈p)→∀j,j∈p↔(Array.replicate l.length false).getD j true=false:=by
  intro p hin j
  rw [←hin j]
  by_cases hj:j<l.length
  ·simp [hj]
  ·simp [hj]
 have pw:∀(p:List Nat),p.Nodup→p.Pairwise (fun i j=>bX p i<bX p j):=by
  intro p hp
  rw [List.pairwise_iff_getElem]
  intro i j hi hj hij
  unfold bX
  rw [List.Nodup.idxOf_getElem hp,List.Nodup.idxOf_getElem hp]
  exact hij
 have:=BZ (K0:=Q .normal) aY S (fun o=>lO) l p1 p2 x y hB1 hB2 (kinds x (.inl rfl)) (kinds y (.inr rfl)) hlx hly hr1 hr2 l.length p1 p2 (Array.replicate l.length false) a w.drew hS hlen1 hlen2 (mem p1 hin1) (mem p2 hin2) (pw p1 hnd1) (pw p2 hnd2) ((hin1 x).1 hlx) ((hin1 y).1 hly) (by simp) (fun k o hk hL=>by
  have hlt:=(List.getElem?_eq_some_iff.1 hk).1
  simp [hlt] at hL) h1 h2
 simpa using this
end
end Go.Proofs.YtiblijmngokcgaaGreatDoor
namespace Go.Proofs.YtiblijmngokcgaaGreatDoor
set_option linter.unusedVariables false
def qO (l:List Oper) (n1:Nat):Bool:=(List.range l.length).all fun j=>decide (j<n1) || (List.range j).all fun i=>((bef l).getD j 0).testBit i
theorem qN {l:List Oper} {n1:Nat} (h:qO l n1=true) {j:Nat} (h1:n1≤j) (h2:j<l.length) {i:Nat} (hi:i<j):((bef l).getD j 0).testBit i=true:=by
 unfold qO at h
 rw [List.all_eq_true] at h
 have:=h j (by simpa using h2)
 simp only [Bool.or_eq_true,decide_eq_true_eq,List.all_eq_true,List.mem_range] at this
 rcases this with h|h
 ·omega
 ·exact h i hi
def dR (l:List Oper) (n1:Nat):Array Bool:=((List.range l.length).map (fun i=>decide (i<n1))).toArray
section
variable {P : Program} {K0 : Act → World → Prop}
theorem zU {ops:Array Oper} {j:Nat} {K K1 K2:Act→World→Prop} {a:Act} {w:World} (h:wpOp P ops (Only K1) j K a w):wpOp P ops (Only K2) j K a w:=by
 unfold wpOp at*
 cases hj:ops[j]? with
 |none=>simp only [hj] at h ⊢;exact h
 |some o=>
  simp only [hj] at h ⊢
  split
  ·rename_i hw
   simp only [hw,if_true] at h
   rcases h with h|⟨_,h⟩
   ·exact .inl (jA h)
   ·exact (lJ h).elim
  ·rename_i hw
   simp only [hw] at h
   exact h
theorem zZ (kd:Oper→Nat) (S:World→Prop) (hk1:∀o,kd o=1→Qu P o) (l:List Oper) (n1:Nat) (hn1:n1≤l.length) (hB:mE kd l=true) (hT:qO l n1=true) {K1:Act→World→Prop}
 (hK1:∀a w,K1 a w→wpAny P .any l.toArray (Only K0) (l.length-n1) (dR l n1) a w):
 ∀(n:Nat) (rem:List Nat) (listed:Array Bool) (a:Act) (w:World),S w→rem.length=n→(∀j∈rem,j<n1)→(∀j,(j∈rem∨(n1≤j∧j<l.length))↔listed.getD j true=false)→rem.Pairwise (·<·)→listed.size=l.length→
  (∀k o,l[k]? =some o→listed.getD k false=true→∀e∈o.after,Region.binds .any e=true→listed.getD e.on false=true)→
  bK P l.toArray S kd K1 (bL l rem) a w→wpAny P .any l.toArray (Only K0) (n+(l.length-n1)) listed a w:=by
 have hns:Region.noSelect l.toArray=true:=by simp [mE] at hB;exact hB.1
 have hsel:∀(j:Nat) (o:Oper),l[j]? =some o→∀cs b,o.op≠ .select cs b:=fun j o ho cs b=>Region.noSelect_spec hns j o cs b (by simpa using ho)
 have hat:∀j o,l[j]? =some o→(∀e∈o.after,Region.binds .any e=true→e.on<j)∧∀i x,i<j→l[i]? =some x→((bef l).getD j 0).testBit i=true∨bY kd l.toArray x o=true:=by
  exact Tzb3
 intro n
 induction n with
 |zero=>
  intro rem listed a w _ hn _ hmem _ hsz _ h
  have:rem=[]:=List.eq_nil_of_length_eq_zero hn
  subst this
  have:listed=dR l n1:=by
   apply Array.ext
   ·rw [hsz];simp [dR]
   ·intro i h1 h2
    have hm:=hmem i
    simp [h1] at hm
    simp only [dR,List.getElem_toArray,List.getElem_map,List.getElem_range]
    by_cases hi:i<n1
    ·rw [decide_eq_true hi]
     cases hq:listed[i] with
     |true=>rfl
     |false=>have:=hm.2 hq;omega
    ·rw [decide_eq_false hi]
     exact hm.1 ⟨by omega,by omega⟩
  rw [this,Nat.zero_add]
  exact hK1 a w h
 |succ n ih=>
  intro rem listed a w hS hn hlo hmem hpw hsz hcl h
  rw [Nat.succ_add]
  have inr:∀j,j∈rem→j<l.length:=fun j hj=>by
   have:=(hmem j).1 (.inl hj)
   exact Tzbr
  have unl:∀j,j<n1→j∉rem→listed.getD j false=true:=fun j hj hm=>by
   have:¬listed.getD j true=false:=fun e=>by
    rcases (hmem j).2 e with h|h
    ·exact hm h
    ·omega
   have hlt:j<listed.size:=by omega
   simp [hlt] at this ⊢
   exact this
  refine ⟨fun h0=> ?_,fun j hj=> ?_⟩
  ·exfalso
   match rem,hn with
   |m::rem',_=>
    have hm:m∈m::rem' :=by simp
    have hml:=inr m hm
    have ho:l[m]? =some l[m]:=List.getElem?_eq_getElem hml
    have:m∈Region.ready .any l.toArray listed:=mem_ready.2 ⟨(hmem m).1 (.inl hm),l[m],by simp,fun e he hb=>by
     have hlt:=(hat m _ ho).1 e he hb
     refine unl e.on (by have:=hlo m hm;omega) (fun hin=> ?_)
     rcases List.mem_cons.1 hin with rfl|hin
     ·omega
     ·have:=(List.pairwise_cons.1 hpw).1 _ hin
      omega⟩
    rw [h0] at this
    cases this
  ·obtain ⟨hun,o,ho,hpre⟩:=mem_ready.1 hj
   have ho' :l[j]? =some o:=by simpa using ho
   have hin:j∈rem:=by
    rcases (hmem j).2 hun with hin|⟨hj1,hj2⟩
    ·exact hin
    ·exfalso
     match rem,hn with
     |m::rem',_=>
      have hm:m∈m::rem' :=by simp
      have hm1:=hlo m hm
      have hb:=qN hT hj1 hj2 (show m<j by omega)
      have:=fQ (fun k=>listed.getD k false=true) l (fun k o hk hL=>hcl k o hk hL) j o ho' (fun e he hb=>hpre e he hb) m hb
      have h2:=(hmem m).1 (.inl hm)
      have hlt:m<listed.size:=by omega
      simp [hlt] at this h2
      rw [this] at h2
      cases h2
   obtain ⟨pre,post,rfl⟩:=List.append_of_mem hin
   rw [List.pairwise_append] at hpw
   obtain ⟨hp1,hp2,hp3⟩:=hpw
   have hjl:=inr j hin
   -- none of those before it is waited for
   have hpair:∀i x,i∈pre→l[i]? =some x→bY kd l.toArray x o=true:=fun i x hi hx=>by
    have hij:i<j:=hp3 i hi j (by simp)
    rcases (hat j o ho').2 i x hij hx with hb|hb
    ·exfalso
     have:=fQ (fun k=>listed.getD k false=true) l (fun k o hk hL=>hcl k o hk hL) j o ho' (fun e he hb=>hpre e he hb) i hb
     have h2:=(hmem i).1 (.inl (by simp [hi]))
     have hlt:i<listed.size:=by omega
     simp [hlt] at this h2
     rw [this] at h2
     cases h2
    ·exact hb
   have hnj:j∉pre++post:=by
    exact Tzbi
   have hK:∀a' w',S w'→bK P l.toArray S kd K1 (bL l (pre++post)) a' w'→wpAny P .any l.toArray (Only K0) (n+(l.length-n1)) (listed.setIfInBounds j true) a' w' :=by
    intro a' w' hS' h'
    refine ih (pre++post) _ a' w' hS' (by simp at hn ⊢;omega) (fun i hi=>hlo i (by rcases List.mem_append.1 hi with h|h<;>simp [h])) (fun i=> ?_) ?_ (by simpa using hsz) ?_ h'
    ·by_cases hij:j=i
     ·subst hij
      have hlt:j<listed.size:=by omega
      constructor
      ·intro hm
       rcases hm with hm|hm
       ·exact absurd hm hnj
       ·have:=hlo j hin;omega
      ·intro hm;simp [hlt] at hm
     ·rw [getD_set_ne true hij,←hmem i]
      simp [Ne.symm hij]
    ·exact Tzbt
    ·exact Tza2
   rw [bT,eP ho'] at h
   have hpx:∀x∈bL l pre,bY kd l.toArray x o=true∧∀cs b,x.op≠ .select cs b:=fun x hx=>by
    obtain ⟨i,hi,hx'⟩:=eS hx
    exact ⟨hpair i x hi hx',hsel i x hx'⟩
   rw [bT] at hK
   by_cases k0:kd o=0
   ·obtain ⟨v,hv,h1⟩:=iC k0 (hsel j o ho') (bL l pre) a w hS (fun x hx=>by
     obtain ⟨hb,hs⟩:=hpx x hx
     simp only [bY,Bool.and_eq_true] at hb
     exact ⟨hb.1.2,hs⟩) h
    exact (jN hv hS).wpOp ho (hK _ _ hS h1)
   ·by_cases k1:kd o=1
    ·obtain ⟨v,hv,h1⟩:=lC ⟨k1,hk1 o k1⟩ (hsel j o ho') (bL l pre) a w hS (fun x hx=>by
      obtain ⟨hb,hs⟩:=hpx x hx
      simp only [bY,Bool.and_eq_true,Bool.or_eq_true,beq_iff_eq] at hb
      refine ⟨?_,hb.1.2,hs⟩
      rcases hb.2 with (hx0|hx0)|hx0
      ·exact .inl hx0
      ·exact absurd hx0 k0
      ·exact .inr ⟨hx0.1,hk1 x hx0.1⟩) h
     exact hv.wpOp ho (hK _ _ hS h1)
    ·have h1:=gN ho k0 (hsel j o ho') (bL l pre) a w hS (fun x hx=>by
      obtain ⟨hb,hs⟩:=hpx x hx
      simp only [bY,Bool.and_eq_true,Bool.or_eq_true,beq_iff_eq] at hb
      refine ⟨?_,hb.1.1,hs⟩
      rcases hb.2 with (hx0|hx0)|hx0
      ·exact hx0
      ·exact absurd hx0 k0
      ·exact absurd hx0.2 k1) h
     exact wpOp_mono (fun a' w' h2=>hK a' w' h2.1 h2.2) (zU h1)
theorem eX {l:List Oper} {k i:Nat} (d:Bool) (hi:i<l.length):(dR l k).getD i d=decide (i<k):=by
 simp [dR,hi]
theorem uW {l:List Oper} {k i:Nat} (hi:l.length≤i):(dR l k).getD i true=true:=by
 simp [dR,hi]
theorem uV {l:List Oper} {k:Nat} (hk:k<l.length):(dR l k).setIfInBounds k true=dR l (k+1):=by
 apply Array.ext
 ·simp [dR]
 ·intro i h1 h2
  simp [dR,List.getElem_set]
  by_cases hi:k=i
  ·simp [hi]
  ·simp [hi]
   omega
theorem DP (l:List Oper) (n1:Nat) (hB:∀j o,l[j]? =some o→∀e∈o.after,Region.binds .any e=true→e.on<j) (hT:qO l n1=true):
 ∀(m k:Nat),n1≤k→k+m=l.length→∀a w,wpList P l.toArray (Only K0) (l.drop k) a w→wpAny P .any l.toArray (Only K0) m (dR l k) a w:=by
 have hcl:∀k i o,l[i]? =some o→(dR l k).getD i false=true→∀e∈o.after,Region.binds .any e=true→(dR l k).getD e.on false=true:=by
  intro k i o ho hL e he hb
  have hlt:=(List.getElem?_eq_some_iff.1 ho).1
  have:=hB i o ho e he hb
  rw [eX _ hlt] at hL
  rw [eX _ (by omega)]
  simp at hL ⊢
  omega
 intro m
 induction m with
 |zero=>
  intro k hk hl a w h
  rw [List.drop_eq_nil_of_le (by omega)] at h
  refine ⟨?_,h⟩
  rw [List.eq_nil_iff_forall_not_mem]
  intro j hj
  have:=(mem_ready.1 hj).1
  rcases Nat.lt_or_ge j l.length with h1|h1
  ·rw [eX _ h1] at this
   simp at this
   omega
  ·rw [uW h1] at this
   cases this
 |succ m ih=>
  intro k hk hl a w h
  have hkl:k<l.length:=by omega
  have hok:l[k]? =some l[k]:=List.getElem?_eq_getElem hkl
  refine ⟨fun h0=> ?_,fun j hj=> ?_⟩
  ·exfalso
   have:k∈Region.ready .any l.toArray (dR l k):=mem_ready.2 ⟨by rw [eX _ hkl];simp,l[k],by simp,fun e he hb=>by
    have:=hB k _ hok e he hb
    rw [eX _ (by omega)]
    simpa using this⟩
   rw [h0] at this
   cases this
  ·obtain ⟨hun,o,ho,hpre⟩:=mem_ready.1 hj
   have ho' :l[j]? =some o:=by simpa using ho
   have hjl:=(List.getElem?_eq_some_iff.1 ho').1
   rw [eX _ hjl] at hun
   simp at hun
   have hjk:j=k:=by
    rcases Nat.lt_or_ge k j with h1|h1
    ·have:=fQ (fun i=>(dR l k).getD i false=true) l (hcl k) j o ho' (fun e he hb=>hpre e he hb) k (qN hT (by omega) hjl h1)
     rw [eX _ hkl] at this
     simp at this
    ·omega
   subst hjk
   rw [List.drop_eq_getElem_cons hkl] at h
   have hK:=ih (j+1) (by omega) (by omega)
   rw [uV hkl]
   unfold wpOp
   rw [hok] at ho'
   cases ho'
   simp only [ho]
   simp only [wpList] at h
   split
   ·rename_i hw
    simp only [hw,if_true] at h
    rcases h with h|⟨_,h⟩
    ·exact .inl (Oper.wp_mono (fun a' w' h=>hK a' w' h) h)
    ·exact (lJ h).elim
   ·rename_i hw
    simp only [hw] at h
    exact hK _ _ h
theorem iZ (S:World→Prop) (n1:Nat) {id:Nat} {l:List Oper} {Q:Exit→Act→World→Prop} {a:Act} {w:World}
 (hm:P.follows .mixedOrders=true) (hB:mE aY l=true) (hT:qO l n1=true) (hn1:n1≤l.length) (hS:S w.drew)
 (h:bK P l.toArray S aY (fun a w=>wpList P l.toArray (Only (Q .normal)) (l.drop n1) a w) (l.take n1) a w.drew):(Code.region id l.toArray true).wp P Q a w:=by
 refine Code.wp_mono Only.to (wp_region_any hm ?_)
 have hat:∀j o,l[j]? =some o→∀e∈o.after,Region.binds .any e=true→e.on<j:=by
  intro j o ho e he hb
  have hlt:=(List.getElem?_eq_some_iff.1 ho).1
  have h:nA aY l.toArray l (bef l) j=true:=by
   simp only [mE,Bool.and_eq_true,List.all_eq_true,List.mem_range] at hB
   exact hB.2 j hlt
  simp only [nA,ho,Bool.and_eq_true,Array.all_eq_true_iff_forall_mem,List.all_eq_true,List.mem_range] at h
  have:=h.1 e he
  simpa [hb] using this
 have htake:bL l (List.range n1)=l.take n1:=by
  have:∀(m:Nat) (hm:m≤l.length),(List.range m).filterMap (fun i=>l[i]?)=l.take m:=by
   exact Tzch
  exact this n1 hn1
 have:=zZ (K0:=Q .normal) aY S (fun o=>lO) l n1 hn1 hB hT (fun a w h=>DP l n1 hat hT (l.length-n1) n1 (Nat.le_refl _) (by omega) a w h) n1 (List.range n1) (Array.replicate l.length false) a w.drew hS (by simp) (by simp) (fun j=>by
  by_cases hj:j<l.length
  ·simp [hj];omega
  ·simp [hj];omega) List.pairwise_lt_range (by simp) (fun k o hk hL=>by
  have hlt:=(List.getElem?_eq_some_iff.1 hk).1
  simp [hlt] at hL) (by rw [htake];exact h)
 rw [show n1+(l.length-n1)=l.length by omega] at this
 simpa using this
end
end Go.Proofs.YtiblijmngokcgaaGreatDoor
namespace Go.Proofs.YtiblijmngokcgaaGreatDoor
open Go.RowKit
set_option linter.unusedVariables false
section
variable {P : Program} {fn : Func} {tmps : Array Value} {w : World} {a u v : Tmp} {t : TypeId} {A : Addr} {x : Value}
theorem bH (h:fn.results= #[.cell a t]) (ha:tmps.getD a undef= .pointer (some A)) (hl:(loadVar t A).run P w= .ok x w):(results fn tmps).run P w= .ok x w:=by
 exact Tzci
theorem bI (h:fn.results= #[.cell a t,.tmp u]) (ha:tmps.getD a undef= .pointer (some A)) (hl:(loadVar t A).run P w= .ok x w):(results fn tmps).run P w= .ok (.tuple #[x,tmps.getD u undef]) w:=by
 exact Tzci
theorem pJ (h:fn.results= #[.cell a t,.tmp u,.tmp v]) (ha:tmps.getD a undef= .pointer (some A)) (hl:(loadVar t A).run P w= .ok x w):(results fn tmps).run P w= .ok (.tuple #[x,tmps.getD u undef,tmps.getD v undef]) w:=by
 exact Tzci
end
theorem aB {P:Program} {w:World} {g:Nat} {cs:Array Value} {t e:TypeId} {d:TypeDesc} (h:w.heap[g]? =some (.cells cs e (0,0))) (hu:P.underlying t=some d) (hd:d.isRow=true) (hi:(P.info? t).map (·.size)=some cs.size):
 (loadVar t ⟨g,0,none⟩).run P w= .ok (.agg cs) w:=by
 have:=run_loadVar_mid (P:=P) w g 0 t cs.toList d (fun j v hv=>by rw [cell_of_row _ _ _ _ _ _ h,Nat.zero_add];simpa using hv) hu hd (by simpa using hi)
 simpa using this
theorem rI {w wr:World} {g j:Nat} {v:Value} (h:w.grownBy wr (some g)):w.grownBy (wr.setCell ⟨g,j,none⟩ v) (some g):=aO h
theorem aJ (w:World) (g:Nat) (cs:Array Value):w.grownBy (w.setRow g cs) (some g):=⟨rfl,rfl,rfl,by simp,fun j hj hne=>setRow_other _ _ _ _ (by simpa using hne)⟩
end Go.Proofs.YtiblijmngokcgaaGreatDoor
