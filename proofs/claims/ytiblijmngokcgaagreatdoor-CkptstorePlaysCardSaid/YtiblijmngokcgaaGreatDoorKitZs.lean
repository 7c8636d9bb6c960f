import Derived.Test.YtiblijmngokcgaaGreatDoorMacZs
set_option linter.unusedVariables false
namespace Go.Proofs.YtiblijmngokcgaaGreatDoor
open Go.RowKit
theorem gJ {k:IntKind} {a b:Int} (h:a=b):Ending.returned (.int k a)= .returned (.int k b):=by rw [h]
def bv (c:UInt8):Value:= .int .u8 (c.toNat:Int)
theorem sJ (c:UInt8):bv c= .int .u8 (c.toNat:Int):=rfl
theorem fK (c:UInt8):c.toNat<256:=c.toNat_lt
def Cs (S:Nat->Prop) (w:World) (A:Option Addr) (xs:List Value):Prop:=
 0<xs.length->∃b off,A=some ⟨b,off,none⟩/\S b/\∀j u,xs[j]? =some u->w.cell? ⟨b,off+j,none⟩=some u
def ae (S:Nat->Prop) (w w' :World):Prop:=∀b,b<w.heap.size->S b->w'.heap[b]? =w.heap[b]?
theorem Below.ext {w w1 w2:World} (h:Below w.heap.size w w1) (k:Below w1.heap.size w1 w2):Below w.heap.size w w2:=h.trans (k.mono h.size)
theorem aL {w wr:World} {g j:Nat} {v:Value} (h:w.grownBy wr (some g)):w.grownBy (wr.setCell ⟨g,j,none⟩ v) (some g):=
 ⟨h.os,h.tape,h.output,by simpa [World.setCell] using h.size,λk hk fb=>(Below.heap_setCell wr ⟨g,j,none⟩ v k (λe=>fb (by rw [e]))).trans (h.block k hk fb)⟩
theorem Below.grow {w w1 w2:World} {g:Nat} (h:Below w.heap.size w w1) (hg:w1.grownBy w2 (some g)) (hle:w.heap.size<=g):Below w.heap.size w w2:=h.grown hg h.size (λk e=>by cases e;exact hle)
theorem ae.of_below {S:Nat->Prop} {w w' :World} (h:Below w.heap.size w w'):ae S w w' :=λb hb _=>h.block b hb
theorem ae.of_grown {w w' :World} {m:Nat} (h:w.grownBy w' (some m)):ae (·≠m) w w' :=λb hb hs=>h.block b hb (by simpa using hs)
theorem ae.cell {S:Nat->Prop} {w w' :World} (h:ae S w w') {b o:Nat} {v:Value} (hs:S b) (hc:w.cell? ⟨b,o,none⟩=some v):w'.cell? ⟨b,o,none⟩=some v:=
 (World.cell?_of_block (h b (block_lt_of_cell hc) hs)).trans hc
theorem Cs.keep {S:Nat->Prop} {w w' :World} {A:Option Addr} {xs:List Value} (h:Cs S w A xs) (hk:ae S w w'):Cs S w' A xs:=λhn=>by
 obtain ⟨b,off,rfl,hs,hc⟩:=h hn;exact ⟨b,off,rfl,hs,λj u hu=>hk.cell hs (hc j u hu)⟩
theorem Cs.mono {S S' :Nat->Prop} {w:World} {A:Option Addr} {xs:List Value} (h:Cs S w A xs) (hs:∀b,b<w.heap.size->S b->S' b):Cs S' w A xs:=λhn=>by
 obtain ⟨b,off,rfl,hb,hc⟩:=h hn;refine ⟨b,off,rfl,hs b ?_ hb,hc⟩;have:=hc 0 (xs[0]) (List.getElem?_eq_getElem hn);exact block_lt_of_cell this
theorem Cs.nil_ (S:Nat->Prop) (w:World) (A:Option Addr):Cs S w A []:=λh=>absurd h (by simp)
theorem Cs.at_ {S:Nat->Prop} {w:World} {A:Option Addr} {xs:List Value} {k:Nat} {u:Value} (h:Cs S w A xs) (hu:xs[k]? =some u):
 ∃b off,A=some ⟨b,off,none⟩/\S b/\b<w.heap.size/\w.cell? ⟨b,off+k,none⟩=some u:=by
 obtain ⟨hk,_⟩:=List.getElem?_eq_some_iff.1 hu;obtain ⟨b,off,rfl,hs,hc⟩:=h (by omega);exact ⟨b,off,rfl,hs,block_lt_of_cell (hc k u hu),hc k u hu⟩
theorem Cs.drop_ {S:Nat->Prop} {w:World} {A:Option Addr} {xs:List Value} (h:Cs S w A xs) (k:Nat) {c:Prop} [Decidable c] (hc:c->xs.length<=k):
 Cs S w (if c then A else A.map (·.add k)) (xs.drop k):=λhn=>by
 rw [List.length_drop] at hn;obtain ⟨b,off,rfl,hs,jk⟩:=h (by omega);rw [if_neg (λe=>by have:=hc e;omega)];refine ⟨b,off+k,by simp [Addr.add_mid],hs,λj u hu=> ?_⟩;rw [List.getElem?_drop] at hu;rw [Nat.add_assoc];exact jk _ u hu
theorem Cs.take_ {S:Nat->Prop} {w:World} {A:Option Addr} {xs:List Value} (h:Cs S w A xs) (k:Nat):Cs S w A (xs.take k):=λhn=>by
 rw [List.length_take] at hn;obtain ⟨b,off,rfl,hs,jk⟩:=h (by omega);refine ⟨b,off,rfl,hs,λj u hu=>jk j u ?_⟩;rw [List.getElem?_take] at hu;split at hu
 ·exact hu
 ·cases hu
def Bytes (S:Nat->Prop) (w:World) (v:Value) (l:List UInt8):Prop:=∃A c,v= .slice A l.length c/\l.length<=c/\c<=maxLen/\Cs S w A (l.map bv)
theorem Bytes.keep {S:Nat->Prop} {w w' :World} {v:Value} {l:List UInt8} (h:Bytes S w v l) (hk:ae S w w'):Bytes S w' v l:=by
 obtain ⟨A,c,rfl,h1,h2,h3⟩:=h;exact ⟨A,c,rfl,h1,h2,h3.keep hk⟩
theorem Bytes.ext {S:Nat->Prop} {w w' :World} {v:Value} {l:List UInt8} (h:Bytes S w v l) (hk:Below w.heap.size w w'):Bytes S w' v l:=h.keep (ae.of_below hk)
theorem Bytes.mono {S S' :Nat->Prop} {w:World} {v:Value} {l:List UInt8} (h:Bytes S w v l) (hs:∀b,b<w.heap.size->S b->S' b):Bytes S' w v l:=by
 obtain ⟨A,c,rfl,h1,h2,h3⟩:=h;exact ⟨A,c,rfl,h1,h2,h3.mono hs⟩
theorem Bytes.drew {S:Nat->Prop} {w:World} {v:Value} {l:List UInt8} (h:Bytes S w v l):Bytes S w.drew v l:=h
theorem Bytes.nil_ (S:Nat->Prop) (w:World):Bytes S w (.slice none 0 0) []:=⟨none,0,rfl,by simp,by simp [maxLen],Cs.nil_ _ _ _⟩
theorem Cs.byte {S:Nat->Prop} {w:World} {A:Option Addr} {l:List UInt8} {k:Nat} (h:Cs S w A (l.map bv)) (hk:k<l.length):
 ∃b off x,A=some ⟨b,off,none⟩/\S b/\b<w.heap.size/\l[k]? =some x/\w.cell? ⟨b,off+k,none⟩=some (.int .u8 (x.toNat:Int)):=by
 obtain ⟨b,off,rfl,hs,hb,hc⟩:=h.at_ (k:=k) (u:=bv l[k]) (by simp [hk]);exact ⟨b,off,l[k],rfl,hs,hb,List.getElem?_eq_getElem hk,hc⟩
theorem Cs.lit {S:Nat->Prop} (w:World) (C:Array Value) (e:TypeId) (fr:Nat×Nat) (xs:List Value) (hS:S w.heap.size) (h:C.toList.take xs.length=xs):
 Cs S (w.alloc (.cells C e fr)) (some ⟨w.heap.size,0,none⟩) xs:=λ_=>by
 refine ⟨_,0,rfl,hS,λj u hu=> ?_⟩;rw [cell_of_row _ _ _ C e fr (heap_alloc_new w _)];rw [<-h,List.getElem?_take] at hu;split at hu
 ·simpa using hu
 ·cases hu
theorem Bytes.lit {S:Nat->Prop} (w:World) (C:Array Value) (e:TypeId) (fr:Nat×Nat) (l:List UInt8) (n c:Nat) (hS:S w.heap.size) (hn:l.length=n) (hc:n<=c) (hm:c<=maxLen) (h:C.toList.take n=l.map bv):
 Bytes S (w.alloc (.cells C e fr)) (.slice (some ⟨w.heap.size,0,none⟩) n c) l:=by
 subst hn;exact ⟨_,c,rfl,hc,hm,Cs.lit w C e fr _ hS (by simpa using h)⟩
theorem Bytes.take_ {S:Nat->Prop} {w:World} {A:Option Addr} {n c:Nat} {l:List UInt8} (h:Bytes S w (.slice A n c) l) {k:Nat} (hk:k<=n):Bytes S w (.slice A k c) (l.take k):=by
 obtain ⟨A',c',e,h1,h2,h3⟩:=h;cases e;exact ⟨A,c,by rw [List.length_take,Nat.min_eq_left hk],by rw [List.length_take,Nat.min_eq_left hk];omega,h2,by rw [List.map_take];exact h3.take_ k⟩
theorem Bytes.clip {S:Nat->Prop} {w:World} {A:Option Addr} {n c c' :Nat} {l:List UInt8} (h:Bytes S w (.slice A n c) l) (h1:n<=c') (h2:c'<=maxLen):Bytes S w (.slice A n c') l:=by
 obtain ⟨A',c'',e,g1,g2,g3⟩:=h;cases e;exact ⟨A,c',rfl,h1,h2,g3⟩
theorem Bytes.len {S:Nat->Prop} {w:World} {A:Option Addr} {n c:Nat} {l:List UInt8} (h:Bytes S w (.slice A n c) l):l.length=n/\n<=c/\c<=9223372036854775807:=by
 obtain ⟨A',c',e,h1,h2,h3⟩:=h;cases e;unfold maxLen at h2;exact ⟨rfl,h1,h2⟩
theorem Bytes.drop_ {S:Nat->Prop} {w:World} {A:Option Addr} {n c:Nat} {l:List UInt8} (h:Bytes S w (.slice A n c) l) {k:Nat} (hk:k<=n) {q:Prop} [Decidable q] (hq:q->n<=k):
 Bytes S w (.slice (if q then A else A.map (·.add k)) (n-k) (c-k)) (l.drop k):=by
 obtain ⟨A',c',e,h1,h2,h3⟩:=h;cases e;refine ⟨_,c-k,by rw [List.length_drop],by rw [List.length_drop];omega,by omega,?_⟩;rw [List.map_drop];exact h3.drop_ k (λx=>by simpa using hq x)
def ui (k:IntKind) (w:World) (a:Option Addr) (len cap:Nat) (zs:List Int):Prop:=
 (a=none/\len=0/\cap=0/\zs=[])∨
 ∃x,a=some x/\len<=cap/\cap<=maxLen/\zs.length=cap/\(∀i,i<zs.length->w.cell? (x.add i)=some (.int k (zs.getD i 0)))/\∀n∈zs,(Lit.int k n).wf=true
theorem qX {w:World} {x:Addr} {v:Value} (h:w.cell? (x.add 0)=some v):∃b off,x=⟨b,off,none⟩:=by
 obtain ⟨b,off,spot⟩:=x;have e:(⟨b,off,spot⟩:Addr).add 0=⟨b,off,spot⟩:=by simp [Addr.add]
 rw [e] at h;cases spot with
 |none=>exact ⟨b,off,rfl⟩
 |some s=>simp [World.cell?] at h;split at h<;>simp at h
theorem SP {n:Int} (h:(Lit.int .u8 n).wf=true):0<=n/\n<256:=by
 simp [Lit.wf,IntKind.min,IntKind.max,IntKind.bits,IntKind.signed] at h;omega
theorem QI {n:Int} (h:(Lit.int .i64 n).wf=true): -9223372036854775808<=n/\n<=9223372036854775807:=by
 simp [Lit.wf,IntKind.min,IntKind.max,IntKind.bits,IntKind.signed] at h;omega
theorem ui.bytes {w:World} {a:Option Addr} {len cap:Nat} {zs:List Int} (h:ui .u8 w a len cap zs):
 ∃l:List UInt8,l.length=len/\len<=cap/\cap<=9223372036854775807/\Bytes (·<w.heap.size) w (.slice a len cap) l:=by
 rcases h with ⟨rfl,rfl,rfl,rfl⟩|⟨x,rfl,hl,hm,hz,hc,hw⟩
 ·exact ⟨[],rfl,by omega,by omega,Bytes.nil_ _ _⟩
 ·refine ⟨(zs.take len).map (λn=>UInt8.ofNat n.toNat),by simp;omega,hl,by unfold maxLen at hm;omega,some x,cap,by simp;omega,by simp;omega,hm,?_⟩;intro hn;have Du :0<zs.length:=by simp at hn;omega
  obtain ⟨b,off,rfl⟩:=qX (hc 0 Du);refine ⟨b,off,rfl,block_lt_of_cell (hc 0 Du),λj u hu=> ?_⟩;have hj:j<zs.length/\j<len:=by
   have:=(List.getElem?_eq_some_iff.1 hu).1;simp at this;omega
  have:=hc j hj.1;rw [Addr.add_mid] at this;rw [this];have hm:=SP (hw zs[j] (List.getElem_mem hj.1));simp [hj.1,hj.2,sJ] at hu;rw [<-hu];simp [hj.1];omega
theorem KL {P:Program} (w:World) (at_:Array TypeId) (ty:TypeId) (a b:Int):(Builtin.min_ at_ ty #[.int .i64 a,.int .i64 b]).run P w= .ok (.int .i64 (min a b)) w:=by
 have e:min a b=if b<a then b else a:=by split<;>omega
 rw [e];rfl
theorem KN {P:Program} (w:World) (at_:Array TypeId) (ty:TypeId) (a b:Int):(Builtin.max_ at_ ty #[.int .i64 a,.int .i64 b]).run P w= .ok (.int .i64 (max a b)) w:=by
 have e:max a b=if a<b then b else a:=by split<;>omega
 rw [e];rfl
def fF (l:List UInt8):Array Value:=(l.map bv).toArray
theorem yD (l:List UInt8):(fF l).size=l.length:=by simp [fF]
theorem uG (l:List UInt8) (j:Nat):(fF l)[j]? =(l[j]?).map bv:=by simp [fF]
theorem MW (l:List UInt8) (j:Nat) (c:UInt8):(fF l).setIfInBounds j (bv c)=fF (l.set j c):=by
 simp [fF,List.map_set]
theorem wB (n:Nat):madeCells #[.int .u8 0] n=fF (List.replicate n 0):=by
 apply Array.ext_getElem?
 intro i;rw [uG];by_cases h:i<n
 ·simp [madeCells,h,sJ,Nat.mod_one]
 ·simp [madeCells,h]
def kv (w:World) (g:Nat) (t:TypeId) (l:List UInt8):Prop:=w.heap[g]? =some (.cells (fF l) t (0,0))
theorem kv.lt {w:World} {g:Nat} {t:TypeId} {l:List UInt8} (h:kv w g t l):g<w.heap.size:=by
 rcases Nat.lt_or_ge g w.heap.size with af|Ci
 ·exact af
 ·unfold kv at h;rw [Array.getElem?_eq_none Ci] at h;cases h
theorem kv.at_ {w:World} {g:Nat} {t:TypeId} {l:List UInt8} {j:Nat} (h:kv w g t l) (hj:j<l.length):∃x,l[j]? =some x/\w.cell? ⟨g,j,none⟩=some (.int .u8 (x.toNat:Int)):=by
 refine ⟨l[j],List.getElem?_eq_getElem hj,?_⟩;rw [cell_of_row _ _ _ _ _ _ h,uG,List.getElem?_eq_getElem hj];rfl
theorem kv.frozen {w:World} {g:Nat} {t:TypeId} {l:List UInt8} (h:kv w g t l) (j:Nat):w.frozen? ⟨g,j,none⟩=false:=frozen_of_row _ _ _ _ _ h
theorem kv.new (w:World) (t:TypeId) (l:List UInt8):kv (w.alloc (.cells (fF l) t)) w.heap.size t l:=heap_alloc_new w _
theorem kv.drew {w:World} {g:Nat} {t:TypeId} {l:List UInt8} (h:kv w g t l):kv w.drew g t l:=h
theorem kv.set_ {w:World} {g:Nat} {t:TypeId} {l:List UInt8} (h:kv w g t l) (j:Nat) (c:UInt8):kv (w.setCell ⟨g,j,none⟩ (.int .u8 (c.toNat:Int))) g t (l.set j c):=by
 unfold kv at*;rw [heap_setCell_same _ _ _ _ _ _ h,<-MW];rfl
theorem kv.ext {w w' :World} {g:Nat} {t:TypeId} {l:List UInt8} (h:kv w g t l) (hb:Below w.heap.size w w'):kv w' g t l:=(hb.block g h.lt).trans h
theorem kv.bytes {S:Nat->Prop} {w:World} {g:Nat} {t:TypeId} {l:List UInt8} (h:kv w g t l) {n c:Nat} (hn:n=l.length) (hc:n<=c) (hm:c<=maxLen) (hS:S g):Bytes S w (.slice (some ⟨g,0,none⟩) n c) l:=by
 subst hn;refine ⟨_,c,rfl,hc,hm,λ_=>⟨g,0,rfl,hS,λj u hu=> ?_⟩⟩;rw [cell_of_row _ _ _ _ _ _ h,uG];simpa using hu
theorem dW {P:Program} {ops:Array Oper} {rest:List Oper} {op:Oper} {a:Act} {w:World} {Q:Exit->Act->World->Prop} (uw:op.guard=none) (ty:TypeId) (x y:Operand) (ho:op.op= .store ty x y)
 (g:Nat) (t:TypeId) (Fj cells:Array Value) (hx:a.eval x= .pointer (some ⟨g,0,none⟩)) (hy:a.eval y= .agg cells) (hg:w.heap[g]? =some (.cells Fj t (0,0)))
 (hi:(P.info? ty).map (·.size)=some cells.size) (hs:Fj.size=cells.size) (h1:cells.all (·.oneCell')=true)
 (h:wpList P ops Q rest (a.put op.dst undef) (w.setRow g cells)):wpList P ops Q (op::rest) a w:=
 wpList_plain uw λ_ hK=>by
  unfold Oper.wp execOp;simp only [ho,hx,hy,Instr.storeAt,Instr.sureAddr,Sem.run_bind,Sem.run_pure,Result.andThen_ok,run_storeVar_row w g t ty Fj cells hg hi hs h1];exact hK _ _ h
theorem nX {P:Program} {ops:Array Oper} {rest:List Oper} {op:Oper} {a:Act} {w:World} {Q:Exit->Act->World->Prop} (uw:op.guard=none) (ty:TypeId) (x y:Operand) (ho:op.op= .store ty x y)
 (t:TypeId) (Fj cells:Array Value) (hx:a.eval x= .pointer (some ⟨w.heap.size,0,none⟩)) (hy:a.eval y= .agg cells)
 (hi:(P.info? ty).map (·.size)=some cells.size) (hs:Fj.size=cells.size) (h1:cells.all (·.oneCell')=true)
 (h:wpList P ops Q rest (a.put op.dst undef) (w.alloc (.cells cells t))):wpList P ops Q (op::rest) a (w.alloc (.cells Fj t)):=by
 refine dW uw ty x y ho w.heap.size t Fj cells hx hy (heap_alloc_new w _) hi hs h1 ?_;rw [World.setRow_alloc_new];exact h
theorem Below.setRow {B:Nat} {a w:World} (h:Below B a w) {g:Nat} (hg:B<=g) (cs:Array Value):Below B a (w.setRow g cs):=
 ⟨h.os,h.tape,h.output,by simpa using h.size,λk hk=>(setRow_other w g k cs (by omega)).trans (h.block k hk)⟩
end Go.Proofs.YtiblijmngokcgaaGreatDoor
namespace Go.Proofs.YtiblijmngokcgaaGreatDoor
def cj (K:Act->World->Prop):Exit->Act->World->Prop
 | .normal,a,w=>K a w
 |_,_,_=>False
theorem gI (K:Act->World->Prop) (a:Act) (w:World):cj K .normal a w=K a w:=rfl
theorem oQ {K:Act->World->Prop}:¬LetsOut (cj K):=λ⟨_,_,h⟩=>h
theorem cj.to {Q:Exit->Act->World->Prop}:∀(e:Exit) (a:Act) (w:World),cj (Q .normal) e a w->Q e a w:=λe a w h=>by
 cases e<;>first|exact h|exact (h:False).elim
section
variable {P : Program} {ops : Array Oper} {K0 : Act -> World -> Prop} {S : World -> Prop} {kd : Oper -> Nat}
def Qu (P:Program) (o:Oper):Prop:=∀ρ w,(∃v,(execOp ρ o).run P w= .ok (.value v) w)∨(∃h w',(execOp ρ o).run P w= .halt h w')
theorem mO {o:Oper} {a:Act} {K:Act->World->Prop} {h:Halt} {w:World}:¬o.upon P a K (cj K0) (.halt h w):=by
 cases h<;>simp [Oper.upon,cj]
def bG (P:Program) (ops:Array Oper) (S:World->Prop) (kd:Oper->Nat) (K0:Act->World->Prop):List Oper->Act->World->Prop
 |[],a,w=>K0 a w
 |o::rest,a,w=>
  if kd o=0 then∃v,YieldsIf P ops S o v a/\bG P ops S kd K0 rest (a.put o.dst v) w
  else wpList P ops (cj (λa' w' =>S w'/\bG P ops S kd K0 rest a' w')) [o] a w
theorem pW {o:Oper} {a:Act} {w:World} {K:Act->World->Prop}:
 wpList P ops (cj K) [o] a w↔(if Region.wanted o (yielded ops a.tmps)=true then o.wp P a w K (cj K) else K (a.put o.dst undef) w):=by
 simp only [wpList];split
 ·constructor
  ·rintro (h|⟨_,h⟩)
   ·exact Oper.wp_mono (λ_ _ h=>h) h
   ·exact (oQ h).elim
  ·intro h;exact .inl (Oper.wp_mono (λ_ _ h=>h) h)
 ·exact Iff.rfl
theorem lU {o:Oper} {a:Act} {w:World} {K K1 K2:Act->World->Prop} (h:o.wp P a w K (cj K1)):o.wp P a w K (cj K2):=by
 unfold Oper.wp at*;generalize (execOp a.eval o).run P w=r at*;cases r with
 |ok n w' =>
  cases n<;>simp only [Oper.upon] at h ⊢;case value u=>exact h
  case skip=>exact h
  case defer d=>exact h
  case enter f args=>
   refine Calls.mono h λe Jz he=> ?_
   cases e with
   |returned u=>exact he
   |panicked c=>exact he
   |outgrown=>exact (oQ he).elim
  case row row args=>exact h
 |halt x w' =>exact (mO h).elim
theorem jE {o:Oper} {a:Act} {w:World} {rest:List Oper} (hk:kd o≠0):
 bG P ops S kd K0 (o::rest) a w↔(if Region.wanted o (yielded ops a.tmps)=true then o.wp P a w (λa' w' =>S w'/\bG P ops S kd K0 rest a' w') (cj K0) else (S w/\bG P ops S kd K0 rest (a.put o.dst undef) w)):=by
 show (if kd o=0 then _ else _)↔_;rw [if_neg hk,pW];split
 ·exact ⟨lU,lU⟩
 ·exact Iff.rfl
def YW (P:Program) (ops:Array Oper) (w:World) (o:Oper) (v:Value) (a:Act):Prop:=
 (Region.wanted o (yielded ops a.tmps)=true/\(execOp a.eval o).run P w= .ok (.value v) w)∨(Region.wanted o (yielded ops a.tmps)=false/\v=undef)
theorem YW.wpOp {i:Nat} {o:Oper} {v:Value} {a:Act} {w:World} {Q:Exit->Act->World->Prop} (hi:ops[i]? =some o) (hy:YW P ops w o v a) {K:Act->World->Prop} (h:K (a.put o.dst v) w):wpOp P ops Q i K a w:=by
 unfold Go.wpOp;simp only [hi];rcases hy with ⟨hw,hv⟩|⟨hw,rfl⟩
 ·simp only [hw,if_true,Oper.wp,hv,Oper.upon];exact .inl h
 ·simp only [hw,Bool.false_eq_true,if_false];exact h
theorem mM {o:Oper} {v:Value} {a:Act} {w:World} (hy:YieldsIf P ops S o v a) (hS:S w):YW P ops w o v a:=by
 rcases hy with ⟨x,y⟩|z
 ·exact .inl ⟨x,y w hS⟩
 ·exact .inr z
theorem YW.cons {o:Oper} {v:Value} {a:Act} {w:World} {rest:List Oper} (hk:kd o≠0) (hS:S w) (hy:YW P ops w o v a) (h:bG P ops S kd K0 rest (a.put o.dst v) w):bG P ops S kd K0 (o::rest) a w:=by
 rw [jE hk];rcases hy with ⟨hw,hv⟩|⟨hw,rfl⟩
 ·simp only [hw,if_true,Oper.wp,hv,Oper.upon];exact ⟨hS,h⟩
 ·simp only [hw,Bool.false_eq_true,if_false];exact ⟨hS,h⟩
theorem YW.same {o:Oper} {v:Value} {a a' :Act} {w:World} (hy:YW P ops w o v a) (he:execOp a'.eval o=execOp a.eval o)
 (hw:Region.wanted o (yielded ops a'.tmps)=Region.wanted o (yielded ops a.tmps)):YW P ops w o v a' :=by
 unfold YW at*;rw [he,hw];exact hy
theorem eH {o:Oper} {v:Value} {a:Act} {w:World} {rest:List Oper} (hk:kd o=0) (hy:YieldsIf P ops S o v a) (h:bG P ops S kd K0 rest (a.put o.dst v) w):bG P ops S kd K0 (o::rest) a w:=by
 show (if kd o=0 then _ else _);rw [if_pos hk];exact ⟨v,hy,h⟩
theorem pR {o:Oper} {a:Act} {w:World} {rest:List Oper} (hS:S w) (hq:kd o=0∨(kd o=1/\Qu P o)) (h:bG P ops S kd K0 (o::rest) a w):
 ∃v,YW P ops w o v a/\(kd o=0->YieldsIf P ops S o v a)/\bG P ops S kd K0 rest (a.put o.dst v) w:=by
 rcases hq with h0|⟨h1,hq⟩
 ·replace h:(if kd o=0 then _ else _):=h;rw [if_pos h0] at h;obtain ⟨v,hv,h⟩:=h;exact ⟨v,mM hv hS,λ_=>hv,h⟩
 ·rw [jE (by omega)] at h;by_cases hw:Region.wanted o (yielded ops a.tmps)=true
  ·simp only [hw,if_true] at h;unfold Oper.wp at h;rcases hq a.eval w with ⟨v,hv⟩|⟨x,w',hx⟩
   ·rw [hv] at h;exact ⟨v,.inl ⟨hw,hv⟩,λh0=>by omega,h.2⟩
   ·rw [hx] at h;exact (mO h).elim
  ·simp only [hw] at h;exact ⟨undef,.inr ⟨by simpa using hw,rfl⟩,λh0=>by omega,h.2⟩
theorem PR {o:Oper} {v:Value} {a:Act} {w:World} {rest:List Oper} (hS:S w) (hy:YW P ops w o v a) (h0:kd o=0->YieldsIf P ops S o v a) (h:bG P ops S kd K0 rest (a.put o.dst v) w):bG P ops S kd K0 (o::rest) a w:=by
 by_cases hk:kd o=0
 ·exact eH hk (h0 hk) h
 ·exact hy.cons hk hS h
theorem cO {x y:Oper} (hs:∀cs b,y.op≠ .select cs b) (fm:x.apart ops y=true) (a:Act) (v:Value):
 execOp (a.put x.dst v).eval y=execOp a.eval y/\Region.wanted y (yielded ops (a.put x.dst v).tmps)=Region.wanted y (yielded ops a.tmps):=
 ⟨execOp_put y hs a x.dst v (Oper.apart_spec fm).1,wanted_put y a x.dst v (Oper.apart_spec fm).1⟩
theorem bQ {x y:Oper} (hs:∀cs b,x.op≠ .select cs b) (fm:x.apart ops y=true) (a:Act) (v:Value):
 execOp (a.put y.dst v).eval x=execOp a.eval x/\Region.wanted x (yielded ops (a.put y.dst v).tmps)=Region.wanted x (yielded ops a.tmps):=
 ⟨execOp_put x hs a y.dst v (Oper.apart_spec fm).2.2,wanted_put x a y.dst v (Oper.apart_spec fm).2.2⟩
theorem oJ {oj:Oper} (hj:kd oj=1/\Qu P oj) (zg:∀cs b,oj.op≠ .select cs b) {post:List Oper}:
 ∀(pre:List Oper) (a:Act) (w:World),S w->(∀k∈pre,(kd k=0∨(kd k=1/\Qu P k))/\oj.apart ops k=true/\∀cs b,k.op≠ .select cs b)->bG P ops S kd K0 (pre++oj::post) a w->
  ∃v,YW P ops w oj v a/\bG P ops S kd K0 (pre++post) (a.put oj.dst v) w
 |[],a,w,hS,_,h=>by
  obtain ⟨v,h1,_,h2⟩:=pR hS (.inr hj) h;exact ⟨v,h1,h2⟩
 |k::pre,a,w,hS,hp,h=>by
  obtain ⟨hk,fm,tq⟩:=hp k (by simp);obtain ⟨u,hu,J5,h1⟩:=pR hS hk h;obtain ⟨v,hv,h2⟩:=oJ hj zg pre _ w hS (λx hx=>hp x (by simp [hx])) h1;obtain ⟨e1,e2⟩:=bQ zg fm a u;obtain ⟨e3,e4⟩:=cO tq fm a v;refine ⟨v,hv.same e1.symm e2.symm,PR hS (hu.same e3 e4) (λh0=>(J5 h0).of_same e3 e4) ?_⟩;exact Tzek
theorem sU {o:Oper} {a:Act} {w:World} {K:Act->World->Prop} (h:o.wp P a w K (cj K0)):
 ∃u w',(K (a.put o.dst u) w'∨∃d,K ({a with defers:=d::a.defers}.put o.dst u) w'):=by
 unfold Oper.wp at h;generalize (execOp a.eval o).run P w=r at*;cases r with
 |ok n w' =>
  cases n<;>simp only [Oper.upon] at h;case value u=>exact ⟨u,w',.inl h⟩
  case skip=>exact ⟨undef,w',.inl h⟩
  case defer d=>exact ⟨undef,w',.inr ⟨d,h⟩⟩
  case enter f args=>
   obtain ⟨e,w2,fr,hR,_⟩:=h [];cases e with
   |returned u=>exact ⟨u,w2,.inl hR⟩
   |panicked c=>exact hR.elim
   |outgrown=>exact (oQ hR).elim
  case row row args=>
   obtain ⟨u,w2,hR,_⟩:=h default [];exact ⟨u,w2,.inl hR⟩
 |halt x w' =>exact (mO h).elim
theorem lF {oj k:Oper} {v:Value} (fm:oj.apart ops k=true) (tq:∀cs b,k.op≠ .select cs b) {K:Act->World->Prop} {a:Act} {w:World}
 (h:k.wp P a w (λa' w' =>K (a'.put oj.dst v) w') (cj K0)):k.wp P (a.put oj.dst v) w K (cj K0):=by
 have h2:=(Oper.apart_spec fm).2.1;unfold Oper.wp at*;rw [(cO tq fm a v).1];generalize (execOp a.eval k).run P w=r at*;cases r with
 |ok n w' =>
  cases n<;>simp only [Oper.upon] at h ⊢;case value u=>rw [Act.put_comm a v u h2];exact h
  case skip=>rw [Act.put_comm a v undef h2];exact h
  case defer d=>rw [Act.put_defers,Act.put_comm _ v undef h2];exact h
  case enter f args=>
   refine Calls.mono h λe Jz he=> ?_
   cases e with
   |returned u=>
    show K ((a.put oj.dst v).put k.dst u) Jz;rw [Act.put_comm a v u h2];exact he
   |panicked c=>exact he
   |outgrown=>exact he
  case row row args=>exact Rows.mono h λu Jz he=>by rw [Act.put_comm a v u h2];exact he
 |halt x w' =>exact (mO h).elim
theorem rA {k:Oper} {K:Act->World->Prop} {a:Act} {w:World} (h:k.wp P a w K (cj K0)):
 k.wp P a w (λa' w' =>K a' w'/\((∃u,a' =a.put k.dst u)∨∃d u,a' ={a with defers:=d::a.defers}.put k.dst u)) (cj K0):=by
 unfold Oper.wp at*;generalize (execOp a.eval k).run P w=r at*;cases r with
 |ok n w' =>
  cases n<;>simp only [Oper.upon] at h ⊢;case value u=>exact ⟨h,.inl ⟨u,rfl⟩⟩
  case skip=>exact ⟨h,.inl ⟨undef,rfl⟩⟩
  case defer d=>exact ⟨h,.inr ⟨d,undef,rfl⟩⟩
  case enter f args=>
   refine Calls.mono h λe Jz he=> ?_
   cases e with
   |returned u=>exact ⟨he,.inl ⟨u,rfl⟩⟩
   |panicked c=>exact he
   |outgrown=>exact he
  case row row args=>exact Rows.mono h λu Jz he=>⟨he,.inl ⟨u,rfl⟩⟩
 |halt x w' =>exact (mO h).elim
theorem fJ {oj:Oper} {a:Act} {w:World} (hS:S w) {v v' :Value} (hy:YieldsIf P ops S oj v a) (hy' :YieldsIf P ops S oj v' a):v=v' :=by
 rcases hy with ⟨hw,hr⟩|⟨hw,rfl⟩<;>rcases hy' with ⟨ah,hr'⟩|⟨ah,rfl⟩
 ·have:=(hr w hS).symm.trans (hr' w hS);simpa using this
 ·rw [hw] at ah;cases ah
 ·rw [hw] at ah;cases ah
 ·rfl
theorem kO {oj:Oper} (hj:kd oj=0) (zg:∀cs b,oj.op≠ .select cs b) {post:List Oper}:
 ∀(pre:List Oper) (a:Act) (w:World),S w->(∀k∈pre,oj.apart ops k=true/\∀cs b,k.op≠ .select cs b)->bG P ops S kd K0 (pre++oj::post) a w->
  ∃v,YieldsIf P ops S oj v a/\bG P ops S kd K0 (pre++post) (a.put oj.dst v) w
 |[],a,w,hS,_,h=>by
  obtain ⟨v,hv,h0,h1⟩:=pR hS (.inl hj) h;exact ⟨v,h0 hj,h1⟩
 |k::pre,a,w,hS,hp,h=>by
  obtain ⟨fm,tq⟩:=hp k (by simp);have ih:=λa w hS=>kO hj zg (post:=post) pre a w hS (λx hx=>hp x (by simp [hx]))
  have back:∀u v,YieldsIf P ops S oj v (a.put k.dst u)->YieldsIf P ops S oj v a:=λu v hy=>
   hy.of_same (bQ zg fm a u).1.symm (bQ zg fm a u).2.symm
  have yq:∀d u v,YieldsIf P ops S oj v ({a with defers:=d::a.defers}.put k.dst u)->YieldsIf P ops S oj v a:=λd u v hy=>by
   exact Tzdo
  replace h:bG P ops S kd K0 (k::(pre++oj::post)) a w:=h;by_cases hk:kd k=0
  ·obtain ⟨u,hu,J5,h1⟩:=pR hS (.inl hk) h;obtain ⟨v,hv,h2⟩:=ih _ w hS h1;obtain ⟨e3,e4⟩:=cO tq fm a v;refine ⟨v,back u v hv,eH hk ((J5 hk).of_same e3 e4) ?_⟩;exact Tzek
  ·rw [jE hk] at h;by_cases hw:Region.wanted k (yielded ops a.tmps)=true
   ·simp only [hw,if_true] at h;obtain ⟨v,hv⟩:∃v,YieldsIf P ops S oj v a:=by
     obtain ⟨u,w',h1|⟨d,h1⟩⟩:=sU h
     ·obtain ⟨v,hv,_⟩:=ih _ _ h1.1 h1.2;exact ⟨v,back u v hv⟩
     ·obtain ⟨v,hv,_⟩:=ih _ _ h1.1 h1.2;exact ⟨v,yq d u v hv⟩
    refine ⟨v,hv,?_⟩;show bG P ops S kd K0 (k::(pre++post)) (a.put oj.dst v) w;rw [jE hk,(cO tq fm a v).2];simp only [hw,if_true];refine lF fm tq ?_;refine Oper.wp_mono (λa' w' h1=> ?_) (rA h);obtain ⟨⟨yn,h1⟩,hsh⟩:=h1;obtain ⟨v',Rw,h2⟩:=ih _ _ yn h1;have:v=v' :=by
     exact Tzdu
    subst this;exact ⟨yn,h2⟩
   ·simp only [hw] at h;obtain ⟨v,hv,h2⟩:=ih _ _ h.1 h.2;refine ⟨v,back _ v hv,?_⟩;show bG P ops S kd K0 (k::(pre++post)) (a.put oj.dst v) w;rw [jE hk,(cO tq fm a v).2];simp only [hw];rw [Act.put_comm a v undef (Oper.apart_spec fm).2.1];exact ⟨h.1,h2⟩
theorem jR {j:Nat} {oj:Oper} (hj:ops[j]? =some oj) (VN:kd oj≠0) (zg:∀cs b,oj.op≠ .select cs b) {post:List Oper}:
 ∀(pre:List Oper) (a:Act) (w:World),S w->(∀k∈pre,kd k=0/\k.apart ops oj=true/\∀cs b,k.op≠ .select cs b)->bG P ops S kd K0 (pre++oj::post) a w->
  wpOp P ops (cj K0) j (λa' w' =>S w'/\bG P ops S kd K0 (pre++post) a' w') a w
 |[],a,w,hS,_,h=>by
  replace h:bG P ops S kd K0 (oj::post) a w:=h;rw [jE VN] at h;unfold wpOp;simp only [hj];split
  ·rename_i hw;simp only [hw,if_true] at h;exact .inl h
  ·rename_i hw;simp only [hw] at h;exact h
 |k::pre,a,w,hS,hp,h=>by
  obtain ⟨hk,fm,tq⟩:=hp k (by simp);obtain ⟨u,_,hu,h1⟩:=pR hS (.inl hk) h;have h2:=jR hj VN zg (post:=post) pre (a.put k.dst u) w hS (λx hx=>hp x (by simp [hx])) h1;have h3:=wpOp_putIf hj fm tq zg (λc a w h=>h) (hu hk) h2;refine wpOp_mono (λa' w' h4=> ?_) h3;obtain ⟨hy,yn,h5⟩:=h4;exact ⟨yn,eH hk hy h5⟩
def wM (acc:Array Nat) (o:Oper):Nat:=o.after.toList.foldl (λs e=>if Region.binds .any e then s ||| 2^e.on ||| acc.getD e.on 0 else s) 0
def qm (l:List Oper):Array Nat:=l.foldl (λacc o=>acc.push (wM acc o)) #[]
theorem xU (acc:Array Nat) (i:Nat):∀(es:List Edge) (s:Nat),(es.foldl (λs e=>if Region.binds .any e then s ||| 2^e.on ||| acc.getD e.on 0 else s) s).testBit i=true->
 s.testBit i=true∨∃e∈es,Region.binds .any e=true/\(e.on=i∨(acc.getD e.on 0).testBit i=true)
 |[],s,h=> .inl h
 |e::es,s,h=>by
  rw [List.foldl_cons] at h;rcases xU acc i es _ h with h1|⟨x,hx,hb,hi⟩
  ·split at h1
   ·rename_i hb;rw [Nat.testBit_or,Nat.testBit_or,Nat.testBit_two_pow] at h1;simp only [Bool.or_eq_true,decide_eq_true_eq] at h1;rcases h1 with (h1|h1)|h1
    ·exact .inl h1
    ·exact .inr ⟨e,by simp,hb,.inl h1⟩
    ·exact .inr ⟨e,by simp,hb,.inr h1⟩
   ·exact .inl h1
  ·exact .inr ⟨x,by simp [hx],hb,hi⟩
theorem NB (l:List Oper) (o:Oper):qm (l++ [o])=(qm l).push (wM (qm l) o):=by simp [qm,List.foldl_append]
theorem qT (l:List Oper):(qm l).size=l.length:=by
 have:∀(l:List Oper) (acc:Array Nat),(l.foldl (λacc o=>acc.push (wM acc o)) acc).size=acc.size+l.length:=by
  intro l;induction l with
  |nil=>intro acc;rfl
  |cons o l ih=>intro acc;rw [List.foldl_cons,ih];simp;omega
 simpa [qm] using this l #[]
theorem iI (L:Nat->Prop) (l:List Oper):(∀k o,l[k]? =some o->L k->∀e∈o.after,Region.binds .any e=true->L e.on)->
 ∀j o,l[j]? =some o->(∀e∈o.after,Region.binds .any e=true->L e.on)->∀i,((qm l).getD j 0).testBit i=true->L i:=by
 suffices H:∀n,∀l:List Oper,l.length=n->(∀k o,l[k]? =some o->L k->∀e∈o.after,Region.binds .any e=true->L e.on)->
  ∀j o,l[j]? =some o->(∀e∈o.after,Region.binds .any e=true->L e.on)->∀i,((qm l).getD j 0).testBit i=true->L i from H l.length l rfl
 intro n;induction n with
 |zero=>
  intro l hl _ j o hj;rw [List.eq_nil_of_length_eq_zero hl] at hj;simp at hj
 |succ n ih=>
  intro l hl gy j o hj j8 i Ov;obtain ⟨l0,x,rfl⟩:∃l0 x,l=l0++ [x]:=⟨l.dropLast,l.getLast (by intro h;simp [h] at hl),(List.dropLast_concat_getLast _).symm⟩
  have VM:l0.length=n:=by simp at hl;omega
  have hcl0:∀k o,l0[k]? =some o->L k->∀e∈o.after,Region.binds .any e=true->L e.on:=λk o hk=>gy k o (by
   rw [List.getElem?_append_left (List.getElem?_eq_some_iff.1 hk).1];exact hk)
  have ih' :=ih l0 VM hcl0;rw [NB] at Ov;by_cases VP:j<n
  ·rw [List.getElem?_append_left (by omega)] at hj;refine ih' j o hj j8 i ?_;rw [Array.getD_eq_getD_getElem?,Array.getElem?_push_lt (by rw [qT];omega)] at Ov;rw [Array.getD_eq_getD_getElem?,Array.getElem?_eq_getElem (by rw [qT];omega)];exact Ov
  ·have N3:j<(l0++ [x]).length:=(List.getElem?_eq_some_iff.1 hj).1;have hjn' :j=n:=by simp at N3;omega
   subst hjn';rw [List.getElem?_append_right (by omega)] at hj;simp [VM] at hj;subst hj;rw [Array.getD_eq_getD_getElem?,show j=(qm l0).size by rw [qT];omega,Array.getElem?_push_size] at Ov;rcases xU _ i _ _ Ov with h0|⟨e,he,hb,h1|h1⟩
   ·simp at h0
   ·rw [<-h1];exact j8 e (by simpa using he) hb
   ·have hLe:=j8 e (by simpa using he) hb;have af:e.on<l0.length:=by
     rcases Nat.lt_or_ge e.on l0.length with h|h
     ·exact h
     ·rw [Array.getD_eq_getD_getElem?,Array.getElem?_eq_none (by rw [qT];omega)] at h1;simp at h1
    exact ih' e.on l0[e.on] (List.getElem?_eq_getElem af) (hcl0 e.on _ (List.getElem?_eq_getElem af) hLe) i h1
def cJ (kd:Oper->Nat) (ops:Array Oper) (x y:Oper):Bool:=
 x.apart ops y && y.apart ops x && (kd x==0 || kd y==0 || (kd x==1 && kd y==1))
def nM (kd:Oper->Nat) (ops:Array Oper) (l:List Oper) (b:Array Nat) (j:Nat):Bool:=
 match l[j]? with
 |none=>true
 |some y=>(y.after.all λe=> !Region.binds .any e || decide (e.on<j)) &&
  (List.range j).all λi=>match l[i]? with
   |none=>true
   |some x=>(b.getD j 0).testBit i || cJ kd ops x y
def mB (kd:Oper->Nat) (l:List Oper):Bool:=Region.noSelect l.toArray && (List.range l.length).all (nM kd l.toArray l (qm l))
section
variable {P : Program} {K0 : Act -> World -> Prop}
def bK (l:List Oper) (rem:List Nat):List Oper:=rem.filterMap (λi=>l[i]?)
theorem bR (l:List Oper) (r s:List Nat):bK l (r++s)=bK l r++bK l s:=by simp [bK]
theorem fM {l:List Oper} {j:Nat} {o:Oper} (h:l[j]? =some o) (s:List Nat):bK l (j::s)=o::bK l s:=by simp [bK,h]
theorem fT {l:List Oper} {r:List Nat} {o:Oper} (h:o∈bK l r):∃i∈r,l[i]? =some o:=by simpa [bK] using h
theorem tW (kd:Oper->Nat) (S:World->Prop) (iq:∀o,kd o=1->Qu P o) (l:List Oper) (hB:mB kd l=true):
 ∀(n:Nat) (rem:List Nat) (listed:Array Bool) (a:Act) (w:World),S w->rem.length=n->(∀j,j∈rem↔listed.getD j true=false)->rem.Pairwise (·<·)->listed.size=l.length->
  (∀k o,l[k]? =some o->listed.getD k false=true->∀e∈o.after,Region.binds .any e=true->listed.getD e.on false=true)->
  bG P l.toArray S kd K0 (bK l rem) a w->wpAny P .any l.toArray (cj K0) n listed a w:=by
 have Fo:Region.noSelect l.toArray=true:=by simp [mB] at hB;exact hB.1
 have jf:∀(j:Nat) (o:Oper),l[j]? =some o->∀cs b,o.op≠ .select cs b:=λj o ho cs b=>Region.noSelect_spec Fo j o cs b (by simpa using ho)
 have jx:∀j o,l[j]? =some o->(∀e∈o.after,Region.binds .any e=true->e.on<j)/\∀i x,i<j->l[i]? =some x->((qm l).getD j 0).testBit i=true∨cJ kd l.toArray x o=true:=by
  exact Tzck
 intro n;induction n with
 |zero=>
  intro rem listed a w _ hn et _ _ _ h;exact Tzcc
 |succ n ih=>
  intro rem listed a w hS hn et Cg ef gy h;have inr:∀j,j∈rem->j<l.length:=λj hj=>by
   have:=(et j).1 hj;exact Tzb6
  have L8:∀j,j<l.length->j∉rem->listed.getD j false=true:=λj hj hm=>by
   exact Tzcf
  refine ⟨λh0=> ?_,λj hj=> ?_⟩
  ·exfalso;match rem,hn with
   |m::rem',_=>
    have hm:m∈m::rem' :=by simp
    have Ei:=inr m hm;have ho:l[m]? =some l[m]:=List.getElem?_eq_getElem Ei
    have:m∈Region.ready .any l.toArray listed:=mem_ready.2 ⟨(et m).1 hm,l[m],by simp,λe he hb=>by
     have af:=(jx m _ ho).1 e he hb;refine L8 e.on (by omega) (λeg=> ?_);rcases List.mem_cons.1 eg with rfl|eg
     ·omega
     ·have:=(List.pairwise_cons.1 Cg).1 _ eg;omega⟩
    rw [h0] at this;cases this
  ·obtain ⟨Gj,o,ho,j8⟩:=mem_ready.1 hj;have j5 :l[j]? =some o:=by simpa using ho
   have eg:j∈rem:=(et j).2 Gj;obtain ⟨pre,post,rfl⟩:=List.append_of_mem eg;rw [List.pairwise_append] at Cg;obtain ⟨Ki,Nx,Eh⟩:=Cg;have N3:=inr j eg
   -- none of those before it is waited for
   have yf:∀i x,i∈pre->l[i]? =some x->cJ kd l.toArray x o=true:=λi x hi hx=>by
    have uq:i<j:=Eh i hi j (by simp);rcases (jx j o j5).2 i x uq hx with hb|hb
    ·exfalso;have:=iI (λk=>listed.getD k false=true) l (λk o hk hL=>gy k o hk hL) j o j5 (λe he hb=>j8 e he hb) i hb;have h2:=(et i).1 (by simp [hi]);have af:i<listed.size:=by omega
     simp [af] at this h2;rw [this] at h2;cases h2
    ·exact hb
   have J8:j∉pre++post:=by
    exact Tzbr
   have hK:∀a' w',S w'->bG P l.toArray S kd K0 (bK l (pre++post)) a' w'->wpAny P .any l.toArray (cj K0) n (listed.setIfInBounds j true) a' w' :=by
    intro a' w' yn h';refine ih (pre++post) _ a' w' yn (by simp at hn ⊢;omega) (λi=> ?_) ?_ (by simpa using ef) ?_ h'
    ·exact Tzbg
    ·exact Tzca
    ·exact Tzba
   exact Tzak
theorem kI (l:List Oper):bK l (List.range l.length)=l:=by
 unfold bK;apply List.ext_getElem?
 intro i;have:∀(m:Nat) (hm:m<=l.length),(List.range m).filterMap (λi=>l[i]?)=l.take m:=by
  exact Tzb2
 rw [this _ (Nat.le_refl _),List.take_length]
def dC (o:Oper):Nat:=
 match o.op with
 | .move _| .assign _| .pick .. | .binOp .. | .unOp .. | .convert .. | .nilCheck _| .slice .. | .fieldAddr .. | .field .. | .indexAddr .. | .index .. | .extract .. =>0
 | .call {callee:= .builtin .len,.. }| .call {callee:= .builtin .cap,.. }| .call {callee:= .builtin .min,.. }| .call {callee:= .builtin .max,.. }=>0
 | .load .. =>1
 |_=>2
def C1 {α:Type} (P:Program) (w:World) (s:Sem α):Prop:=(∃v,s.run P w= .ok v w)∨(∃h w',s.run P w= .halt h w')
theorem C1.bind {α β:Type} {w:World} {s:Sem α} {f:α->Sem β} (h:C1 P w s) (hf:∀v,C1 P w (f v)):C1 P w (s >>= f):=by
 rcases h with ⟨v,hv⟩|⟨x,w',hx⟩
 ·rcases hf v with ⟨u,hu⟩|⟨x,w',hx⟩
  ·exact .inl ⟨u,by rw [Sem.run_bind,hv];exact hu⟩
  ·exact .inr ⟨x,w',by rw [Sem.run_bind,hv];exact hx⟩
 ·exact .inr ⟨x,w',by rw [Sem.run_bind,hx];rfl⟩
theorem C1.pure {α:Type} {w:World} (v:α):C1 P w (pure v:Sem α):= .inl ⟨v,rfl⟩
theorem C1.halt {α:Type} {w:World} (h:Halt):C1 P w (.halt h:Sem α):= .inr ⟨h,w,rfl⟩
theorem C1.program {w:World}:C1 P w program:= .inl ⟨P,rfl⟩
theorem C1.load {w:World} (a:Addr) (m:Mode):C1 P w (load a m):=by
 unfold Go.load;cases h:w.cell? a with
 |some v=>exact .inl ⟨v,by simp [Sem.run,h]⟩
 |none=>
  cases h2:w.farLoad P a (m== .atomic) with
  |ok r=>exact .inl ⟨r.1,by simp [Sem.run,h,h2]⟩
  |error x=>exact .inr ⟨x,w,by simp [Sem.run,h,h2]⟩
theorem C1.typeInfo {w:World} (t:TypeId):C1 P w (typeInfo t):=by
 unfold Go.typeInfo;refine C1.program.bind λp=> ?_
 split
 ·exact C1.pure _
 ·exact C1.halt _
theorem C1.underlying {w:World} (t:TypeId):C1 P w (underlying t):=by
 unfold Go.underlying;refine C1.program.bind λp=> ?_
 split
 ·exact C1.pure _
 ·exact C1.halt _
theorem C1.isAgg {w:World} (t:TypeId):C1 P w (isAgg t):=by
 unfold Go.isAgg;refine (C1.underlying t).bind λd=> ?_
 split<;>exact C1.pure _
theorem C1.loadCellsFrom {w:World} (a:Addr):∀(n i:Nat) (acc:Array Value),C1 P w (loadCellsFrom a i n acc)
 |0,_,acc=>C1.pure acc
 |n+1,i,acc=>(C1.load _ _).bind λv=>C1.loadCellsFrom a n (i+1) _
theorem C1.loadVar {w:World} (t:TypeId) (a:Addr):C1 P w (loadVar t a):=by
 unfold Go.loadVar;refine (C1.isAgg t).bind λb=> ?_
 cases b
 ·exact C1.load _ _
 ·refine C1.bind ?_ λn=> ?_
  ·exact (C1.typeInfo t).bind λi=>C1.pure _
  ·exact (C1.loadCellsFrom a _ _ _).bind λ_=>C1.pure _
theorem C1.loadAt {w:World} (t:TypeId) (v:Value):C1 P w (Instr.loadAt t v):=by
 unfold Instr.loadAt;refine C1.bind ?_ λa=>C1.loadVar t a
 unfold Instr.sureAddr;split
 ·exact C1.pure _
 ·exact C1.halt _
theorem CW {o:Oper} (h:dC o=1):Qu P o:=by
 intro ρ w;obtain ⟨t,x,ho⟩:∃t x,o.op= .load t x:=by
  unfold dC at h;split at h<;>first|exact ⟨_,_,by assumption⟩|cases h
 have hc:C1 P w (Instr.loadAt t (ρ x)):=C1.loadAt t (ρ x);have e:execOp ρ o=(do pure (.value (<-Instr.loadAt t (ρ x)))):=by
  unfold execOp;simp only [ho]
 rw [e];rcases hc with ⟨v,hv⟩|⟨x,w',hx⟩
 ·exact .inl ⟨v,by rw [Sem.run_bind,hv];rfl⟩
 ·exact .inr ⟨x,w',by rw [Sem.run_bind,hx];rfl⟩
def vy (P:Program) (s:Sem Next):Prop:=∀w n w',s.run P w= .ok n w'->∃v,n= .value v
theorem vy.v (s:Sem Value):vy P (do pure (.value (<-s))):=λw n w' h=>by
 rw [Sem.run_bind] at h;cases hs:s.run P w with
 |ok v w1=>rw [hs] at h;cases h;exact ⟨v,rfl⟩
 |halt x w1=>rw [hs] at h;cases h
theorem vy.bind {α:Type} (s:Sem α) (f:α->Sem Next) (hf:∀v,vy P (f v)):vy P (s >>= f):=λw n w' h=>by
 rw [Sem.run_bind] at h;cases hs:s.run P w with
 |ok v w1=>rw [hs] at h;exact hf v _ _ _ h
 |halt x w1=>rw [hs] at h;cases h
theorem vy.pure (v:Value):vy P (pure (.value v)):=λw n w' h=>by cases h;exact ⟨v,rfl⟩
theorem vy.halt (x:Halt):vy P (.halt x):=λw n w' h=>by cases h
theorem vy.nilPanic:vy P (runtimePanic .nilDeref):=by
 unfold runtimePanic;refine vy.bind _ _ λp=> ?_
 exact vy.halt _
theorem zB {o:Oper} (h:dC o=0) (ρ:Operand->Value):vy P (execOp ρ o):=by
 unfold dC at h;unfold execOp;split at h<;>first|(cases h;done)|skip
 all_goals (rename_i uo;simp only [uo])
 all_goals first
  |exact vy.pure _
  |exact vy.v _
  |exact vy.bind _ _ λ_=>vy.pure _
  |skip
 ·split
  ·exact vy.nilPanic
  ·exact vy.nilPanic
  ·exact vy.nilPanic
  ·split
   ·exact vy.nilPanic
   ·refine vy.bind _ _ λp=>vy.bind _ _ λb=> ?_
    split
    ·exact vy.bind _ _ λ_=>vy.pure _
    ·exact vy.pure _
   ·exact vy.pure _
  ·exact vy.pure _
theorem lex_q {o:Oper} {a:Act} {w:World} {rest:List Oper} (hk:dC o=0) (hS:∃w,S w) (h:wpQuiet P ops S (λa' =>bG P ops S dC K0 rest a' w) [o] a):bG P ops S dC K0 (o::rest) a w:=by
 simp only [wpQuiet] at h;by_cases hw:Region.wanted o (yielded ops a.tmps)=true
 ·simp only [hw,if_true] at h;obtain ⟨v,hv,h⟩:=h;refine eH hk (v:=v) (.inl ⟨hw,λw' ah => ?_⟩) h;have:=hv w' ah;exact Tzbe
 ·simp only [hw] at h;exact eH hk (.inr ⟨by simpa using hw,rfl⟩) h
theorem lex_skip {o:Oper} {a:Act} {w:World} {rest:List Oper} (hk:(dC o==0)=false) (hw:Region.wanted o (yielded ops a.tmps)=false) (hS:S w) (h:bG P ops S dC K0 rest (a.put o.dst undef) w):bG P ops S dC K0 (o::rest) a w:=by
 rw [jE (by simpa using hk)];simp only [hw,Bool.false_eq_true,if_false];exact ⟨hS,h⟩
theorem lex_e {o:Oper} {a:Act} {w:World} {rest:List Oper} (hk:(dC o==0)=false) (h:wpList P ops (cj (λa' w' =>S w'/\bG P ops S dC K0 rest a' w')) [o] a w):bG P ops S dC K0 (o::rest) a w:=by
 show (if dC o=0 then _ else _);rw [if_neg (by simpa using hk)];exact h
theorem lex_go {a:Act} {w:World} {rest:List Oper} (hS:S w) (h:bG P ops S dC K0 rest a w):cj (λa' w' =>S w'/\bG P ops S dC K0 rest a' w') .normal a w:=⟨hS,h⟩
theorem aR {a:Act} {w:World} (h:K0 a w):bG P ops S dC K0 [] a w:=h
theorem zO {o:Oper} {ρ:Operand->Value} {T E:TypeId} {x:Operand} {lo hi mx:Option Operand} {A:Option Addr} {n c sz:Nat} (l h m:Nat)
 (ho:o.op= .slice T x lo hi mx) (hx:ρ x= .slice A n c) (ht:P.underlying T=some (.slice E)) (Ej :(P.info? E).map (·.size)=some sz)
 (ua:(lo=none/\l=0)∨∃y k e,lo=some y/\ρ y= .int k e/\e=(l:Int)) (XE:(hi=none/\mx=none/\h=n)∨∃y k e,hi=some y/\ρ y= .int k e/\e=(h:Int))
 (J9:(mx=none/\m=c)∨∃y k e,mx=some y/\ρ y= .int k e/\e=(m:Int)) (h1:l<=h) (h2:h<=m) (h3:m<=c) (w:World):
 (execOp ρ o).run P w= .ok (.value (.slice (if m=l then A else A.map (·.add (l*sz))) (h-l) (m-l))) w:=by
 obtain ⟨i,hi1,XC⟩:∃i,P.info? E=some i/\i.size=sz:=by
  cases hq:P.info? E with
  |none=>rw [hq] at Ej;cases Ej
  |some i=>rw [hq] at Ej;exact ⟨i,rfl,by simpa using Ej⟩
 have hb:∀(k:IntKind) (z y:Nat) (code:BoundsCode),z<=y->(Instr.sliceBound (.int k (z:Int)) y code).run P w= .ok z w:=λk z y code hz=>by
  have Ij :(0:Int)<=(z:Int)/\(z:Int)<=(y:Int):=⟨by omega,by omega⟩
  simp [Instr.sliceBound,asIntOf,Ij]
 have ef:(sizeOf E).run P w= .ok sz w:=by simp [sizeOf,typeInfo,hi1,XC]
 have e:execOp ρ o=(do pure (.value (<-Instr.sliceAt T (ρ x) (lo.map ρ) (hi.map ρ) (mx.map ρ)))):=by
  unfold execOp;simp only [ho]
 rw [e,hx];have key:(Instr.sliceAt T (.slice A n c) (lo.map ρ) (hi.map ρ) (mx.map ρ)).run P w= .ok (.slice (if m=l then A else A.map (·.add (l*sz))) (h-l) (m-l)) w:=by
  have vg:(Instr.sliceBounds true n c (lo.map ρ) (hi.map ρ) (mx.map ρ)).run P w= .ok (l,h,m) w:=by
   unfold Instr.sliceBounds;rcases J9 with ⟨rfl,rfl⟩|⟨ym,km,em,rfl,jh,rfl⟩<;>rcases XE with ⟨rfl,hmn,rfl⟩|⟨yh,kh,eh,rfl,hh1,rfl⟩<;>rcases ua with ⟨rfl,rfl⟩|⟨yl,kl,el,rfl,dv,rfl⟩<;>
    first|(cases hmn;done)|simp [*]
  simp only [Instr.sliceAt,Sem.run_bind,run_underlying ht,Result.andThen_ok,Instr.slice,vg,ef,Sem.run_pure]
 rw [Sem.run_bind,key];rfl
theorem Cs.part {D:Nat->Prop} {w:World} {A:Option Addr} {xs:List Value} {n sz l h m:Nat} (hc:Cs D w A xs) (hn:xs.length=n*sz) (h1:l<=h) (h2:h<=m) (h3:h<=n):
 Cs D w (if m=l then A else A.map (·.add (l*sz))) ((xs.drop (l*sz)).take ((h-l)*sz)):=by
 by_cases e:m=l
 ·have:h-l=0:=by omega
  rw [this];simp only [Nat.zero_mul,List.take_zero];exact Cs.nil_ _ _ _
 ·rw [if_neg e];have:=(hc.drop_ (l*sz) (c:=False) (λx=>x.elim))
  rw [if_neg (λx=>x)] at this;exact this.take_ _
theorem Bytes.part {D:Nat->Prop} {w:World} {A:Option Addr} {n c l h m:Nat} {L:List UInt8} (hb:Bytes D w (.slice A n c) L) (h1:l<=h) (h2:h<=m) (h3:h<=n) (h4:m<=c):
 Bytes D w (.slice (if m=l then A else A.map (·.add (l*1))) (h-l) (m-l)) ((L.drop l).take (h-l)):=by
 obtain ⟨A',c',e,g1,g2,g3⟩:=hb;cases e;have hl:((L.drop l).take (h-l)).length=h-l:=by rw [List.length_take,List.length_drop];omega
 refine ⟨_,m-l,by rw [hl],by rw [hl];omega,by omega,?_⟩;have:=Cs.part (sz:=1) (n:=L.length) (l:=l) (h:=h) (m:=m) g3 (by simp) h1 h2 h3;simpa [List.map_take,List.map_drop] using this
theorem DT {Q:Exit->Act->World->Prop} {o:Oper} {a:Act} {w:World} {rest:List Oper} {T E:TypeId} {x:Operand} {lo hi mx:Option Operand} {A:Option Addr} {n c:Nat} {D:Nat->Prop} {L:List UInt8} (l h m n' c' :Nat) (L' :List UInt8)
 (uw:o.guard=none) (ho:o.op= .slice T x lo hi mx) (hx:a.eval x= .slice A n c) (ht:P.underlying T=some (.slice E)) (Ej :(P.info? E).map (·.size)=some 1)
 (ua:(lo=none/\l=0)∨∃y k e,lo=some y/\a.eval y= .int k e/\e=(l:Int)) (XE:(hi=none/\mx=none/\h=n)∨∃y k e,hi=some y/\a.eval y= .int k e/\e=(h:Int))
 (J9:(mx=none/\m=c)∨∃y k e,mx=some y/\a.eval y= .int k e/\e=(m:Int)) (hb:Bytes D w (.slice A n c) L) (h1:l<=h) (h2:h<=m) (h3:h<=n) (h4:m<=c) (Du :n' =h-l) (XV :c' =m-l) (hL' :L' =(L.drop l).take (h-l))
 (K:∀A',Bytes D w (.slice A' n' c') L'->n'<=c'->wpList P ops Q rest (a.put o.dst (.slice A' n' c')) w):wpList P ops Q (o::rest) a w:=by
 subst Du XV hL';refine wpList_plain uw λ_ hK=> ?_
 unfold Oper.wp;rw [zO l h m ho hx ht Ej ua XE J9 h1 h2 h4 w];exact hK _ _ (K _ (hb.part h1 h2 h3 h4) (by omega))
theorem aG (S:World->Prop) {id:Nat} {l:List Oper} {Q:Exit->Act->World->Prop} {a:Act} {w:World}
 (hm:P.follows .mixedOrders=true) (hB:mB dC l=true) (hS:S w.drew) (h:bG P l.toArray S dC (Q .normal) l a w.drew):(Code.region id l.toArray true).wp P Q a w:=by
 refine Code.wp_mono cj.to (wp_region_any hm ?_)
 have:=tW (K0:=Q .normal) dC S (λo=>CW) l hB l.length (List.range l.length) (Array.replicate l.length false) a w.drew hS (by simp) (λj=>by
  by_cases hj:j<l.length
  ·simp [hj]
  ·simp [hj]) List.pairwise_lt_range (by simp) (λk o hk hL=>by
  have af:=(List.getElem?_eq_some_iff.1 hk).1;simp [af] at hL) (by rw [kI];exact h)
 simpa using this
end
end
end Go.Proofs.YtiblijmngokcgaaGreatDoor
namespace Go.Proofs.YtiblijmngokcgaaGreatDoor
open Go.RowKit
section
variable {P : Program} {w : World}
theorem rG (base:Nat) (t ty e:TypeId) (i:TypeInfo) (size:Nat) (ht:P.underlying t=some (.slice e)) (hi:P.info? e=some i)
 (v:Value) (n:Nat) (xs:List Value) (aj:w.ownsRow base e size v n xs) (c:Nat):(Builtin.append_ #[t,t] ty #[v,.slice none 0 c]).run P w= .ok v w:=by
 rcases aj.2 with ⟨rfl,rfl⟩|⟨g,cap,cur,rfl,_,_,VJ,_⟩
 ·simp [Builtin.append_,run_underlying ht,sizeOf,typeInfo,hi,Builtin.lenOf,Builtin.firstCells]
 ·simp [Builtin.append_,run_underlying ht,sizeOf,typeInfo,hi,Builtin.lenOf,Builtin.firstCells,VJ,storeCells]
theorem qY {base:Nat} {e:TypeId} {size n:Nat} {v:Value} {xs:List Value} (h:w.ownsRow base e size v n xs):∃A c,v= .slice A n c/\n<=c/\c<=maxLen:=by
 rcases h.2 with ⟨rfl,rfl⟩|⟨g,cap,cur,rfl,_,_,h1,h2,_⟩
 ·exact ⟨none,0,rfl,by omega,by simp [maxLen]⟩
 ·exact ⟨_,cap,rfl,h1,h2⟩
theorem OB {D:Nat->Prop} (base:Nat) (t ty e:TypeId) (z:Value) (size bytes:Nat) (ht:P.underlying t=some (.slice e)) (ud:(P.info? e).map (λi=>(i.zero,i.size,i.bytes))=some (some z,size,bytes)) (Ty:z.cells.size=size) (ef:0<size)
 (v:Value) (n:Nat) (xs:List Value) (aj:w.ownsRow base e size v n xs) (A:Option Addr) (m c:Nat) (news:List Value) (hl:news.length=m*size) (hr:Cs D w A news) (h1:∀u∈news,u.oneCell' =true)
 (sb:(n+m)*bytes<=140737488355328) (h63:n+m<=maxLen) (jl:base<=w.heap.size):
 ∃A' c' w',(Builtin.append_ #[t,t] ty #[v,.slice A m c]).run P w= .ok (.slice A' (n+m) c') w'/\w'.ownsRow base e size (.slice A' (n+m) c') (n+m) (xs++news)/\w.grownBy w' v.ownBlock/\
  ((Value.slice A' (n+m) c').ownBlock=v.ownBlock∨(Value.slice A' (n+m) c').ownBlock=some w.heap.size)/\n+m<=c'/\c'<=maxLen:=by
 obtain ⟨i,hi,hz,hs,dy⟩:=info_parts ud;have key:∃v' w',(Builtin.append_ #[t,t] ty #[v,.slice A m c]).run P w= .ok v' w'/\w'.ownsRow base e size v' (n+m) (xs++news)/\w.grownBy w' v.ownBlock/\(v'.ownBlock=v.ownBlock∨v'.ownBlock=some w.heap.size):=by
  rcases A with _|ad
  ·have hm:news=[]:=by
    cases news with
    |nil=>rfl
    |cons x xs=>obtain ⟨_,_,h,_⟩:=hr (by simp);cases h
   subst hm;have Sf:m=0:=by
    rcases Nat.eq_zero_or_pos m with h|h
    ·exact h
    ·have:=Nat.mul_pos h ef;simp at hl;omega
   subst Sf;exact ⟨v,w,rG base t ty e i size ht hi v n xs aj c,by simpa using aj,⟨rfl,rfl,rfl,Nat.le_refl _,λ_ _ _=>rfl⟩,.inl rfl⟩
  ·have XS:∀j u,news[j]? =some u->w.cell? (ad.add j)=some u:=by
    intro j u hu;have hn:0<news.length:=by have:=(List.getElem?_eq_some_iff.1 hu).1;omega
    obtain ⟨b,off,h,_,hc⟩:=hr hn;cases h;rw [Addr.add_mid];exact hc j u hu
   obtain ⟨v',w',a1,a2,a3,_,a5⟩:=run_append_own_at (P:=P) w base t ty e i z size bytes ht hi hz hs dy Ty ef v n xs aj ad m c news hl XS h1 h63 sb jl;exact ⟨v',w',a1,a2,a3,a5⟩
 obtain ⟨v',w',a1,a2,a3,a4⟩:=key;obtain ⟨A',c',rfl,b1,b2⟩:=qY a2;exact ⟨A',c',w',a1,a2,a3,a4,b1,b2⟩
theorem uK {D:Nat->Prop} {ops:Array Oper} {rest:List Oper} {o:Oper} {a:Act} {Q:Exit->Act->World->Prop} (uw:o.guard=none) (s x:Operand) (t:TypeId)
 (ho:o.op= .call {callee:= .builtin .append,args:= #[s,x],argTypes:= #[t,t]})
 (base:Nat) (e:TypeId) (z:Value) (size bytes:Nat) (ht:P.underlying t=some (.slice e)) (ud:(P.info? e).map (λi=>(i.zero,i.size,i.bytes))=some (some z,size,bytes)) (Ty:z.cells.size=size) (ef:0<size)
 (v:Value) (n:Nat) (xs:List Value) (hs:a.eval s=v) (aj:w.ownsRow base e size v n xs) (A:Option Addr) (m c:Nat) (news:List Value) (hx:a.eval x= .slice A m c) (hl:news.length=m*size) (hr:Cs D w A news) (h1:∀u∈news,u.oneCell' =true)
 (sb:(n+m)*bytes<=140737488355328) (h63:n+m<=maxLen) (jl:base<=w.heap.size) (N:Nat) (hN:N=n+m)
 (K:∀A' c' w',w'.ownsRow base e size (.slice A' N c') N (xs++news)->w.grownBy w' v.ownBlock->((Value.slice A' N c').ownBlock=v.ownBlock∨(Value.slice A' N c').ownBlock=some w.heap.size)->N<=c'->c'<=9223372036854775807->wpList P ops Q rest (a.put o.dst (.slice A' N c')) w'):
 wpList P ops Q (o::rest) a w:=by
 subst hN;obtain ⟨A',c',w',a1,a2,a3,a4,a5,a6⟩:=OB (P:=P) base t o.type e z size bytes ht ud Ty ef v n xs aj A m c news hl hr h1 sb h63 jl;refine wpList_plain uw λ_ hK=> ?_
 unfold Oper.wp execOp;simp only [ho,resolve,invoke,builtin,Sem.run_bind,Sem.run_pure,Result.andThen_ok,List.map_toArray,List.map_cons,List.map_nil,hs,hx,a1];exact hK _ _ (K A' c' w' a2 a3 a4 a5 (by unfold maxLen at a6;exact a6))
end
def eb (w:World) (base:Nat) (e:TypeId) (v:Value) (l:List UInt8):Prop:=w.ownsRow base e 1 v l.length (l.map bv)
section
variable {w w' : World} {base : Nat} {e : TypeId} {v : Value} {l : List UInt8}
theorem eb.nil_ (w:World) (base:Nat) (e:TypeId):eb w base e (.slice none 0 0) []:=World.ownsRow_nil _ _ _ _
theorem eb.bytes (h:eb w base e v l):Bytes (λb=>base<=b/\v.ownBlock=some b) w v l:=by
 rcases h.2 with ⟨rfl,hn⟩|⟨g,cap,cur,rfl,hb,hh,h1,h2,h3,h4⟩
 ·rw [List.eq_nil_of_length_eq_zero hn];exact Bytes.nil_ _ _
 ·exact Tzea
theorem eb.kept {row:Option Nat} (h:eb w base e v l) (hg:w.grownBy w' row) (fb:v.ownBlock=none∨v.ownBlock≠row):eb w' base e v l:=World.ownsRow.kept h hg fb
theorem eb.ext (h:eb w base e v l) (hb:Below w.heap.size w w'):eb w' base e v l:=
 World.ownsRow.kept h (row:=none) ⟨hb.os,hb.tape,hb.output,hb.size,λk hk _=>hb.block k hk⟩ (by cases v.ownBlock<;>simp)
theorem eb.drew (h:eb w base e v l):eb w.drew base e v l:=h
theorem eb.lit (w:World) (t:TypeId) (l:List UInt8) (n:Nat) (hl:n=l.length) (hn:n<=9223372036854775807) (base:Nat) (hb:base<=w.heap.size):eb (w.alloc (.cells (fF l) t)) base t (.slice (some ⟨w.heap.size,0,none⟩) n n) l:=by
 subst hl;refine ⟨by simp,.inr ⟨w.heap.size,l.length,fF l,rfl,hb,heap_alloc_new w _,by simp,by unfold maxLen;exact hn,by rw [yD,Nat.mul_one],by simp only [fF,Nat.mul_one];exact List.take_of_length_le (by simp)⟩⟩
theorem eb.grow {a w2:World} {B:Nat} (h:eb w base e v l) (hg:w.grownBy w2 v.ownBlock) (hb:Below B a w) (hB:B<=base) (hw:base<=w.heap.size):Below B a w2:=
 hb.grown hg (Nat.le_trans hB hw) (λk hk=>Nat.le_trans hB (World.ownsRow.lt h k hk).1)
theorem eb.some_ {A:Option Addr} {n c:Nat} (h:eb w base e (.slice A n c) l) (hl:0<l.length):∃g,A=some ⟨g,0,none⟩/\base<=g/\g<w.heap.size:=by
 exact Tze8
end
theorem dP {P:Program} {w:World} {D:Nat->Prop} {ops:Array Oper} {rest:List Oper} {o:Oper} {a:Act} {Q:Exit->Act->World->Prop} (s x:Operand) (t e:TypeId) (base:Nat) (l r:List UInt8) (A:Option Addr) (m c:Nat) (v:Value) (N:Nat)
 (uw:o.guard=none) (ho:o.op= .call {callee:= .builtin .append,args:= #[s,x],argTypes:= #[t,t]}) (ht:P.underlying t=some (.slice e)) (ud:(P.info? e).map (λi=>(i.zero,i.size,i.bytes))=some (some (.int .u8 0),1,1))
 (hs:a.eval s=v) (hx:a.eval x= .slice A m c) (aj:eb w base e v l) (hr:Bytes D w (.slice A m c) r) (hN:N=l.length+m) (sb:l.length+m<=140737488355328) (jl:base<=w.heap.size)
 (K:∀A' c' w',eb w' base e (.slice A' N c') (l++r)->w.grownBy w' v.ownBlock->((Value.slice A' N c').ownBlock=v.ownBlock∨(Value.slice A' N c').ownBlock=some w.heap.size)->N<=c'->c'<=9223372036854775807->wpList P ops Q rest (a.put o.dst (.slice A' N c')) w'):
 wpList P ops Q (o::rest) a w:=by
 obtain ⟨A2,c2,e2,g1,g2,g3⟩:=hr;cases e2;refine uK uw s x t ho base e (.int .u8 0) 1 1 ht ud rfl (by omega) v l.length (l.map bv) hs aj A r.length c (r.map bv) hx (by simp) g3 (λu hu=> ?_) (by omega) (by unfold maxLen;omega) jl N hN ?_
 ·obtain ⟨y,_,rfl⟩:=List.mem_map.1 hu;rfl
 ·intro A' c' w' h1 h2 h3 h4 h5;refine K A' c' w' ?_ h2 h3 h4 h5;unfold eb;rw [List.length_append,List.map_append,<-hN];exact h1
end Go.Proofs.YtiblijmngokcgaaGreatDoor
namespace Go.Proofs.YtiblijmngokcgaaGreatDoor
open Go.RowKit
theorem wE {α:Type} {enc:α->List Value} {k:Nat} (hk:∀x,(enc x).length=k):∀(l:List α) (j i:Nat) (x:α),l[j]? =some x->i<k->(l.flatMap enc)[j*k+i]? =(enc x)[i]?
 |[],j,i,x,h,_=>by simp at h
 |y::l,0,i,x,h,hi=>by
  simp at h;subst h;rw [List.flatMap_cons,Nat.zero_mul,Nat.zero_add,List.getElem?_append_left (by rw [hk];exact hi)]
 |y::l,j+1,i,x,h,hi=>by
  rw [List.flatMap_cons,List.getElem?_append_right (by rw [hk,Nat.add_mul];omega),hk,show (j+1)*k+i-k=j*k+i by rw [Nat.add_mul];omega];exact wE hk l j i x (by simpa using h) hi
theorem gG {α:Type} {enc:α->List Value} {k:Nat} (hk:∀x,(enc x).length=k) (l:List α):(l.flatMap enc).length=l.length*k:=by
 induction l with
 |nil=>simp
 |cons x l ih=>rw [List.flatMap_cons,List.length_append,hk,ih,List.length_cons,Nat.add_mul];omega
theorem sD {α:Type} {enc:α->List Value} {k:Nat} (hk:∀x,(enc x).length=k):∀(l:List α) (j:Nat),(l.flatMap enc).take (j*k)=(l.take j).flatMap enc
 |[],j=>by simp
 |x::l,0=>by simp
 |x::l,j+1=>by
  rw [List.flatMap_cons,List.take_succ_cons,List.flatMap_cons,List.take_append,hk,List.take_of_length_le (by rw [hk,Nat.add_mul];omega),show (j+1)*k-k=j*k by rw [Nat.add_mul];omega,sD hk l j]
theorem xX {α:Type} {enc:α->List Value} {k:Nat} (hk:∀x,(enc x).length=k):∀(l:List α) (j:Nat),(l.flatMap enc).drop (j*k)=(l.drop j).flatMap enc
 |[],j=>by simp
 |x::l,0=>by simp
 |x::l,j+1=>by
  rw [List.flatMap_cons,List.drop_succ_cons,List.drop_append,hk,List.drop_of_length_le (by rw [hk,Nat.add_mul];omega),show (j+1)*k-k=j*k by rw [Nat.add_mul];omega,xX hk l j,List.nil_append]
def a7 {α:Type} (enc:α->List Value) (S:Nat->Prop) (w:World) (v:Value) (l:List α):Prop:=∃A c,v= .slice A l.length c/\l.length<=c/\c<=maxLen/\Cs S w A (l.flatMap enc)
section
variable {α : Type} {enc : α -> List Value} {k : Nat} {S S' : Nat -> Prop} {w w' : World} {v : Value} {l : List α}
theorem a7.keep (h:a7 enc S w v l) (hk:ae S w w'):a7 enc S w' v l:=by
 obtain ⟨A,c,rfl,h1,h2,h3⟩:=h;exact ⟨A,c,rfl,h1,h2,h3.keep hk⟩
theorem a7.ext (h:a7 enc S w v l) (hb:Below w.heap.size w w'):a7 enc S w' v l:=h.keep (ae.of_below hb)
theorem a7.mono (h:a7 enc S w v l) (hs:∀b,b<w.heap.size->S b->S' b):a7 enc S' w v l:=by
 obtain ⟨A,c,rfl,h1,h2,h3⟩:=h;exact ⟨A,c,rfl,h1,h2,h3.mono hs⟩
theorem a7.drew (h:a7 enc S w v l):a7 enc S w.drew v l:=h
theorem a7.nil_ (S:Nat->Prop) (w:World):a7 enc S w (.slice none 0 0) []:=⟨none,0,rfl,by simp,by simp [maxLen],Cs.nil_ _ _ _⟩
theorem a7.len {A:Option Addr} {n c:Nat} (h:a7 enc S w (.slice A n c) l):l.length=n/\n<=c/\c<=9223372036854775807:=by
 obtain ⟨A',c',e,h1,h2,_⟩:=h;cases e;unfold maxLen at h2;exact ⟨rfl,h1,h2⟩
theorem a7.at_ (hk:∀x,(enc x).length=k) {A:Option Addr} {n c j:Nat} (h:a7 enc S w (.slice A n c) l) (hj:j<l.length) (yi:0<k):
 ∃b off x,A=some ⟨b,off,none⟩/\S b/\b<w.heap.size/\l[j]? =some x/\∀i u,(enc x)[i]? =some u->w.cell? ⟨b,off+j*k+i,none⟩=some u:=by
 obtain ⟨A',c',e,h1,h2,h3⟩:=h;cases e;have hx:l[j]? =some l[j]:=List.getElem?_eq_getElem hj
 have um:0<(l.flatMap enc).length:=by rw [gG hk];exact Nat.mul_pos (by omega) yi
 obtain ⟨b,off,rfl,hs,hc⟩:=h3 um;refine ⟨b,off,l[j],rfl,hs,?_,hx,λi u hu=> ?_⟩
 ·exact block_lt_of_cell (hc 0 _ (List.getElem?_eq_getElem um))
 ·have hi:i<k:=by have:=(List.getElem?_eq_some_iff.1 hu).1;rw [hk] at this;exact this
  have:=hc (j*k+i) u (by rw [wE hk l j i _ hx hi];exact hu);rw [<-Nat.add_assoc] at this;exact this
theorem a7.take_ (hk:∀x,(enc x).length=k) {A:Option Addr} {n c j:Nat} (h:a7 enc S w (.slice A n c) l) (hj:j<=n):a7 enc S w (.slice A j c) (l.take j):=by
 obtain ⟨A',c',e,h1,h2,h3⟩:=h;cases e;have e:(l.take j).length=j:=by rw [List.length_take];omega
 refine ⟨A,c,by rw [e],by omega,h2,?_⟩;rw [<-sD hk];exact Cs.take_ h3 (j*k)
end
def a8 {α:Type} (enc:α->List Value) (k:Nat) (w:World) (base:Nat) (e:TypeId) (v:Value) (l:List α):Prop:=w.ownsRow base e k v l.length (l.flatMap enc)
section
variable {α : Type} {enc : α -> List Value} {k : Nat} {w w' : World} {base : Nat} {e : TypeId} {v : Value} {l : List α}
theorem a8.nil_ (w:World) (base:Nat) (e:TypeId):a8 enc k w base e (.slice none 0 0) []:=World.ownsRow_nil _ _ _ _
theorem a8.recs (h:a8 enc k w base e v l):a7 enc (λb=>base<=b/\v.ownBlock=some b) w v l:=by
 rcases h.2 with ⟨rfl,hn⟩|⟨g,cap,cur,rfl,hb,hh,h1,h2,h3,h4⟩
 ·rw [List.eq_nil_of_length_eq_zero hn];exact a7.nil_ _ _
 ·exact Tzea
theorem a8.kept {row:Option Nat} (h:a8 enc k w base e v l) (hg:w.grownBy w' row) (fb:v.ownBlock=none∨v.ownBlock≠row):a8 enc k w' base e v l:=World.ownsRow.kept h hg fb
theorem a8.ext (h:a8 enc k w base e v l) (hb:Below w.heap.size w w'):a8 enc k w' base e v l:=
 World.ownsRow.kept h (row:=none) ⟨hb.os,hb.tape,hb.output,hb.size,λk hk _=>hb.block k hk⟩ (by cases v.ownBlock<;>simp)
theorem a8.drew (h:a8 enc k w base e v l):a8 enc k w.drew base e v l:=h
theorem a8.len {A:Option Addr} {n c:Nat} (h:a8 enc k w base e (.slice A n c) l):l.length=n/\n<=c/\c<=9223372036854775807:=h.recs.len
theorem a8.grow {a w2:World} {B:Nat} (h:a8 enc k w base e v l) (hg:w.grownBy w2 v.ownBlock) (hb:Below B a w) (hB:B<=base) (hw:base<=w.heap.size):Below B a w2:=
 hb.grown hg (Nat.le_trans hB hw) (λk hk=>Nat.le_trans hB (World.ownsRow.lt h k hk).1)
end
theorem aJ {α:Type} {enc:α->List Value} {k:Nat} {P:Program} {w:World} {D:Nat->Prop} {ops:Array Oper} {rest:List Oper} {o:Oper} {a:Act} {Q:Exit->Act->World->Prop} (hk:∀x,(enc x).length=k) (h1:∀x,∀u∈enc x,u.oneCell' =true) (z:Value) (bytes:Nat) (s x:Operand) (t e:TypeId) (base:Nat) (l r:List α) (A:Option Addr) (m c:Nat) (v:Value) (N:Nat)
 (uw:o.guard=none) (ho:o.op= .call {callee:= .builtin .append,args:= #[s,x],argTypes:= #[t,t]}) (ht:P.underlying t=some (.slice e)) (ud:(P.info? e).map (λi=>(i.zero,i.size,i.bytes))=some (some z,k,bytes)) (Ty:z.cells.size=k) (yi:0<k)
 (hs:a.eval s=v) (hx:a.eval x= .slice A m c) (aj:a8 enc k w base e v l) (hr:a7 enc D w (.slice A m c) r) (hN:N=l.length+m) (sb:(l.length+m)*bytes<=140737488355328) (h63:l.length+m<=9223372036854775807) (jl:base<=w.heap.size)
 (K:∀A' c' w',a8 enc k w' base e (.slice A' N c') (l++r)->w.grownBy w' v.ownBlock->((Value.slice A' N c').ownBlock=v.ownBlock∨(Value.slice A' N c').ownBlock=some w.heap.size)->N<=c'->c'<=9223372036854775807->wpList P ops Q rest (a.put o.dst (.slice A' N c')) w'):
 wpList P ops Q (o::rest) a w:=by
 obtain ⟨A2,c2,e2,g1,g2,g3⟩:=hr;cases e2;refine uK uw s x t ho base e z k bytes ht ud Ty yi v l.length (l.flatMap enc) hs aj A r.length c (r.flatMap enc) hx (gG hk r) g3 (λu hu=> ?_) sb (by unfold maxLen;exact h63) jl N hN ?_
 ·obtain ⟨y,_,hy⟩:=List.mem_flatMap.1 hu;exact h1 y u hy
 ·intro A' c' w' g1 g2 g3 g4 g5;refine K A' c' w' ?_ g2 g3 g4 g5;unfold a8;rw [List.length_append,List.flatMap_append,<-hN];exact g1
theorem a8.some_ {α:Type} {enc:α->List Value} {k:Nat} {w:World} {base:Nat} {e:TypeId} {A:Option Addr} {n c:Nat} {l:List α} (h:a8 enc k w base e (.slice A n c) l) (hl:0<l.length):∃g,A=some ⟨g,0,none⟩/\base<=g/\g<w.heap.size:=by
 exact Tze8
theorem a8.weak {α:Type} {enc:α->List Value} {k:Nat} {w:World} {base yp :Nat} {e:TypeId} {v:Value} {l:List α} (h:a8 enc k w base e v l) (hb:yp<=base):a8 enc k w yp e v l:=by
 exact Tzez
theorem xW {α:Type} {enc:α->List Value} {k:Nat} (hk:∀x,(enc x).length=k) (x:α) (yi:0<k) (m:Nat):(madeCells (enc x).toArray (m*k)).toList=(List.replicate m x).flatMap enc:=by
 apply List.ext_getElem?
 intro i;by_cases hi:i<m*k
 ·have hr:i%k<k:=Nat.mod_lt _ yi;have hj:i / k<m:=Nat.div_lt_of_lt_mul (by rw [Nat.mul_comm];exact hi);have e:=wE hk (List.replicate m x) (i / k) (i%k) x (by simp [hj]) hr;rw [Nat.div_add_mod' i k] at e;rw [e];simp [madeCells,hi,hk];rw [List.getElem?_eq_getElem (by rw [hk];exact hr)];simp
 ·rw [List.getElem?_eq_none (by simp [madeCells];omega),List.getElem?_eq_none (by rw [gG hk];simp;omega)]
end Go.Proofs.YtiblijmngokcgaaGreatDoor
namespace Go.Proofs.YtiblijmngokcgaaGreatDoor
def bA (o:Oper):Nat:=
 match o.op with
 | .load .. =>0
 |_=>dC o
section
variable {P : Program} {ops : Array Oper} {K0 : Act -> World -> Prop} {S : World -> Prop}
theorem mX {o:Oper} (h:bA o=1):Qu P o:=by
 unfold bA at h;split at h
 ·cases h
 ·exact CW h
theorem DJ {o:Oper} {a:Act} {w:World} {rest:List Oper} (hk:dC o=0) (h:wpQuiet P ops (λ_=>True) (λa' =>bG P ops S bA K0 rest a' w) [o] a):bG P ops S bA K0 (o::rest) a w:=by
 have N2 :bA o=0:=by
  unfold bA;split
  ·rfl
  ·exact hk
 exact Tzc5
theorem bZ {o:Oper} {a:Act} {w:World} {rest:List Oper} {t:TypeId} {x:Operand} (A:Addr) (v:Value) (ho:o.op= .load t x) (hw:Region.wanted o (yielded ops a.tmps)=true) (hx:a.eval x= .pointer (some A))
 (hv:∀w',S w'->(loadVar t A).run P w' = .ok v w') (h:bG P ops S bA K0 rest (a.put o.dst v) w):bG P ops S bA K0 (o::rest) a w:=by
 refine eH (by unfold bA;rw [ho]) (v:=v) (.inl ⟨hw,λw' ah => ?_⟩) h;exact Tzd4
theorem vF {o:Oper} {a:Act} {w:World} {rest:List Oper} (hk:bA o=0) (hw:Region.wanted o (yielded ops a.tmps)=false) (h:bG P ops S bA K0 rest (a.put o.dst undef) w):bG P ops S bA K0 (o::rest) a w:=
 eH hk (.inr ⟨hw,rfl⟩) h
theorem gU {o:Oper} {a:Act} {w:World} {rest:List Oper} (hk:(bA o==0)=false) (hw:Region.wanted o (yielded ops a.tmps)=false) (hS:S w) (h:bG P ops S bA K0 rest (a.put o.dst undef) w):bG P ops S bA K0 (o::rest) a w:=by
 rw [jE (by simpa using hk)];simp only [hw,Bool.false_eq_true,if_false];exact ⟨hS,h⟩
theorem aF {o:Oper} {a:Act} {w:World} {rest:List Oper} (hk:(bA o==0)=false) (h:wpList P ops (cj (λa' w' =>S w'/\bG P ops S bA K0 rest a' w')) [o] a w):bG P ops S bA K0 (o::rest) a w:=by
 show (if bA o=0 then _ else _);rw [if_neg (by simpa using hk)];exact h
theorem aD {a:Act} {w:World} {rest:List Oper} (hS:S w) (h:bG P ops S bA K0 rest a w):cj (λa' w' =>S w'/\bG P ops S bA K0 rest a' w') .normal a w:=⟨hS,h⟩
theorem aP {a:Act} {w:World} (h:K0 a w):bG P ops S bA K0 [] a w:=h
theorem aH (S:World->Prop) {id:Nat} {l:List Oper} {Q:Exit->Act->World->Prop} {a:Act} {w:World}
 (hm:P.follows .mixedOrders=true) (hB:mB bA l=true) (hS:S w.drew) (h:bG P l.toArray S bA (Q .normal) l a w.drew):(Code.region id l.toArray true).wp P Q a w:=by
 refine Code.wp_mono cj.to (wp_region_any hm ?_)
 have:=tW (K0:=Q .normal) bA S (λo=>mX) l hB l.length (List.range l.length) (Array.replicate l.length false) a w.drew hS (by simp) (λj=>by
  by_cases hj:j<l.length
  ·simp [hj]
  ·simp [hj]) List.pairwise_lt_range (by simp) (λk o hk hL=>by
  have af:=(List.getElem?_eq_some_iff.1 hk).1;simp [af] at hL) (by rw [kI];exact h)
 simpa using this
theorem aB {w:World} {t:TypeId} {A:Addr} {v:Value} (ht:(isAgg t).run P w= .ok false w) (hc:w.cell? A=some v):(loadVar t A).run P w= .ok v w:=by
 unfold loadVar;rw [Sem.run_bind,ht];simp [load,Sem.run,hc]
end
end Go.Proofs.YtiblijmngokcgaaGreatDoor
namespace Go.Proofs.YtiblijmngokcgaaGreatDoor
section
variable {P : Program} {ops : Array Oper} {K0 : Act -> World -> Prop} {S : World -> Prop}
def nQ (o:Oper):Bool:=
 match o.op with
 | .slice .. =>false
 |_=>dC o==0
theorem OX {o:Oper} {a:Act} {w:World} {rest:List Oper} (hk:nQ o=true) (h:wpQuiet P ops (λ_=>True) (λa' =>bG P ops S bA K0 rest a' w) [o] a):bG P ops S bA K0 (o::rest) a w:=
 DJ (by
  unfold nQ at hk;split at hk
  ·cases hk
  ·simpa using hk) h
theorem a7.part {α:Type} {enc:α->List Value} {k:Nat} (hk:∀x,(enc x).length=k) {D:Nat->Prop} {w:World} {A:Option Addr} {n c l h m:Nat} {L:List α} (hb:a7 enc D w (.slice A n c) L) (h1:l<=h) (h2:h<=m) (h3:h<=n) (h4:m<=c):
 a7 enc D w (.slice (if m=l then A else A.map (·.add (l*k))) (h-l) (m-l)) ((L.drop l).take (h-l)):=by
 obtain ⟨A',c',e,g1,g2,g3⟩:=hb;cases e;have hl:((L.drop l).take (h-l)).length=h-l:=by rw [List.length_take,List.length_drop];omega
 refine ⟨_,m-l,by rw [hl],by rw [hl];omega,by omega,?_⟩;have:=Cs.part (sz:=k) (n:=L.length) (l:=l) (h:=h) (m:=m) g3 (gG hk L) h1 h2 h3;rw [xX hk,sD hk] at this;exact this
theorem qG {α:Type} {enc:α->List Value} {k:Nat} (hk:∀x,(enc x).length=k) {o:Oper} {a:Act} {w:World} {rest:List Oper} {T E:TypeId} {x:Operand} {lo hi mx:Option Operand} {A:Option Addr} {n c:Nat} {D:Nat->Prop} {w0:World} {L:List α} (l h m n' c' :Nat) (L' :List α)
 (uw:Region.wanted o (yielded ops a.tmps)=true) (ho:o.op= .slice T x lo hi mx) (hx:a.eval x= .slice A n c) (ht:P.underlying T=some (.slice E)) (Ej :(P.info? E).map (·.size)=some k)
 (ua:(lo=none/\l=0)∨∃y kd e,lo=some y/\a.eval y= .int kd e/\e=(l:Int)) (XE:(hi=none/\mx=none/\h=n)∨∃y kd e,hi=some y/\a.eval y= .int kd e/\e=(h:Int))
 (J9:(mx=none/\m=c)∨∃y kd e,mx=some y/\a.eval y= .int kd e/\e=(m:Int)) (hb:a7 enc D w0 (.slice A n c) L) (h1:l<=h) (h2:h<=m) (h3:h<=n) (h4:m<=c) (Du :n' =h-l) (XV :c' =m-l) (hL' :L' =(L.drop l).take (h-l))
 (K:∀A',a7 enc D w0 (.slice A' n' c') L'->n'<=c'->bG P ops S bA K0 rest (a.put o.dst (.slice A' n' c')) w):bG P ops S bA K0 (o::rest) a w:=by
 subst Du XV hL';refine eH (by unfold bA dC;simp [ho]) (.inl ⟨uw,λw' _=> ?_⟩) (K _ (hb.part hk h1 h2 h3 h4) (by omega));exact zO l h m ho hx ht Ej ua XE J9 h1 h2 h4 w'
end
end Go.Proofs.YtiblijmngokcgaaGreatDoor
namespace Go.Proofs.YtiblijmngokcgaaGreatDoor
section
variable {P : Program} {K0 : Act -> World -> Prop}
theorem xJ (kd:Oper->Nat) (S:World->Prop) (iq:∀o,kd o=1->Qu P o) (l:List Oper) (Fo:Region.noSelect l.toArray=true) (rk:Nat->Nat) (x y:Nat)
 (jx:∀j o,l[j]? =some o->(∀e∈o.after,Region.binds .any e=true->e.on<l.length/\rk e.on<rk j)/\∀i u,rk i<rk j->l[i]? =some u->((qm l).getD j 0).testBit i=true∨cJ kd l.toArray u o=true∨(i=x/\j=y)∨(i=y/\j=x)):
 ∀(n:Nat) (rem:List Nat) (listed:Array Bool) (a:Act) (w:World),S w->rem.length=n->(∀j,j∈rem↔listed.getD j true=false)->rem.Pairwise (λi j=>rk i<rk j)->¬(x∈rem/\y∈rem)->listed.size=l.length->
  (∀k o,l[k]? =some o->listed.getD k false=true->∀e∈o.after,Region.binds .any e=true->listed.getD e.on false=true)->
  bG P l.toArray S kd K0 (bK l rem) a w->wpAny P .any l.toArray (cj K0) n listed a w:=by
 have jf:∀(j:Nat) (o:Oper),l[j]? =some o->∀cs b,o.op≠ .select cs b:=λj o ho cs b=>Region.noSelect_spec Fo j o cs b (by simpa using ho)
 intro n;induction n with
 |zero=>
  intro rem listed a w _ hn et _ _ _ _ h;exact Tzcc
 |succ n ih=>
  intro rem listed a w hS hn et Cg Rp ef gy h;have inr:∀j,j∈rem->j<l.length:=λj hj=>by
   have:=(et j).1 hj;exact Tzb6
  have L8:∀j,j<l.length->j∉rem->listed.getD j false=true:=λj hj hm=>by
   exact Tzcf
  refine ⟨λh0=> ?_,λj hj=> ?_⟩
  ·exact Tzb7
  ·obtain ⟨Gj,o,ho,j8⟩:=mem_ready.1 hj;have j5 :l[j]? =some o:=by simpa using ho
   have eg:j∈rem:=(et j).2 Gj;obtain ⟨pre,post,rfl⟩:=List.append_of_mem eg;rw [List.pairwise_append] at Cg;obtain ⟨Ki,Nx,Eh⟩:=Cg;have N3:=inr j eg
   -- none of those before it is waited for
   have yf:∀i u,i∈pre->l[i]? =some u->cJ kd l.toArray u o=true:=λi u hi hx=>by
    have uq:rk i<rk j:=Eh i hi j (by simp);rcases (jx j o j5).2 i u uq hx with hb|hb|hb
    ·exact Tzc2
    ·exact hb
    ·exfalso;rcases hb with ⟨rfl,rfl⟩|⟨rfl,rfl⟩
     ·exact Rp ⟨by simp [hi],by simp⟩
     ·exact Rp ⟨by simp,by simp [hi]⟩
   have J8:j∉pre++post:=by
    exact Tzbr
   have hK:∀a' w',S w'->bG P l.toArray S kd K0 (bK l (pre++post)) a' w'->wpAny P .any l.toArray (cj K0) n (listed.setIfInBounds j true) a' w' :=by
    intro a' w' yn h';refine ih (pre++post) _ a' w' yn (by simp at hn ⊢;omega) (λi=> ?_) ?_ (λ⟨q1,q2⟩=>Rp ⟨by simp at q1 ⊢;rcases q1 with q1|q1<;>simp [q1],by simp at q2 ⊢;rcases q2 with q2|q2<;>simp [q2]⟩) (by simpa using ef) ?_ h'
    ·exact Tzbg
    ·exact Tzca
    ·exact Tzba
   exact Tzak
def cI (p:List Nat) (i:Nat):Nat:=p.idxOf i
def IY (kd:Oper->Nat) (l:List Oper) (b:Array Nat) (p:List Nat) (x y j:Nat):Bool:=
 match l[j]? with
 |none=>true
 |some o=>(o.after.all λe=> !Region.binds .any e || (decide (e.on<l.length) && decide (cI p e.on<cI p j))) &&
  (List.range l.length).all λi=>match l[i]? with
   |none=>true
   |some u=> !decide (cI p i<cI p j) || (b.getD j 0).testBit i || cJ kd l.toArray u o || (i==x && j==y) || (i==y && j==x)
def DK (kd:Oper->Nat) (l:List Oper) (b:Array Nat) (x y j:Nat):Bool:=
 match l[j]? with
 |none=>true
 |some o=>kd o==0 || j==x || j==y || ((b.getD j 0).testBit x && (b.getD j 0).testBit y)
def sY (kd:Oper->Nat) (l:List Oper) (p:List Nat) (x y:Nat):Bool:=
 Region.noSelect l.toArray && (List.range l.length).all (λj=>IY kd l (qm l) p x y j && DK kd l (qm l) x y j && decide (j∈p)) && decide p.Nodup && decide (p.length=l.length) && p.all (λj=>decide (j<l.length))
theorem nL {kd:Oper->Nat} {l:List Oper} {p:List Nat} {x y:Nat} (h:sY kd l p x y=true):
 Region.noSelect l.toArray=true/\(∀j o,l[j]? =some o->(∀e∈o.after,Region.binds .any e=true->e.on<l.length/\cI p e.on<cI p j)/\∀i u,cI p i<cI p j->l[i]? =some u->((qm l).getD j 0).testBit i=true∨cJ kd l.toArray u o=true∨(i=x/\j=y)∨(i=y/\j=x))/\
 (∀j o,l[j]? =some o->kd o=0∨j=x∨j=y∨(((qm l).getD j 0).testBit x=true/\((qm l).getD j 0).testBit y=true))/\(∀j,j<l.length↔j∈p)/\p.Nodup/\p.length=l.length:=by
 simp only [sY,Bool.and_eq_true,List.all_eq_true,List.mem_range,decide_eq_true_eq] at h;obtain ⟨⟨⟨⟨h1,h2⟩,h3⟩,h4⟩,h5⟩:=h;refine ⟨h1,λj o ho=> ?_,λj o ho=> ?_,λj=>⟨λhj=>(h2 j hj).2,h5 j⟩,h3,h4⟩
 ·have hj:=(List.getElem?_eq_some_iff.1 ho).1;have:=(h2 j hj).1.1;simp only [IY,ho,Bool.and_eq_true,Array.all_eq_true_iff_forall_mem,List.all_eq_true,List.mem_range] at this;refine ⟨λe he hb=> ?_,λi u hi hu=> ?_⟩
  ·have h:=this.1 e he;simpa [hb] using h
  ·have h:=this.2 i (List.getElem?_eq_some_iff.1 hu).1;simp only [hu,Bool.or_eq_true,Bool.not_eq_true',decide_eq_false_iff_not,Bool.and_eq_true,beq_iff_eq] at h;rcases h with (((h|h)|h)|h)|h
   ·exact absurd hi h
   ·exact .inl h
   ·exact .inr (.inl h)
   ·exact .inr (.inr (.inl h))
   ·exact .inr (.inr (.inr h))
 ·have hj:=(List.getElem?_eq_some_iff.1 ho).1;have:=(h2 j hj).1.2;simp only [DK,ho,Bool.or_eq_true,Bool.and_eq_true,beq_iff_eq] at this;rcases this with ((h|h)|h)|h
  ·exact .inl h
  ·exact .inr (.inl h)
  ·exact .inr (.inr (.inl h))
  ·exact .inr (.inr (.inr h))
theorem IZ (kd:Oper->Nat) (S:World->Prop) (iq:∀o,kd o=1->Qu P o) (l:List Oper) (p1 p2:List Nat) (x y:Nat) (Pl:sY kd l p1 x y=true) (UB:sY kd l p2 x y=true) (fa:∀o,l[x]? =some o->kd o≠0/\kd o≠1) (hy0:∀o,l[y]? =some o->kd o≠0/\kd o≠1) (ic:x<l.length) (hly:y<l.length) (Ip:cI p1 x<cI p1 y) (mi:cI p2 y<cI p2 x):
 ∀(n:Nat) (r1 r2:List Nat) (listed:Array Bool) (a:Act) (w:World),S w->r1.length=n->r2.length=n->(∀j,j∈r1↔listed.getD j true=false)->(∀j,j∈r2↔listed.getD j true=false)->r1.Pairwise (λi j=>cI p1 i<cI p1 j)->r2.Pairwise (λi j=>cI p2 i<cI p2 j)->x∈r1->y∈r1->listed.size=l.length->
  (∀k o,l[k]? =some o->listed.getD k false=true->∀e∈o.after,Region.binds .any e=true->listed.getD e.on false=true)->
  bG P l.toArray S kd K0 (bK l r1) a w->bG P l.toArray S kd K0 (bK l r2) a w->wpAny P .any l.toArray (cj K0) n listed a w:=by
 obtain ⟨Fo,Hf,Dw,Ub,hnd1,O5⟩:=nL Pl;obtain ⟨_,Lz,_,Ua,hnd2,O0⟩:=nL UB;have jf:∀(j:Nat) (o:Oper),l[j]? =some o->∀cs b,o.op≠ .select cs b:=λj o ho cs b=>Region.noSelect_spec Fo j o cs b (by simpa using ho)
 have fb:x≠y:=λe=>by rw [e] at Ip;omega
 intro n;induction n with
 |zero=>
  intro r1 r2 listed a w _ hn _ _ _ _ _ hx _ _ _ _ _;rw [List.eq_nil_of_length_eq_zero hn] at hx;cases hx
 |succ n ih=>
  intro r1 r2 listed a w hS Ct S0 jh pg Ki Nx hx hy ef gy h1 h2;have inr:∀j,j∈r1->j<l.length:=λj hj=>by
   have:=(jh j).1 hj;exact Tzb6
  have L8:∀j,j<l.length->j∉r1->listed.getD j false=true:=λj hj hm=>by
   have:¬listed.getD j true=false:=λe=>hm ((jh j).2 e)
   have af:j<listed.size:=by omega
   simp [af] at this ⊢;exact this
  have step:∀(r:List Nat) (p:List Nat),(∀j,j∈r↔listed.getD j true=false)->r.length=n+1->∀j,j∈r->∀pre post,r=pre++j::post->r.Pairwise (λi j=>cI p i<cI p j)->
   (pre++post).length=n/\(∀i,i∈pre++post↔(listed.setIfInBounds j true).getD i true=false)/\(pre++post).Pairwise (λi j=>cI p i<cI p j)/\j∉pre++post/\(∀i∈pre,cI p i<cI p j):=by
   intro r p hm hn j hj pre post hr hp;subst hr;rw [List.pairwise_append] at hp;obtain ⟨q1,q2,q3⟩:=hp;have J8:j∉pre++post:=by
    intro eg;rcases List.mem_append.1 eg with eg|eg
    ·have:=q3 j eg j (by simp);omega
    ·have:=(List.pairwise_cons.1 q2).1 j eg;omega
   refine ⟨by simp at hn ⊢;omega,λi=> ?_,?_,J8,λi hi=>q3 i hi j (by simp)⟩
   ·by_cases uq:j=i
    ·subst uq;have af:j<listed.size:=by
      have:=(hm j).1 hj;rcases Nat.lt_or_ge j listed.size with h' |h'
      ·exact h'
      ·simp [Array.getElem?_eq_none h'] at this
     constructor
     ·intro eg;exact absurd eg J8
     ·intro eg;simp [af] at eg
    ·rw [getD_set_ne true uq,<-hm i];simp [Ne.symm uq]
   ·rw [List.pairwise_append];exact ⟨q1,(List.pairwise_cons.1 q2).2,λu hu v hv=>q3 u hu v (by simp [hv])⟩
  have XR :∀j o,l[j]? =some o->(∀e∈o.after,Region.binds .any e=true->listed.getD e.on false=true)->∀k o',l[k]? =some o'->(listed.setIfInBounds j true).getD k false=true->∀e∈o'.after,Region.binds .any e=true->(listed.setIfInBounds j true).getD e.on false=true:=by
   intro j o ho j8 k o' hk hL e he hb;refine getD_set_true ?_;by_cases Si:j=k
   ·subst Si;rw [ho] at hk;cases hk;exact j8 e he hb
   ·rw [getD_set_ne false Si] at hL;exact gy k o' hk hL e he hb
  refine ⟨λh0=> ?_,λj hj=> ?_⟩
  ·exfalso;match r1,Ct with
   |m::rem',_=>
    have hm:m∈m::rem' :=by simp
    have Ei:=inr m hm;have ho:l[m]? =some l[m]:=List.getElem?_eq_getElem Ei
    have:m∈Region.ready .any l.toArray listed:=mem_ready.2 ⟨(jh m).1 hm,l[m],by simp,λe he hb=>by
     obtain ⟨Ja,af⟩:=(Hf m _ ho).1 e he hb;refine L8 e.on Ja (λeg=> ?_);rcases List.mem_cons.1 eg with eg|eg
     ·rw [eg] at af;omega
     ·have:=(List.pairwise_cons.1 Ki).1 _ eg;omega⟩
    rw [h0] at this;cases this
  ·obtain ⟨Gj,o,ho,j8⟩:=mem_ready.1 hj;have j5 :l[j]? =some o:=by simpa using ho
   have eg:j∈r1:=(jh j).2 Gj;have VQ :j∈r2:=(pg j).2 Gj;obtain ⟨WX,po1,e1⟩:=List.append_of_mem eg;obtain ⟨WW,po2,e2⟩:=List.append_of_mem VQ;obtain ⟨s1,s2,s3,s4,s5⟩:=step r1 p1 jh Ct j eg WX po1 e1 Ki;obtain ⟨t1,t2,t3,t4,t5⟩:=step r2 p2 pg S0 j VQ WW po2 e2 Nx;have rn:∀i,i∈r1->¬((qm l).getD j 0).testBit i=true:=λi hi hb=>by
    have:=iI (λk=>listed.getD k false=true) l (λk o hk hL=>gy k o hk hL) j o j5 (λe he hb=>j8 e he hb) i hb;have h2:=(jh i).1 hi;have af:i<listed.size:=by have:=inr i hi;omega
    simp [af] at this h2;rw [this] at h2;cases h2
   have in12:∀i,i∈r2->i∈r1:=λi hi=>(jh i).2 ((pg i).1 hi)
   rw [e1,bR,fM j5] at h1;rw [e2,bR,fM j5] at h2;by_cases O9:j=x
   ·subst O9;have hxp:∀i u,i∈WX->l[i]? =some u->cJ kd l.toArray u o=true:=λi u hi hu=>by
     rcases (Hf j o j5).2 i u (s5 i hi) hu with hb|hb|⟨q1,q2⟩|⟨q1,q2⟩
     ·exact absurd hb (rn i (by rw [e1];simp [hi]))
     ·exact hb
     ·exact absurd q2 fb
     ·rw [q1] at hi;have:=s5 y hi;omega
    have Xw:=fa o j5
    have h3:=jR (ops:=l.toArray) ho Xw.1 (jf j o j5) (bK l WX) a w hS (λu hu=>by
     obtain ⟨i,hi,Fl⟩:=fT hu;have hb:=hxp i u hi Fl;simp only [cJ,Bool.and_eq_true,Bool.or_eq_true,beq_iff_eq] at hb;refine ⟨?_,hb.1.1,jf i u Fl⟩;rcases hb.2 with (q|q)|q
     ·exact q
     ·exact absurd q Xw.1
     ·exact absurd q.2 Xw.2) h1
    refine wpOp_mono (λa' w' h4=> ?_) h3;rw [<-bR] at h4;exact xJ kd S iq l Fo (cI p1) j y Hf n (WX++po1) _ a' w' h4.1 s1 s2 s3 (λh=>s4 h.1) (by simpa using ef) (XR j o j5 j8) h4.2
   by_cases hjy:j=y
   ·subst hjy;have hxp:∀i u,i∈WW->l[i]? =some u->cJ kd l.toArray u o=true:=λi u hi hu=>by
     rcases (Lz j o j5).2 i u (t5 i hi) hu with hb|hb|⟨q1,q2⟩|⟨q1,q2⟩
     ·exact absurd hb (rn i (in12 i (by rw [e2];simp [hi])))
     ·exact hb
     ·rw [q1] at hi;have:=t5 x hi;omega
     ·exact absurd q2.symm fb
    have Xw:=hy0 o j5
    have h3:=jR (ops:=l.toArray) ho Xw.1 (jf j o j5) (bK l WW) a w hS (λu hu=>by
     obtain ⟨i,hi,Fl⟩:=fT hu;have hb:=hxp i u hi Fl;simp only [cJ,Bool.and_eq_true,Bool.or_eq_true,beq_iff_eq] at hb;refine ⟨?_,hb.1.1,jf i u Fl⟩;rcases hb.2 with (q|q)|q
     ·exact q
     ·exact absurd q Xw.1
     ·exact absurd q.2 Xw.2) h2
    refine wpOp_mono (λa' w' h4=> ?_) h3;rw [<-bR] at h4;exact xJ kd S iq l Fo (cI p2) x j Lz n (WW++po2) _ a' w' h4.1 t1 t2 t3 (λh=>t4 h.2) (by simpa using ef) (XR j o j5 j8) h4.2
   have k0:kd o=0:=by
    rcases Dw j o j5 with q|q|q|q
    ·exact q
    ·exact absurd q O9
    ·exact absurd q hjy
    ·exact absurd q.1 (rn x hx)
   have pk:∀(p:List Nat) (jx:∀j o,l[j]? =some o->(∀e∈o.after,Region.binds .any e=true->e.on<l.length/\cI p e.on<cI p j)/\∀i u,cI p i<cI p j->l[i]? =some u->((qm l).getD j 0).testBit i=true∨cJ kd l.toArray u o=true∨(i=x/\j=y)∨(i=y/\j=x)) (pr:List Nat),(∀i∈pr,i∈r1/\cI p i<cI p j)->∀u∈bK l pr,o.apart l.toArray u=true/\∀cs b,u.op≠ .select cs b:=by
    intro p jx pr zh u hu;obtain ⟨i,hi,Fl⟩:=fT hu;refine ⟨?_,jf i u Fl⟩;rcases (jx j o j5).2 i u (zh i hi).2 Fl with hb|hb|⟨q1,q2⟩|⟨q1,q2⟩
    ·exact absurd hb (rn i (zh i hi).1)
    ·simp only [cJ,Bool.and_eq_true] at hb;exact hb.1.2
    ·exact absurd q2 hjy
    ·exact absurd q2 O9
   obtain ⟨v1,y1,g1⟩:=kO (ops:=l.toArray) k0 (jf j o j5) (bK l WX) a w hS (pk p1 Hf WX (λi hi=>⟨by rw [e1];simp [hi],s5 i hi⟩)) h1;obtain ⟨v2,y2,g2⟩:=kO (ops:=l.toArray) k0 (jf j o j5) (bK l WW) a w hS (pk p2 Lz WW (λi hi=>⟨in12 i (by rw [e2];simp [hi]),t5 i hi⟩)) h2;obtain rfl:v1=v2:=fJ hS y1 y2;rw [<-bR] at g1 g2;refine (mM y1 hS).wpOp ho (ih (WX++po1) (WW++po2) _ _ w hS s1 t1 s2 t2 s3 t3 ?_ ?_ (by simpa using ef) (XR j o j5 j8) g1 g2)
   ·rw [e1] at hx;simp at hx ⊢;rcases hx with q|q|q
    ·exact .inl q
    ·exact absurd q.symm O9
    ·exact .inr q
   ·rw [e1] at hy;simp at hy ⊢;rcases hy with q|q|q
    ·exact .inl q
    ·exact absurd q.symm hjy
    ·exact .inr q
theorem yH (S:World->Prop) (p1 p2:List Nat) (x y:Nat) {id:Nat} {l:List Oper} {Q:Exit->Act->World->Prop} {a:Act} {w:World}
 (hm:P.follows .mixedOrders=true) (Pl:sY bA l p1 x y=true) (UB:sY bA l p2 x y=true) (hk:((List.range l.length).all λj=> !(j==x || j==y) || match l[j]? with|none=>false|some o=>bA o==2)=true)
 (ic:x<l.length) (hly:y<l.length) (Ip:cI p1 x<cI p1 y) (mi:cI p2 y<cI p2 x) (hS:S w.drew)
 (h1:bG P l.toArray S bA (Q .normal) (bK l p1) a w.drew) (h2:bG P l.toArray S bA (Q .normal) (bK l p2) a w.drew):(Code.region id l.toArray true).wp P Q a w:=by
 refine Code.wp_mono cj.to (wp_region_any hm ?_);obtain ⟨_,_,_,Ub,hnd1,O5⟩:=nL Pl;obtain ⟨_,_,_,Ua,hnd2,O0⟩:=nL UB;have kinds:∀j,j=x∨j=y->∀o,l[j]? =some o->bA o≠0/\bA o≠1:=by
  intro j hj o ho;have:=List.all_eq_true.1 hk j (List.mem_range.2 (List.getElem?_eq_some_iff.1 ho).1);rcases hj with rfl|rfl<;>simp [ho] at this<;>omega
 have mem:∀(p:List Nat),(∀j,j<l.length↔j∈p)->∀j,j∈p↔(Array.replicate l.length false).getD j true=false:=by
  intro p eg j;rw [<-eg j];by_cases hj:j<l.length
  ·simp [hj]
  ·simp [hj]
 have pw:∀(p:List Nat),p.Nodup->p.Pairwise (λi j=>cI p i<cI p j):=by
  intro p hp;rw [List.pairwise_iff_getElem];intro i j hi hj uq;unfold cI;rw [List.Nodup.idxOf_getElem hp,List.Nodup.idxOf_getElem hp];exact uq
 have:=IZ (K0:=Q .normal) bA S (λo=>mX) l p1 p2 x y Pl UB (kinds x (.inl rfl)) (kinds y (.inr rfl)) ic hly Ip mi l.length p1 p2 (Array.replicate l.length false) a w.drew hS O5 O0 (mem p1 Ub) (mem p2 Ua) (pw p1 hnd1) (pw p2 hnd2) ((Ub x).1 ic) ((Ub y).1 hly) (by simp) (λk o hk hL=>by
  have af:=(List.getElem?_eq_some_iff.1 hk).1;simp [af] at hL) h1 h2
 simpa using this
end
end Go.Proofs.YtiblijmngokcgaaGreatDoor
namespace Go.Proofs.YtiblijmngokcgaaGreatDoor
def sP (l:List Oper) (n1:Nat):Bool:=(List.range l.length).all λj=>decide (j<n1) || (List.range j).all λi=>((qm l).getD j 0).testBit i
theorem uL {l:List Oper} {n1:Nat} (h:sP l n1=true) {j:Nat} (h1:n1<=j) (h2:j<l.length) {i:Nat} (hi:i<j):((qm l).getD j 0).testBit i=true:=by
 unfold sP at h;rw [List.all_eq_true] at h;have:=h j (by simpa using h2);simp only [Bool.or_eq_true,decide_eq_true_eq,List.all_eq_true,List.mem_range] at this;rcases this with h|h
 ·omega
 ·exact h i hi
def eM (l:List Oper) (n1:Nat):Array Bool:=((List.range l.length).map (λi=>decide (i<n1))).toArray
section
variable {P : Program} {K0 : Act -> World -> Prop}
theorem fSq {ops:Array Oper} {j:Nat} {K K1 K2:Act->World->Prop} {a:Act} {w:World} (h:wpOp P ops (cj K1) j K a w):wpOp P ops (cj K2) j K a w:=by
 unfold wpOp at*;cases hj:ops[j]? with
 |none=>simp only [hj] at h ⊢;exact h
 |some o=>
  simp only [hj] at h ⊢;split
  ·rename_i hw;simp only [hw,if_true] at h;rcases h with h|⟨_,h⟩
   ·exact .inl (lU h)
   ·exact (oQ h).elim
  ·rename_i hw;simp only [hw] at h;exact h
theorem wU (kd:Oper->Nat) (S:World->Prop) (iq:∀o,kd o=1->Qu P o) (l:List Oper) (n1:Nat) (Ct:n1<=l.length) (hB:mB kd l=true) (hT:sP l n1=true) {K1:Act->World->Prop}
 (ZD:∀a w,K1 a w->wpAny P .any l.toArray (cj K0) (l.length-n1) (eM l n1) a w):
 ∀(n:Nat) (rem:List Nat) (listed:Array Bool) (a:Act) (w:World),S w->rem.length=n->(∀j∈rem,j<n1)->(∀j,(j∈rem∨(n1<=j/\j<l.length))↔listed.getD j true=false)->rem.Pairwise (·<·)->listed.size=l.length->
  (∀k o,l[k]? =some o->listed.getD k false=true->∀e∈o.after,Region.binds .any e=true->listed.getD e.on false=true)->
  bG P l.toArray S kd K1 (bK l rem) a w->wpAny P .any l.toArray (cj K0) (n+(l.length-n1)) listed a w:=by
 have Fo:Region.noSelect l.toArray=true:=by simp [mB] at hB;exact hB.1
 have jf:∀(j:Nat) (o:Oper),l[j]? =some o->∀cs b,o.op≠ .select cs b:=λj o ho cs b=>Region.noSelect_spec Fo j o cs b (by simpa using ho)
 have jx:∀j o,l[j]? =some o->(∀e∈o.after,Region.binds .any e=true->e.on<j)/\∀i x,i<j->l[i]? =some x->((qm l).getD j 0).testBit i=true∨cJ kd l.toArray x o=true:=by
  exact Tzck
 intro n;induction n with
 |zero=>
  intro rem listed a w _ hn _ et _ ef _ h;have:rem=[]:=List.eq_nil_of_length_eq_zero hn;subst this;have:listed=eM l n1:=by
   apply Array.ext
   ·rw [ef];simp [eM]
   ·intro i h1 h2;have hm:=et i;simp [h1] at hm;simp only [eM,List.getElem_toArray,List.getElem_map,List.getElem_range];by_cases hi:i<n1
    ·rw [decide_eq_true hi];cases hq:listed[i] with
     |true=>rfl
     |false=>have:=hm.2 hq;omega
    ·rw [decide_eq_false hi];exact hm.1 ⟨by omega,by omega⟩
  rw [this,Nat.zero_add];exact ZD a w h
 |succ n ih=>
  intro rem listed a w hS hn ua et Cg ef gy h;rw [Nat.succ_add];have inr:∀j,j∈rem->j<l.length:=λj hj=>by
   have:=(et j).1 (.inl hj);exact Tzb6
  have L8:∀j,j<n1->j∉rem->listed.getD j false=true:=λj hj hm=>by
   have:¬listed.getD j true=false:=λe=>by
    rcases (et j).2 e with h|h
    ·exact hm h
    ·omega
   have af:j<listed.size:=by omega
   simp [af] at this ⊢;exact this
  refine ⟨λh0=> ?_,λj hj=> ?_⟩
  ·exfalso;match rem,hn with
   |m::rem',_=>
    have hm:m∈m::rem' :=by simp
    have Ei:=inr m hm;have ho:l[m]? =some l[m]:=List.getElem?_eq_getElem Ei
    have:m∈Region.ready .any l.toArray listed:=mem_ready.2 ⟨(et m).1 (.inl hm),l[m],by simp,λe he hb=>by
     have af:=(jx m _ ho).1 e he hb;refine L8 e.on (by have:=ua m hm;omega) (λeg=> ?_);rcases List.mem_cons.1 eg with rfl|eg
     ·omega
     ·have:=(List.pairwise_cons.1 Cg).1 _ eg;omega⟩
    rw [h0] at this;cases this
  ·obtain ⟨Gj,o,ho,j8⟩:=mem_ready.1 hj;have j5 :l[j]? =some o:=by simpa using ho
   have eg:j∈rem:=by
    rcases (et j).2 Gj with eg|⟨hj1,hj2⟩
    ·exact eg
    ·exfalso;match rem,hn with
     |m::rem',_=>
      have hm:m∈m::rem' :=by simp
      have jh:=ua m hm;have hb:=uL hT hj1 hj2 (show m<j by omega);have:=iI (λk=>listed.getD k false=true) l (λk o hk hL=>gy k o hk hL) j o j5 (λe he hb=>j8 e he hb) m hb;have h2:=(et m).1 (.inl hm);have af:m<listed.size:=by omega
      simp [af] at this h2;rw [this] at h2;cases h2
   obtain ⟨pre,post,rfl⟩:=List.append_of_mem eg;rw [List.pairwise_append] at Cg;obtain ⟨Ki,Nx,Eh⟩:=Cg;have N3:=inr j eg
   -- none of those before it is waited for
   have yf:∀i x,i∈pre->l[i]? =some x->cJ kd l.toArray x o=true:=λi x hi hx=>by
    have uq:i<j:=Eh i hi j (by simp);rcases (jx j o j5).2 i x uq hx with hb|hb
    ·exfalso;have:=iI (λk=>listed.getD k false=true) l (λk o hk hL=>gy k o hk hL) j o j5 (λe he hb=>j8 e he hb) i hb;have h2:=(et i).1 (.inl (by simp [hi]));have af:i<listed.size:=by omega
     simp [af] at this h2;rw [this] at h2;cases h2
    ·exact hb
   have J8:j∉pre++post:=by
    exact Tzbr
   have hK:∀a' w',S w'->bG P l.toArray S kd K1 (bK l (pre++post)) a' w'->wpAny P .any l.toArray (cj K0) (n+(l.length-n1)) (listed.setIfInBounds j true) a' w' :=by
    intro a' w' yn h';refine ih (pre++post) _ a' w' yn (by simp at hn ⊢;omega) (λi hi=>ua i (by rcases List.mem_append.1 hi with h|h<;>simp [h])) (λi=> ?_) ?_ (by simpa using ef) ?_ h'
    ·by_cases uq:j=i
     ·subst uq;have af:j<listed.size:=by omega
      constructor
      ·intro hm;rcases hm with hm|hm
       ·exact absurd hm J8
       ·have:=ua j eg;omega
      ·intro hm;simp [af] at hm
     ·rw [getD_set_ne true uq,<-et i];simp [Ne.symm uq]
    ·exact Tzca
    ·exact Tzba
   rw [bR,fM j5] at h;have Lh:∀x∈bK l pre,cJ kd l.toArray x o=true/\∀cs b,x.op≠ .select cs b:=λx hx=>by
    obtain ⟨i,hi,o6⟩:=fT hx;exact ⟨yf i x hi o6,jf i x o6⟩
   rw [bR] at hK;by_cases k0:kd o=0
   ·obtain ⟨v,hv,h1⟩:=kO k0 (jf j o j5) (bK l pre) a w hS (λx hx=>by
     obtain ⟨hb,hs⟩:=Lh x hx;simp only [cJ,Bool.and_eq_true] at hb;exact ⟨hb.1.2,hs⟩) h
    exact (mM hv hS).wpOp ho (hK _ _ hS h1)
   ·by_cases k1:kd o=1
    ·obtain ⟨v,hv,h1⟩:=oJ ⟨k1,iq o k1⟩ (jf j o j5) (bK l pre) a w hS (λx hx=>by
      obtain ⟨hb,hs⟩:=Lh x hx;simp only [cJ,Bool.and_eq_true,Bool.or_eq_true,beq_iff_eq] at hb;refine ⟨?_,hb.1.2,hs⟩;rcases hb.2 with (fa|fa)|fa
      ·exact .inl fa
      ·exact absurd fa k0
      ·exact .inr ⟨fa.1,iq x fa.1⟩) h
     exact hv.wpOp ho (hK _ _ hS h1)
    ·have h1:=jR ho k0 (jf j o j5) (bK l pre) a w hS (λx hx=>by
      obtain ⟨hb,hs⟩:=Lh x hx;simp only [cJ,Bool.and_eq_true,Bool.or_eq_true,beq_iff_eq] at hb;refine ⟨?_,hb.1.1,hs⟩;rcases hb.2 with (fa|fa)|fa
      ·exact fa
      ·exact absurd fa k0
      ·exact absurd fa.2 k1) h
     exact wpOp_mono (λa' w' h2=>hK a' w' h2.1 h2.2) (fSq h1)
theorem fX {l:List Oper} {k i:Nat} (d:Bool) (hi:i<l.length):(eM l k).getD i d=decide (i<k):=by
 simp [eM,hi]
theorem AI {l:List Oper} {k i:Nat} (hi:l.length<=i):(eM l k).getD i true=true:=by
 simp [eM,hi]
theorem AH {l:List Oper} {k:Nat} (hk:k<l.length):(eM l k).setIfInBounds k true=eM l (k+1):=by
 apply Array.ext
 ·simp [eM]
 ·intro i h1 h2;simp [eM,List.getElem_set];by_cases hi:k=i
  ·simp [hi]
  ·simp [hi];omega
theorem zK (l:List Oper) (n1:Nat) (hB:∀j o,l[j]? =some o->∀e∈o.after,Region.binds .any e=true->e.on<j) (hT:sP l n1=true):
 ∀(m k:Nat),n1<=k->k+m=l.length->∀a w,wpList P l.toArray (cj K0) (l.drop k) a w->wpAny P .any l.toArray (cj K0) m (eM l k) a w:=by
 have gy:∀k i o,l[i]? =some o->(eM l k).getD i false=true->∀e∈o.after,Region.binds .any e=true->(eM l k).getD e.on false=true:=by
  intro k i o ho hL e he hb;have af:=(List.getElem?_eq_some_iff.1 ho).1;have:=hB i o ho e he hb;rw [fX _ af] at hL;rw [fX _ (by omega)];simp at hL ⊢;omega
 intro m;induction m with
 |zero=>
  intro k hk hl a w h;rw [List.drop_eq_nil_of_le (by omega)] at h;refine ⟨?_,h⟩;rw [List.eq_nil_iff_forall_not_mem];intro j hj;have:=(mem_ready.1 hj).1;rcases Nat.lt_or_ge j l.length with h1|h1
  ·rw [fX _ h1] at this;simp at this;omega
  ·rw [AI h1] at this;cases this
 |succ m ih=>
  intro k hk hl a w h;have Xx:k<l.length:=by omega
  have fw:l[k]? =some l[k]:=List.getElem?_eq_getElem Xx
  refine ⟨λh0=> ?_,λj hj=> ?_⟩
  ·exfalso
   have:k∈Region.ready .any l.toArray (eM l k):=mem_ready.2 ⟨by rw [fX _ Xx];simp,l[k],by simp,λe he hb=>by
    have:=hB k _ fw e he hb;rw [fX _ (by omega)];simpa using this⟩
   rw [h0] at this;cases this
  ·obtain ⟨Gj,o,ho,j8⟩:=mem_ready.1 hj;have j5 :l[j]? =some o:=by simpa using ho
   have N3:=(List.getElem?_eq_some_iff.1 j5).1;rw [fX _ N3] at Gj;simp at Gj;have Si:j=k:=by
    rcases Nat.lt_or_ge k j with h1|h1
    ·have:=iI (λi=>(eM l k).getD i false=true) l (gy k) j o j5 (λe he hb=>j8 e he hb) k (uL hT (by omega) N3 h1);rw [fX _ Xx] at this;simp at this
    ·omega
   subst Si;rw [List.drop_eq_getElem_cons Xx] at h;have hK:=ih (j+1) (by omega) (by omega);rw [AH Xx];unfold wpOp;rw [fw] at j5;cases j5;simp only [ho];simp only [wpList] at h;split
   ·rename_i hw;simp only [hw,if_true] at h;rcases h with h|⟨_,h⟩
    ·exact .inl (Oper.wp_mono (λa' w' h=>hK a' w' h) h)
    ·exact (oQ h).elim
   ·rename_i hw;simp only [hw] at h;exact hK _ _ h
theorem fH (S:World->Prop) (n1:Nat) {id:Nat} {l:List Oper} {Q:Exit->Act->World->Prop} {a:Act} {w:World}
 (hm:P.follows .mixedOrders=true) (hB:mB bA l=true) (hT:sP l n1=true) (Ct:n1<=l.length) (hS:S w.drew)
 (h:bG P l.toArray S bA (λa w=>wpList P l.toArray (cj (Q .normal)) (l.drop n1) a w) (l.take n1) a w.drew):(Code.region id l.toArray true).wp P Q a w:=by
 refine Code.wp_mono cj.to (wp_region_any hm ?_);have jx:∀j o,l[j]? =some o->∀e∈o.after,Region.binds .any e=true->e.on<j:=by
  intro j o ho e he hb;have af:=(List.getElem?_eq_some_iff.1 ho).1;have h:nM bA l.toArray l (qm l) j=true:=by
   simp only [mB,Bool.and_eq_true,List.all_eq_true,List.mem_range] at hB;exact hB.2 j af
  exact Tzey
 have No:bK l (List.range n1)=l.take n1:=by
  exact Tzfe
 have:=wU (K0:=Q .normal) bA S (λo=>mX) l n1 Ct hB hT (λa w h=>zK l n1 jx hT (l.length-n1) n1 (Nat.le_refl _) (by omega) a w h) n1 (List.range n1) (Array.replicate l.length false) a w.drew hS (by simp) (by simp) (λj=>by
  by_cases hj:j<l.length
  ·simp [hj];omega
  ·simp [hj];omega) List.pairwise_lt_range (by simp) (λk o hk hL=>by
  have af:=(List.getElem?_eq_some_iff.1 hk).1;simp [af] at hL) (by rw [No];exact h)
 rw [show n1+(l.length-n1)=l.length by omega] at this;simpa using this
end
end Go.Proofs.YtiblijmngokcgaaGreatDoor
namespace Go.Proofs.YtiblijmngokcgaaGreatDoor
open Go.RowKit
section
variable {P : Program} {fn : Func} {tmps : Array Value} {w : World} {a u v : Tmp} {t : TypeId} {A : Addr} {x : Value}
theorem GK (h:fn.results= #[.cell a t]) (ha:tmps.getD a undef= .pointer (some A)) (hl:(loadVar t A).run P w= .ok x w):(results fn tmps).run P w= .ok x w:=by
 exact Tzdd
theorem jX (h:fn.results= #[.cell a t,.tmp u]) (ha:tmps.getD a undef= .pointer (some A)) (hl:(loadVar t A).run P w= .ok x w):(results fn tmps).run P w= .ok (.tuple #[x,tmps.getD u undef]) w:=by
 exact Tzdd
theorem BZ (h:fn.results= #[.cell a t,.tmp u,.tmp v]) (ha:tmps.getD a undef= .pointer (some A)) (hl:(loadVar t A).run P w= .ok x w):(results fn tmps).run P w= .ok (.tuple #[x,tmps.getD u undef,tmps.getD v undef]) w:=by
 exact Tzdd
end
theorem cT {P:Program} {w:World} {g:Nat} {cs:Array Value} {t e:TypeId} {d:TypeDesc} (h:w.heap[g]? =some (.cells cs e (0,0))) (hu:P.underlying t=some d) (hd:d.isRow=true) (hi:(P.info? t).map (·.size)=some cs.size):
 (loadVar t ⟨g,0,none⟩).run P w= .ok (.agg cs) w:=by
 have:=run_loadVar_mid (P:=P) w g 0 t cs.toList d (λj v hv=>by rw [cell_of_row _ _ _ _ _ _ h,Nat.zero_add];simpa using hv) hu hd (by simpa using hi);simpa using this
theorem nN {w wr:World} {g j:Nat} {v:Value} (h:w.grownBy wr (some g)):w.grownBy (wr.setCell ⟨g,j,none⟩ v) (some g):=aL h
theorem aC (w:World) (g:Nat) (cs:Array Value):w.grownBy (w.setRow g cs) (some g):=⟨rfl,rfl,rfl,by simp,λj hj fb=>setRow_other _ _ _ _ (by simpa using fb)⟩
end Go.Proofs.YtiblijmngokcgaaGreatDoor
namespace Go.Proofs.YtiblijmngokcgaaGreatDoor
open Go.RowKit
theorem aA {p:Prop} (h:p):RowKit.Hid p:=Lib.hid h
theorem eX {α:Type} (a:α):∃x,x=a:=⟨a,rfl⟩
theorem bT {B b:Nat} {w w' :World} {o:Obj} (h:Below B w w') (R:RowKit.Hid (w.heap[b]? =some o)) (hb:b<B:=by omega):RowKit.Hid (w'.heap[b]? =some o):=Lib.hid ((h.block b hb).trans R.out)
theorem gT {b:Nat} {r:Option Nat} {w w' :World} {o:Obj} (h:w.grownBy w' r) (R:RowKit.Hid (w.heap[b]? =some o)) (hb:b<w.heap.size:=by omega) (hn:some b≠r:=by simp;omega):RowKit.Hid (w'.heap[b]? =some o):=Lib.hid ((h.block b hb hn).trans R.out)
section
variable {w : World} {g : Nat} {e : TypeId} {l : List Value} {a b c d f i v : Value}
theorem bn (h:w.heap[g]? =some (.cells (List.toArray (v::l)) e (0,0))):w.cell? ⟨g,0,none⟩=some v:=by rw [cell_of_row _ _ _ _ _ _ h];rfl
theorem fi (h:w.heap[g]? =some (.cells (List.toArray (a::v::l)) e (0,0))):w.cell? ⟨g,1,none⟩=some v:=by rw [cell_of_row _ _ _ _ _ _ h];rfl
theorem gn (h:w.heap[g]? =some (.cells (List.toArray (a::b::v::l)) e (0,0))):w.cell? ⟨g,2,none⟩=some v:=by rw [cell_of_row _ _ _ _ _ _ h];rfl
theorem lj (h:w.heap[g]? =some (.cells (List.toArray (a::b::c::v::l)) e (0,0))):w.cell? ⟨g,3,none⟩=some v:=by rw [cell_of_row _ _ _ _ _ _ h];rfl
theorem Tw (h:w.heap[g]? =some (.cells (List.toArray (a::b::c::d::v::l)) e (0,0))):w.cell? ⟨g,4,none⟩=some v:=by rw [cell_of_row _ _ _ _ _ _ h];rfl
theorem Ba (h:w.heap[g]? =some (.cells (List.toArray (a::b::c::d::f::v::l)) e (0,0))):w.cell? ⟨g,5,none⟩=some v:=by rw [cell_of_row _ _ _ _ _ _ h];rfl
theorem Zk (h:w.heap[g]? =some (.cells (List.toArray (a::b::c::d::f::i::v::l)) e (0,0))):w.cell? ⟨g,6,none⟩=some v:=by rw [cell_of_row _ _ _ _ _ _ h];rfl
end
theorem lB {P:Program} {w:World} {g:Nat} {cs:Array Value} {t e:TypeId} (h:w.heap[g]? =some (.cells cs e (0,0))) (hu:(P.underlying t).any (·.isRow)=true:=by kernel_rfl) (hi:(P.info? t).map (·.size)=some cs.size:=by kernel_rfl):(loadVar t ⟨g,0,none⟩).run P w= .ok (.agg cs) w:=by
 cases hd:P.underlying t with
 |none=>rw [hd] at hu;cases hu
 |some d=>exact cT h hd (by rw [hd] at hu;exact hu) hi
theorem bE (w:World) (cs:Array Value) (T:TypeId):∃W,W=w.alloc (.cells cs T)/\Below w.heap.size w W/\RowKit.Hid (W.heap.size=w.heap.size+1)/\∃b,b=w.heap.size/\RowKit.Hid (W.heap[b]? =some (.cells cs T (0,0)))/\RowKit.Hid (b=w.heap.size)/\b<W.heap.size/\w.heap.size<=b:=
 ⟨_,rfl,(Below.refl _ _).alloc (Nat.le_refl _) _,Lib.hid (by simp),_,rfl,Lib.hid (heap_alloc_new _ _),Lib.hid rfl,by simp,Nat.le_refl _⟩
section
variable {P : Program} {ops : Array Oper} {Q : Exit -> Act -> World -> Prop} {o : Oper} {a : Act} {w : World} {rest : List Oper} {t t0 T : TypeId} {x y : Operand} {g : Nat} {cs Fj cells : Array Value}
theorem sR (R:RowKit.Hid (w.heap[g]? =some (.cells Fj T (0,0)))) (h:wpList P ops Q rest (a.put o.dst undef) (w.setRow g cells)) (uw:o.guard=none:=by exact rfl) (ho:o.op= .store t x y:=by exact rfl) (hx:a.eval x= .pointer (some ⟨g,0,none⟩):=by exact rfl) (hy:a.eval y= .agg cells:=by exact rfl) (hi:(P.info? t).map (·.size)=some cells.size:=by kernel_rfl) (hs:Fj.size=cells.size:=by exact rfl) (h1:cells.all (·.oneCell')=true:=by simp [Value.oneCell']):wpList P ops Q (o::rest) a w:=
 dW uw t x y ho g T Fj cells hx hy R.out hi hs h1 h
theorem sN (h:wpList P ops Q rest (a.put o.dst undef) (w.alloc (.cells cells T))) (uw:o.guard=none:=by exact rfl) (ho:o.op= .store t x y:=by exact rfl) (hx:a.eval x= .pointer (some ⟨w.heap.size,0,none⟩):=by exact rfl) (hy:a.eval y= .agg cells:=by exact rfl) (hi:(P.info? t).map (·.size)=some cells.size:=by kernel_rfl) (hs:Fj.size=cells.size:=by exact rfl) (h1:cells.all (·.oneCell')=true:=by simp [Value.oneCell']):wpList P ops Q (o::rest) a (w.alloc (.cells Fj T)):=
 nX uw t x y ho T Fj cells hx hy hi hs h1 h
theorem aK {A:Addr} {v:Value} (hw:Region.wanted o (yielded ops a.tmps)=true) (ho:o.op= .load t x) (hx:a.eval x= .pointer (some A))
 (hl:(loadVar t A).run P w= .ok v w) (h:wpList P ops Q rest (a.put o.dst v) w):wpList P ops Q (o::rest) a w:=by
 simp only [wpList,hw,if_true];refine .inl ?_;unfold Oper.wp execOp;simp only [ho,hx,Instr.loadAt,Instr.sureAddr,Sem.run_bind,Sem.run_pure,Result.andThen_ok,hl,Oper.upon];exact h
theorem lD (R:RowKit.Hid (w.heap[g]? =some (.cells cs T (0,0)))) (h:wpList P ops Q rest (a.put o.dst (.agg cs)) w) (hw:Region.wanted o (yielded ops a.tmps)=true:=by exact rfl) (ho:o.op= .load t x:=by exact rfl) (hx:a.eval x= .pointer (some ⟨g,0,none⟩):=by exact rfl) (hu:(P.underlying t).any (·.isRow)=true:=by kernel_rfl) (hi:(P.info? t).map (·.size)=some cs.size:=by kernel_rfl):wpList P ops Q (o::rest) a w:=
 aK hw ho hx (lB R.out hu hi) h
theorem lL {S:World->Prop} {K0:Act->World->Prop} {A:Addr} {v:Value} (hv:∀w',S w'->(loadVar t A).run P w' = .ok v w') (h:bG P ops S bA K0 rest (a.put o.dst v) w) (ho:o.op= .load t x:=by exact rfl) (hw:Region.wanted o (yielded ops a.tmps)=true:=by exact rfl) (hx:a.eval x= .pointer (some A):=by exact rfl):bG P ops S bA K0 (o::rest) a w:=bZ A v ho hw hx hv h
end
section
variable {P : Program} {fn : Func} {E : Ending -> World -> Prop} {a : Act} {w : World} {g i u v x : Nat} {t T : TypeId} {cs Fj : Array Value}
theorem rC (R:RowKit.Hid (w.heap[g]? =some (.cells Fj T (0,0)))) (hR:E (.returned (.agg cs)) (w.setRow g cs)) (h:fn.results= #[.cell i t]:=by exact rfl) (ha:a.tmps.getD i undef= .pointer (some ⟨g,0,none⟩):=by exact rfl) (hu:(P.underlying t).any (·.isRow)=true:=by kernel_rfl) (hi:(P.info? t).map (·.size)=some cs.size:=by kernel_rfl) (hd:a.defers=[]:=by exact rfl):bodyPost P fn E .ret a (w.setRow g cs):=bodyPost_ret (GK h ha (lB (setRow_heap _ _ _ _ _ _ R.out) hu hi)) hd hR
theorem rT (R:RowKit.Hid (w.heap[g]? =some (.cells Fj T (0,0)))) (hR:E (.returned (.tuple #[.agg cs,a.tmps.getD u undef])) (w.setRow g cs)) (h:fn.results= #[.cell i t,.tmp u]:=by exact rfl) (ha:a.tmps.getD i undef= .pointer (some ⟨g,0,none⟩):=by exact rfl) (hu:(P.underlying t).any (·.isRow)=true:=by kernel_rfl) (hi:(P.info? t).map (·.size)=some cs.size:=by kernel_rfl) (hd:a.defers=[]:=by exact rfl):bodyPost P fn E .ret a (w.setRow g cs):=bodyPost_ret (jX h ha (lB (setRow_heap _ _ _ _ _ _ R.out) hu hi)) hd hR
theorem rU (R:RowKit.Hid (w.heap[g]? =some (.cells Fj T (0,0)))) (hR:E (.returned (.tuple #[.agg cs,a.tmps.getD u undef,a.tmps.getD v undef])) (w.setRow g cs)) (h:fn.results= #[.cell i t,.tmp u,.tmp v]:=by exact rfl) (ha:a.tmps.getD i undef= .pointer (some ⟨g,0,none⟩):=by exact rfl) (hu:(P.underlying t).any (·.isRow)=true:=by kernel_rfl) (hi:(P.info? t).map (·.size)=some cs.size:=by kernel_rfl) (hd:a.defers=[]:=by exact rfl):bodyPost P fn E .ret a (w.setRow g cs):=bodyPost_ret (BZ h ha (lB (setRow_heap _ _ _ _ _ _ R.out) hu hi)) hd hR
end
end Go.Proofs.YtiblijmngokcgaaGreatDoor
