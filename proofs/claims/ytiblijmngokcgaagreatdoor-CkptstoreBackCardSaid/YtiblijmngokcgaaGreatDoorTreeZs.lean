import Derived.Test.YtiblijmngokcgaaGreatDoorProg
import Derived.Test.YtiblijmngokcgaaGreatDoorKitZs
namespace Go.Proofs.YtiblijmngokcgaaGreatDoor
open Go.RowKit
set_option linter.unusedVariables false
set_option linter.unusedSimpArgs false
structure Fram {V T:Type} (P:(Nat→Prop)→World→V→T→Prop):Prop where
 keep:∀(S:Nat→Prop) (w w' :World) (x:V) (t:T),Keep S w w'→P S w x t→P S w' x t
 mono:∀(S S' :Nat→Prop) (w:World) (x:V) (t:T),(∀b,b<w.heap.size→S b→S' b)→P S w x t→P S' w x t
def LsOk {V T:Type} (enc:V→List Value) (P:V→T→Prop) (S:Nat→Prop) (w:World) (v:Value) (ts:List T):Prop:=∃xs,Recs enc S w v xs∧xs.length=ts.length∧∀(i:Nat) (x:V) (t:T),xs[i]? =some x→ts[i]? =some t→P x t
section
variable {V T : Type} {enc : V → List Value} {P P' : V → T → Prop} {S S' : Nat → Prop} {w w' : World} {v : Value} {ts : List T}
theorem LsOk.keep (h:LsOk enc P S w v ts) (hk:Keep S w w') (hP:∀x t,P x t→P' x t):LsOk enc P' S w' v ts:=by
 obtain ⟨xs,h1,h2,h3⟩:=h
 exact ⟨xs,h1.keep hk,h2,fun i x t hx ht=>hP _ _ (h3 i x t hx ht)⟩
theorem LsOk.mono (h:LsOk enc P S w v ts) (hs:∀b,b<w.heap.size→S b→S' b) (hP:∀x t,P x t→P' x t):LsOk enc P' S' w v ts:=by
 obtain ⟨xs,h1,h2,h3⟩:=h
 exact ⟨xs,h1.mono hs,h2,fun i x t hx ht=>hP _ _ (h3 i x t hx ht)⟩
theorem LsOk.nil_ (enc:V→List Value) (P:V→T→Prop) (S:Nat→Prop) (w:World):LsOk enc P S w (.slice none 0 0) []:=⟨[],Recs.nil_ _ _,rfl,fun i x t hx=>by simp at hx⟩
theorem LsOk.len {A:Option Addr} {n c:Nat} (h:LsOk enc P S w (.slice A n c) ts):ts.length=n∧n≤c∧c≤9223372036854775807:=by
 obtain ⟨xs,h1,h2,_⟩:=h
 rw [←h2]
 exact h1.len
theorem LsOk.at_ {k:Nat} (hk:∀x,(enc x).length=k) {A:Option Addr} {n c j:Nat} (h:LsOk enc P S w (.slice A n c) ts) (hj:j<n) (hk0:0<k):
 ∃b off x t,A=some ⟨b,off,none⟩∧S b∧b<w.heap.size∧ts[j]? =some t∧P x t∧∀i u,(enc x)[i]? =some u→w.cell? ⟨b,off+j*k+i,none⟩=some u:=by
 have hl:=h.len
 obtain ⟨xs,h1,h2,h3⟩:=h
 obtain ⟨b,off,x,rfl,hs,hb,hx,hc⟩:=h1.at_ hk (j:=j) (by omega) hk0
 have ht:ts[j]? =some ts[j]:=List.getElem?_eq_getElem (by omega)
 exact ⟨b,off,x,_,rfl,hs,hb,ht,h3 j x _ hx ht,hc⟩
end
def OwLs {V T:Type} (enc:V→List Value) (k:Nat) (P:(Nat→Prop)→World→V→T→Prop) (w:World) (base:Nat) (e:TypeId) (v:Value) (ts:List T):Prop:=
 ∃xs,OwnR enc k w base e v xs∧xs.length=ts.length∧∀(i:Nat) (x:V) (t:T),xs[i]? =some x→ts[i]? =some t→P (fun b=>base≤b∧v.ownBlock≠some b) w x t
section
variable {V T : Type} {enc : V → List Value} {k : Nat} {P : (Nat → Prop) → World → V → T → Prop} {w w' : World} {base : Nat} {e : TypeId} {v v' : Value} {ts : List T}
theorem OwLs.nil_ (enc:V→List Value) (k:Nat) (P:(Nat→Prop)→World→V→T→Prop) (w:World) (base:Nat) (e:TypeId):OwLs enc k P w base e (.slice none 0 0) ([]:List T):=⟨[],OwnR.nil_ _ _ _,rfl,fun i x t hx=>by simp at hx⟩
theorem OwLs.len {A:Option Addr} {n c:Nat} (h:OwLs enc k P w base e (.slice A n c) ts):ts.length=n∧n≤c∧c≤9223372036854775807:=by
 obtain ⟨xs,h1,h2,_⟩:=h
 rw [←h2]
 exact h1.len
theorem OwLs.ls (hF:Fram P) (h:OwLs enc k P w base e v ts):LsOk enc (P (base≤·) w) (base≤·) w v ts:=by
 obtain ⟨xs,h1,h2,h3⟩:=h
 exact ⟨xs,h1.recs.mono (fun _ _ h=>h.1),h2,fun i x t hx ht=>hF.mono _ _ _ _ _ (fun _ _ h=>h.1) (h3 i x t hx ht)⟩
theorem OwLs.keepR (hF:Fram P) (h:OwLs enc k P w base e v ts) (hk:∀b,b<w.heap.size→base≤b→w'.heap[b]? =w.heap[b]?):OwLs enc k P w' base e v ts:=by
 obtain ⟨xs,h1,h2,h3⟩:=h
 refine ⟨xs,⟨h1.1,?_⟩,h2,fun i x t hx ht=>hF.keep _ _ _ _ _ (fun b hb hs=>hk b hb hs.1) (h3 i x t hx ht)⟩
 rcases h1.2 with hn|⟨g,cap,cur,hv,hb,hh,rest⟩
 ·exact .inl hn
 ·exact .inr ⟨g,cap,cur,hv,hb,(hk g (Array.getElem?_eq_some_iff.1 hh).1 hb).trans hh,rest⟩
theorem OwLs.ext (hF:Fram P) (h:OwLs enc k P w base e v ts) (hb:Below w.heap.size w w'):OwLs enc k P w' base e v ts:=h.keepR hF (fun b hb' _=>hb.block b hb')
theorem OwLs.push (hF:Fram P) {xs:List V} (hx:xs.length=ts.length∧∀(i:Nat) (x:V) (t:T),xs[i]? =some x→ts[i]? =some t→P (fun b=>base≤b∧v.ownBlock≠some b) w x t)
 (x:V) (t:T) (h1:P (fun b=>base≤b∧v.ownBlock≠some b) w x t) (hown:OwnR enc k w' base e v' (xs++ [x])) (hg:w.grownBy w' v.ownBlock) (hat:v'.ownBlock=v.ownBlock∨v'.ownBlock=some w.heap.size):OwLs enc k P w' base e v' (ts++ [t]):=by
 have up:∀x t,P (fun b=>base≤b∧v.ownBlock≠some b) w x t→P (fun b=>base≤b∧v'.ownBlock≠some b) w' x t:=fun x t h=>by
  refine hF.mono _ _ _ _ _ (fun b _ hs=>hs.1) (hF.keep (fun b=>(base≤b∧v'.ownBlock≠some b)∧v.ownBlock≠some b) w w' x t (fun b hb hs=>hg.block b hb (fun e=>hs.2 e.symm)) (hF.mono _ _ _ _ _ (fun b hb hs=>⟨⟨hs.1,?_⟩,hs.2⟩) h))
  rcases hat with e|e
  ·rw [e];exact hs.2
  ·rw [e];intro e2;cases e2;exact Nat.lt_irrefl _ hb
 refine ⟨_,hown,by simp [hx.1],fun i x' t' hx' ht' => ?_⟩
 rcases Nat.lt_or_ge i xs.length with hi|hi
 ·rw [List.getElem?_append_left hi] at hx'
  rw [List.getElem?_append_left (by omega)] at ht'
  exact up _ _ (hx.2 i x' t' hx' ht')
 ·rw [List.getElem?_append_right hi] at hx'
  rw [List.getElem?_append_right (by omega)] at ht'
  have hi' :i-xs.length=0:=by
   rcases Nat.eq_zero_or_pos (i-xs.length) with h|h
   ·exact h
   ·rw [List.getElem?_eq_none (by simp;omega)] at hx'
    cases hx'
  rw [hi'] at hx'
  rw [←hx.1,hi'] at ht'
  cases hx'
  cases ht'
  exact up _ _ h1
end
inductive Ex where
 |mk (op val:Int) (name:ByteArray) (slot size:Int) (args:List Ex)
structure ExV where
 op:Int
 val:Int
 name:ByteArray
 slot:Int
 size:Int
 A:Option Addr
 n:Nat
 c:Nat
def eB (x:ExV):List Value:=[.int .i64 x.op,.int .i64 x.val,.string x.name,.int .i64 x.slot,.int .i64 x.size,.slice x.A x.n x.c]
theorem dZ (x:ExV):(eB x).length=6:=rfl
theorem oL (x:ExV):∀u∈eB x,u.oneCell' =true:=by
 intro u hu
 simp [eB] at hu
 rcases hu with h|h|h|h|h|h<;>subst h<;>rfl
theorem vD:(Tryz.prog.info? 244).map (fun i=>(i.zero,i.size,i.bytes))=some (some (.agg #[.int .i64 0,.int .i64 0,.string (ByteArray.mk #[]),.int .i64 0,.int .i64 0,.slice none 0 0]),6,72):=by kernel_rfl
def ExOk:Nat→(Nat→Prop)→World→ExV→Ex→Prop
 |0,_,_,_,_=>False
 |n+1,S,w,x,.mk op val name slot size args=>x.op=op∧x.val=val∧x.name=name∧x.slot=slot∧x.size=size∧LsOk eB (ExOk n S w) S w (.slice x.A x.n x.c) args
theorem ExOk.keep {S:Nat→Prop} {w w' :World} (hk:Keep S w w'):∀(n:Nat) (x:ExV) (t:Ex),ExOk n S w x t→ExOk n S w' x t
 |0,_,_,h=>h
 |n+1,x,.mk ..,⟨h1,h2,h3,h4,h5,h6⟩=>⟨h1,h2,h3,h4,h5,h6.keep hk (ExOk.keep hk n)⟩
theorem ExOk.mono {S S' :Nat→Prop} {w:World} (hs:∀b,b<w.heap.size→S b→S' b):∀(n:Nat) (x:ExV) (t:Ex),ExOk n S w x t→ExOk n S' w x t
 |0,_,_,h=>h
 |n+1,x,.mk ..,⟨h1,h2,h3,h4,h5,h6⟩=>⟨h1,h2,h3,h4,h5,h6.mono hs (ExOk.mono hs n)⟩
theorem ExOk.up {S:Nat→Prop} {w:World}:∀(n:Nat) (x:ExV) (t:Ex),ExOk n S w x t→ExOk (n+1) S w x t
 |0,_,_,h=>h.elim
 |n+1,x,.mk ..,⟨h1,h2,h3,h4,h5,h6⟩=>⟨h1,h2,h3,h4,h5,h6.mono (fun _ _ h=>h) (ExOk.up n)⟩
theorem bU (n:Nat):Fram (fun S w=>ExOk n S w):=⟨fun S w w' x t hk h=>ExOk.keep hk n x t h,fun S S' w x t hs h=>ExOk.mono hs n x t h⟩
def zEx:Ex:= .mk 0 0 (ByteArray.mk #[]) 0 0 []
def fF:ExV:=⟨0,0,(ByteArray.mk #[]),0,0,none,0,0⟩
theorem kP (n:Nat) (S:Nat→Prop) (w:World):ExOk (n+1) S w fF zEx:=⟨rfl,rfl,rfl,rfl,rfl,LsOk.nil_ _ _ _ _⟩
inductive Sm where
 |mk (kind:Int) (name:ByteArray) (slot size:Int) (place value:Ex) (body els:List Sm)
structure SmV where
 kind:Int
 name:ByteArray
 slot:Int
 size:Int
 p:ExV
 v:ExV
 A:Option Addr
 n:Nat
 c:Nat
 B:Option Addr
 m:Nat
 d:Nat
def bM (x:SmV):List Value:=[.int .i64 x.kind,.string x.name,.int .i64 x.slot,.int .i64 x.size,.int .i64 x.p.op,.int .i64 x.p.val,.string x.p.name,.int .i64 x.p.slot,.int .i64 x.p.size,.slice x.p.A x.p.n x.p.c,.int .i64 x.v.op,.int .i64 x.v.val,.string x.v.name,.int .i64 x.v.slot,.int .i64 x.v.size,.slice x.v.A x.v.n x.v.c,.slice x.A x.n x.c,.slice x.B x.m x.d]
theorem cS (x:SmV):(bM x).length=18:=rfl
theorem dY (x:SmV):∀u∈bM x,u.oneCell' =true:=by
 intro u hu
 simp [bM] at hu
 rcases hu with h|h|h|h|h|h|h|h|h|h|h|h|h|h|h|h|h|h<;>subst h<;>rfl
theorem fJ:(Tryz.prog.info? 246).map (fun i=>(i.zero,i.size,i.bytes))=some (some (.agg #[.int .i64 0,.string (ByteArray.mk #[]),.int .i64 0,.int .i64 0,.int .i64 0,.int .i64 0,.string (ByteArray.mk #[]),.int .i64 0,.int .i64 0,.slice none 0 0,.int .i64 0,.int .i64 0,.string (ByteArray.mk #[]),.int .i64 0,.int .i64 0,.slice none 0 0,.slice none 0 0,.slice none 0 0]),18,232):=by kernel_rfl
def SmOk:Nat→(Nat→Prop)→World→SmV→Sm→Prop
 |0,_,_,_,_=>False
 |n+1,S,w,x,.mk kind name slot size place value body els=>x.kind=kind∧x.name=name∧x.slot=slot∧x.size=size∧ExOk 3 S w x.p place∧ExOk 3 S w x.v value∧LsOk bM (SmOk n S w) S w (.slice x.A x.n x.c) body∧LsOk bM (SmOk n S w) S w (.slice x.B x.m x.d) els
theorem SmOk.keep {S:Nat→Prop} {w w' :World} (hk:Keep S w w'):∀(n:Nat) (x:SmV) (t:Sm),SmOk n S w x t→SmOk n S w' x t
 |0,_,_,h=>h
 |n+1,x,.mk ..,⟨h1,h2,h3,h4,h5,h6,h7,h8⟩=>⟨h1,h2,h3,h4,ExOk.keep hk _ _ _ h5,ExOk.keep hk _ _ _ h6,h7.keep hk (SmOk.keep hk n),h8.keep hk (SmOk.keep hk n)⟩
theorem SmOk.mono {S S' :Nat→Prop} {w:World} (hs:∀b,b<w.heap.size→S b→S' b):∀(n:Nat) (x:SmV) (t:Sm),SmOk n S w x t→SmOk n S' w x t
 |0,_,_,h=>h
 |n+1,x,.mk ..,⟨h1,h2,h3,h4,h5,h6,h7,h8⟩=>⟨h1,h2,h3,h4,ExOk.mono hs _ _ _ h5,ExOk.mono hs _ _ _ h6,h7.mono hs (SmOk.mono hs n),h8.mono hs (SmOk.mono hs n)⟩
theorem SmOk.up {S:Nat→Prop} {w:World}:∀(n:Nat) (x:SmV) (t:Sm),SmOk n S w x t→SmOk (n+1) S w x t
 |0,_,_,h=>h.elim
 |n+1,x,.mk ..,⟨h1,h2,h3,h4,h5,h6,h7,h8⟩=>⟨h1,h2,h3,h4,h5,h6,h7.mono (fun _ _ h=>h) (SmOk.up n),h8.mono (fun _ _ h=>h) (SmOk.up n)⟩
theorem bF (n:Nat):Fram (fun S w=>SmOk n S w):=⟨fun S w w' x t hk h=>SmOk.keep hk n x t h,fun S S' w x t hs h=>SmOk.mono hs n x t h⟩
end Go.Proofs.YtiblijmngokcgaaGreatDoor
namespace Go.Proofs.YtiblijmngokcgaaGreatDoor
open Go.RowKit
set_option linter.unusedVariables false
set_option linter.unusedSimpArgs false
def trM (b:Bool):Int:=if b then 1 else 0
def dA (op a b:Int):Int:=
 if op=8 then wrap64 (-a) else if op=9 then trM (a==0) else if op=10 then wrap64 (a+b) else if op=11 then wrap64 (a-b) else if op=12 then wrap64 (a*b)
 else if op=13 then (if b=0 then 0 else if b= -1 then wrap64 (-a) else wrap64 (a.tdiv b)) else if op=14 then (if b=0∨b= -1 then 0 else a.tmod b)
 else if op=15 then trM (decide (a<b)) else if op=16 then trM (decide (a≤b)) else if op=17 then trM (decide (b<a)) else if op=18 then trM (decide (b≤a))
 else if op=19 then trM (a==b) else if op=20 then trM (a != b) else if op=21 then trM (a != 0 && b != 0) else if op=22 then trM (a != 0 || b != 0) else 0
def fZ (cells:List Int) (n:Int):Int:=if 0≤n∧n<cells.length then cells.getD n.toNat 0 else 0
def dQ (slot size index:Int) (cells:List Int):Int:=if 0≤index∧index<size∧slot+index<cells.length then slot+index else -1
structure Env where
 self:Int
 procs:Int
 frm:Int
 value:Int
def evM:Nat→List Int→Env→Ex→Int
 |0,_,_,_=>0
 |n+1,cells,v,.mk op val name slot size args=>
  let arg:=fun i=>match args[i]? with|none=>(0:Int)|some e=>evM n cells v e
  if op=1 then val else if op=2 then fZ cells slot else if op=3 then fZ cells (dQ slot size (arg 0) cells) else if op=4 then v.self else if op=5 then v.procs
  else if op=6 then v.frm else if op=7 then v.value else if op<8∨22<op then 0 else dA op (arg 0) (arg 1)
structure Ef where
 kind:Int
 to:Int
 value:Int
def pI (x:Ef):List Value:=[.int .i64 x.kind,.int .i64 x.to,.int .i64 x.value]
structure Rst where
 cells:List Int
 l:List Ef
 used:Nat
def Rst.pay (r:Rst):Rst:={r with used:=r.used+1}
def Rst.eff (r:Rst) (e:Ef):Rst:=if r.l.length<8 then {r with l:=r.l++ [e]} else r
def ev3 (r:Rst) (v:Env) (e:Ex):Int:=evM 3 r.cells v e
def mB (v:Env) (r:Rst):Sm→Rst
 | .mk kind name slot size place value body els=>
  if kind=1 then (if 0≤slot∧slot<r.cells.length then {r with cells:=r.cells.set slot.toNat (ev3 r v value)} else r)
  else if kind=2 then (let n:=dQ slot size (ev3 r v place) r.cells;if 0≤n then {r with cells:=r.cells.set n.toNat (ev3 r v value)} else r)
  else if kind=5 then (let to:=ev3 r v place;if 0≤to∧to<v.procs∧to≠v.self then r.eff ⟨1,to,ev3 r v value⟩ else r)
  else if kind=6 then r.eff ⟨2,0,ev3 r v value⟩ else r
inductive RunL (v:Env):List Sm→Rst→Rst→Bool→Prop
 |nil (r:Rst):RunL v [] r r true
 |out {s:Sm} {l:List Sm} {r:Rst}:400≤r.used→RunL v (s::l) r r false
 |sim {kind:Int} {name:ByteArray} {slot size:Int} {p e:Ex} {body els l:List Sm} {r r' :Rst} {ok:Bool}:kind≠4→kind≠3→r.used<400→RunL v l (mB v r.pay (.mk kind name slot size p e body els)) r' ok→RunL v (.mk kind name slot size p e body els::l) r r' ok
 |cond {name:ByteArray} {slot size:Int} {p e:Ex} {body els l:List Sm} {r r1 r' :Rst} {ok:Bool}:r.used<400→RunL v (if ev3 r.pay v e≠0 then body else els) r.pay r1 true→RunL v l r1 r' ok→RunL v (.mk 3 name slot size p e body els::l) r r' ok
 |condF {name:ByteArray} {slot size:Int} {p e:Ex} {body els l:List Sm} {r r1:Rst}:r.used<400→RunL v (if ev3 r.pay v e≠0 then body else els) r.pay r1 false→RunL v (.mk 3 name slot size p e body els::l) r r1 false
 |stop {name:ByteArray} {slot size:Int} {p e:Ex} {body els l:List Sm} {r r' :Rst} {ok:Bool}:r.used<400→ev3 r.pay v e=0→RunL v l r.pay r' ok→RunL v (.mk 4 name slot size p e body els::l) r r' ok
 |go {name:ByteArray} {slot size:Int} {p e:Ex} {body els l:List Sm} {r r1 r' :Rst} {ok:Bool}:r.used<400→ev3 r.pay v e≠0→RunL v body r.pay r1 true→RunL v (.mk 4 name slot size p e body els::l) r1 r' ok→RunL v (.mk 4 name slot size p e body els::l) r r' ok
 |goF {name:ByteArray} {slot size:Int} {p e:Ex} {body els l:List Sm} {r r1:Rst}:r.used<400→ev3 r.pay v e≠0→RunL v body r.pay r1 false→RunL v (.mk 4 name slot size p e body els::l) r r1 false
theorem RunL.uniq {v:Env} {l:List Sm} {r r1 r2:Rst} {a b:Bool} (h1:RunL v l r r1 a):∀{r2 b},RunL v l r r2 b→r1=r2∧a=b:=by
 induction h1 with
 |nil r=>intro r2 b h;cases h;exact ⟨rfl,rfl⟩
 |out h=>intro r2 b h2;cases h2<;>first|exact ⟨rfl,rfl⟩|omega
 |sim k1 k2 hu _ ih=>
  intro r2 b h2
  cases h2<;>first|(exfalso;omega)|(exact absurd rfl k1)|(exact absurd rfl k2)|(rename_i h;exact ih h)
 |cond hu _ _ ih1 ih2=>
  intro r2 b h2
  cases h2 with
  |out h=>omega
  |sim k1 k2 _ _=>exact absurd rfl k2
  |cond _ g1 g2=>obtain ⟨rfl,_⟩:=ih1 g1;exact ih2 g2
  |condF _ g1=>obtain ⟨_,h⟩:=ih1 g1;cases h
 |condF hu _ ih1=>
  intro r2 b h2
  cases h2 with
  |out h=>omega
  |sim k1 k2 _ _=>exact absurd rfl k2
  |cond _ g1 g2=>obtain ⟨_,h⟩:=ih1 g1;cases h
  |condF _ g1=>exact ih1 g1
 |stop hu he _ ih=>
  intro r2 b h2
  cases h2 with
  |out h=>omega
  |sim k1 k2 _ _=>exact absurd rfl k1
  |stop _ _ g=>exact ih g
  |go _ h _ _=>exact absurd he h
  |goF _ h _=>exact absurd he h
 |go hu he _ _ ih1 ih2=>
  intro r2 b h2
  cases h2 with
  |out h=>omega
  |sim k1 k2 _ _=>exact absurd rfl k1
  |stop _ h _=>exact absurd h he
  |go _ _ g1 g2=>obtain ⟨rfl,_⟩:=ih1 g1;exact ih2 g2
  |goF _ _ g1=>obtain ⟨_,h⟩:=ih1 g1;cases h
 |goF hu he _ ih1=>
  intro r2 b h2
  cases h2 with
  |out h=>omega
  |sim k1 k2 _ _=>exact absurd rfl k1
  |stop _ h _=>exact absurd h he
  |go _ _ g1 g2=>obtain ⟨_,h⟩:=ih1 g1;cases h
  |goF _ _ g1=>exact ih1 g1
structure Rstk (r r' :Rst):Prop where
 len:r'.cells.length=r.cells.length
 eff:r.l.length≤8→r'.l.length≤8
 used:r.used≤r'.used
theorem Rstk.refl (r:Rst):Rstk r r:=⟨rfl,id,Nat.le_refl _⟩
theorem Rstk.trans {a b c:Rst} (h:Rstk a b) (k:Rstk b c):Rstk a c:=⟨k.len.trans h.len,fun q=>k.eff (h.eff q),Nat.le_trans h.used k.used⟩
theorem Rstk.pay (r:Rst):Rstk r r.pay:=⟨rfl,id,by show r.used≤r.used+1;omega⟩
theorem Rstk.eff_ (r:Rst) (e:Ef):Rstk r (r.eff e):=by
 unfold Rst.eff
 split
 ·rename_i h
  exact ⟨rfl,fun _=>by simp;omega,Nat.le_refl _⟩
 ·exact Rstk.refl r
theorem Rstk.sim (v:Env) (r:Rst) (s:Sm):Rstk r (mB v r s):=by
 obtain ⟨kind,name,slot,size,p,e,body,els⟩:=s
 unfold mB
 dsimp only
 split
 ·split
  ·exact ⟨by simp,id,Nat.le_refl _⟩
  ·exact Rstk.refl r
 ·split
  ·split
   ·exact ⟨by simp,id,Nat.le_refl _⟩
   ·exact Rstk.refl r
  ·split
   ·split
    ·exact Rstk.eff_ _ _
    ·exact Rstk.refl r
   ·split
    ·exact Rstk.eff_ _ _
    ·exact Rstk.refl r
theorem RunL.keeps {v:Env} {l:List Sm} {r r' :Rst} {ok:Bool} (h:RunL v l r r' ok):Rstk r r' :=by
 induction h with
 |nil r=>exact Rstk.refl r
 |out h=>exact Rstk.refl _
 |sim k1 k2 hu _ ih=>exact (Rstk.pay _).trans ((Rstk.sim _ _ _).trans ih)
 |cond hu _ _ ih1 ih2=>exact (Rstk.pay _).trans (ih1.trans ih2)
 |condF hu _ ih1=>exact (Rstk.pay _).trans ih1
 |stop hu he _ ih=>exact (Rstk.pay _).trans ih
 |go hu he _ _ ih1 ih2=>exact (Rstk.pay _).trans (ih1.trans ih2)
 |goF hu he _ ih1=>exact (Rstk.pay _).trans ih1
end Go.Proofs.YtiblijmngokcgaaGreatDoor
