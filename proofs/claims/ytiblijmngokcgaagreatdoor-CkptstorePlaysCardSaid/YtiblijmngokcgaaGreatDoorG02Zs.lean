import Derived.Test.YtiblijmngokcgaaGreatDoorProg
import Derived.Test.YtiblijmngokcgaaGreatDoorKitZs
set_option linter.unusedVariables false
set_option linter.unusedSimpArgs false
set_option maxHeartbeats 4000000
set_option maxRecDepth 100000
namespace Go.Proofs.YtiblijmngokcgaaGreatDoor
open Go.Proofs.Tryz
open Go.RowKit
structure C9 {V T:Type} (P:(Nat->Prop)->World->V->T->Prop):Prop where
 keep:∀(S:Nat->Prop) (w w' :World) (x:V) (t:T),ae S w w'->P S w x t->P S w' x t
 mono:∀(S S' :Nat->Prop) (w:World) (x:V) (t:T),(∀b,b<w.heap.size->S b->S' b)->P S w x t->P S' w x t
def cw {V T:Type} (enc:V->List Value) (P:V->T->Prop) (S:Nat->Prop) (w:World) (v:Value) (ts:List T):Prop:=∃xs,a7 enc S w v xs/\xs.length=ts.length/\∀(i:Nat) (x:V) (t:T),xs[i]? =some x->ts[i]? =some t->P x t
section
variable {V T : Type} {enc : V -> List Value} {P P' : V -> T -> Prop} {S S' : Nat -> Prop} {w w' : World} {v : Value} {ts : List T}
theorem cw.keep (h:cw enc P S w v ts) (hk:ae S w w') (hP:∀x t,P x t->P' x t):cw enc P' S w' v ts:=by
 obtain ⟨xs,h1,h2,h3⟩:=h;exact ⟨xs,h1.keep hk,h2,λi x t hx ht=>hP _ _ (h3 i x t hx ht)⟩
theorem cw.mono (h:cw enc P S w v ts) (hs:∀b,b<w.heap.size->S b->S' b) (hP:∀x t,P x t->P' x t):cw enc P' S' w v ts:=by
 obtain ⟨xs,h1,h2,h3⟩:=h;exact ⟨xs,h1.mono hs,h2,λi x t hx ht=>hP _ _ (h3 i x t hx ht)⟩
theorem cw.nil_ (enc:V->List Value) (P:V->T->Prop) (S:Nat->Prop) (w:World):cw enc P S w (.slice none 0 0) []:=⟨[],a7.nil_ _ _,rfl,λi x t hx=>by simp at hx⟩
theorem cw.len {A:Option Addr} {n c:Nat} (h:cw enc P S w (.slice A n c) ts):ts.length=n/\n<=c/\c<=9223372036854775807:=by
 obtain ⟨xs,h1,h2,_⟩:=h;rw [<-h2];exact h1.len
theorem cw.at_ {k:Nat} (hk:∀x,(enc x).length=k) {A:Option Addr} {n c j:Nat} (h:cw enc P S w (.slice A n c) ts) (hj:j<n) (yi:0<k):
 ∃b off x t,A=some ⟨b,off,none⟩/\S b/\b<w.heap.size/\ts[j]? =some t/\P x t/\∀i u,(enc x)[i]? =some u->w.cell? ⟨b,off+j*k+i,none⟩=some u:=by
 have hl:=h.len;obtain ⟨xs,h1,h2,h3⟩:=h;obtain ⟨b,off,x,rfl,hs,hb,hx,hc⟩:=h1.at_ hk (j:=j) (by omega) yi;have ht:ts[j]? =some ts[j]:=List.getElem?_eq_getElem (by omega)
 exact ⟨b,off,x,_,rfl,hs,hb,ht,h3 j x _ hx ht,hc⟩
end
def cy {V T:Type} (enc:V->List Value) (k:Nat) (P:(Nat->Prop)->World->V->T->Prop) (w:World) (base:Nat) (e:TypeId) (v:Value) (ts:List T):Prop:=
 ∃xs,a8 enc k w base e v xs/\xs.length=ts.length/\∀(i:Nat) (x:V) (t:T),xs[i]? =some x->ts[i]? =some t->P (λb=>base<=b/\v.ownBlock≠some b) w x t
section
variable {V T : Type} {enc : V -> List Value} {k : Nat} {P : (Nat -> Prop) -> World -> V -> T -> Prop} {w w' : World} {base : Nat} {e : TypeId} {v v' : Value} {ts : List T}
theorem cy.nil_ (enc:V->List Value) (k:Nat) (P:(Nat->Prop)->World->V->T->Prop) (w:World) (base:Nat) (e:TypeId):cy enc k P w base e (.slice none 0 0) ([]:List T):=⟨[],a8.nil_ _ _ _,rfl,λi x t hx=>by simp at hx⟩
theorem cy.len {A:Option Addr} {n c:Nat} (h:cy enc k P w base e (.slice A n c) ts):ts.length=n/\n<=c/\c<=9223372036854775807:=by
 obtain ⟨xs,h1,h2,_⟩:=h;rw [<-h2];exact h1.len
theorem cy.ls (hF:C9 P) (h:cy enc k P w base e v ts):cw enc (P (base<=·) w) (base<=·) w v ts:=by
 obtain ⟨xs,h1,h2,h3⟩:=h;exact ⟨xs,h1.recs.mono (λ_ _ h=>h.1),h2,λi x t hx ht=>hF.mono _ _ _ _ _ (λ_ _ h=>h.1) (h3 i x t hx ht)⟩
theorem cy.keepR (hF:C9 P) (h:cy enc k P w base e v ts) (hk:∀b,b<w.heap.size->base<=b->w'.heap[b]? =w.heap[b]?):cy enc k P w' base e v ts:=by
 obtain ⟨xs,h1,h2,h3⟩:=h;refine ⟨xs,⟨h1.1,?_⟩,h2,λi x t hx ht=>hF.keep _ _ _ _ _ (λb hb hs=>hk b hb hs.1) (h3 i x t hx ht)⟩;rcases h1.2 with hn|⟨g,cap,cur,hv,hb,hh,rest⟩
 ·exact .inl hn
 ·exact .inr ⟨g,cap,cur,hv,hb,(hk g (Array.getElem?_eq_some_iff.1 hh).1 hb).trans hh,rest⟩
theorem cy.ext (hF:C9 P) (h:cy enc k P w base e v ts) (hb:Below w.heap.size w w'):cy enc k P w' base e v ts:=h.keepR hF (λb gv _=>hb.block b gv)
theorem cy.push (hF:C9 P) {xs:List V} (hx:xs.length=ts.length/\∀(i:Nat) (x:V) (t:T),xs[i]? =some x->ts[i]? =some t->P (λb=>base<=b/\v.ownBlock≠some b) w x t)
 (x:V) (t:T) (h1:P (λb=>base<=b/\v.ownBlock≠some b) w x t) (aj:a8 enc k w' base e v' (xs++ [x])) (hg:w.grownBy w' v.ownBlock) (jx:v'.ownBlock=v.ownBlock∨v'.ownBlock=some w.heap.size):cy enc k P w' base e v' (ts++ [t]):=by
 have up:∀x t,P (λb=>base<=b/\v.ownBlock≠some b) w x t->P (λb=>base<=b/\v'.ownBlock≠some b) w' x t:=λx t h=>by
  refine hF.mono _ _ _ _ _ (λb _ hs=>hs.1) (hF.keep (λb=>(base<=b/\v'.ownBlock≠some b)/\v.ownBlock≠some b) w w' x t (λb hb hs=>hg.block b hb (λe=>hs.2 e.symm)) (hF.mono _ _ _ _ _ (λb hb hs=>⟨⟨hs.1,?_⟩,hs.2⟩) h));rcases jx with e|e
  ·rw [e];exact hs.2
  ·rw [e];intro e2;cases e2;exact Nat.lt_irrefl _ hb
 refine ⟨_,aj,by simp [hx.1],λi x' t' o6 Ec => ?_⟩;rcases Nat.lt_or_ge i xs.length with hi|hi
 ·rw [List.getElem?_append_left hi] at o6;rw [List.getElem?_append_left (by omega)] at Ec;exact up _ _ (hx.2 i x' t' o6 Ec)
 ·rw [List.getElem?_append_right hi] at o6;rw [List.getElem?_append_right (by omega)] at Ec;have Ej :i-xs.length=0:=by
   rcases Nat.eq_zero_or_pos (i-xs.length) with h|h
   ·exact h
   ·rw [List.getElem?_eq_none (by simp;omega)] at o6;cases o6
  rw [Ej] at o6;rw [<-hx.1,Ej] at Ec;cases o6;cases Ec;exact up _ _ h1
end
inductive Ex where
 |mk (op val:Int) (name:ByteArray) (slot size:Int) (args:List Ex)
structure zc where
 op:Int
 val:Int
 name:ByteArray
 slot:Int
 size:Int
 A:Option Addr
 n:Nat
 c:Nat
def fE (x:zc):List Value:=[.int .i64 x.op,.int .i64 x.val,.string x.name,.int .i64 x.slot,.int .i64 x.size,.slice x.A x.n x.c]
theorem eV (x:zc):(fE x).length=6:=rfl
theorem sF (x:zc):∀u∈fE x,u.oneCell' =true:=by
 intro u hu;simp [fE] at hu;rcases hu with h|h|h|h|h|h<;>subst h<;>rfl
theorem AL:(Tryz.prog.info? 244).map (λi=>(i.zero,i.size,i.bytes))=some (some (.agg #[.int .i64 0,.int .i64 0,.string (ByteArray.mk #[]),.int .i64 0,.int .i64 0,.slice none 0 0]),6,72):=by kernel_rfl
def ab:Nat->(Nat->Prop)->World->zc->Ex->Prop
 |0,_,_,_,_=>False
 |n+1,S,w,x,.mk op val name slot size args=>x.op=op/\x.val=val/\x.name=name/\x.slot=slot/\x.size=size/\cw fE (ab n S w) S w (.slice x.A x.n x.c) args
theorem ab.keep {S:Nat->Prop} {w w' :World} (hk:ae S w w'):∀(n:Nat) (x:zc) (t:Ex),ab n S w x t->ab n S w' x t
 |0,_,_,h=>h
 |n+1,x,.mk ..,⟨h1,h2,h3,h4,h5,h6⟩=>⟨h1,h2,h3,h4,h5,h6.keep hk (ab.keep hk n)⟩
theorem ab.mono {S S' :Nat->Prop} {w:World} (hs:∀b,b<w.heap.size->S b->S' b):∀(n:Nat) (x:zc) (t:Ex),ab n S w x t->ab n S' w x t
 |0,_,_,h=>h
 |n+1,x,.mk ..,⟨h1,h2,h3,h4,h5,h6⟩=>⟨h1,h2,h3,h4,h5,h6.mono hs (ab.mono hs n)⟩
theorem ab.up {S:Nat->Prop} {w:World}:∀(n:Nat) (x:zc) (t:Ex),ab n S w x t->ab (n+1) S w x t
 |0,_,_,h=>h.elim
 |n+1,x,.mk ..,⟨h1,h2,h3,h4,h5,h6⟩=>⟨h1,h2,h3,h4,h5,h6.mono (λ_ _ h=>h) (ab.up n)⟩
theorem bU (n:Nat):C9 (λS w=>ab n S w):=⟨λS w w' x t hk h=>ab.keep hk n x t h,λS S' w x t hs h=>ab.mono hs n x t h⟩
def E8:Ex:= .mk 0 0 (ByteArray.mk #[]) 0 0 []
def gM:zc:=⟨0,0,(ByteArray.mk #[]),0,0,none,0,0⟩
theorem nV (n:Nat) (S:Nat->Prop) (w:World):ab (n+1) S w gM E8:=⟨rfl,rfl,rfl,rfl,rfl,cw.nil_ _ _ _ _⟩
inductive Sm where
 |mk (kind:Int) (name:ByteArray) (slot size:Int) (place value:Ex) (body j0:List Sm)
structure Kw where
 kind:Int
 name:ByteArray
 slot:Int
 size:Int
 p:zc
 v:zc
 A:Option Addr
 n:Nat
 c:Nat
 B:Option Addr
 m:Nat
 d:Nat
def bJ (x:Kw):List Value:=[.int .i64 x.kind,.string x.name,.int .i64 x.slot,.int .i64 x.size,.int .i64 x.p.op,.int .i64 x.p.val,.string x.p.name,.int .i64 x.p.slot,.int .i64 x.p.size,.slice x.p.A x.p.n x.p.c,.int .i64 x.v.op,.int .i64 x.v.val,.string x.v.name,.int .i64 x.v.slot,.int .i64 x.v.size,.slice x.v.A x.v.n x.v.c,.slice x.A x.n x.c,.slice x.B x.m x.d]
theorem dE (x:Kw):(bJ x).length=18:=rfl
theorem eU (x:Kw):∀u∈bJ x,u.oneCell' =true:=by
 intro u hu;simp [bJ] at hu;rcases hu with h|h|h|h|h|h|h|h|h|h|h|h|h|h|h|h|h|h<;>subst h<;>rfl
theorem gX:(Tryz.prog.info? 246).map (λi=>(i.zero,i.size,i.bytes))=some (some (.agg #[.int .i64 0,.string (ByteArray.mk #[]),.int .i64 0,.int .i64 0,.int .i64 0,.int .i64 0,.string (ByteArray.mk #[]),.int .i64 0,.int .i64 0,.slice none 0 0,.int .i64 0,.int .i64 0,.string (ByteArray.mk #[]),.int .i64 0,.int .i64 0,.slice none 0 0,.slice none 0 0,.slice none 0 0]),18,232):=by kernel_rfl
def ak:Nat->(Nat->Prop)->World->Kw->Sm->Prop
 |0,_,_,_,_=>False
 |n+1,S,w,x,.mk kind name slot size place value body j0=>x.kind=kind/\x.name=name/\x.slot=slot/\x.size=size/\ab 3 S w x.p place/\ab 3 S w x.v value/\cw bJ (ak n S w) S w (.slice x.A x.n x.c) body/\cw bJ (ak n S w) S w (.slice x.B x.m x.d) j0
theorem ak.keep {S:Nat->Prop} {w w' :World} (hk:ae S w w'):∀(n:Nat) (x:Kw) (t:Sm),ak n S w x t->ak n S w' x t
 |0,_,_,h=>h
 |n+1,x,.mk ..,⟨h1,h2,h3,h4,h5,h6,h7,h8⟩=>⟨h1,h2,h3,h4,ab.keep hk _ _ _ h5,ab.keep hk _ _ _ h6,h7.keep hk (ak.keep hk n),h8.keep hk (ak.keep hk n)⟩
theorem ak.mono {S S' :Nat->Prop} {w:World} (hs:∀b,b<w.heap.size->S b->S' b):∀(n:Nat) (x:Kw) (t:Sm),ak n S w x t->ak n S' w x t
 |0,_,_,h=>h
 |n+1,x,.mk ..,⟨h1,h2,h3,h4,h5,h6,h7,h8⟩=>⟨h1,h2,h3,h4,ab.mono hs _ _ _ h5,ab.mono hs _ _ _ h6,h7.mono hs (ak.mono hs n),h8.mono hs (ak.mono hs n)⟩
theorem ak.up {S:Nat->Prop} {w:World}:∀(n:Nat) (x:Kw) (t:Sm),ak n S w x t->ak (n+1) S w x t
 |0,_,_,h=>h.elim
 |n+1,x,.mk ..,⟨h1,h2,h3,h4,h5,h6,h7,h8⟩=>⟨h1,h2,h3,h4,h5,h6,h7.mono (λ_ _ h=>h) (ak.up n),h8.mono (λ_ _ h=>h) (ak.up n)⟩
theorem bH (n:Nat):C9 (λS w=>ak n S w):=⟨λS w w' x t hk h=>ak.keep hk n x t h,λS S' w x t hs h=>ak.mono hs n x t h⟩
end Go.Proofs.YtiblijmngokcgaaGreatDoor
namespace Go.Proofs.YtiblijmngokcgaaGreatDoor
open Go.Proofs.Tryz
open Go.RowKit
def L9 (b:Bool):Int:=if b then 1 else 0
def dT (op a b:Int):Int:=
 if op=8 then wrap64 (-a) else if op=9 then L9 (a==0) else if op=10 then wrap64 (a+b) else if op=11 then wrap64 (a-b) else if op=12 then wrap64 (a*b)
 else if op=13 then (if b=0 then 0 else if b= -1 then wrap64 (-a) else wrap64 (a.tdiv b)) else if op=14 then (if b=0∨b= -1 then 0 else a.tmod b)
 else if op=15 then L9 (decide (a<b)) else if op=16 then L9 (decide (a<=b)) else if op=17 then L9 (decide (b<a)) else if op=18 then L9 (decide (b<=a))
 else if op=19 then L9 (a==b) else if op=20 then L9 (a != b) else if op=21 then L9 (a != 0 && b != 0) else if op=22 then L9 (a != 0 || b != 0) else 0
def iW (cells:List Int) (n:Int):Int:=if 0<=n/\n<cells.length then cells.getD n.toNat 0 else 0
def eL (slot size index:Int) (cells:List Int):Int:=if 0<=index/\index<size/\slot+index<cells.length then slot+index else -1
structure Env where
 self:Int
 procs:Int
 frm:Int
 value:Int
def Yv:Nat->List Int->Env->Ex->Int
 |0,_,_,_=>0
 |n+1,cells,v,.mk op val name slot size args=>
  let arg:=λi=>match args[i]? with|none=>(0:Int)|some e=>Yv n cells v e
  if op=1 then val else if op=2 then iW cells slot else if op=3 then iW cells (eL slot size (arg 0) cells) else if op=4 then v.self else if op=5 then v.procs
  else if op=6 then v.frm else if op=7 then v.value else if op<8∨22<op then 0 else dT op (arg 0) (arg 1)
structure Ef where
 kind:Int
 to:Int
 value:Int
def tD (x:Ef):List Value:=[.int .i64 x.kind,.int .i64 x.to,.int .i64 x.value]
structure ir where
 cells:List Int
 l:List Ef
 used:Nat
def ir.pay (r:ir):ir:={r with used:=r.used+1}
def ir.eff (r:ir) (e:Ef):ir:=if r.l.length<8 then {r with l:=r.l++ [e]} else r
def uy (r:ir) (v:Env) (e:Ex):Int:=Yv 3 r.cells v e
def pH (v:Env) (r:ir):Sm->ir
 | .mk kind name slot size place value body j0=>
  if kind=1 then (if 0<=slot/\slot<r.cells.length then {r with cells:=r.cells.set slot.toNat (uy r v value)} else r)
  else if kind=2 then (let n:=eL slot size (uy r v place) r.cells;if 0<=n then {r with cells:=r.cells.set n.toNat (uy r v value)} else r)
  else if kind=5 then (let to:=uy r v place;if 0<=to/\to<v.procs/\to≠v.self then r.eff ⟨1,to,uy r v value⟩ else r)
  else if kind=6 then r.eff ⟨2,0,uy r v value⟩ else r
inductive fy (v:Env):List Sm->ir->ir->Bool->Prop
 |nil (r:ir):fy v [] r r true
 |out {s:Sm} {l:List Sm} {r:ir}:400<=r.used->fy v (s::l) r r false
 |sim {kind:Int} {name:ByteArray} {slot size:Int} {p e:Ex} {body j0 l:List Sm} {r r' :ir} {ok:Bool}:kind≠4->kind≠3->r.used<400->fy v l (pH v r.pay (.mk kind name slot size p e body j0)) r' ok->fy v (.mk kind name slot size p e body j0::l) r r' ok
 |cond {name:ByteArray} {slot size:Int} {p e:Ex} {body j0 l:List Sm} {r r1 r' :ir} {ok:Bool}:r.used<400->fy v (if uy r.pay v e≠0 then body else j0) r.pay r1 true->fy v l r1 r' ok->fy v (.mk 3 name slot size p e body j0::l) r r' ok
 |condF {name:ByteArray} {slot size:Int} {p e:Ex} {body j0 l:List Sm} {r r1:ir}:r.used<400->fy v (if uy r.pay v e≠0 then body else j0) r.pay r1 false->fy v (.mk 3 name slot size p e body j0::l) r r1 false
 |stop {name:ByteArray} {slot size:Int} {p e:Ex} {body j0 l:List Sm} {r r' :ir} {ok:Bool}:r.used<400->uy r.pay v e=0->fy v l r.pay r' ok->fy v (.mk 4 name slot size p e body j0::l) r r' ok
 |go {name:ByteArray} {slot size:Int} {p e:Ex} {body j0 l:List Sm} {r r1 r' :ir} {ok:Bool}:r.used<400->uy r.pay v e≠0->fy v body r.pay r1 true->fy v (.mk 4 name slot size p e body j0::l) r1 r' ok->fy v (.mk 4 name slot size p e body j0::l) r r' ok
 |goF {name:ByteArray} {slot size:Int} {p e:Ex} {body j0 l:List Sm} {r r1:ir}:r.used<400->uy r.pay v e≠0->fy v body r.pay r1 false->fy v (.mk 4 name slot size p e body j0::l) r r1 false
structure jn (r r' :ir):Prop where
 len:r'.cells.length=r.cells.length
 eff:r.l.length<=8->r'.l.length<=8
 used:r.used<=r'.used
theorem jn.refl (r:ir):jn r r:=⟨rfl,id,Nat.le_refl _⟩
theorem jn.trans {a b c:ir} (h:jn a b) (k:jn b c):jn a c:=⟨k.len.trans h.len,λq=>k.eff (h.eff q),Nat.le_trans h.used k.used⟩
theorem jn.pay (r:ir):jn r r.pay:=⟨rfl,id,by show r.used<=r.used+1;omega⟩
theorem jn.eff_ (r:ir) (e:Ef):jn r (r.eff e):=by
 unfold ir.eff;split
 ·rename_i h;exact ⟨rfl,λ_=>by simp;omega,Nat.le_refl _⟩
 ·exact jn.refl r
theorem jn.sim (v:Env) (r:ir) (s:Sm):jn r (pH v r s):=by
 obtain ⟨kind,name,slot,size,p,e,body,j0⟩:=s;unfold pH;dsimp only;split
 ·split
  ·exact ⟨by simp,id,Nat.le_refl _⟩
  ·exact jn.refl r
 ·split
  ·split
   ·exact ⟨by simp,id,Nat.le_refl _⟩
   ·exact jn.refl r
  ·split
   ·split
    ·exact jn.eff_ _ _
    ·exact jn.refl r
   ·split
    ·exact jn.eff_ _ _
    ·exact jn.refl r
theorem fy.keeps {v:Env} {l:List Sm} {r r' :ir} {ok:Bool} (h:fy v l r r' ok):jn r r' :=by
 induction h with
 |nil r=>exact jn.refl r
 |out h=>exact jn.refl _
 |sim k1 k2 hu _ ih=>exact (jn.pay _).trans ((jn.sim _ _ _).trans ih)
 |cond hu _ _ J2 X6=>exact (jn.pay _).trans (J2.trans X6)
 |condF hu _ J2=>exact (jn.pay _).trans J2
 |stop hu he _ ih=>exact (jn.pay _).trans ih
 |go hu he _ _ J2 X6=>exact (jn.pay _).trans (J2.trans X6)
 |goF hu he _ J2=>exact (jn.pay _).trans J2
def stp (s:Nat):Nat:=if s%2=1 then (s / 2) ^^^ 3988292384 else s / 2
def iL:Nat->Nat->Nat
 |0,s=>s
 |k+1,s=>stp (iL k s)
def Vs (i:Nat):Nat:=iL 8 i
def inv (s:Nat):Nat:=4294967295 ^^^ s
def Tt (s:Nat) (c:UInt8):Nat:=(s / 256) ^^^ Vs ((s%256) ^^^ c.toNat)
def Tr (s:Nat) (c:UInt8):Nat:=iL 8 (s ^^^ c.toNat)
def Ka (s:Nat) (l:List UInt8):Nat:=inv (l.foldl Tt (inv s))
def EB (s:Nat) (l:List UInt8):Nat:=inv (l.foldl Tr (inv s))
theorem gQ (k s:Nat):iL (k+1) s=stp (iL k s):=rfl
theorem rD (s:Nat):iL 0 s=s:=rfl
theorem NV (s:Nat):Vs s=iL 8 s:=rfl
theorem CV (s:Nat) (c:UInt8):Tr s c=iL 8 (s ^^^ c.toNat):=rfl
theorem QO {s:Nat} (h:s<4294967296):stp s<4294967296:=by
 unfold stp;split
 ·exact Nat.xor_lt_two_pow (n:=32) (by omega) (by omega)
 ·omega
theorem nP {s:Nat} (h:s<4294967296):∀k,iL k s<4294967296
 |0=>h
 |k+1=>QO (nP h k)
theorem pP {s:Nat} (h:s<4294967296):inv s<4294967296:=Nat.xor_lt_two_pow (n:=32) (by omega) (by omega)
theorem AN (s:Nat) (c:UInt8):(s%256) ^^^ c.toNat<256:=Nat.xor_lt_two_pow (n:=8) (by omega) (fK c)
theorem QY {s:Nat} (h:s<4294967296) (c:UInt8):Tt s c<4294967296:=
 Nat.xor_lt_two_pow (n:=32) (by omega) (nP (by have:=AN s c;omega) 8)
theorem QW {s:Nat} (h:s<4294967296) (c:UInt8):Tr s c<4294967296:=
 nP (Nat.xor_lt_two_pow (n:=32) (by omega) (by have:=fK c;omega)) 8
theorem oK {s:Nat} (h:s<4294967296) (l:List UInt8):l.foldl Tt s<4294967296:=by
 induction l generalizing s with
 |nil=>exact h
 |cons c l ih=>exact ih (QY h c)
theorem sC {s:Nat} (h:s<4294967296) (l:List UInt8):l.foldl Tr s<4294967296:=by
 induction l generalizing s with
 |nil=>exact h
 |cons c l ih=>exact ih (QW h c)
theorem nY {s:Nat} (h:s<4294967296) (l:List UInt8):Ka s l<4294967296:=pP (oK (pP h) l)
theorem oZ {β:Type} (f:β->UInt8->β) (b:β) (l:List UInt8) (k:Nat) (c:UInt8) (h:l[k]? =some c):(l.take (k+1)).foldl f b=f ((l.take k).foldl f b) c:=by
 obtain ⟨hk,rfl⟩:=List.getElem?_eq_some_iff.1 h;rw [List.take_succ_eq_append_getElem hk,List.foldl_append];rfl
theorem JN {s:Nat} (hs:s<4294967296) (h:(bits BinOp.and IntKind.u32 (s:Int) 1 != 0)=false):stp s=s / 2:=by
 exact Tzd9
theorem LL {s:Nat} (hs:s<4294967296) (h:(bits BinOp.and IntKind.u32 (s:Int) 1 != 0)=true):(bits BinOp.xor IntKind.u32 ((s:Int) / 2) 3988292384)=((stp s:Nat):Int):=by
 exact Tzdk
theorem FF {s:Nat} (hs:s<4294967296) (h:(bits BinOp.and IntKind.u32 (s:Int) 1==1)=false):stp s=s / 2:=by
 exact Tzd9
theorem ID {s:Nat} (hs:s<4294967296) (h:(bits BinOp.and IntKind.u32 (s:Int) 1==1)=true):(bits BinOp.xor IntKind.u32 ((s:Int) / 2) 3988292384)=((stp s:Nat):Int):=by
 exact Tzdk
theorem qJ {s:Nat} (hs:s<4294967296):bits BinOp.xor IntKind.u32 4294967295 (s:Int)=((inv s:Nat):Int):=u32_xor_nat 4294967295 s (by omega) hs
theorem FR (t:Nat) (x:UInt8):bits BinOp.xor IntKind.u8 ((t:Int)%256) (x.toNat:Int)=((t%256 ^^^ x.toNat:Nat):Int):=
 u8_xor_nat (t%256) x.toNat (by omega) (fK x)
theorem LJ {t:Nat} (ht:t<4294967296) (x:UInt8):bits BinOp.xor IntKind.u32 ((t:Int) / 256) ((Vs (t%256 ^^^ x.toNat):Nat):Int)=((Tt t x:Nat):Int):=
 u32_xor_nat (t / 256) _ (by omega) (nP (by have:=AN t x;omega) 8)
def dG (k:Nat):Array Value:=((List.range 256).map λi=>Value.int .u32 ((if i<k then Vs i else 0:Nat):Int)).toArray
theorem lG (k j:Nat) (h:j<256):(dG k)[j]? =some (.int .u32 ((if j<k then Vs j else 0:Nat):Int)):=by
 unfold dG;simp [h]
theorem iX (k:Nat):(dG k).size=256:=by simp [dG]
theorem rB (k:Nat):(dG k).all (·.oneCell')=true:=by
 unfold dG;exact all_oneCell_toArray (by simp [Value.oneCell'])
theorem zE (k:Nat) (h:k<256):(dG k).setIfInBounds k (.int .u32 (Vs k:Nat))=dG (k+1):=by
 apply Array.ext_getElem?
 intro j;by_cases hj:j<256
 ·rw [lG _ _ hj];by_cases e:j=k
  ·subst e;rw [Array.getElem?_setIfInBounds_self_of_lt (by rw [iX];exact hj)];simp
  ·rw [Array.getElem?_setIfInBounds_ne (by omega),lG _ _ hj];have:(j<k+1)↔(j<k):=by omega
   simp [this]
 ·rw [Array.getElem?_eq_none (by simp [iX];omega),Array.getElem?_eq_none (by simp [iX];omega)]
end Go.Proofs.YtiblijmngokcgaaGreatDoor
namespace Go.Proofs.YtiblijmngokcgaaGreatDoor
open Go.Proofs.Tryz
open Go.RowKit
attribute [local irreducible] dG iL stp Vs inv Tt Tr
theorem CP (w:World):(zeroValue 211).run Tryz.prog w= .ok (.agg (dG 0)) w:=by kernel_rfl
theorem FY (w:World):Calls Tryz.prog 165 #[] w λe w' =>e= .returned (.agg (dG 256))/\Below w.heap.size w w' :=by
 have hz:=CP;go_enter func165,ntmps165;go_wp2;go_loopw [2,3,4] (λ_ _ i wr=>∃k:Nat,k<=256/\i= .int .u32 k/\wr.heap[w.heap.size+1]? =some (.cells (dG k) 211 (0,0))/\wr.heap[w.heap.size]? =some (.cells (dG 0) 211 (0,0))/\Below w.heap.size w wr) (λ_ _ i _=>256-(intOf i).toNat);case atStart=>
  exact ⟨0,by omega,rfl,heap_alloc2_new _ _ _,heap_alloc2_old _ _ _,((Below.refl _ _).alloc (Nat.le_refl _) _).alloc (by simp) _⟩
 case round=>
  clear hz;obtain ⟨k,hk,rfl,h1,h0,hb⟩:=hrel;by_cases af:k<256
  ·have hc:wr.cell? ⟨w.heap.size+1,k,none⟩=some (.int .u32 0):=by
    rw [cell_of_row _ _ _ _ _ _ h1,lG _ _ af];simp
   have hf:wr.frozen? ⟨w.heap.size+1,k,none⟩=false:=frozen_of_row _ _ _ _ _ h1
   have H1:=aA h1;have H0:=aA h0;clear h1 h0;go_wp2;go_loop [3,8] (λs j=>∃m:Nat,m<=8/\j= .int .i64 m/\s= .int .u32 (iL m k:Nat)) (λ_ j=>8-(intOf j).toNat);case atStart=>exact ⟨0,by omega,rfl,by rw [rD]⟩
   case round=>
    obtain ⟨m,hm,rfl,rfl⟩:=hrel;by_cases eu:m<8
    ·have hb:=nP (s:=k) (by omega) m;go_wp2
     ·go_round;case rel=>
       refine ⟨m+1,by omega,by go_num,?_⟩;rw [LL hb (by assumption),gQ]
      case measure=>simp [intOf];omega
     ·go_round;case rel=>
       refine ⟨m+1,by omega,by go_num,?_⟩;rw [gQ,JN hb (by assumption)];rfl
      case measure=>simp [intOf];omega
    ·obtain rfl:m=8:=by omega
     go_wp2;go_roundw;case rel=>exact ⟨k+1,by omega,by go_num,(by rw [heap_setCell_same _ _ _ _ _ _ H1.out];rw [<-zE k af,NV]),(by rw [heap_setCell_other _ _ _ _ (by simp)];exact H0.out),hb.setCell (by simp) _⟩
     case measure=>simp [intOf];omega
  ·obtain rfl:k=256:=by omega
   have H1:=aA h1;have H0:=aA h0;clear h1 h0;go_wp2_with (first|(refine wpList_load_row rfl 211 _ rfl (w.heap.size+1) rfl 211 (dG 256) (0,0) _ H1.out underlying211 rfl (by kernel_rfl) ?_)|(refine dW rfl 211 _ _ rfl w.heap.size 211 (dG 0) (dG 256) rfl rfl H0.out (by kernel_rfl) (by simp [iX]) (rB _) ?_))
   refine bodyPost_ret (results_cell_row rfl _ _ w.heap.size 211 (dG 256) (0,0) _ rfl (setRow_heap _ _ _ _ _ _ H0.out) underlying211 rfl (by kernel_rfl)) rfl ⟨rfl,?_⟩;exact Below.setRow hb (Nat.le_refl _) _
theorem pX (s:Nat) (v:Value) (l:List UInt8) (S:Nat->Prop) (w:World) (hs:s<4294967296) (hv:Bytes S w v l):
 Calls Tryz.prog 130 #[.int .u32 s,v] w λe w' =>e= .returned (.int .u32 (Ka s l:Nat))/\Below w.heap.size w w' :=by
 obtain ⟨A,c,rfl,ej,ed,fq⟩:=hv;unfold maxLen at ed;have hz:=CP;go_enter func130,ntmps130;go_wp2_with (first|(go_at_call 165;refine (FY _).mono ?_;rintro e w1 ⟨rfl,al⟩)|(refine nX rfl 211 _ _ rfl 211 (dG 0) (dG 256) rfl rfl (by kernel_rfl) (by simp [iX]) (rB _) ?_))
 have hinv:bits BinOp.xor IntKind.u32 IntKind.u32.max (s:Int)=((inv s:Nat):Int):=qJ hs;clear hz;go_loop [6,14] (λt i=>∃k:Nat,k<=l.length/\i= .int .i64 k/\t= .int .u32 ((l.take k).foldl Tt (inv s):Nat)) (λ_ i=>l.length-(intOf i).toNat);case atStart=>exact ⟨0,by omega,rfl,by rw [hinv];rfl⟩
 case round=>
  obtain ⟨k,hk,rfl,rfl⟩:=hrel;clear hinv;by_cases af:k<l.length
  ·obtain ⟨b,off,x,rfl,_,hb,hx,jk⟩:=(fq.keep (ae.of_below al)).byte af;have hcell' :(w1.alloc (.cells (dG 256) 211)).cell? ⟨b,off+k,none⟩=some (.int .u8 (x.toNat:Int)):=by
    rw [World.cell?_alloc_lt _ _ _ hb];exact jk
   have hlt8:=fK x;have ht:=oK (pP hs) (l.take k);have Hx:=aA hx;clear hx jk;generalize My:(l.take k).foldl Tt (inv s)=t at ht ⊢;have Ht0:=aA My;clear My;have ff:=FR t x;have hj:=AN t x;have hq:=aA (LJ ht x);generalize t%256 ^^^ x.toNat=j at ff hj hq;have htab:(dG 256)[j]? =some (.int .u32 (Vs j:Nat)):=by rw [lG _ _ hj,if_pos hj]
   go_wp2;go_round;case rel=>exact ⟨k+1,by omega,by go_num,by rw [hq.out,oZ _ _ _ _ _ Hx.out,Ht0.out]⟩
   case measure=>simp [intOf];omega
  ·obtain rfl:k=l.length:=by omega
   have ht:=oK (pP hs) l;have a9:=aA (qJ ht);rw [List.take_length];go_wp2;go_ret;refine ⟨?_,al.alloc al.size _⟩;exact congrArg _ (congrArg _ a9.out)
theorem IC (v:Value) (l:List UInt8) (S:Nat->Prop) (w:World) (hv:Bytes S w v l):
 Calls Tryz.prog 131 #[v] w λe w' =>e= .returned (.int .u32 (Ka 0 l:Nat))/\Below w.heap.size w w' :=by
 go_enter func131,ntmps131;go_wp2_with (go_at_call 130;refine (pX 0 v l S _ (by omega) hv).mono ?_;rintro e w1 ⟨rfl,al⟩)
 go_ret;exact ⟨rfl,al⟩
theorem qW (s:Nat) (v:Value) (l:List UInt8) (S:Nat->Prop) (w:World) (hs:s<4294967296) (hv:Bytes S w v l):
 Calls Tryz.prog 163 #[.int .u32 s,v] w λe w' =>e= .returned (.int .u32 (EB s l:Nat))/\w=w' :=by
 obtain ⟨A,c,rfl,ej,ed,fq⟩:=hv;unfold maxLen at ed;go_enter func163,ntmps163;go_wp2;have hinv:bits BinOp.xor IntKind.u32 IntKind.u32.max (s:Int)=((inv s:Nat):Int):=qJ hs;go_loop [5,6] (λt i=>∃k:Nat,k<=l.length/\i= .int .i64 k/\t= .int .u32 ((l.take k).foldl Tr (inv s):Nat)) (λ_ i=>l.length-(intOf i).toNat);case atStart=>exact ⟨0,by omega,rfl,by rw [hinv];rfl⟩
 case round=>
  obtain ⟨k,hk,rfl,rfl⟩:=hrel;clear hinv;by_cases af:k<l.length
  ·obtain ⟨b,off,x,rfl,_,hb,hx,jk⟩:=fq.byte af;have hlt8:=fK x;have ht:=sC (pP hs) (l.take k);have Hx:=aA hx;clear hx;generalize My:(l.take k).foldl Tr (inv s)=t at ht ⊢;have Ht0:=aA My;clear My;have ff:bits BinOp.xor IntKind.u32 (t:Int) (x.toNat:Int)=((t ^^^ x.toNat:Nat):Int):=u32_xor_nat _ _ ht (by omega);have hq:t ^^^ x.toNat<4294967296:=Nat.xor_lt_two_pow (n:=32) (by omega) (by omega);go_wp2;go_loop [5,7] (λu j=>∃m:Nat,m<=8/\j= .int .i64 m/\u= .int .u32 (iL m (t ^^^ x.toNat):Nat)) (λ_ j=>8-(intOf j).toNat);case atStart=>exact ⟨0,by omega,rfl,by rw [rD]⟩
   case round=>
    obtain ⟨m,hm,rfl,rfl⟩:=hrel;clear ff;by_cases eu:m<8
    ·have hb:=nP hq m;go_wp2
     ·go_round;case rel=>
       refine ⟨m+1,by omega,by go_num,?_⟩;rw [ID hb (by assumption),gQ]
      case measure=>simp [intOf];omega
     ·go_round;case rel=>
       refine ⟨m+1,by omega,by go_num,?_⟩;rw [gQ,FF hb (by assumption)];rfl
      case measure=>simp [intOf];omega
    ·obtain rfl:m=8:=by omega
     go_wp2;go_round;case rel=>exact ⟨k+1,by omega,by go_num,by rw [oZ _ _ _ _ _ Hx.out,Ht0.out,CV]⟩
     case measure=>simp [intOf];omega
  ·obtain rfl:k=l.length:=by omega
   have ht:=sC (pP hs) l;have a9:=aA (qJ ht);rw [List.take_length];go_wp2;go_ret;refine ⟨?_,rfl⟩;exact congrArg _ (congrArg _ a9.out)
theorem GL (v:Value) (l:List UInt8) (S:Nat->Prop) (w:World) (hv:Bytes S w v l):
 Calls Tryz.prog 164 #[v] w λe w' =>e= .returned (.int .u32 (EB 0 l:Nat))/\w=w' :=by
 go_enter func164,ntmps164;go_wp2_with (go_at_call 163;refine (qW 0 v l S _ (by omega) hv).mono ?_;rintro e w1 ⟨rfl,rfl⟩)
 go_ret;exact ⟨rfl,rfl⟩
theorem OT (x n:Int) (hn:1<=n):(0<=x.tmod n->x.tmod n=x%n)/\(x.tmod n<0->x.tmod n+n=x%n):=by
 have e:=Int.tmod_eq_emod (a:=x) (b:=n);have h1:=Int.emod_nonneg x (b:=n) (by omega);have h2:=Int.emod_lt_of_pos x (b:=n) (by omega);split at e
 ·constructor<;>intros<;>omega
 ·constructor<;>intros<;>omega
theorem OU (x n:Int) (w:World) (hn:1<=n) (S0:n<=9223372036854775807) (ev: -9223372036854775808<=x) (ew:x<=9223372036854775807):
 Calls Tryz.prog 28 #[.int .i64 x,.int .i64 n] w λe w' =>e= .returned (.int .i64 (x%n))/\w=w' :=by
 have hm:=aA (OT x n hn);have h1:=Int.emod_nonneg x (b:=n) (by omega);have h2:=Int.emod_lt_of_pos x (b:=n) (by omega);go_enter func28,ntmps28;go_wp2
 ·go_ret;have h:x.tmod n<0:=by assumption
  have e:=hm.out.2 h;refine ⟨gJ ?_,rfl⟩;rw [e];exact IntWalk.wrap64_in _ ⟨by omega,by omega⟩
 ·go_ret;have h:0<=x.tmod n:=by assumption
  exact ⟨gJ (hm.out.1 h),rfl⟩
end Go.Proofs.YtiblijmngokcgaaGreatDoor
namespace Go.Proofs.YtiblijmngokcgaaGreatDoor
open Go.Proofs.Tryz
theorem NW (a b:Nat):stp (a ^^^ b)=stp a ^^^ stp b:=by
 unfold stp;rw [Nat.xor_div_two];by_cases ha:a%2=1<;>by_cases hb:b%2=1
 ·rw [if_neg (by rw [Nat.xor_mod_two_eq_one];simp [ha,hb]),if_pos ha,if_pos hb];rw [show a / 2 ^^^ 3988292384 ^^^ (b / 2 ^^^ 3988292384)=(a / 2 ^^^ b / 2) ^^^ (3988292384 ^^^ 3988292384) by ac_rfl];simp
 ·rw [if_pos (by rw [Nat.xor_mod_two_eq_one];simp [ha,hb]),if_pos ha,if_neg hb]
  ac_rfl
 ·rw [if_pos (by rw [Nat.xor_mod_two_eq_one];simp [ha,hb]),if_neg ha,if_pos hb]
  ac_rfl
 ·rw [if_neg (by rw [Nat.xor_mod_two_eq_one];simp [ha,hb]),if_neg ha,if_neg hb]
theorem zI (a b:Nat):∀k,iL k (a ^^^ b)=iL k a ^^^ iL k b
 |0=>rfl
 |k+1=>by rw [gQ,zI a b k,NW,gQ,gQ]
theorem zJ (j:Nat) (s:Nat):∀k,iL (j+k) s=iL k (iL j s)
 |0=>rfl
 |k+1=>by rw [<-Nat.add_assoc,gQ,zJ j s k,gQ]
theorem DX (y:Nat):stp (2*y)=y:=by
 unfold stp;rw [if_neg (by omega)];omega
theorem uM (y:Nat):∀k,iL k (2^k*y)=y
 |0=>by simp [rD]
 |k+1=>by
  rw [show k+1=1+k by omega,zJ 1 _ k];have:iL 1 (2^(1+k)*y)=2^k*y:=by
   show stp (2^(1+k)*y)=_;rw [show 2^(1+k)*y=2*(2^k*y) by rw [Nat.pow_add];simp [Nat.mul_assoc]];exact DX _
  rw [this];exact uM y k
theorem NT (a b:Nat) (h:b<256):256*a ^^^ b=256*a+b:=by
 have h1:(256*a ^^^ b) / 2^8=a:=by rw [Nat.xor_div_two_pow];simp [Nat.div_eq_of_lt h]
 have h2:(256*a ^^^ b)%2^8=b:=by rw [Nat.xor_mod_two_pow];simp [Nat.mod_eq_of_lt h]
 omega
def num:List UInt8->Nat
 |[]=>0
 |c::l=>c.toNat+256*num l
theorem ON (s:Nat) (c:UInt8):Tt s c=Tr s c:=by
 have h:s ^^^ c.toNat=(2^8*(s / 256)) ^^^ ((s%256) ^^^ c.toNat):=by
  rw [<-Nat.xor_assoc,show (2:Nat)^8=256 from rfl,NT _ _ (by omega)];congr 1;omega
 rw [CV,h,zI,uM];rfl
theorem FW (s:Nat) (l:List UInt8):Ka s l=EB s l:=by
 unfold Ka EB;congr 1;have:Tt=Tr:=funext λs=>funext λc=>ON s c
 rw [this]
theorem MV (mask j:Nat):(mask:Int) / 2^j=((mask / 2^j:Nat):Int):=by
 rw [Int.natCast_ediv,Int.natCast_pow];rfl
end Go.Proofs.YtiblijmngokcgaaGreatDoor
