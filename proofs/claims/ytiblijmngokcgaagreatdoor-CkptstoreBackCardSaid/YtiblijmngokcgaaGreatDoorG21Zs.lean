import Derived.Test.YtiblijmngokcgaaGreatDoorTreeZs
import Derived.Test.YtiblijmngokcgaaGreatDoorCodecBZs
import Derived.Test.YtiblijmngokcgaaGreatDoorCodecCZs
import Derived.Test.YtiblijmngokcgaaGreatDoorKitZs
import Derived.Deep.Cut
import Derived.Deep.CutRange
import Derived.Deep.CutBlock
namespace Go.Proofs.YtiblijmngokcgaaGreatDoor
open Go.RowKit
set_option linter.unusedVariables false
set_option linter.unusedSimpArgs false
def gH (idx:Int):Nat→List Ef→List Snd
 |_,[]=> []
 |o,e::l=>if e.kind=1 then ⟨idx,(o:Int),e.to,e.value⟩::gH idx (o+1) l else gH idx o l
def fE (idx:Int):List Ef→List Ou
 |[]=> []
 |e::l=>if e.kind=1 then fE idx l else ⟨idx,e.value⟩::fE idx l
def fO:List Ef→Nat
 |[]=>0
 |e::l=>if e.kind=1 then fO l+1 else fO l
theorem lL (idx:Int) (e:Ef):∀(l:List Ef) (o:Nat),gH idx o (l++ [e])=gH idx o l++(if e.kind=1 then [⟨idx,((o+fO l:Nat):Int),e.to,e.value⟩] else [])
 |[],o=>by simp [gH,fO]
 |a::l,o=>by
  rw [List.cons_append]
  unfold gH fO
  by_cases h:a.kind=1
  ·rw [if_pos h,if_pos h,if_pos h,lL idx e l (o+1),List.cons_append]
   have:o+1+fO l=o+(fO l+1):=by omega
   rw [this]
  ·rw [if_neg h,if_neg h,if_neg h,lL idx e l o]
theorem kG (idx:Int) (e:Ef):∀(l:List Ef),fE idx (l++ [e])=fE idx l++(if e.kind=1 then [] else [⟨idx,e.value⟩])
 |[]=>by simp [fE]
 |a::l=>by
  rw [List.cons_append]
  unfold fE
  by_cases h:a.kind=1
  ·rw [if_pos h,if_pos h,kG idx e l]
  ·rw [if_neg h,if_neg h,kG idx e l,List.cons_append]
theorem lY (e:Ef):∀(l:List Ef),fO (l++ [e])=fO l+(if e.kind=1 then 1 else 0)
 |[]=>by simp [fO]
 |a::l=>by
  rw [List.cons_append]
  unfold fO
  by_cases h:a.kind=1
  ·rw [if_pos h,if_pos h,lY e l];omega
  ·rw [if_neg h,if_neg h,lY e l]
theorem sF:∀(l:List Ef),fO l≤l.length
 |[]=>by simp [fO]
 |a::l=>by
  have:=sF l
  unfold fO
  split<;>simp<;>omega
theorem mT (idx:Int):∀(l:List Ef) (o:Nat),(gH idx o l).length=fO l
 |[],o=>rfl
 |a::l,o=>by
  unfold gH fO
  split
  ·rw [List.length_cons,mT idx l]
  ·exact mT idx l o
theorem nV (idx:Int):∀(l:List Ef),(fE idx l).length+fO l=l.length
 |[]=>rfl
 |a::l=>by
  have:=nV idx l
  unfold fE fO
  split
  ·rw [List.length_cons];omega
  ·rw [List.length_cons,List.length_cons];omega
def ExR (body:List Sm) (v:Env) (idx:Int) (s s' :Stt):Prop:=∃r ok,RunL v body ⟨s.cells,[],0⟩ r ok∧s' =⟨r.cells,s.evs,s.sent++gH idx 0 r.l,s.outs++fE idx r.l⟩
theorem ExR.uniq {body:List Sm} {v:Env} {idx:Int} {s a b:Stt} (h:ExR body v idx s a) (k:ExR body v idx s b):a=b:=by
 obtain ⟨r,ok,h1,rfl⟩:=h
 obtain ⟨r',ok',h2,rfl⟩:=k
 obtain ⟨rfl,_⟩:=RunL.uniq (r2:=r) (b:=ok) h1 h2
 rfl
structure Cd where
 init:List Int
 st:List Sm
 me:List Sm
 ti:List Sm
 inp:List Sm
def DJ (c:Cd) (self procs:Int) (s:Stt):Prop:=ExR c.st ⟨self,procs,self,0⟩ 0 ⟨c.init,[],[],[]⟩ s
def fS (s:Stt) (e:Ev):Stt:={s with evs:=s.evs++ [e]}
def NextR (c:Cd) (self procs:Int) (s:Stt) (e:Ev) (s' :Stt):Prop:=
 if e.k0=1 then ExR c.me ⟨self,procs,e.k2,e.k6⟩ ((s.evs.length+1:Nat):Int) (fS s e) s'
 else if e.k0=2 then ExR c.ti ⟨self,procs,self,e.k6⟩ ((s.evs.length+1:Nat):Int) (fS s e) s'
 else if e.k0=3 then ExR c.inp ⟨self,procs,self,e.k6⟩ ((s.evs.length+1:Nat):Int) (fS s e) s' else s' =fS s e
theorem NextR.uniq {c:Cd} {self procs:Int} {s a b:Stt} {e:Ev} (h:NextR c self procs s e a) (k:NextR c self procs s e b):a=b:=by
 unfold NextR at h k
 split at h
 ·rw [if_pos (by assumption)] at k;exact h.uniq k
 ·rw [if_neg (by assumption)] at k
  split at h
  ·rw [if_pos (by assumption)] at k;exact h.uniq k
  ·rw [if_neg (by assumption)] at k
   split at h
   ·rw [if_pos (by assumption)] at k;exact h.uniq k
   ·rw [if_neg (by assumption)] at k;rw [h,k]
inductive RepR (c:Cd) (self procs:Int):Stt→List Ev→Stt→Prop
 |nil (s:Stt):RepR c self procs s [] s
 |cons {s s1 s2:Stt} {e:Ev} {l:List Ev}:NextR c self procs s e s1→RepR c self procs s1 l s2→RepR c self procs s (e::l) s2
def ReplayR (c:Cd) (self procs:Int) (l:List Ev) (s:Stt):Prop:=∃s0,DJ c self procs s0∧RepR c self procs s0 l s
theorem RepR.uniq {c:Cd} {self procs:Int} {s a:Stt} {l:List Ev} (h:RepR c self procs s l a):∀{b},RepR c self procs s l b→a=b:=by
 induction h with
 |nil s=>intro b k;cases k;rfl
 |cons h1 _ ih=>
  intro b k
  cases k with
  |cons g1 g2=>obtain rfl:=h1.uniq g1;exact ih g2
theorem ReplayR.uniq {c:Cd} {self procs:Int} {l:List Ev} {a b:Stt} (h:ReplayR c self procs l a) (k:ReplayR c self procs l b):a=b:=by
 obtain ⟨s0,h1,h2⟩:=h
 obtain ⟨s1,k1,k2⟩:=k
 obtain rfl:=ExR.uniq h1 k1
 exact h2.uniq k2
theorem RepR.snoc {c:Cd} {self procs:Int} {s a b:Stt} {l:List Ev} {e:Ev} (h:RepR c self procs s l a) (k:NextR c self procs a e b):RepR c self procs s (l++ [e]) b:=by
 induction h with
 |nil s=>exact .cons k (.nil _)
 |cons h1 _ ih=>exact .cons h1 (ih k)
structure SttPre (a b:Stt):Prop where
 cells:b.cells.length=a.cells.length
 evs:a.evs<+:b.evs
 sent:a.sent<+:b.sent
 outs:a.outs<+:b.outs
theorem SttPre.refl (a:Stt):SttPre a a:=⟨rfl,List.prefix_refl _,List.prefix_refl _,List.prefix_refl _⟩
theorem SttPre.trans {a b c:Stt} (h:SttPre a b) (k:SttPre b c):SttPre a c:=⟨k.cells.trans h.cells,h.evs.trans k.evs,h.sent.trans k.sent,h.outs.trans k.outs⟩
theorem ExR.pre {body:List Sm} {v:Env} {idx:Int} {s a:Stt} (h:ExR body v idx s a):SttPre s a∧a.evs=s.evs:=by
 obtain ⟨r,ok,h1,rfl⟩:=h
 exact ⟨⟨h1.keeps.len,List.prefix_refl _,List.prefix_append _ _,List.prefix_append _ _⟩,rfl⟩
theorem NextR.pre {c:Cd} {self procs:Int} {s a:Stt} {e:Ev} (h:NextR c self procs s e a):SttPre s a∧a.evs=s.evs++ [e]:=by
 have h0:SttPre s (fS s e):=⟨rfl,List.prefix_append _ _,List.prefix_refl _,List.prefix_refl _⟩
 unfold NextR at h
 split at h
 ·exact ⟨h0.trans h.pre.1,h.pre.2⟩
 ·split at h
  ·exact ⟨h0.trans h.pre.1,h.pre.2⟩
  ·split at h
   ·exact ⟨h0.trans h.pre.1,h.pre.2⟩
   ·rw [h];exact ⟨h0,rfl⟩
theorem RepR.pre {c:Cd} {self procs:Int} {s a:Stt} {l:List Ev} (h:RepR c self procs s l a):SttPre s a∧a.evs=s.evs++l:=by
 induction h with
 |nil s=>exact ⟨SttPre.refl _,by simp⟩
 |cons h1 _ ih=>
  refine ⟨h1.pre.1.trans ih.1,?_⟩
  rw [ih.2,h1.pre.2,List.append_assoc]
  rfl
theorem RepR.split {c:Cd} {self procs:Int} {l1:List Ev}:∀{s b:Stt} {l2:List Ev},RepR c self procs s (l1++l2) b→∃a,RepR c self procs s l1 a∧RepR c self procs a l2 b:=by
 induction l1 with
 |nil=>intro s b l2 h;exact ⟨s,.nil _,h⟩
 |cons e l1 ih=>
  intro s b l2 h
  cases h with
  |cons h1 h2=>
   obtain ⟨a,g1,g2⟩:=ih h2
   exact ⟨a,.cons h1 g1,g2⟩
theorem ReplayR.evs {c:Cd} {self procs:Int} {l:List Ev} {s:Stt} (h:ReplayR c self procs l s):s.evs=l:=by
 obtain ⟨s0,h1,h2⟩:=h
 rw [h2.pre.2,(ExR.pre h1).2]
 rfl
theorem ReplayR.cells {c:Cd} {self procs:Int} {l:List Ev} {s:Stt} (h:ReplayR c self procs l s):s.cells.length=c.init.length:=by
 obtain ⟨s0,h1,h2⟩:=h
 rw [h2.pre.1.cells,(ExR.pre h1).1.cells]
theorem ReplayR.pre {c:Cd} {self procs:Int} {l:List Ev} {j k:Nat} {a b:Stt} (hjk:j≤k) (h:ReplayR c self procs (l.take j) a) (g:ReplayR c self procs (l.take k) b):SttPre a b:=by
 obtain ⟨s0,h1,h2⟩:=h
 obtain ⟨s1,g1,g2⟩:=g
 obtain rfl:=ExR.uniq h1 g1
 have e:l.take k=l.take j++(l.take k).drop j:=by
  have:=List.take_append_drop j (l.take k)
  rw [List.take_take,Nat.min_eq_left hjk] at this
  exact this.symm
 rw [e] at g2
 obtain ⟨x,x1,x2⟩:=g2.split
 obtain rfl:=h2.uniq x1
 exact x2.pre.1
end Go.Proofs.YtiblijmngokcgaaGreatDoor
namespace Go.Proofs.YtiblijmngokcgaaGreatDoor
open Go.RowKit
set_option maxRecDepth 100000
set_option linter.unusedVariables false
def sG {α:Type} (s:Except Nat Nat) (f:Nat→Except Nat (α×Nat)):Except Nat (α×Nat):=match s with| .ok p=>f p| .error k=> .error k
def DO {α:Type} (x:Except Nat (α×Nat)):Except Nat Nat:=match x with| .ok (_,q)=> .ok q| .error k=> .error k
def StepF {α:Type} (f:Nat→Except Nat (α×Nat)) (s:Except Nat Nat) (a:α) (s' :Except Nat Nat):Prop:=s' =DO (sG s f)∧∀b q,sG s f= .ok (b,q)→a=b
theorem StepF.pure_ {α:Type} (c:α) (s:Except Nat Nat):StepF (fun p=> .ok (c,p)) s c s:=by
 cases s with
 |ok p=>exact ⟨rfl,fun b q h=>by cases h;rfl⟩
 |error k=>exact ⟨rfl,fun b q h=>by cases h⟩
theorem StepF.er {α:Type} (f:Nat→Except Nat (α×Nat)) (k:Nat) (a:α):StepF f (.error k) a (.error k):=⟨rfl,fun b q h=>by cases h⟩
theorem StepF.comp {α β:Type} {f:Nat→Except Nat (α×Nat)} {g:α→Nat→Except Nat (β×Nat)} {s s1 s2:Except Nat Nat} {a:α} {c:β} (h1:StepF f s a s1) (h2:StepF (g a) s1 c s2):StepF (fun p=>bnd (f p) g) s c s2:=by
 obtain ⟨rfl,h1⟩:=h1
 cases s with
 |error k=>exact ⟨h2.1,fun b q h=>by cases h⟩
 |ok p=>
  cases hf:f p with
  |error k=>
   have e1:sG (.ok p) f= .error k:=hf
   rw [e1] at h2
   refine ⟨?_,fun b q h=> ?_⟩
   ·rw [h2.1]
    show _=DO (bnd (f p) g)
    rw [cL hf]
    rfl
   ·have h' :bnd (f p) g= .ok (b,q):=h
    rw [cL hf] at h'
    cases h'
  |ok vq=>
   obtain ⟨b0,q0⟩:=vq
   have e1:sG (.ok p) f= .ok (b0,q0):=hf
   have:=h1 b0 q0 e1
   subst this
   rw [e1] at h2
   refine ⟨?_,fun b q h=> ?_⟩
   ·rw [h2.1]
    show _=DO (bnd (f p) g)
    rw [aR hf]
    rfl
   ·have h' :bnd (f p) g= .ok (b,q):=h
    rw [aR hf] at h'
    exact h2.2 b q h'
theorem StepF.cons {α:Type} {f:Nat→Except Nat (α×Nat)} {s s1 s2:Except Nat Nat} {n:Nat} {a:α} {l:List α} (h1:StepF f s a s1) (h2:StepF (dD f n) s1 l s2):StepF (dD f (n+1)) s (a::l) s2:=
 StepF.comp (g:=fun a q=>bnd (dD f n q) fun l q' => .ok (a::l,q')) h1 (StepF.comp (g:=fun l q' => .ok (a::l,q')) h2 (StepF.pure_ _ _))
theorem StepF.to {α:Type} {f g:Nat→Except Nat (α×Nat)} {s s' :Except Nat Nat} {a:α} (h:StepF f s a s') (e:∀p,f p=g p):StepF g s a s' :=by
 have:f=g:=funext e
 rw [←this]
 exact h
structure RF (B r:Nat) (L:List UInt8) (T:TypeId) (c2:Array Value) (w:World) (wr:World) (s:Except Nat Nat) (c3:Array Value):Prop where
 rd:RS B wr r L s
 hB:B≤w.heap.size
 lt:r<w.heap.size
 gr:w.grownBy wr (some r)
 b2:wr.heap[w.heap.size]? =some (.cells c2 T (0,0))
 b3:wr.heap[w.heap.size+1]? =some (.cells c3 T (0,0))
section
variable {B r : Nat} {L : List UInt8} {T : TypeId} {c2 : Array Value} {w wr w' : World} {s s' : Except Nat Nat} {c3 : Array Value}
theorem RF.new (h:RS B w r L s) (hB:B≤w.heap.size):∃W,W=(w.alloc (.cells c2 T)).alloc (.cells c3 T)∧RF B r L T c2 w W s c3:=by
 have hlt:=h.lt
 have hb1:Below w.heap.size w (w.alloc (.cells c2 T)):=(Below.refl _ w).alloc (Nat.le_refl _) _
 have hb2:Below (w.alloc (.cells c2 T)).heap.size (w.alloc (.cells c2 T)) ((w.alloc (.cells c2 T)).alloc (.cells c3 T)):=(Below.refl _ _).alloc (Nat.le_refl _) _
 have hb:=Below.ext hb1 hb2
 refine ⟨_,rfl,h.ext hb,hB,hlt,⟨hb.os,hb.tape,hb.output,hb.size,fun i hi _=>hb.block i hi⟩,(hb2.block _ (by simp)).trans (heap_alloc_new _ _),?_⟩
 have:=heap_alloc_new (w.alloc (.cells c2 T)) (.cells c3 T)
 rwa [World.size_alloc] at this
theorem RF.sz (h:RF B r L T c2 w wr s c3):w.heap.size+2≤wr.heap.size:=(Array.getElem?_eq_some_iff.1 h.b3).1
theorem RF.call (h:RF B r L T c2 w wr s c3) (hR:RS B w' r L s') (hg:wr.grownBy w' (some r)):RF B r L T c2 w w' s' c3:=
 have hs:=h.sz
 have hl:=h.lt
 ⟨hR,h.hB,h.lt,bD h.gr hg,(hg.block _ (by omega) (by simp;omega)).trans h.b2,(hg.block _ (by omega) (by simp;omega)).trans h.b3⟩
theorem RF.set (h:RF B r L T c2 w wr s c3) (o:Nat) (v:Value):RF B r L T c2 w (wr.setCell ⟨w.heap.size+1,o,none⟩ v) s (c3.setIfInBounds o v):=
 have hs:=h.sz
 have hl:=h.lt
 have hB:=h.hB
 have hg:wr.grownBy (wr.setCell ⟨w.heap.size+1,o,none⟩ v) (some (w.heap.size+1)):=aO ⟨rfl,rfl,rfl,Nat.le_refl _,fun _ _ _=>rfl⟩
 ⟨h.rd.grown hg (fun m hm=>by cases hm;omega),h.hB,h.lt,⟨hg.os.trans h.gr.os,hg.tape.trans h.gr.tape,hg.output.trans h.gr.output,Nat.le_trans h.gr.size hg.size,fun i hi hne=>(hg.block i (Nat.lt_of_lt_of_le hi h.gr.size) (by simp;omega)).trans (h.gr.block i hi hne)⟩,
  (hg.block _ (by omega) (by simp)).trans h.b2,heap_setCell_same _ _ o _ _ _ h.b3⟩
theorem RF.end_ (h:RF B r L T c2 w wr s c3) (cs:Array Value):RS B (wr.setRow w.heap.size cs) r L s∧w.grownBy (wr.setRow w.heap.size cs) (some r):=
 have hs:=h.sz
 have hl:=h.lt
 have hB:=h.hB
 have hg:=aJ wr w.heap.size cs
 ⟨h.rd.grown hg (fun m hm=>by cases hm;omega),⟨hg.os.trans h.gr.os,hg.tape.trans h.gr.tape,hg.output.trans h.gr.output,Nat.le_trans h.gr.size hg.size,fun i hi hne=>(hg.block i (Nat.lt_of_lt_of_le hi h.gr.size) (by simp;omega)).trans (h.gr.block i hi hne)⟩⟩
theorem RF.cell (h:RF B r L T c2 w wr s c3) (o:Nat) {v:Value} (hv:c3[o]? =some v):wr.cell? ⟨w.heap.size+1,o,none⟩=some v:=by rw [cell_of_row _ _ _ _ _ _ h.b3];exact hv
theorem RF.frz (h:RF B r L T c2 w wr s c3) (o:Nat):wr.frozen? ⟨w.heap.size+1,o,none⟩=false:=frozen_of_row _ _ _ _ _ h.b3
end
end Go.Proofs.YtiblijmngokcgaaGreatDoor
namespace Go.Proofs.YtiblijmngokcgaaGreatDoor
open Go.RowKit
set_option maxRecDepth 100000
set_option linter.unusedVariables false
theorem StepF.ok_ {α:Type} {f:Nat→Except Nat (α×Nat)} {s:Except Nat Nat} {a:α} {q:Nat} (h:StepF f s a (.ok q)):sG s f= .ok (a,q):=by
 obtain ⟨h1,h2⟩:=h
 cases hx:sG s f with
 |error k=>rw [hx] at h1;cases h1
 |ok vq=>
  obtain ⟨b,q'⟩:=vq
  have:=h2 b q' hx
  subst this
  rw [hx] at h1
  cases h1
  rfl
structure RK (B r:Nat) (L:List UInt8) (w:World) (b4:Nat) (c4:Array Value) (b8:Nat) (T:TypeId) (wr:World) (s:Except Nat Nat) (c8:Array Value):Prop where
 rd:RS B wr r L s
 bl:Below w.heap.size w wr
 lo:w.heap.size≤r∧w.heap.size≤b4∧w.heap.size≤b8∧B≤b8
 ne:b4≠r∧b8≠r∧b4≠b8
 h4:wr.heap[b4]? =some (.cells c4 T (0,0))
 h8:wr.heap[b8]? =some (.cells c8 T (0,0))
section
variable {B r : Nat} {L : List UInt8} {T : TypeId} {b4 b8 : Nat} {c4 : Array Value} {w wr w' : World} {s s' : Except Nat Nat} {c8 : Array Value}
theorem RK.call (h:RK B r L w b4 c4 b8 T wr s c8) (hR:RS B w' r L s') (hg:wr.grownBy w' (some r)):RK B r L w b4 c4 b8 T w' s' c8:=
 ⟨hR,Below.grow h.bl hg h.lo.1,h.lo,h.ne,(hg.block _ (Array.getElem?_eq_some_iff.1 h.h4).1 (by simpa using h.ne.1)).trans h.h4,(hg.block _ (Array.getElem?_eq_some_iff.1 h.h8).1 (by simpa using h.ne.2.1)).trans h.h8⟩
theorem RK.ext (h:RK B r L w b4 c4 b8 T wr s c8) (hb:Below wr.heap.size wr w'):RK B r L w b4 c4 b8 T w' s c8:=
 ⟨h.rd.ext hb,Below.ext h.bl hb,h.lo,h.ne,(hb.block _ (Array.getElem?_eq_some_iff.1 h.h4).1).trans h.h4,(hb.block _ (Array.getElem?_eq_some_iff.1 h.h8).1).trans h.h8⟩
theorem RK.set (h:RK B r L w b4 c4 b8 T wr s c8) (o:Nat) (v:Value):RK B r L w b4 c4 b8 T (wr.setCell ⟨b8,o,none⟩ v) s (c8.setIfInBounds o v):=
 have hg:wr.grownBy (wr.setCell ⟨b8,o,none⟩ v) (some b8):=aO ⟨rfl,rfl,rfl,Nat.le_refl _,fun _ _ _=>rfl⟩
 ⟨h.rd.grown hg (fun m hm=>by cases hm;exact ⟨h.lo.2.2.2,h.ne.2.1⟩),Below.grow h.bl hg h.lo.2.2.1,h.lo,h.ne,(hg.block _ (Array.getElem?_eq_some_iff.1 h.h4).1 (by simpa using h.ne.2.2)).trans h.h4,heap_setCell_same _ _ o _ _ _ h.h8⟩
theorem RK.cell (h:RK B r L w b4 c4 b8 T wr s c8) (o:Nat) {v:Value} (hv:c8[o]? =some v):wr.cell? ⟨b8,o,none⟩=some v:=by rw [cell_of_row _ _ _ _ _ _ h.h8];exact hv
theorem RK.frz (h:RK B r L w b4 c4 b8 T wr s c8) (o:Nat):wr.frozen? ⟨b8,o,none⟩=false:=frozen_of_row _ _ _ _ _ h.h8
end
end Go.Proofs.YtiblijmngokcgaaGreatDoor
namespace Go.Proofs.YtiblijmngokcgaaGreatDoor
open Go.RowKit
set_option maxRecDepth 100000
set_option linter.unusedVariables false
structure RJ (B r:Nat) (L:List UInt8) (T:TypeId) (w:World) (wr:World) (s:Except Nat Nat) (c8:Array Value):Prop where
 rd:RS B wr r L s
 hB:B≤w.heap.size
 lt:r<w.heap.size
 gr:w.grownBy wr (some r)
 h8:wr.heap[w.heap.size]? =some (.cells c8 T (0,0))
section
variable {B r : Nat} {L : List UInt8} {T : TypeId} {w wr w' : World} {s s' : Except Nat Nat} {c8 : Array Value}
theorem RJ.new (c8:Array Value) (T:TypeId) (h:RS B w r L s) (hB:B≤w.heap.size):∃W,W=w.alloc (.cells c8 T)∧RJ B r L T w W s c8:=by
 have hlt:=h.lt
 have hb1:Below w.heap.size w (w.alloc (.cells c8 T)):=(Below.refl _ w).alloc (Nat.le_refl _) _
 exact ⟨_,rfl,h.ext hb1,hB,hlt,jF hb1 _,heap_alloc_new _ _⟩
theorem RJ.sz (h:RJ B r L T w wr s c8):w.heap.size+1≤wr.heap.size:=(Array.getElem?_eq_some_iff.1 h.h8).1
theorem RJ.call (h:RJ B r L T w wr s c8) (hR:RS B w' r L s') (hg:wr.grownBy w' (some r)):RJ B r L T w w' s' c8:=
 ⟨hR,h.hB,h.lt,bD h.gr hg,(hg.block _ (Array.getElem?_eq_some_iff.1 h.h8).1 (by have:=h.lt;simp;omega)).trans h.h8⟩
theorem RJ.set (h:RJ B r L T w wr s c8) (o:Nat) (v:Value):RJ B r L T w (wr.setCell ⟨w.heap.size,o,none⟩ v) s (c8.setIfInBounds o v):=
 have hg:wr.grownBy (wr.setCell ⟨w.heap.size,o,none⟩ v) (some w.heap.size):=aO ⟨rfl,rfl,rfl,Nat.le_refl _,fun _ _ _=>rfl⟩
 ⟨h.rd.grown hg (fun m hm=>by cases hm;have:=h.hB;have:=h.lt;omega),h.hB,h.lt,jE h.gr hg (fun b hb=> .inl (by cases hb;exact Nat.le_refl _)),heap_setCell_same _ _ o _ _ _ h.h8⟩
theorem RJ.cell (h:RJ B r L T w wr s c8) (o:Nat) {v:Value} (hv:c8[o]? =some v):wr.cell? ⟨w.heap.size,o,none⟩=some v:=by rw [cell_of_row _ _ _ _ _ _ h.h8];exact hv
theorem RJ.frz (h:RJ B r L T w wr s c8) (o:Nat):wr.frozen? ⟨w.heap.size,o,none⟩=false:=frozen_of_row _ _ _ _ _ h.h8
end
end Go.Proofs.YtiblijmngokcgaaGreatDoor
namespace Go.Proofs.YtiblijmngokcgaaGreatDoor
open Go.RowKit
set_option maxRecDepth 100000
set_option linter.unusedVariables false
def StV (S:Nat→Prop) (w:World) (v:Value) (s:Stt):Prop:=∃A1 c1 A2 c2 A3 c3 A4 c4,v= .agg #[.slice A1 s.cells.length c1,.slice A2 s.evs.length c2,.slice A3 s.sent.length c3,.slice A4 s.outs.length c4]∧Recs bJ S w (.slice A1 s.cells.length c1) s.cells∧Recs cQ S w (.slice A2 s.evs.length c2) s.evs∧Recs dK S w (.slice A3 s.sent.length c3) s.sent∧Recs dM S w (.slice A4 s.outs.length c4) s.outs
structure SK (L:List UInt8) (w:World) (b8 base:Nat) (cs:Array Value) (K:World→Prop) (wr:World) (s:Except Nat Nat):Prop where
 rk:RK (w.heap.size+1) (w.heap.size+1) L w w.heap.size #[Value.slice none 0 0,Value.slice none 0 0,Value.slice none 0 0,Value.slice none 0 0] b8 51 wr s cs
 rl:w.heap.size+1<b8
 lo:b8<base
 sz:base≤wr.heap.size
 kp:K wr
 hK:∀w1 w2,Keep (fun b=>b8<b∧b<base) w1 w2→K w1→K w2
section
variable {L : List UInt8} {w wr w' : World} {b8 base : Nat} {cs : Array Value} {K : World → Prop} {s s' : Except Nat Nat}
theorem SK.call (h:SK L w b8 base cs K wr s) (hR:RS (w.heap.size+1) w' (w.heap.size+1) L s') (hg:wr.grownBy w' (some (w.heap.size+1))):SK L w b8 base cs K w' s' :=
 ⟨h.rk.call hR hg,h.rl,h.lo,Nat.le_trans h.sz hg.size,h.hK _ _ (fun b hb hs=>hg.block b hb (fun e=>by have:=h.rl;cases e;omega)) h.kp,h.hK⟩
theorem SK.ext (h:SK L w b8 base cs K wr s) (hb:Below wr.heap.size wr w'):SK L w b8 base cs K w' s:=
 ⟨h.rk.ext hb,h.rl,h.lo,Nat.le_trans h.sz hb.size,h.hK _ _ (fun b hb' hs=>hb.block b hb') h.kp,h.hK⟩
theorem SK.grown {row:Option Nat} (h:SK L w b8 base cs K wr s) (hg:wr.grownBy w' row) (hr:∀m,row=some m→base≤m):SK L w b8 base cs K w' s:=
 have hlo:=h.lo
 have hrl:=h.rl
 ⟨⟨h.rk.rd.grown hg (fun m hm=>by have:=hr m hm;omega),h.rk.bl.grown hg (by have:=h.sz;omega) (fun m hm=>by have:=hr m hm;omega),h.rk.lo,h.rk.ne,(hg.block _ (Array.getElem?_eq_some_iff.1 h.rk.h4).1 (fun e=>by have:=hr _ e.symm;omega)).trans h.rk.h4,(hg.block _ (Array.getElem?_eq_some_iff.1 h.rk.h8).1 (fun e=>by have:=hr _ e.symm;omega)).trans h.rk.h8⟩,h.rl,h.lo,Nat.le_trans h.sz hg.size,h.hK _ _ (fun b hb hs=>hg.block b hb (fun e=>by have:=hr _ e.symm;omega)) h.kp,h.hK⟩
theorem SK.set (h:SK L w b8 base cs K wr s) (o:Nat) (v:Value):SK L w b8 base (cs.setIfInBounds o v) K (wr.setCell ⟨b8,o,none⟩ v) s:=
 have hg:wr.grownBy (wr.setCell ⟨b8,o,none⟩ v) (some b8):=aO ⟨rfl,rfl,rfl,Nat.le_refl _,fun _ _ _=>rfl⟩
 ⟨h.rk.set o v,h.rl,h.lo,Nat.le_trans h.sz hg.size,h.hK _ _ (fun b hb hs=>hg.block b hb (fun e=>by cases e;omega)) h.kp,h.hK⟩
end
end Go.Proofs.YtiblijmngokcgaaGreatDoor
