import Derived.Test.YtiblijmngokcgaaGreatDoorG15Zs
import Derived.Test.YtiblijmngokcgaaGreatDoorDrSZs
namespace Go.Proofs.YtiblijmngokcgaaGreatDoor
open Go.RowKit
set_option maxRecDepth 100000
set_option linter.unusedVariables false
set_option linter.unusedSimpArgs false
theorem oM (x:Ef):(pI x).length=3:=rfl
theorem CU (x:Ef):∀u∈pI x,u.oneCell' =true:=by
 intro u hu
 simp [pI] at hu
 rcases hu with h|h|h<;>subst h<;>rfl
theorem LH:(Tryz.prog.info? 257).map (fun i=>(i.zero,i.size,i.bytes))=some (some (.agg #[.int .i64 0,.int .i64 0,.int .i64 0]),3,24):=by kernel_rfl
structure RunM (w:World) (p base:Nat) (v:Env) (r:Rst) (Ac:Option Addr) (nc cc:Nat) (Al:Option Addr) (nl cl:Nat):Prop where
 row:w.heap[p]? =some (.cells #[.slice Ac nc cc,.slice Al nl cl,.int .i64 v.self,.int .i64 v.procs,.int .i64 v.frm,.int .i64 v.value,.int .i64 (r.used:Int)] 262 (0,0))
 cel:OwnR bJ 1 w base 3 (.slice Ac nc cc) r.cells
 eff:OwnR pI 3 w base 257 (.slice Al nl cl) r.l
 bp:base≤p
 pc:(Value.slice Ac nc cc).ownBlock≠some p
 pl:(Value.slice Al nl cl).ownBlock≠some p
 cl_:∀o,(Value.slice Ac nc cc).ownBlock=some o→(Value.slice Al nl cl).ownBlock≠some o
 n1:nc≤1000
 n2:nl≤8
 us:r.used≤400
 ci:∀z∈r.cells,InR z
 ei:∀e∈r.l,(e.kind=1∨e.kind=2)∧InR e.to∧InR e.value
 bw:base≤w.heap.size
def Frgn (F:Nat→Prop) (w:World) (p:Nat) (a b:Value):Prop:=∀q,F q→q<w.heap.size∧q≠p∧a.ownBlock≠some q∧b.ownBlock≠some q
def RunOk (w:World) (p base:Nat) (v:Env) (r:Rst) (F:Nat→Prop):Prop:=∃Ac nc cc Al nl cl,RunM w p base v r Ac nc cc Al nl cl∧Frgn F w p (.slice Ac nc cc) (.slice Al nl cl)
section
variable {w w' : World} {p base : Nat} {v : Env} {r : Rst} {Ac Al : Option Addr} {nc cc nl cl : Nat}
theorem RunM.ext (h:RunM w p base v r Ac nc cc Al nl cl) (hb:Below w.heap.size w w'):RunM w' p base v r Ac nc cc Al nl cl:=
 ⟨(hb.block p (Array.getElem?_eq_some_iff.1 h.row).1).trans h.row,h.cel.ext hb,h.eff.ext hb,h.bp,h.pc,h.pl,h.cl_,h.n1,h.n2,h.us,h.ci,h.ei,by have:=h.bw;have:=hb.size;omega⟩
theorem RunM.lt (h:RunM w p base v r Ac nc cc Al nl cl):p<w.heap.size:=(Array.getElem?_eq_some_iff.1 h.row).1
theorem RunM.len (h:RunM w p base v r Ac nc cc Al nl cl):r.cells.length=nc∧nc≤cc∧cc≤9223372036854775807:=h.cel.len
theorem RunM.len2 (h:RunM w p base v r Ac nc cc Al nl cl):r.l.length=nl∧nl≤cl∧cl≤9223372036854775807:=h.eff.len
theorem RunM.setUsed {r' :Rst} (h:RunM w p base v r Ac nc cc Al nl cl) (hg:w.grownBy w' (some p)) (hr:w'.heap[p]? =some (.cells #[.slice Ac nc cc,.slice Al nl cl,.int .i64 v.self,.int .i64 v.procs,.int .i64 v.frm,.int .i64 v.value,.int .i64 (r'.used:Int)] 262 (0,0))) (e1:r'.cells=r.cells) (e2:r'.l=r.l) (hu:r'.used≤400):RunM w' p base v r' Ac nc cc Al nl cl:=
 ⟨hr,by rw [e1];exact h.cel.kept hg (.inr h.pc),by rw [e2];exact h.eff.kept hg (.inr h.pl),h.bp,h.pc,h.pl,h.cl_,h.n1,h.n2,hu,by rw [e1];exact h.ci,by rw [e2];exact h.ei,by have:=h.bw;have:=hg.size;omega⟩
end
theorem Frgn.size {F:Nat→Prop} {w w' :World} {p:Nat} {a b:Value} (h:Frgn F w p a b) (hs:w.heap.size≤w'.heap.size):Frgn F w' p a b:=fun q hq=>⟨Nat.lt_of_lt_of_le (h q hq).1 hs,(h q hq).2⟩
theorem RunOk.ext {w w' :World} {p base:Nat} {v:Env} {r:Rst} {F:Nat→Prop} (h:RunOk w p base v r F) (hb:Below w.heap.size w w'):RunOk w' p base v r F:=by
 obtain ⟨a1,a2,a3,a4,a5,a6,hM,hF⟩:=h
 exact ⟨_,_,_,_,_,_,hM.ext hb,hF.size hb.size⟩
theorem OwnZ.set_ {w:World} {base g n c:Nat} {l:List Int} (h:OwnR bJ 1 w base 3 (.slice (some ⟨g,0,none⟩) n c) l) (j:Nat) (z:Int):OwnR bJ 1 (w.setCell ⟨g,j,none⟩ (.int .i64 z)) base 3 (.slice (some ⟨g,0,none⟩) n c) (l.set j z):=by
 have e:=h.len.1
 subst e
 have:=(World.ownsRow.stored h j (.int .i64 z)).1
 unfold OwnR
 rw [List.length_set]
 have hf:∀(l:List Int) (j:Nat),(l.set j z).flatMap bJ=(l.flatMap bJ).set j (.int .i64 z):=by
  intro l
  induction l with
  |nil=>intro j;rfl
  |cons a l ih=>
   intro j
   cases j with
   |zero=>rfl
   |succ j=>
    rw [List.set_cons_succ,List.flatMap_cons,List.flatMap_cons,ih j]
    rfl
 rw [hf]
 exact this
set_option maxHeartbeats 1000000 in
theorem xJ (w:World) (p base:Nat) (v:Env) (r:Rst) (F:Nat→Prop) (h:RunOk w p base v r F) (hu:r.used<400):Calls Tryz.prog 201 #[.pointer (some ⟨p,0,none⟩)] w fun e w' =>e= .returned (.bool true)∧RunOk w' p base v r.pay F∧Below base w w'∧Keep F w w' :=by
 obtain ⟨Ac,nc,cc,Al,nl,cl,hM,hF⟩:=h
 have R:=Lib.hid hM.row
 have q6:w.cell? ⟨p,6,none⟩=some (.int .i64 (r.used:Int)):=aA R.out 6 _ rfl
 have f6:w.frozen? ⟨p,6,none⟩=false:=frozen_of_row _ _ _ _ _ R.out
 have d:decide ((400:Int)≤(r.used:Int))=false:=by simp;omega
 have hM' :RunM (w.setCell ⟨p,6,none⟩ (.int .i64 ((r.used:Int)+1))) p base v r.pay Ac nc cc Al nl cl:=hM.setUsed (aO (bC _ _)) (heap_setCell_same _ _ _ _ _ _ R.out) rfl rfl (by show r.used+1≤400;omega)
 have hb:Below base w (w.setCell ⟨p,6,none⟩ (.int .i64 ((r.used:Int)+1))):=(Below.refl base w).setCell hM.bp _
 go_enter Tryz.func201,Tryz.ntmps201
 go_wp2
 go_ret
 exact ⟨rfl,⟨_,_,_,_,_,_,hM',hF.size hb.size⟩,hb,fun q hq h=>Below.heap_setCell _ _ _ q (hF q h).2.1⟩
theorem AW (w:World) (p base:Nat) (v:Env) (r:Rst) (F:Nat→Prop) (h:RunOk w p base v r F) (hu:400≤r.used):Calls Tryz.prog 201 #[.pointer (some ⟨p,0,none⟩)] w fun e w' =>e= .returned (.bool false)∧w' =w:=by
 obtain ⟨Ac,nc,cc,Al,nl,cl,hM,hF⟩:=h
 have R:=Lib.hid hM.row
 have q6:w.cell? ⟨p,6,none⟩=some (.int .i64 (r.used:Int)):=aA R.out 6 _ rfl
 have d:decide ((400:Int)≤(r.used:Int))=true:=by simp;omega
 go_enter Tryz.func201,Tryz.ntmps201
 go_wp2
 go_ret
 exact ⟨rfl,rfl⟩
end Go.Proofs.YtiblijmngokcgaaGreatDoor
