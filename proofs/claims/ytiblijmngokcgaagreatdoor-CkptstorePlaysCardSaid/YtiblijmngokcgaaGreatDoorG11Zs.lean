import Derived.Test.YtiblijmngokcgaaGreatDoorG09Zs
import Derived.Test.YtiblijmngokcgaaGreatDoorDrSZs
set_option linter.unusedVariables false
set_option linter.unusedSimpArgs false
set_option maxHeartbeats 8000000
set_option maxRecDepth 100000
namespace Go.Proofs.YtiblijmngokcgaaGreatDoor
open Go.Proofs.Tryz
open Go.RowKit
theorem sG (x:Ef):(tD x).length=3:=rfl
theorem JO (x:Ef):∀u∈tD x,u.oneCell' =true:=by
 intro u hu;simp [tD] at hu;rcases hu with h|h|h<;>subst h<;>rfl
theorem RU:(Tryz.prog.info? 257).map (λi=>(i.zero,i.size,i.bytes))=some (some (.agg #[.int .i64 0,.int .i64 0,.int .i64 0]),3,24):=by kernel_rfl
structure py (w:World) (p base:Nat) (v:Env) (r:ir) (Ac:Option Addr) (nc cc:Nat) (Al:Option Addr) (nl cl:Nat):Prop where
 row:w.heap[p]? =some (.cells #[.slice Ac nc cc,.slice Al nl cl,.int .i64 v.self,.int .i64 v.procs,.int .i64 v.frm,.int .i64 v.value,.int .i64 (r.used:Int)] 262 (0,0))
 cel:a8 bB 1 w base 3 (.slice Ac nc cc) r.cells
 eff:a8 tD 3 w base 257 (.slice Al nl cl) r.l
 bp:base<=p
 pc:(Value.slice Ac nc cc).ownBlock≠some p
 pl:(Value.slice Al nl cl).ownBlock≠some p
 cl_:∀o,(Value.slice Ac nc cc).ownBlock=some o->(Value.slice Al nl cl).ownBlock≠some o
 n1:nc<=1000
 n2:nl<=8
 us:r.used<=400
 ci:∀z∈r.cells,av z
 ei:∀e∈r.l,(e.kind=1∨e.kind=2)/\av e.to/\av e.value
 bw:base<=w.heap.size
def Ri (F:Nat->Prop) (w:World) (p:Nat) (a b:Value):Prop:=∀q,F q->q<w.heap.size/\q≠p/\a.ownBlock≠some q/\b.ownBlock≠some q
def ey (w:World) (p base:Nat) (v:Env) (r:ir) (F:Nat->Prop):Prop:=∃Ac nc cc Al nl cl,py w p base v r Ac nc cc Al nl cl/\Ri F w p (.slice Ac nc cc) (.slice Al nl cl)
section
variable {w w' : World} {p base : Nat} {v : Env} {r : ir} {Ac Al : Option Addr} {nc cc nl cl : Nat}
theorem py.ext (h:py w p base v r Ac nc cc Al nl cl) (hb:Below w.heap.size w w'):py w' p base v r Ac nc cc Al nl cl:=
 ⟨(hb.block p (Array.getElem?_eq_some_iff.1 h.row).1).trans h.row,h.cel.ext hb,h.eff.ext hb,h.bp,h.pc,h.pl,h.cl_,h.n1,h.n2,h.us,h.ci,h.ei,by have:=h.bw;have:=hb.size;omega⟩
theorem py.lt (h:py w p base v r Ac nc cc Al nl cl):p<w.heap.size:=(Array.getElem?_eq_some_iff.1 h.row).1
theorem py.len (h:py w p base v r Ac nc cc Al nl cl):r.cells.length=nc/\nc<=cc/\cc<=9223372036854775807:=h.cel.len
theorem py.len2 (h:py w p base v r Ac nc cc Al nl cl):r.l.length=nl/\nl<=cl/\cl<=9223372036854775807:=h.eff.len
theorem py.setUsed {r' :ir} (h:py w p base v r Ac nc cc Al nl cl) (hg:w.grownBy w' (some p)) (hr:w'.heap[p]? =some (.cells #[.slice Ac nc cc,.slice Al nl cl,.int .i64 v.self,.int .i64 v.procs,.int .i64 v.frm,.int .i64 v.value,.int .i64 (r'.used:Int)] 262 (0,0))) (e1:r'.cells=r.cells) (e2:r'.l=r.l) (hu:r'.used<=400):py w' p base v r' Ac nc cc Al nl cl:=
 ⟨hr,by rw [e1];exact h.cel.kept hg (.inr h.pc),by rw [e2];exact h.eff.kept hg (.inr h.pl),h.bp,h.pc,h.pl,h.cl_,h.n1,h.n2,hu,by rw [e1];exact h.ci,by rw [e2];exact h.ei,by have:=h.bw;have:=hg.size;omega⟩
end
theorem Ri.size {F:Nat->Prop} {w w' :World} {p:Nat} {a b:Value} (h:Ri F w p a b) (hs:w.heap.size<=w'.heap.size):Ri F w' p a b:=λq hq=>⟨Nat.lt_of_lt_of_le (h q hq).1 hs,(h q hq).2⟩
theorem ey.ext {w w' :World} {p base:Nat} {v:Env} {r:ir} {F:Nat->Prop} (h:ey w p base v r F) (hb:Below w.heap.size w w'):ey w' p base v r F:=by
 obtain ⟨a1,a2,a3,a4,a5,a6,hM,hF⟩:=h;exact ⟨_,_,_,_,_,_,hM.ext hb,hF.size hb.size⟩
theorem YF.set_ {w:World} {base g n c:Nat} {l:List Int} (h:a8 bB 1 w base 3 (.slice (some ⟨g,0,none⟩) n c) l) (j:Nat) (z:Int):a8 bB 1 (w.setCell ⟨g,j,none⟩ (.int .i64 z)) base 3 (.slice (some ⟨g,0,none⟩) n c) (l.set j z):=by
 have e:=h.len.1;subst e;have:=(World.ownsRow.stored h j (.int .i64 z)).1;unfold a8;rw [List.length_set];have hf:∀(l:List Int) (j:Nat),(l.set j z).flatMap bB=(l.flatMap bB).set j (.int .i64 z):=by
  intro l;induction l with
  |nil=>intro j;rfl
  |cons a l ih=>
   intro j;cases j with
   |zero=>rfl
   |succ j=>
    rw [List.set_cons_succ,List.flatMap_cons,List.flatMap_cons,ih j];rfl
 rw [hf];exact this
theorem DC (w:World) (p base:Nat) (v:Env) (r:ir) (F:Nat->Prop) (h:ey w p base v r F) (hu:r.used<400):Calls Tryz.prog 201 #[.pointer (some ⟨p,0,none⟩)] w λe w' =>e= .returned (.bool true)/\ey w' p base v r.pay F/\Below base w w'/\ae F w w' :=by
 obtain ⟨Ac,nc,cc,Al,nl,cl,hM,hF⟩:=h;have R:=aA hM.row;have q6:=Zk R.out;have f6:w.frozen? ⟨p,6,none⟩=false:=frozen_of_row _ _ _ _ _ R.out
 have d:decide ((400:Int)<=(r.used:Int))=false:=by simp;omega
 have hM' :py (w.setCell ⟨p,6,none⟩ (.int .i64 ((r.used:Int)+1))) p base v r.pay Ac nc cc Al nl cl:=hM.setUsed (aL (bC _ _)) (heap_setCell_same _ _ _ _ _ _ R.out) rfl rfl (by show r.used+1<=400;omega);have hb:Below base w (w.setCell ⟨p,6,none⟩ (.int .i64 ((r.used:Int)+1))):=(Below.refl base w).setCell hM.bp _;go_enter func201,ntmps201;go_wp2;go_ret;exact ⟨rfl,⟨_,_,_,_,_,_,hM',hF.size hb.size⟩,hb,λq hq h=>Below.heap_setCell _ _ _ q (hF q h).2.1⟩
theorem HD (w:World) (p base:Nat) (v:Env) (r:ir) (F:Nat->Prop) (h:ey w p base v r F) (hu:400<=r.used):Calls Tryz.prog 201 #[.pointer (some ⟨p,0,none⟩)] w λe w' =>e= .returned (.bool false)/\w' =w:=by
 obtain ⟨Ac,nc,cc,Al,nl,cl,hM,hF⟩:=h;have R:=aA hM.row;have q6:=Zk R.out;have d:decide ((400:Int)<=(r.used:Int))=true:=by simp;omega
 go_enter func201,ntmps201;go_wp2;go_ret;exact ⟨rfl,rfl⟩
end Go.Proofs.YtiblijmngokcgaaGreatDoor
namespace Go.Proofs.YtiblijmngokcgaaGreatDoor
open Go.Proofs.Tryz
open Go.RowKit
theorem DR (w:World):(isAgg 253).run Tryz.prog w= .ok false w:=by simp [isAgg,run_underlying underlying253]
theorem RN {w:World} {p:Nat} {v:Env} {c0 c1 c6:Value} (h:w.heap[p]? =some (.cells #[c0,c1,.int .i64 v.self,.int .i64 v.procs,.int .i64 v.frm,.int .i64 v.value,c6] 262 (0,0))):(loadVar 208 ⟨p,2,none⟩).run Tryz.prog w= .ok (.agg #[.int .i64 v.self,.int .i64 v.procs,.int .i64 v.frm,.int .i64 v.value]) w:=by
 have:=run_loadVar_mid (P:=Tryz.prog) w p 2 208 [.int .i64 v.self,.int .i64 v.procs,.int .i64 v.frm,.int .i64 v.value] _ (World.rangeAt_of_block h 2 4) underlying208 rfl (by kernel_rfl);simpa using this
theorem nG (w:World) (p base:Nat) (v:Env) (r:ir) (F:Nat->Prop) (h:ey w p base v r F) (x:zc) (t:Ex) (S:Nat->Prop) (hx:ab 3 S w x t) (ht:Jt 3 t) (hv:qo v):
 Calls Tryz.prog 202 #[.pointer (some ⟨p,0,none⟩),.agg #[.int .i64 x.op,.int .i64 x.val,.string x.name,.int .i64 x.slot,.int .i64 x.size,.slice x.A x.n x.c]] w λe w' =>e= .returned (.int .i64 (uy r v t))/\Below w.heap.size w w' :=by
 obtain ⟨Ac,nc,cc,Al,nl,cl,hM,hF⟩:=h;have jd:=hM.lt;obtain ⟨W,hW,bW,kW,SW,R0⟩:=bX w w #[.int .i64 x.op,.int .i64 x.val,.string x.name,.int .i64 x.slot,.int .i64 x.size,.slice x.A x.n x.c] 244 (Below.refl _ _);have ff:w.heap.size<W.heap.size:=by have:=SW.out;omega
 have HM:=aA (λw' (hw:Below W.heap.size W w')=>(hM.ext bW).ext hw);have hpW:p<W.heap.size:=by omega
 have wy:=wT 3 x t S _ W.drew Ac nc cc r.cells v (ab.keep (ae.of_below (Below.ext bW (Below.refl _ W).drew)) _ _ _ hx) ht (((hM.cel.ext bW).ext (Below.refl _ W).drew).recs) hM.n1 hM.ci hv;have Ql:=aA wy;clear wy hM hx;go_enter func202,ntmps202;go_upto_region 1 with fail;try rw [<-hW]
 clear hW;go_wp2_with fail;refine Tyag ?_;refine TkA ?_;refine bZ (⟨w.heap.size,0,none⟩) (.agg #[.int .i64 x.op,.int .i64 x.val,.string x.name,.int .i64 x.slot,.int .i64 x.size,.slice x.A x.n x.c]) rfl rfl rfl (λw' ah =>cT ((ah.block w.heap.size ff).trans R0.out) underlying244 rfl (by kernel_rfl)) ?_;refine Tyac ?_;refine Tybj ?_;refine Tyac ?_;refine lL (λw' ah =>RN (HM.out w' ah).row) ?_;refine Tyai ?_;go_wp2_with fail;refine Ql.out.mono ?_;rintro e w2 ⟨rfl,ar⟩;have y2:=Below.ext (Below.refl _ W).drew ar;go_wp2_with fail;refine aD (y2) ?_;refine Tyan ?_;go_wp2_with fail;go_ret;exact ⟨rfl,Below.ext bW y2⟩
theorem vK (w:World) (p base:Nat) (v:Env) (r:ir) (F:Nat->Prop) (h:ey w p base v r F) (x:Ef) (hx:(x.kind=1∨x.kind=2)/\av x.to/\av x.value):
 Calls Tryz.prog 206 #[.pointer (some ⟨p,0,none⟩),.agg #[.int .i64 x.kind,.int .i64 x.to,.int .i64 x.value]] w λe w' =>e= .returned (.tuple #[])/\ey w' p base v (r.eff x) F/\Below base w w'/\ae F w w' :=by
 obtain ⟨Ac,nc,cc,Al,nl,cl,hM,hF⟩:=h;have jd:=hM.lt;have qy:=hM.bw;have oc:=aA hM.len2.1;have dd:=hM.len2.2;have S0:=hM.n2;obtain ⟨W,hW,bW,kW,SW,R0⟩:=bX w w #[.int .i64 x.kind,.int .i64 x.to,.int .i64 x.value] 257 (Below.refl _ _);have ff:w.heap.size<W.heap.size:=by have:=SW.out;omega
 have wm:=hM.ext bW;have RW0:=aA wm.row;have q1:=fi RW0.out;by_cases h8:nl<8
 ·have d8:decide ((nl:Int)<8)=true:=by simp;omega
  have hef:r.eff x={r with l:=r.l++ [x]}:=by unfold ir.eff;rw [if_pos (by rw [oc.out];exact h8)]
  rw [hef];clear hef;go_enter func206,ntmps206;go_upto_region 1 with fail;try rw [<-hW]
  clear hW;go_upto_region 2 with fail;go_wp2_with fail;refine fH (λw' =>w'.heap[p]? =some (.cells #[.slice Ac nc cc,.slice Al nl cl,.int .i64 v.self,.int .i64 v.procs,.int .i64 v.frm,.int .i64 v.value,.int .i64 (r.used:Int)] 262 (0,0))/\w'.heap[w.heap.size]? =some (.cells #[.int .i64 x.kind,.int .i64 x.to,.int .i64 x.value] 257 (0,0))) 8 (by kernel_rfl) (by kernel_rfl) (by kernel_rfl) (by decide) ⟨RW0.out,R0.out⟩ ?_;refine Tyau ?_;refine TkA ?_;refine lL (λw' ah =>aB (DR _) (fi ah.1)) ?_;refine Tyac ?_;refine lL (λw' ah =>lB (t:=257) ah.2) ?_;refine Tyai ?_;go_wp2_with fail;have ha:Below W.heap.size W.drew (W.drew.alloc (.cells #[.int .i64 x.kind,.int .i64 x.to,.int .i64 x.value] 257)):=(Below.refl _ W.drew).alloc (Nat.le_refl _) _;have N5 :Below W.heap.size W (W.drew.alloc (.cells #[.int .i64 x.kind,.int .i64 x.to,.int .i64 x.value] 257)):=(Below.refl _ W).drew.trans ha;have E0:=wm.ext N5;have RA:=aA E0.row;have ax:a7 tD (λ_=>True) (W.drew.alloc (.cells #[.int .i64 x.kind,.int .i64 x.to,.int .i64 x.value] 257)) (.slice (some ⟨W.drew.heap.size,0,none⟩) 1 1) [x]:=⟨_,1,rfl,by simp,by simp [maxLen],Cs.lit _ _ _ _ _ trivial rfl⟩
  have o5:=E0.bw;have hL:=oc.out;have RB:=bT N5 R0 ff;refine aD ⟨RA.out,RB.out⟩ ?_;refine Tyah ?_;refine aJ sG JO (.agg #[.int .i64 0,.int .i64 0,.int .i64 0]) 24 _ _ 253 257 base r.l [x] (some ⟨W.drew.heap.size,0,none⟩) 1 1 (.slice Al nl cl) (nl+1) rfl rfl underlying253 RU rfl (by omega) rfl rfl E0.eff ax (by rw [oc.out]) (by rw [oc.out];omega) (by rw [oc.out];omega) o5 ?_;intro A9 c9 w9 ao ai ck gq gp;have ry:∀b,(Value.slice Al nl cl).ownBlock=some b->base<=b:=λb e=>(World.ownsRow.lt E0.eff _ e).1
  have hs9:=ai.size;have Gn:=E0.lt;have gf:base<=w9.heap.size:=Nat.le_trans o5 hs9;have Xr :∀b,(Value.slice Al nl cl).ownBlock=some b->b<w.heap.size:=λb e=>(World.ownsRow.lt hM.eff _ e).2
  have Wv:=aA ((ai.block w.heap.size (Nat.lt_of_lt_of_le ff N5.size) (λe=>Nat.lt_irrefl _ (Xr _ e.symm))).trans RB.out);have VD:=(ai.block p Gn (λe=>E0.pl e.symm)).trans RA.out;have q9:w9.cell? ⟨p,1,none⟩=some (.slice Al nl cl):=aM VD 1 _ rfl
  have f9:w9.frozen? ⟨p,1,none⟩=false:=frozen_of_row _ _ _ _ _ VD
  obtain ⟨kc,jb⟩:=eX (w9.setCell ⟨p,1,none⟩ (.slice A9 (nl+1) c9));have gS:w9.grownBy kc (some p):=by rw [jb];exact aL (bC _ _)
  have hr10:kc.heap[p]? =some (.cells #[.slice Ac nc cc,.slice A9 (nl+1) c9,.int .i64 v.self,.int .i64 v.procs,.int .i64 v.frm,.int .i64 v.value,.int .i64 (r.used:Int)] 262 (0,0)):=by rw [jb];exact heap_setCell_same _ _ _ _ _ _ VD
  have hp9:(Value.slice A9 (nl+1) c9).ownBlock≠some p:=by
   rcases ck with e|e
   ·rw [e];exact E0.pl
   ·rw [e];intro e2;cases e2;exact Nat.lt_irrefl _ Gn
  have Ko:a8 bB 1 w9 base 3 (.slice Ac nc cc) r.cells:=E0.cel.kept ai (by
   rcases Option.eq_none_or_eq_some (Value.slice Ac nc cc).ownBlock with h0|⟨b,h0⟩
   ·exact .inl h0
   ·refine .inr (λe=> ?_);rw [h0] at e;exact E0.cl_ b h0 e.symm)
  have hcl9:∀o,(Value.slice Ac nc cc).ownBlock=some o->(Value.slice A9 (nl+1) c9).ownBlock≠some o:=λo ho=>by
   rcases ck with e|e
   ·rw [e];exact E0.cl_ o ho
   ·rw [e];intro e2;cases e2;exact Nat.lt_irrefl _ (World.ownsRow.lt E0.cel _ ho).2
  have a9:py kc p base v {r with l:=r.l++ [x]} Ac nc cc A9 (nl+1) c9:=⟨hr10,Ko.kept gS (.inr E0.pc),ao.kept gS (.inr hp9),E0.bp,E0.pc,hp9,hcl9,E0.n1,by omega,E0.us,E0.ci,λe he=>by
   rcases List.mem_append.1 he with h|h
   ·exact E0.ei e h
   ·rw [List.mem_singleton] at h;subst h;exact hx,Nat.le_trans gf gS.size⟩
  have Jk:Below base w kc:=(((bW.mono qy).trans (N5.mono wm.bw)).grown ai o5 ry).trans ((Below.refl base w9).grown gS gf (λk hk=>by cases hk;exact E0.bp));have z0:w.heap.size<(W.drew.alloc (.cells #[.int .i64 x.kind,.int .i64 x.to,.int .i64 x.value] 257)).heap.size:=Nat.lt_of_lt_of_le ff N5.size;have z9:w.heap.size<=w9.heap.size:=Nat.le_trans (Nat.le_of_lt z0) hs9;have zA:W.drew.heap.size=W.heap.size:=rfl
  have hFf:Ri F kc p (.slice Ac nc cc) (.slice A9 (nl+1) c9):=λq hq=>⟨Nat.lt_of_lt_of_le (hF q hq).1 (Nat.le_trans z9 gS.size),(hF q hq).2.1,(hF q hq).2.2.1,by
   rcases ck with e|e
   ·rw [e];exact (hF q hq).2.2.2
   ·rw [e];intro e2;cases e2;exact Nat.lt_irrefl _ (Nat.lt_trans (hF _ hq).1 z0)⟩
  have hKf:ae F w kc:=λq hq h=>(gS.block q (Nat.lt_of_lt_of_le hq z9) (by have:=(hF q h).2.1;simp;omega)).trans ((ai.block q (Nat.lt_trans hq z0) (λe=>(hF q h).2.2.2 e.symm)).trans ((N5.block q (Nat.lt_trans hq ff)).trans (bW.block q hq)))
  have HFF:=aA hFf;have WB:=aA hKf;clear hFf hKf;have n8:=aA a9;have HBF:=aA Jk;have HR9:=aA VD;clear a9 Jk Ko hcl9 hp9 hr10 VD ao ai ck ax E0 RA gS;go_wp2_with fail;refine aD ⟨HR9.out,Wv.out⟩ ?_;refine aP ?_;go_wp2_with fail;rw [<-jb,gI];clear jb q9 f9;go_wp2;go_end0;exact ⟨rfl,⟨_,_,_,_,_,_,n8.out,HFF.out⟩,HBF.out,WB.out⟩
 ·have d8:decide ((nl:Int)<8)=false:=by simp;omega
  have hef:r.eff x=r:=by unfold ir.eff;rw [if_neg (by rw [oc.out];exact h8)]
  rw [hef];clear hef;go_enter func206,ntmps206;go_upto_region 1 with fail;try rw [<-hW]
  clear hW;go_wp2;go_end0;exact ⟨rfl,⟨_,_,_,_,_,_,wm,hF.size bW.size⟩,bW.mono qy,ae.of_below bW⟩
theorem YF.frozen {w:World} {base g n c:Nat} {l:List Int} (h:a8 bB 1 w base 3 (.slice (some ⟨g,0,none⟩) n c) l) (j:Nat):w.frozen? ⟨g,j,none⟩=false:=by
 have e:=h.len.1;subst e;exact World.ownsRow.frozenAt h j
theorem GX {slot size index:Int} {cells:List Int} (h:0<=eL slot size index cells):eL slot size index cells<cells.length:=by
 unfold eL at*;split at h
 ·rename_i hc;rw [if_pos hc];exact hc.2.2
 ·omega
theorem py.put {w:World} {p base:Nat} {v:Env} {r:ir} {g nc cc nl cl:Nat} {Al:Option Addr} (h:py w p base v r (some ⟨g,0,none⟩) nc cc Al nl cl) (j:Nat) (z:Int) (hz:av z):
 py (w.setCell ⟨g,j,none⟩ (.int .i64 z)) p base v {r with cells:=r.cells.set j z} (some ⟨g,0,none⟩) nc cc Al nl cl/\Below base w (w.setCell ⟨g,j,none⟩ (.int .i64 z))/\g≠p:=by
 have hgp:g≠p:=λe=>h.pc (by rw [e];rfl)
 have Km:=(World.ownsRow.lt h.cel g rfl).1;have hg:w.grownBy (w.setCell ⟨g,j,none⟩ (.int .i64 z)) (some g):=aL (bC _ _);refine ⟨⟨(hg.block p h.lt (by simp;omega)).trans h.row,YF.set_ h.cel j z,h.eff.kept hg (.inr (h.cl_ g rfl)),h.bp,h.pc,h.pl,h.cl_,h.n1,h.n2,h.us,λy hy=> ?_,h.ei,by have:=h.bw;have:=hg.size;omega⟩,(Below.refl base w).setCell Km _,hgp⟩;rcases List.mem_or_eq_of_mem_set hy with h1|h1
 ·exact h.ci y h1
 ·rw [h1];exact hz
theorem cS {w:World} {b o:Nat} {C:Array Value} {T:TypeId} {y:zc} (h:w.heap[b]? =some (.cells C T (0,0))) (hc:(C.toList.drop o).take 6=fE y):(loadVar 244 ⟨b,o,none⟩).run Tryz.prog w= .ok (.agg #[.int .i64 y.op,.int .i64 y.val,.string y.name,.int .i64 y.slot,.int .i64 y.size,.slice y.A y.n y.c]) w:=by
 have:=run_loadVar_mid (P:=Tryz.prog) w b o 244 (fE y) _ (λj v hv=>by
  rw [cell_of_row _ _ _ _ _ _ h];have hj:j<6:=by have:=(List.getElem?_eq_some_iff.1 hv).1;simpa [fE] using this
  rw [<-hc,List.getElem?_take,if_pos hj,List.getElem?_drop] at hv;simpa using hv) underlying244 rfl (by kernel_rfl)
 exact this
theorem cL (w:World) (g j:Nat) (u:Value) {b:Nat} (h:b≠g):(w.setCell ⟨g,j,none⟩ u).heap[b]? =w.heap[b]? :=Below.heap_setCell w ⟨g,j,none⟩ u b h
theorem QT {v:Env} {r:ir} {kind:Int} {name:ByteArray} {slot size:Int} {p e:Ex} {body j0:List Sm} (h:kind=1):pH v r (.mk kind name slot size p e body j0)=if 0<=slot/\slot<r.cells.length then {r with cells:=r.cells.set slot.toNat (uy r v e)} else r:=by
 subst h;rfl
theorem QS {v:Env} {r:ir} {kind:Int} {name:ByteArray} {slot size:Int} {p e:Ex} {body j0:List Sm} (h:kind=2):pH v r (.mk kind name slot size p e body j0)=if 0<=eL slot size (uy r v p) r.cells then {r with cells:=r.cells.set (eL slot size (uy r v p) r.cells).toNat (uy r v e)} else r:=by
 subst h;rfl
theorem QR {v:Env} {r:ir} {kind:Int} {name:ByteArray} {slot size:Int} {p e:Ex} {body j0:List Sm} (h:kind=5):pH v r (.mk kind name slot size p e body j0)=if 0<=uy r v p/\uy r v p<v.procs/\uy r v p≠v.self then r.eff ⟨1,uy r v p,uy r v e⟩ else r:=by
 subst h;rfl
theorem QQ {v:Env} {r:ir} {kind:Int} {name:ByteArray} {slot size:Int} {p e:Ex} {body j0:List Sm} (h:kind=6):pH v r (.mk kind name slot size p e body j0)=r.eff ⟨2,0,uy r v e⟩:=by
 subst h;rfl
theorem DY (w:World) (p base:Nat) (v:Env) (r:ir) (F:Nat->Prop) (h:ey w p base v r F) (hv:qo v) (x:Kw) (pl vl:Ex) (body j0:List Sm) (hk:x.kind=1∨x.kind=2∨x.kind=5∨x.kind=6) (hs:0<=x.slot/\x.slot<=1000) (hz:0<=x.size/\x.size<=1000) (S:Nat->Prop) (hp:ab 3 S w x.p pl) (qi:ab 3 S w x.v vl) (rp:Jt 3 pl) (rv:Jt 3 vl):
 Calls Tryz.prog 203 #[.pointer (some ⟨p,0,none⟩),.agg #[.int .i64 x.kind,.string x.name,.int .i64 x.slot,.int .i64 x.size,.int .i64 x.p.op,.int .i64 x.p.val,.string x.p.name,.int .i64 x.p.slot,.int .i64 x.p.size,.slice x.p.A x.p.n x.p.c,.int .i64 x.v.op,.int .i64 x.v.val,.string x.v.name,.int .i64 x.v.slot,.int .i64 x.v.size,.slice x.v.A x.v.n x.v.c,.slice x.A x.n x.c,.slice x.B x.m x.d]] w λe w' =>e= .returned (.tuple #[])/\ey w' p base v (pH v r (.mk x.kind x.name x.slot x.size pl vl body j0)) F/\Below base w w'/\ae F w w' :=by
 obtain ⟨Ac,nc,cc,Al,nl,cl,hM,hF⟩:=h;have jd:=hM.lt;have qy:=hM.bw;have Qy:=aA hM.len.1;have Jb:=hM.len.2;have Ct:=hM.n1;obtain ⟨W,hW,bW,kW,SW,R0⟩:=bX w w #[.int .i64 x.kind,.string x.name,.int .i64 x.slot,.int .i64 x.size,.int .i64 x.p.op,.int .i64 x.p.val,.string x.p.name,.int .i64 x.p.slot,.int .i64 x.p.size,.slice x.p.A x.p.n x.p.c,.int .i64 x.v.op,.int .i64 x.v.val,.string x.v.name,.int .i64 x.v.slot,.int .i64 x.v.size,.slice x.v.A x.v.n x.v.c,.slice x.A x.n x.c,.slice x.B x.m x.d] 246 (Below.refl _ _);have ff:w.heap.size<W.heap.size:=by have:=SW.out;omega
 have hpW:p<W.heap.size:=by omega
 have HM:=aA (λw' (hw:Below W.heap.size W w')=>(hM.ext bW).ext hw);have Tb:=aA (λw' (hw:Below W.heap.size W w')=>(hw.block w.heap.size ff).trans R0.out);have YQ:=aA (λw' (hw:Below W.heap.size W w')=>(show ey w' p base v r F from ⟨_,_,_,_,_,_,HM.out w' hw,(hF.size bW.size).size hw.size⟩));have WB:=aA (λw' (hw:Below W.heap.size W w')=>(show ae F w w' from λq hq h=>(hw.block q (by have:=bW.size;omega)).trans (bW.block q hq)));have HVP:=aA (λw' (hw:Below W.heap.size W w')=>nG w' p base v r F (YQ.out w' hw) x.p pl S (ab.keep (ae.of_below (Below.ext bW hw)) _ _ _ hp) rp hv);have rb:=aA (λw' (hw:Below W.heap.size W w')=>nG w' p base v r F (YQ.out w' hw) x.v vl S (ab.keep (ae.of_below (Below.ext bW hw)) _ _ _ qi) rv hv);have ivp:av (uy r v pl):=pT hM.ci hv 3 pl rp;have ivv:av (uy r v vl):=pT hM.ci hv 3 vl rv;have q0:=bn R0.out;have Jm:=Below.refl W.heap.size W;obtain ⟨pv,hpv⟩:=eX (uy r v pl);obtain ⟨vv,qs⟩:=eX (uy r v vl);rw [<-hpv] at HVP ivp;rw [<-qs] at rb ivv;have HPV:=aA hpv;have Vb :=aA qs;have HMr:=aA hM;clear hp qi rp rv hpv qs hM;by_cases k1:x.kind=1
 ·have d1:(x.kind==1)=true:=by simpa using k1
  have ds:decide ((0:Int)<=x.slot)=true:=by simp;omega
  rw [QT k1];clear k1;by_cases af:x.slot<nc
  ·have dl:decide (x.slot<(nc:Int))=true:=by simpa using af
   obtain ⟨j,hj⟩:∃j:Nat,x.slot=(j:Int):=⟨x.slot.toNat,by omega⟩
   have VP:j<nc:=by omega
   obtain ⟨g,rfl,fj,da⟩:=HMr.out.cel.some_ (by have:=Qy.out;omega);rw [if_pos ⟨hs.1,by have:=Qy.out;omega⟩];have HJ:=aA hj;have Zs:x.slot.toNat=j:=by omega
   rw [Zs,Vb.out.symm];clear hj Zs;go_enter func203,ntmps203;go_upto_region 1 with fail;try rw [<-hW]
   clear hW;go_wp2_with fail;refine Tyat ?_;refine lL (λw' ah =>aB (aW _) (gn (Tb.out w' ah))) ?_;refine Tyac ?_;refine bZ (⟨p,0,none⟩) (.slice (some ⟨g,0,none⟩) nc cc) rfl rfl rfl (λw' ah =>aB (eQ _) (aM (HM.out w' ah).row 0 _ rfl)) ?_;refine Tyac ?_;refine aP ?_;go_wp2_with fail;go_wp2_with fail;refine aH ((λw' =>w'.heap[p]? =some (.cells #[.slice (some ⟨g,0,none⟩) nc cc,.slice Al nl cl,.int .i64 v.self,.int .i64 v.procs,.int .i64 v.frm,.int .i64 v.value,.int .i64 (r.used:Int)] 262 (0,0))/\w'.heap[w.heap.size]? =some (.cells #[.int .i64 x.kind,.string x.name,.int .i64 x.slot,.int .i64 x.size,.int .i64 x.p.op,.int .i64 x.p.val,.string x.p.name,.int .i64 x.p.slot,.int .i64 x.p.size,.slice x.p.A x.p.n x.p.c,.int .i64 x.v.op,.int .i64 x.v.val,.string x.v.name,.int .i64 x.v.slot,.int .i64 x.v.size,.slice x.v.A x.v.n x.v.c,.slice x.A x.n x.c,.slice x.B x.m x.d] 246 (0,0)))) (by kernel_rfl) (by kernel_rfl) (⟨(HM.out _ Jm.drew.drew).row,Tb.out _ Jm.drew.drew⟩) ?_;refine TkA ?_;refine lL (λw' ah =>aB (eQ _) (bn ah.1)) ?_;refine Tyac ?_;refine bZ (⟨w.heap.size,2,none⟩) (.int .i64 (j:Int)) rfl rfl rfl (λw' ah =>aB (aW _) (by rw [<-HJ.out];exact aM ah.2 2 _ rfl)) ?_;refine Tybc ?_;go_wp2_with fail;refine (rb.out _ Jm.drew.drew).mono ?_;rintro e w2 ⟨rfl,ar⟩;have y2:=Below.ext Jm.drew.drew ar;exact Tza7
  ·have dl:decide (x.slot<(nc:Int))=false:=by simpa using af
   rw [if_neg (by have:=Qy.out;omega)];go_enter func203,ntmps203;go_upto_region 1 with fail;try rw [<-hW]
   clear hW;go_wp2_with fail;refine Tyat ?_;refine lL (λw' ah =>aB (aW _) (gn (Tb.out w' ah))) ?_;refine Tyac ?_;refine Tybj ?_;refine Tyac ?_;refine aP ?_;go_wp2_with fail;go_end0;exact ⟨rfl,YQ.out _ Jm.drew,(bW.mono qy).drew,WB.out _ Jm.drew⟩
 have e1:(x.kind==1)=false:=by simpa using k1
 by_cases k2:x.kind=2
 ·have d2:(x.kind==2)=true:=by simpa using k2
  rw [QS k2,<-HPV.out,<-Vb.out];clear k2 k1 hk;obtain ⟨nn,tz⟩:=eX (eL x.slot x.size pv r.cells);rw [<-tz];have Ee:=λ(w' :World)=>xE Ac nc cc r.cells x.slot x.size pv w' Qy.out Ct hs hz ivp
  rw [<-tz] at Ee;have Dl:=aA Ee;have Xq:0<=nn->nn<nc:=λh=>by have:=GX (tz▸h);rw [<-tz,Qy.out] at this;exact this
  clear Ee tz;by_cases Ci:0<=nn
  ·have dg:decide ((0:Int)<=nn)=true:=by simpa using Ci
   obtain ⟨j,rfl⟩:∃j:Nat,nn=(j:Int):=⟨nn.toNat,by omega⟩
   have VP:j<nc:=by have:=Xq Ci;omega
   obtain ⟨g,rfl,fj,da⟩:=HMr.out.cel.some_ (by have:=Qy.out;omega);rw [if_pos Ci,show ((j:Int)).toNat=j from rfl];clear Xq Ci;go_enter func203,ntmps203;go_upto_region 1 with fail;try rw [<-hW]
   clear hW;go_upto_region 6 with fail;go_wp2_with fail;refine Tya2 ?_;go_wp2_with fail;refine (HVP.out _ Jm.drew).mono ?_;rintro e w5 ⟨rfl,gu⟩;have y5:=Below.ext Jm.drew gu;go_wp2_with fail;refine aD (y5) ?_;refine TkA ?_;refine bZ (⟨p,0,none⟩) (.slice (some ⟨g,0,none⟩) nc cc) rfl rfl rfl (λw' ah =>aB (eQ _) (aM (HM.out w' ah).row 0 _ rfl)) ?_;refine Tyai ?_;go_wp2_with fail;refine (Dl.out w5).mono ?_;rintro e w6 ⟨rfl,rfl⟩;go_wp2_with fail;refine aD (y5) ?_;refine Tyan ?_;go_wp2_with fail;go_upto_region 8 with fail;go_wp2_with fail;refine aH ((λw' =>w'.heap[p]? =some (.cells #[.slice (some ⟨g,0,none⟩) nc cc,.slice Al nl cl,.int .i64 v.self,.int .i64 v.procs,.int .i64 v.frm,.int .i64 v.value,.int .i64 (r.used:Int)] 262 (0,0))/\w'.heap[w.heap.size]? =some (.cells #[.int .i64 x.kind,.string x.name,.int .i64 x.slot,.int .i64 x.size,.int .i64 x.p.op,.int .i64 x.p.val,.string x.p.name,.int .i64 x.p.slot,.int .i64 x.p.size,.slice x.p.A x.p.n x.p.c,.int .i64 x.v.op,.int .i64 x.v.val,.string x.v.name,.int .i64 x.v.slot,.int .i64 x.v.size,.slice x.v.A x.v.n x.v.c,.slice x.A x.n x.c,.slice x.B x.m x.d] 246 (0,0)))) (by kernel_rfl) (by kernel_rfl) (⟨(HM.out _ y5.drew).row,Tb.out _ y5.drew⟩) ?_;refine TkA ?_;refine lL (λw' ah =>aB (eQ _) (bn ah.1)) ?_;refine Tybc ?_;go_wp2_with fail;refine (rb.out _ y5.drew).mono ?_;rintro e w2 ⟨rfl,ar⟩;have y2:=Below.ext y5.drew ar;exact Tza7
  ·have dg:decide ((0:Int)<=nn)=false:=by simpa using Ci
   rw [if_neg Ci];clear Xq Ci;go_enter func203,ntmps203;go_upto_region 1 with fail;try rw [<-hW]
   clear hW;go_upto_region 6 with fail;go_wp2_with fail;refine Tya2 ?_;go_wp2_with fail;refine (HVP.out _ Jm.drew).mono ?_;rintro e w5 ⟨rfl,gu⟩;have y5:=Below.ext Jm.drew gu;go_wp2_with fail;refine aD (y5) ?_;refine TkA ?_;refine Tybj ?_;refine Tyai ?_;go_wp2_with fail;refine (Dl.out w5).mono ?_;rintro e w6 ⟨rfl,rfl⟩;go_wp2_with fail;refine aD (y5) ?_;refine Tyan ?_;go_wp2_with fail;go_wp2;go_end0;exact ⟨rfl,YQ.out _ y5,(bW.mono qy).trans (y5.mono (by have:=bW.size;omega)),WB.out _ y5⟩
 have e2:(x.kind==2)=false:=by simpa using k2
 by_cases k5:x.kind=5
 ·have d5:(x.kind==5)=true:=by simpa using k5
  rw [QR k5,<-HPV.out,<-Vb.out];obtain ⟨rr,tv⟩:=eX ((if 0<=pv/\pv<v.procs/\pv≠v.self then r.eff ⟨1,pv,vv⟩ else r));rw [<-tv];have Ax:=aA tv;clear k5 k2 k1 hk tv;go_enter func203,ntmps203;go_upto_region 1 with fail;try rw [<-hW]
  clear hW;go_upto_region 10 with fail;go_wp2_with (refine aK (t:=244) (A:=⟨w.heap.size,4,none⟩) rfl rfl rfl (cS (y:=x.p) R0.out rfl) ?_)
  refine (HVP.out W Jm).mono ?_;rintro e w2 ⟨rfl,y2⟩;have M2:=HM.out w2 y2;have RP2:=aA M2.row;have RX2:=aA (Tb.out w2 y2);have q2:=gn RP2.out;have q3:=lj RP2.out;have b2:Below base w w2:=(bW.mono qy).trans (y2.mono (by have:=bW.size;omega));have HM2:=aA M2;have HV2:=aA (rb.out w2 y2);have HV3:=aA (λw' (hw:Below w2.heap.size w2 w')=>HM.out w' (Below.ext y2 hw));clear M2;by_cases c1:0<=pv
  ·have g1:decide ((0:Int)<=pv)=true:=by simpa using c1
   by_cases c2:pv<v.procs
   ·have g2:decide (pv<v.procs)=true:=by simpa using c2
    by_cases c3:pv=v.self
    ·have g3:(pv != v.self)=false:=by simpa using c3
     have hq:=aA (Ax.out.trans (if_neg (λh=>h.2.2 c3)));clear c3;exact Tzeh
    ·have g3:(pv != v.self)=true:=by simpa using c3
     have hq:=aA (Ax.out.trans (if_pos ⟨c1,c2,c3⟩));clear c3;go_upto_region 12 with fail;go_wp2_with (refine aK (t:=244) (A:=⟨w.heap.size,10,none⟩) rfl rfl rfl (cS (y:=x.v) RX2.out rfl) ?_)
     refine HV2.out.mono ?_;rintro e w3 ⟨rfl,y3⟩;go_wp2_with fail;refine (vK w3 p base v r F (YQ.out w3 (Below.ext y2 y3)) ⟨1,pv,vv⟩ ⟨.inl rfl,ivp,ivv⟩).mono ?_;rintro e w4 ⟨rfl,h4,b4,f4⟩;go_wp2;go_end0;exact ⟨rfl,by rw [hq.out];exact h4,b2.trans ((y3.mono (by have:=b2.size;omega)).trans b4),λq hq' h=>(f4 q (by have:=bW.size;have:=y2.size;have:=y3.size;omega) h).trans (WB.out w3 (Below.ext y2 y3) q hq' h)⟩
   ·have g2:decide (pv<v.procs)=false:=by simpa using c2
    have hq:=aA (Ax.out.trans (if_neg (λh=>c2 h.2.1)));exact Tzeh
  ·have g1:decide ((0:Int)<=pv)=false:=by simpa using c1
   have hq:=aA (Ax.out.trans (if_neg (λh=>c1 h.1)));exact Tzeh
 have e5:(x.kind==5)=false:=by simpa using k5
 have k6:x.kind=6:=by omega
 have d6:(x.kind==6)=true:=by simpa using k6
 rw [QQ k6,<-Vb.out];clear k6 k5 k2 k1 hk;go_enter func203,ntmps203;go_upto_region 1 with fail;try rw [<-hW]
 clear hW;go_upto_region 14 with fail;go_wp2_with (refine aK (t:=244) (A:=⟨w.heap.size,10,none⟩) rfl rfl rfl (cS (y:=x.v) R0.out rfl) ?_)
 refine (rb.out W Jm).mono ?_;rintro e w2 ⟨rfl,y2⟩;go_wp2_with fail;refine (vK w2 p base v r F (YQ.out w2 y2) ⟨2,0,vv⟩ ⟨.inr rfl,(show av 0 from ⟨by decide,by decide⟩),ivv⟩).mono ?_;rintro e w4 ⟨rfl,h4,b4,f4⟩;go_wp2;go_end0;exact ⟨rfl,h4,((bW.mono qy).trans (y2.mono (by have:=bW.size;omega))).trans b4,λq hq' h=>(f4 q (by have:=bW.size;have:=y2.size;omega) h).trans (WB.out w2 y2 q hq' h)⟩
end Go.Proofs.YtiblijmngokcgaaGreatDoor
