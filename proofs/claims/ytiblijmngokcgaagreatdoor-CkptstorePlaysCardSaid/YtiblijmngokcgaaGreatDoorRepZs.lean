import Derived.Test.YtiblijmngokcgaaGreatDoorG22Zs
import Derived.Test.YtiblijmngokcgaaGreatDoorFloatsZs
import Derived.Great.BuildSlice
set_option linter.unusedVariables false
set_option linter.unusedSimpArgs false
set_option maxHeartbeats 8000000
set_option maxRecDepth 100000
namespace Go.Proofs.YtiblijmngokcgaaGreatDoor
open Go.Proofs.Tryz
open Go.RowKit
structure Ic (S:Nat->Prop) (w:World) (c:Cd) (I1:Option Addr) (iw ix:Nat) (P1:Option Addr) (zx Ai:Nat) (P2:Option Addr) (zw Ag:Nat) (P3:Option Addr) (zv Ad:Nat) (P4:Option Addr) (zu zy:Nat):Prop where
 init:a7 bB S w (.slice I1 iw ix) c.init
 st:cw bJ (ak 3 S w) S w (.slice P1 zx Ai) c.st
 me:cw bJ (ak 3 S w) S w (.slice P2 zw Ag) c.me
 ti:cw bJ (ak 3 S w) S w (.slice P3 zv Ad) c.ti
 inp:cw bJ (ak 3 S w) S w (.slice P4 zu zy) c.inp
structure Ca (c:Cd):Prop where
 init:∀z∈c.init,av z
 len:c.init.length<=30
 st:∀s∈c.st,Aw 3 s
 me:∀s∈c.me,Aw 3 s
 ti:∀s∈c.ti,Aw 3 s
 inp:∀s∈c.inp,Aw 3 s
theorem Ic.ext {S:Nat->Prop} {w w' :World} {c:Cd} {I1:Option Addr} {iw ix:Nat} {P1:Option Addr} {zx Ai:Nat} {P2:Option Addr} {zw Ag:Nat} {P3:Option Addr} {zv Ad:Nat} {P4:Option Addr} {zu zy:Nat} (h:Ic S w c I1 iw ix P1 zx Ai P2 zw Ag P3 zv Ad P4 zu zy) (hb:Below w.heap.size w w'):Ic S w' c I1 iw ix P1 zx Ai P2 zw Ag P3 zv Ad P4 zu zy:=
 ⟨h.1.ext hb,h.2.keep (ae.of_below hb) (λy u h=>ak.keep (ae.of_below hb) 3 y u h),h.3.keep (ae.of_below hb) (λy u h=>ak.keep (ae.of_below hb) 3 y u h),h.4.keep (ae.of_below hb) (λy u h=>ak.keep (ae.of_below hb) 3 y u h),h.5.keep (ae.of_below hb) (λy u h=>ak.keep (ae.of_below hb) 3 y u h)⟩
theorem yP {S:Nat->Prop} {w:World} {v:Value} {ts:List Sm} (h:cw bJ (ak 3 S w) S w v ts):cw bJ (ak 3 (·<w.heap.size) w) (·<w.heap.size) w v ts:=h.mono (λb hb _=>hb) (λy u h=>ak.mono (λb hb _=>hb) 3 y u h)
theorem GB (w:World) (S:Nat->Prop) (c:Cd) (I1:Option Addr) (iw ix:Nat) (P1:Option Addr) (zx Ai:Nat) (P2:Option Addr) (zw Ag:Nat) (P3:Option Addr) (zv Ad:Nat) (P4:Option Addr) (zu zy:Nat) (hC:Ic S w c I1 iw ix P1 zx Ai P2 zw Ag P3 zv Ad P4 zu zy) (hI:Ca c) (self procs:Int) (sk:av self) (zh:av procs):
 Calls Tryz.prog 105 #[.agg #[.slice I1 iw ix,.slice P1 zx Ai,.slice P2 zw Ag,.slice P3 zv Ad,.slice P4 zu zy],.int .i64 self,.int .i64 procs] w λe w' =>∃s' B1 m1 d1 B2 m2 d2 B3 m3 d3 B4 m4 d4,e= .returned (.agg #[.slice B1 m1 d1,.slice B2 m2 d2,.slice B3 m3 d3,.slice B4 m4 d4])/\KG c self procs s'/\j7 (λb=>w.heap.size<=b) w' s' B1 m1 d1 B2 m2 d2 B3 m3 d3 B4 m4 d4/\(∀z∈s'.cells,av z)/\s'.sent.length<=8/\s'.outs.length<=8/\Below w.heap.size w w' :=by
 obtain ⟨W,hW,aw,SW,R0,R1⟩:∃W,W=(w.alloc (.cells #[.slice I1 iw ix,.slice P1 zx Ai,.slice P2 zw Ag,.slice P3 zv Ad,.slice P4 zu zy] 29)).alloc (.cells #[.slice none 0 0,.slice none 0 0,.slice none 0 0,.slice none 0 0] 51)/\Below w.heap.size w W/\RowKit.Hid (W.heap.size=w.heap.size+2)/\
  RowKit.Hid (W.heap[w.heap.size]? =some (.cells #[.slice I1 iw ix,.slice P1 zx Ai,.slice P2 zw Ag,.slice P3 zv Ad,.slice P4 zu zy] 29 (0,0)))/\RowKit.Hid (W.heap[w.heap.size+1]? =some (.cells #[.slice none 0 0,.slice none 0 0,.slice none 0 0,.slice none 0 0] 51 (0,0))):=by
  refine ⟨_,rfl,((Below.refl _ w).alloc (Nat.le_refl _) _).alloc (by simp) _,aA (by simp),aA ?_,aA ?_⟩
  ·exact Tzap
  ·exact Tzdj
 have q0:=bn R0.out;have q1:=fi R0.out;have Me:=hC.ext aw;have hex:=mL 3 W _ ⟨c.init,[],[],[]⟩ I1 iw ix none 0 0 none 0 0 none 0 0 ⟨Me.1,a7.nil_ _ _,a7.nil_ _ _,a7.nil_ _ _⟩ ⟨hI.init,by have:=hI.len;show c.init.length<=1000;omega,by simp,by simp,by simp⟩ P1 zx Ai c.st ⟨self,procs,self,0⟩ 0 (yP Me.2) hI.st ⟨sk,zh,sk,(show av 0 from ⟨by decide,by decide⟩)⟩;have YI:=aA hex;clear hex hC Me;go_enter func105,ntmps105;go_upto_region 1 with fail;try rw [<-hW]
 clear hW;go_wp2_with fail;refine YI.out.mono ?_;rintro e w2 ⟨s',B1,m1,d1,B2,m2,d2,B3,m3,d3,B4,m4,d4,rfl,hR,⟨g1,g2,g3,g4⟩,ou,iz,Ds,ar⟩;have sW:=SW.out;have uz:=bT ar R1;go_wp2_with (refine sR uz ?_)
 refine rC uz ?_;have k6:=aC w2 (w.heap.size+1) #[.slice B1 m1 d1,.slice B2 m2 d2,.slice B3 m3 d3,.slice B4 m4 d4];have hs2' :=ar.size;have Jk:Below w.heap.size w (w2.setRow (w.heap.size+1) #[.slice B1 m1 d1,.slice B2 m2 d2,.slice B3 m3 d3,.slice B4 m4 d4]):=((aw.trans (ar.mono (by omega))).grown k6 (by omega) (λb hb=>by cases hb;omega))
 have kk:ae (W.heap.size<=·) w2 (w2.setRow (w.heap.size+1) #[.slice B1 m1 d1,.slice B2 m2 d2,.slice B3 m3 d3,.slice B4 m4 d4]):=λb hb h=>k6.block b hb (by have h2:W.heap.size<=b:=h;simp;omega)
 have up:∀b,b<(w2.setRow (w.heap.size+1) #[.slice B1 m1 d1,.slice B2 m2 d2,.slice B3 m3 d3,.slice B4 m4 d4]).heap.size->W.heap.size<=b->w.heap.size<=b:=λb _ h=>by omega
 have Ls:s'.evs=[]:=(Fy.pre hR).2;rw [Ls] at g2;refine ⟨s',B1,m1,d1,B2,m2,d2,B3,m3,d3,B4,m4,d4,rfl,hR,⟨(g1.keep kk).mono up,?_,(g3.keep kk).mono up,(g4.keep kk).mono up⟩,ou,by simpa using iz,by simpa using Ds,Jk⟩;rw [Ls];obtain ⟨a1,a2,a3,a4,a5,_⟩:=g2;exact ⟨a1,a2,a3,a4,a5,Cs.nil_ _ _ _⟩
theorem TR (w:World) (c5 s4 e7:Array Value):∃W,W=(((w.alloc (.cells c5 29)).alloc (.cells s4 51)).alloc (.cells e7 78)).alloc (.cells #[.slice none 0 0,.slice none 0 0,.slice none 0 0,.slice none 0 0] 51)/\Below w.heap.size w W/\RowKit.Hid (W.heap.size=w.heap.size+4)/\
 RowKit.Hid (W.heap[w.heap.size]? =some (.cells c5 29 (0,0)))/\RowKit.Hid (W.heap[w.heap.size+1]? =some (.cells s4 51 (0,0)))/\RowKit.Hid (W.heap[w.heap.size+2]? =some (.cells e7 78 (0,0)))/\RowKit.Hid (W.heap[w.heap.size+3]? =some (.cells #[.slice none 0 0,.slice none 0 0,.slice none 0 0,.slice none 0 0] 51 (0,0))):=by
 obtain ⟨w1,h1,b1,s1,r1⟩:=gO w c5 29;obtain ⟨w2,h2,b2,s2,r2⟩:=gO w1 s4 51;obtain ⟨w3,h3,b3,s3,r3⟩:=gO w2 e7 78;obtain ⟨w4,h4,b4,s4',r4⟩:=gO w3 #[.slice none 0 0,.slice none 0 0,.slice none 0 0,.slice none 0 0] 51;refine ⟨w4,by rw [h4,h3,h2,h1],Below.ext b1 (Below.ext b2 (Below.ext b3 b4)),aA (by omega),aA ?_,aA ?_,aA ?_,aA ?_⟩
 ·exact (b4.block _ (by omega)).trans ((b3.block _ (by omega)).trans ((b2.block _ (by omega)).trans r1))
 ·rw [s1] at r2;exact (b4.block _ (by omega)).trans ((b3.block _ (by omega)).trans r2)
 ·rw [s2,s1] at r3;exact (b4.block _ (by omega)).trans r3
 ·rw [s3,s2,s1] at r4;exact r4
theorem JD {w w' :World} (hg:w.grownBy w' (Value.slice none 0 0).ownBlock):Below w.heap.size w w' :=(Below.refl _ w).grown hg (Nat.le_refl _) (λk e=>by cases e)
theorem sS {P:Program} {o:Oper} {ρ:Operand->Value} {w:World} {T:TypeId} {len:Nat} {parts:Array (Nat×Operand)} {ps:Array (Nat×Value)} {v:Value} {w' :World} (ho:o.op= .buildSlice T len parts) (hp:(parts.map λ(i,x)=>(i,ρ x))=ps) (h:(Instr.buildSlice T len ps).run P w= .ok v w'):(execOp ρ o).run P w= .ok (.value v) w' :=by
 unfold execOp;simp only [ho,hp,Sem.run_bind,h,Result.andThen_ok];rfl
theorem TJ (e:Ev) (w:World):(Instr.buildSlice 30 1 #[(0,.agg #[.int .i64 e.k0,.int .i64 e.k1,.int .i64 e.k2,.int .i64 e.k3,.int .i64 e.k4,.int .i64 e.k5,.int .i64 e.k6])]).run Tryz.prog w= .ok (.slice (some ⟨w.heap.size,0,none⟩) 1 1) (w.alloc (.cells #[.int .i64 e.k0,.int .i64 e.k1,.int .i64 e.k2,.int .i64 e.k3,.int .i64 e.k4,.int .i64 e.k5,.int .i64 e.k6] 78)):=by
 obtain ⟨i,hi,hz,ef,dy⟩:=info_parts nR;exact run_buildSlice w _ _ 1 _ _ i _ underlying30 hi hz (by rw [ef];omega) (by rw [ef];omega) (by rw [ef];kernel_rfl)
theorem SC (e:Ev) (w:World) (X:Nat) (h:w.heap[X]? =some (.cells #[.int .i64 e.k0,.int .i64 e.k1,.int .i64 e.k2,.int .i64 e.k3,.int .i64 e.k4,.int .i64 e.k5,.int .i64 e.k6] 78 (0,0))):a7 cH (·=X) w (.slice (some ⟨X,0,none⟩) 1 1) [e]:=
 ⟨_,1,rfl,by simp,by simp [maxLen],λ_=>⟨X,0,rfl,rfl,λj u hu=>by
  rw [cell_of_row _ _ _ _ _ _ h,Nat.zero_add];have e2:[e].flatMap cH= #[.int .i64 e.k0,.int .i64 e.k1,.int .i64 e.k2,.int .i64 e.k3,.int .i64 e.k4,.int .i64 e.k5,.int .i64 e.k6].toList:=rfl;rw [e2] at hu;simpa using hu⟩⟩
theorem LN (w:World) (S:Nat->Prop) (c:Cd) (I1:Option Addr) (iw ix:Nat) (P1:Option Addr) (zx Ai:Nat) (P2:Option Addr) (zw Ag:Nat) (P3:Option Addr) (zv Ad:Nat) (P4:Option Addr) (zu zy:Nat) (hC:Ic S w c I1 iw ix P1 zx Ai P2 zw Ag P3 zv Ad P4 zu zy) (hI:Ca c) (self procs:Int) (sk:av self) (zh:av procs) (s:bj) (A1:Option Addr) (n1 c1:Nat) (A2:Option Addr) (n2 c2:Nat) (A3:Option Addr) (n3 c3:Nat) (A4:Option Addr) (n4 c4:Nat) (Ss:Nat->Prop) (hM:j7 Ss w s A1 n1 c1 A2 n2 c2 A3 n3 c3 A4 n4 c4) (hS:Hu s) (Ls:s.evs.length<=900) (e:Ev) (he:∀z∈e.l,av z):
 Calls Tryz.prog 106 #[.agg #[.slice I1 iw ix,.slice P1 zx Ai,.slice P2 zw Ag,.slice P3 zv Ad,.slice P4 zu zy],.int .i64 self,.int .i64 procs,.agg #[.slice A1 n1 c1,.slice A2 n2 c2,.slice A3 n3 c3,.slice A4 n4 c4],.agg #[.int .i64 e.k0,.int .i64 e.k1,.int .i64 e.k2,.int .i64 e.k3,.int .i64 e.k4,.int .i64 e.k5,.int .i64 e.k6]] w λe' w' =>∃s' B1 m1 d1 B2 m2 d2 B3 m3 d3 B4 m4 d4,e' = .returned (.agg #[.slice B1 m1 d1,.slice B2 m2 d2,.slice B3 m3 d3,.slice B4 m4 d4])/\gw c self procs s e s'/\j7 (λb=>Ss b∨w.heap.size<=b) w' s' B1 m1 d1 B2 m2 d2 B3 m3 d3 B4 m4 d4/\(∀z∈s'.cells,av z)/\s'.sent.length<=s.sent.length+8/\s'.outs.length<=s.outs.length+8/\Below w.heap.size w w' :=by
 obtain ⟨W,hW,aw,SW,R0,R1,R2,R3⟩:=TR w #[.slice I1 iw ix,.slice P1 zx Ai,.slice P2 zw Ag,.slice P3 zv Ad,.slice P4 zu zy] #[.slice A1 n1 c1,.slice A2 n2 c2,.slice A3 n3 c3,.slice A4 n4 c4] #[.int .i64 e.k0,.int .i64 e.k1,.int .i64 e.k2,.int .i64 e.k3,.int .i64 e.k4,.int .i64 e.k5,.int .i64 e.k6];go_enter func106,ntmps106;go_upto_region 1 with fail;try rw [<-hW]
 clear hW;have dd:=hM.2.len;have oc:=aA dd.1;have ed:=dd.2;have S0:n2<=900:=by omega
 clear dd;have wm:=hM.ext aw;have al:w.heap.size+1<W.heap.size:=by have:=SW.out;omega
 have ar:w.heap.size+2<W.heap.size:=by have:=SW.out;omega
 go_wp2_with fail;try (go_wp2_with fail)
 refine nW true (λw' =>w'.heap[w.heap.size+1]? =some (.cells #[.slice A1 n1 c1,.slice A2 n2 c2,.slice A3 n3 c3,.slice A4 n4 c4] 51 (0,0))/\w'.heap[w.heap.size+2]? =some (.cells #[.int .i64 e.k0,.int .i64 e.k1,.int .i64 e.k2,.int .i64 e.k3,.int .i64 e.k4,.int .i64 e.k5,.int .i64 e.k6] 78 (0,0))) [16] ((λ_=> .cells #[.int .i64 e.k0,.int .i64 e.k1,.int .i64 e.k2,.int .i64 e.k3,.int .i64 e.k4,.int .i64 e.k5,.int .i64 e.k6] 78)) (λ_ X=> .slice (some ⟨X,0,none⟩) 1 1) (by kernel_rfl) (by kernel_rfl) (λ_ _ w' h=>⟨kT h.1 _,kT h.2 _⟩) (⟨R1.out,R2.out⟩) ?_;refine TkD ?_;refine mW (⟨w.heap.size+1,1,none⟩) (.slice A2 n2 c2) rfl rfl rfl rfl (λw' ah =>aB (iD _) (aM ah.1 1 _ rfl)) ?_;refine Tybt ?_;refine sV rfl rfl (λm1 v1 Ew=> ?_);have x1:=Ew.bxs (Rj.none_ W.heap.size _ _) (Nat.le_refl _);have y1:Below W.heap.size W v1:=Below.ext (Below.refl _ W).drew Ew.bel;refine aJ cN iA (.agg #[.int .i64 0,.int .i64 0,.int .i64 0,.int .i64 0,.int .i64 0,.int .i64 0,.int .i64 0]) 56 _ _ 30 78 v1.heap.size ([]:List Ev) s.evs A2 n2 c2 (.slice none 0 0) n2 rfl rfl underlying30 nR rfl (by omega) rfl rfl (a8.nil_ _ _ _) (wm.2.ext y1) (by simp) (by simp;omega) (by simp;omega) (Nat.le_refl _) ?_;intro A5 c5 w5 ux bk jm qx qw;rw [List.nil_append] at ux;have gu:=JD bk;have y5:=Below.ext y1 gu;have x5:=x1.ext gu;have P5:=bT y5 R1 al;have Q5:=bT y5 R2 ar;have ho5:∀o,(Value.slice A5 n2 c5).ownBlock=some o->(v1.heap.size<=o/\o<w5.heap.size)/\∀e,m1 e≠some o:=λo e=>by
  have:=World.ownsRow.lt ux o e;exact ⟨this,λe2=>x1.lt this.1⟩
 go_wp2_with fail;refine oC (⟨P5.out,Q5.out⟩) ?_;refine TkD ?_;refine mW (⟨w.heap.size+2,0,none⟩) (.agg #[.int .i64 e.k0,.int .i64 e.k1,.int .i64 e.k2,.int .i64 e.k3,.int .i64 e.k4,.int .i64 e.k5,.int .i64 e.k6]) rfl rfl rfl rfl (λw' ah =>lB (t:=78) ah.2) ?_;refine Tybt ?_;refine yO 16 rfl (⟨rfl,λw' =>sS rfl (by rw [List.map_toArray];rfl) (TJ e w')⟩) (λm2 v2 X Mc hX=> ?_);refine Tybt ?_;refine sV rfl rfl (λm3 v3 Fs=> ?_);have Jq:=Mc.trans Fs;have x3:=Jq.bxs x5 y5.size;have y3:=Below.ext y5 Jq.bel;have hX3:=Fs.keeps hX;have Cp:=(x3 16 X hX3).2;have sv3:=Jq.bel.size;have sv5:=gu.size;refine aJ cN iA (.agg #[.int .i64 0,.int .i64 0,.int .i64 0,.int .i64 0,.int .i64 0,.int .i64 0,.int .i64 0]) 56 _ _ 30 78 v1.heap.size s.evs [e] (some ⟨X,0,none⟩) 1 1 (.slice A5 n2 c5) (n2+1) rfl rfl underlying30 nR rfl (by omega) rfl rfl (ux.ext Jq.bel) (SC e v3 X Cp) (by rw [oc.out]) (by rw [oc.out];omega) (by rw [oc.out];omega) (by omega) ?_;intro A6 c6 w6 Dz Gv Oz hc61 hc62;have il:Below v1.heap.size v1 w6:=a8.grow (ux.ext Jq.bel) Gv (Below.ext gu Jq.bel) (Nat.le_refl _) (by omega);have y6:=Below.ext y1 il;have P6:=bT y6 R1 al;have Q6:=bT y6 R2 ar;go_wp2_with fail;refine oC (⟨P6.out,Q6.out⟩) ?_;refine TkD ?_;refine EV rfl rfl ((by simp [hX3])) ?_;have q1:=fi P6.out;have f1:w6.frozen? ⟨w.heap.size+1,1,none⟩=false:=frozen_of_row _ _ _ _ _ P6.out
 obtain ⟨W7,oy⟩:=eX (w6.setCell ⟨w.heap.size+1,1,none⟩ (.slice A6 (n2+1) c6));have g7:w6.grownBy W7 (some (w.heap.size+1)):=by rw [oy];exact aL (bC _ _)
 have b7:Below w.heap.size w W7:=by rw [oy];exact Below.setCell (Below.ext aw y6) (show w.heap.size<=w.heap.size+1 by omega) _
 have s6:=y6.size;have s7:w6.heap.size<=W7.heap.size:=g7.size;have YE:=aA (show W7.heap[w.heap.size+1]? =some (.cells #[.slice A1 n1 c1,.slice A6 (n2+1) c6,.slice A3 n3 c3,.slice A4 n4 c4] 51 (0,0)) by rw [oy];exact heap_setCell_same _ _ _ _ _ _ P6.out);have sW:=SW.out;have R07:=aA ((g7.block w.heap.size (by omega) (by simp)).trans ((y6.block w.heap.size (by omega)).trans R0.out));have R27:=aA ((g7.block (w.heap.size+2) (by omega) (by simp)).trans Q6.out);have R37:=aA ((g7.block (w.heap.size+3) (by omega) (by simp)).trans ((y6.block (w.heap.size+3) (by omega)).trans R3.out));have kS:ae (λb=>Ss b/\b<w.heap.size) W W7:=λq hq h=>(g7.block q (by omega) (by have:=h.2;simp;omega)).trans (y6.block q hq)
 have Sn:j7 (λb=>Ss b/\b<w.heap.size) W s A1 n1 c1 A2 n2 c2 A3 n3 c3 A4 n4 c4:=by
  have h0:j7 (λb=>Ss b/\b<w.heap.size) w s A1 n1 c1 A2 n2 c2 A3 n3 c3 A4 n4 c4:=⟨hM.1.mono (λb hb h=>⟨h,hb⟩),hM.2.mono (λb hb h=>⟨h,hb⟩),hM.3.mono (λb hb h=>⟨h,hb⟩),hM.4.mono (λb hb h=>⟨h,hb⟩)⟩
  exact h0.ext aw
 have Yk:a7 cH (λb=>(Ss b/\b<w.heap.size)∨w.heap.size+4<=b) W7 (.slice A6 (n2+1) c6) (s.evs++ [e]):=
  (Dz.recs.mono (S' :=λb=>(Ss b/\b<w.heap.size)∨w.heap.size+4<=b) (λb hb h=>Or.inr (by have:=h.1;have:=y1.size;omega))).keep (λb hb h=>g7.block b hb (by simp;rcases h with h|h<;>omega))
 have WR:∀b,b<W7.heap.size->(Ss b/\b<w.heap.size)->(Ss b/\b<w.heap.size)∨w.heap.size+4<=b:=λb _ h=>Or.inl h
 have N8:j7 (λb=>(Ss b/\b<w.heap.size)∨w.heap.size+4<=b) W7 (iK s e) A1 n1 c1 A6 (n2+1) c6 A3 n3 c3 A4 n4 c4:=⟨(Sn.1.keep kS).mono WR,Yk,(Sn.3.keep kS).mono WR,(Sn.4.keep kS).mono WR⟩
 have zm:Hu (iK s e):=⟨hS.cells,hS.len,by show (s.evs++ [e]).length<=1000;simp;omega,hS.sent,hS.outs⟩
 have HC:=aA hC;have HEI:=aA he;go_wp2_with fail;rw [<-oy];clear oy q1 f1 ux Dz gu il P5 Q5 P6 Q6 g7 y1 y3 y5 y6 x1 x3 x5 Ew Mc Fs Jq ho5 jm Oz bk Gv Cp hX hX3 al ar kS Sn Yk WR wm hM hC he;refine LO ?_;obtain ⟨W8,sw,b8,k8,S8,R8⟩:=bX W7 W7 #[.int .i64 self,.int .i64 procs,.int .i64 self,.int .i64 e.k6] 208 (Below.refl _ _);obtain ⟨b5,gu⟩:=eX W7.heap.size;rw [<-gu] at R8;have HB5:=aA gu;have hb5w:w.heap.size+4<=b5:=by omega
 have hb5W:b5<W8.heap.size:=by have:=S8.out;omega
 have b78:=Below.ext b7 k8;have ZX:=bT k8 R07;have Mj:=bT k8 YE;have R28:=bT k8 R27;have R38:=bT k8 R37;have q6:=Zk R27.out;have q0:=bn R28.out;have q2:=gn R28.out;have hM8:=N8.ext k8;have xl:j7 (λb=>((Ss b/\b<w.heap.size)∨w.heap.size+4<=b)/\b<b5) W8 (iK s e) A1 n1 c1 A6 (n2+1) c6 A3 n3 c3 A4 n4 c4:=by
  have m:∀b,b<W7.heap.size->((Ss b/\b<w.heap.size)∨w.heap.size+4<=b)->((Ss b/\b<w.heap.size)∨w.heap.size+4<=b)/\b<b5:=λb hb h=>⟨h,by omega⟩
  have h0:j7 (λb=>((Ss b/\b<w.heap.size)∨w.heap.size+4<=b)/\b<b5) W7 (iK s e) A1 n1 c1 A6 (n2+1) c6 A3 n3 c3 A4 n4 c4:=⟨N8.1.mono m,N8.2.mono m,N8.3.mono m,N8.4.mono m⟩
  exact h0.ext k8
 have e6:av e.k6:=HEI.out _ (by simp [Ev.l]);have e2r:av e.k2:=HEI.out _ (by simp [Ev.l]);clear gu N8 hM8;have sW8:=S8.out;by_cases h1:e.k0=1
 ·have d1:(e.k0==1)=true:=by simpa using h1
  obtain ⟨W9,ow⟩:=eX (W8.setCell ⟨b5,2,none⟩ (.int .i64 e.k2));have q5:=gn R8.out;have f5:W8.frozen? ⟨b5,2,none⟩=false:=frozen_of_row _ _ _ _ _ R8.out
  have g9:W8.grownBy W9 (some b5):=by rw [ow];exact aL (bC _ _)
  have b9:Below w.heap.size w W9:=by rw [ow];exact Below.setCell b78 (show w.heap.size<=b5 by omega) _
  have R9:=aA (show W9.heap[b5]? =some (.cells #[.int .i64 self,.int .i64 procs,.int .i64 e.k2,.int .i64 e.k6] 208 (0,0)) by rw [ow];exact heap_setCell_same _ _ _ _ _ _ R8.out);have Bl:w.heap.size+4<=W8.heap.size:=by omega
  have T6:=gT g9 ZX;have Fu:=gT g9 Mj;have YD:=gT g9 R38;have kk9:ae (λb=>((Ss b/\b<w.heap.size)∨w.heap.size+4<=b)/\b<b5) W8 W9:=λq hq h=>g9.block q hq (by have:=h.2;simp;omega)
  have Is:j7 (λb=>((Ss b/\b<w.heap.size)∨w.heap.size+4<=b)/\b<b5) W9 (iK s e) A1 n1 c1 A6 (n2+1) c6 A3 n3 c3 A4 n4 c4:=⟨xl.1.keep kk9,xl.2.keep kk9,xl.3.keep kk9,xl.4.keep kk9⟩
  have s9:W8.heap.size<=W9.heap.size:=g9.size;have hex:=mL 3 W9 _ (iK s e) A1 n1 c1 A6 (n2+1) c6 A3 n3 c3 A4 n4 c4 Is zm P2 zw Ag c.me ⟨self,procs,e.k2,e.k6⟩ ((n2+1:Nat):Int) (yP (HC.out.ext b9).me) hI.me ⟨sk,zh,e2r,e6⟩;have YI:=aA hex;have qc:=gn T6.out;have qe:=fi Fu.out;clear hex Is xl;go_upto_region 3 with (refine sN ?_)
  rw [<-sw,<-HB5.out];clear sw;refine Tyal ?_;go_upto_region 6 with fail;rw [<-ow];clear ow q5 f5 g9 kk9;go_wp2_with (first|(refine aK (t:=51) (A:=⟨w.heap.size+1,0,none⟩) rfl rfl rfl (lB (t:=51) Fu.out) ?_)|(refine lD (t:=208) R9 ?_))
  refine YI.out.mono ?_;rintro e' kc ⟨s',B1,m1,d1,B2,m2,d2,B3,m3,d3,B4,m4,d4,rfl,hR,⟨g1,g2,g3,g4⟩,ou,iz,Ds,jc⟩;have Ww:=bT jc YD;go_wp2_with (refine sR Ww ?_)
  refine rC Ww ?_;have k6:=aC kc (w.heap.size+3) #[.slice B1 m1 d1,.slice B2 m2 d2,.slice B3 m3 d3,.slice B4 m4 d4];have s10:=jc.size;have Gt:gw c self procs s e s' :=by
   unfold gw;rw [oc.out];rw [if_pos h1];exact hR
  exact Tzar
 have d1:(e.k0==1)=false:=by simpa using h1
 by_cases h2:e.k0=2
 ·have d2:(e.k0==2)=true:=by simpa using h2
  obtain ⟨W9,ow⟩:=eX W8;have b9:Below w.heap.size w W9:=by rw [ow];exact b78
  have R9:=R8;have T6:=ZX;have Fu:=Mj;have YD:=R38;have Is:=xl;have s9:W8.heap.size<=W9.heap.size:=by rw [ow];exact Nat.le_refl _
  rw [<-ow] at R9 T6 Fu YD Is;have hex:=mL 3 W9 _ (iK s e) A1 n1 c1 A6 (n2+1) c6 A3 n3 c3 A4 n4 c4 Is zm P3 zv Ad c.ti ⟨self,procs,self,e.k6⟩ ((n2+1:Nat):Int) (yP (HC.out.ext b9).ti) hI.ti ⟨sk,zh,sk,e6⟩;have YI:=aA hex;have qc:=lj T6.out;have qe:=fi Fu.out;clear hex Is xl;go_upto_region 3 with (refine sN ?_)
  rw [<-sw,<-HB5.out];clear sw;refine Tyal ?_;subst ow;go_wp2_with (first|(refine aK (t:=51) (A:=⟨w.heap.size+1,0,none⟩) rfl rfl rfl (lB (t:=51) Fu.out) ?_)|(refine lD (t:=208) R9 ?_))
  refine YI.out.mono ?_;rintro e' kc ⟨s',B1,m1,d1,B2,m2,d2,B3,m3,d3,B4,m4,d4,rfl,hR,⟨g1,g2,g3,g4⟩,ou,iz,Ds,jc⟩;have Ww:=bT jc YD;go_wp2_with (refine sR Ww ?_)
  refine rC Ww ?_;have k6:=aC kc (w.heap.size+3) #[.slice B1 m1 d1,.slice B2 m2 d2,.slice B3 m3 d3,.slice B4 m4 d4];have s10:=jc.size;have Gt:gw c self procs s e s' :=by
   unfold gw;rw [oc.out];rw [if_neg h1,if_pos h2];exact hR
  exact Tzar
 have d2:(e.k0==2)=false:=by simpa using h2
 by_cases h3:e.k0=3
 ·have d3:(e.k0==3)=true:=by simpa using h3
  obtain ⟨W9,ow⟩:=eX W8;have b9:Below w.heap.size w W9:=by rw [ow];exact b78
  have R9:=R8;have T6:=ZX;have Fu:=Mj;have YD:=R38;have Is:=xl;have s9:W8.heap.size<=W9.heap.size:=by rw [ow];exact Nat.le_refl _
  rw [<-ow] at R9 T6 Fu YD Is;have hex:=mL 3 W9 _ (iK s e) A1 n1 c1 A6 (n2+1) c6 A3 n3 c3 A4 n4 c4 Is zm P4 zu zy c.inp ⟨self,procs,self,e.k6⟩ ((n2+1:Nat):Int) (yP (HC.out.ext b9).inp) hI.inp ⟨sk,zh,sk,e6⟩;have YI:=aA hex;have qc:=Tw T6.out;have qe:=fi Fu.out;clear hex Is xl;go_upto_region 3 with (refine sN ?_)
  rw [<-sw,<-HB5.out];clear sw;refine Tyal ?_;subst ow;go_wp2_with (first|(refine aK (t:=51) (A:=⟨w.heap.size+1,0,none⟩) rfl rfl rfl (lB (t:=51) Fu.out) ?_)|(refine lD (t:=208) R9 ?_))
  refine YI.out.mono ?_;rintro e' kc ⟨s',B1,m1,d1,B2,m2,d2,B3,m3,d3,B4,m4,d4,rfl,hR,⟨g1,g2,g3,g4⟩,ou,iz,Ds,jc⟩;have Ww:=bT jc YD;go_wp2_with (refine sR Ww ?_)
  refine rC Ww ?_;have k6:=aC kc (w.heap.size+3) #[.slice B1 m1 d1,.slice B2 m2 d2,.slice B3 m3 d3,.slice B4 m4 d4];have s10:=jc.size;have Gt:gw c self procs s e s' :=by
   unfold gw;rw [oc.out];rw [if_neg h1,if_neg h2,if_pos h3];exact hR
  exact Tzar
 have d3:(e.k0==3)=false:=by simpa using h3
 go_upto_region 3 with (refine sN ?_)
 rw [<-sw,<-HB5.out];clear sw;refine Tyal ?_;go_wp2_with (first|(refine aK (t:=51) (A:=⟨w.heap.size+1,0,none⟩) rfl rfl rfl (lB (t:=51) Mj.out) ?_)|(refine sR R38 ?_))
 refine rC R38 ?_;have k6:=aC W8 (w.heap.size+3) #[.slice A1 n1 c1,.slice A6 (n2+1) c6,.slice A3 n3 c3,.slice A4 n4 c4];have Gt:gw c self procs s e (iK s e):=by
  unfold gw;rw [if_neg h1,if_neg h2,if_neg h3]
 have Zj:ae (λb=>((Ss b/\b<w.heap.size)∨w.heap.size+4<=b)/\b<b5) W8 (W8.setRow (w.heap.size+3) #[.slice A1 n1 c1,.slice A6 (n2+1) c6,.slice A3 n3 c3,.slice A4 n4 c4]):=λb hb h=>k6.block b hb (by have h2:=h.1;simp;omega)
 have up:∀b,b<(W8.setRow (w.heap.size+3) #[.slice A1 n1 c1,.slice A6 (n2+1) c6,.slice A3 n3 c3,.slice A4 n4 c4]).heap.size->(((Ss b/\b<w.heap.size)∨w.heap.size+4<=b)/\b<b5)->Ss b∨w.heap.size<=b:=λb _ h=>h.1.elim (λh2=>Or.inl h2.1) (λh2=>Or.inr (by omega))
 refine ⟨iK s e,A1,n1,c1,A6,n2+1,c6,A3,n3,c3,A4,n4,c4,rfl,Gt,⟨(xl.1.keep Zj).mono up,(xl.2.keep Zj).mono up,(xl.3.keep Zj).mono up,(xl.4.keep Zj).mono up⟩,hS.cells,Nat.le_add_right _ _,Nat.le_add_right _ _,?_⟩;exact b78.grown k6 (by omega) (λb hb=>by cases hb;omega)
end Go.Proofs.YtiblijmngokcgaaGreatDoor
