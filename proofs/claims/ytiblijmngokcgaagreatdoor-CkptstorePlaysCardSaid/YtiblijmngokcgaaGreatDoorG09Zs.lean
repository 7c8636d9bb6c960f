import Derived.Test.YtiblijmngokcgaaGreatDoorG08Zs
set_option linter.unusedVariables false
set_option linter.unusedSimpArgs false
set_option maxHeartbeats 8000000
set_option maxRecDepth 100000
namespace Go.Proofs.YtiblijmngokcgaaGreatDoor
open Go.Proofs.Tryz
open Go.RowKit
theorem QM (b:Bool):av (L9 b):=by cases b<;>exact ⟨by decide,by decide⟩
theorem DS (z:Int):av (wrap64 z):=by
 unfold wrap64;exact ⟨by omega,by omega⟩
theorem KH {a b:Int} (ha:av a):av (a.tmod b):=by
 obtain ⟨h1,h2⟩:=ha;have h:=Int.natAbs_tmod a b;have h3:=Nat.mod_le a.natAbs b.natAbs;rcases Int.le_total 0 a with h0|h0
 ·have:=Int.tmod_nonneg b h0;exact ⟨by omega,by omega⟩
 ·have:=Int.tmod_nonneg b (show 0<=-a by omega);rw [Int.neg_tmod] at this;exact ⟨by omega,by omega⟩
theorem DL (c:Prop) [Decidable c] {x y:Int} (h:av x) (k:av y):av (if c then x else y):=by
 split
 ·exact h
 ·exact k
theorem PY {op a b:Int} (ha:av a) (hb:av b):av (dT op a b):=by
 unfold dT
 repeat' (first|exact DS _|exact QM _|exact KH ha|exact ⟨by decide,by decide⟩|refine DL _ ?_ ?_)
theorem KC (op a b:Int) (w:World) (uo:0<=op/\op<=22) (ha:av a) (hb:av b):Calls Tryz.prog 209 #[.int .i64 op,.int .i64 a,.int .i64 b] w λe w' =>e= .returned (.int .i64 (dT op a b))/\w' =w:=by
 obtain ⟨a1,a2⟩:=ha;obtain ⟨b1,b2⟩:=hb;by_cases h8:op=8
 ·subst h8;exact Tzb9
 by_cases h9:op=9
 ·subst h9;by_cases g:a=0
  ·skip;have d0:(a==0)=true:=by simpa using g
   exact Tzbb
  ·skip;have d0:(a==0)=false:=by simpa using g
   exact Tzbb
 by_cases Yt:op=10
 ·subst Yt;exact Tzb9
 by_cases ZH:op=11
 ·subst ZH;exact Tzb9
 by_cases h12:op=12
 ·subst h12;exact Tzb9
 by_cases h13:op=13
 ·subst h13;exact Tzc8
 by_cases h14:op=14
 ·subst h14;exact Tzc8
 by_cases h15:op=15
 ·subst h15;by_cases g:a<b
  ·skip;have d0:decide (a<b)=true:=by simpa using g
   exact Tzbb
  ·skip;have d0:decide (a<b)=false:=by simpa using g
   exact Tzbb
 by_cases h16:op=16
 ·subst h16;by_cases g:a<=b
  ·skip;have d0:decide (a<=b)=true:=by simpa using g
   exact Tzbb
  ·skip;have d0:decide (a<=b)=false:=by simpa using g
   exact Tzbb
 by_cases h17:op=17
 ·subst h17;by_cases g:b<a
  ·skip;have d0:decide (b<a)=true:=by simpa using g
   exact Tzbb
  ·skip;have d0:decide (b<a)=false:=by simpa using g
   exact Tzbb
 by_cases h18:op=18
 ·subst h18;by_cases g:b<=a
  ·skip;have d0:decide (b<=a)=true:=by simpa using g
   exact Tzbb
  ·skip;have d0:decide (b<=a)=false:=by simpa using g
   exact Tzbb
 by_cases h19:op=19
 ·subst h19;by_cases g:a=b
  ·skip;have d0:(a==b)=true:=by simpa using g
   exact Tzbb
  ·skip;have d0:(a==b)=false:=by simpa using g
   exact Tzbb
 by_cases Sv:op=20
 ·subst Sv;by_cases g:a=b
  ·skip;have d0:(a != b)=false:=by simpa using g
   have d1:(a==b)=true:=by simpa using g
   exact Tzbb
  ·skip;have d0:(a != b)=true:=by simpa using g
   have d1:(a==b)=false:=by simpa using g
   exact Tzbb
 by_cases h21:op=21
 ·subst h21;exact Tzdy
 by_cases h22:op=22
 ·subst h22;exact Tzdy
 have hd:dT op a b=0:=by
  unfold dT;simp only [h8,h9,Yt,ZH,h12,h13,h14,h15,h16,h17,h18,h19,Sv,h21,h22,if_false]
 have e8:(op==8)=false:=by simpa using h8
 have e9:(op==9)=false:=by simpa using h9
 have e10:(op==10)=false:=by simpa using Yt
 have e11:(op==11)=false:=by simpa using ZH
 have e12:(op==12)=false:=by simpa using h12
 have e13:(op==13)=false:=by simpa using h13
 have e14:(op==14)=false:=by simpa using h14
 have e15:(op==15)=false:=by simpa using h15
 have e16:(op==16)=false:=by simpa using h16
 have e17:(op==17)=false:=by simpa using h17
 have e18:(op==18)=false:=by simpa using h18
 have e19:(op==19)=false:=by simpa using h19
 have e20:(op==20)=false:=by simpa using Sv
 have e21:(op==21)=false:=by simpa using h21
 have e22:(op==22)=false:=by simpa using h22
 clear h8 h9 Yt ZH h12 h13 h14 h15 h16 h17 h18 h19 Sv h21 h22;rw [hd];go_enter func209,ntmps209;go_wp2;go_ret;exact ⟨rfl,rfl⟩
theorem BH (A:Option Addr) (n c:Nat) (cells:List Int) (k:Int) (S:Nat->Prop) (w:World) (h:a7 bB S w (.slice A n c) cells) (hk:av k):Calls Tryz.prog 207 #[.slice A n c,.int .i64 k] w λe w' =>e= .returned (.int .i64 (iW cells k))/\w' =w:=by
 have HL:=aA h.len;have hc:=h.len.2;obtain ⟨k1,k2⟩:=hk;by_cases h0:k<0
 ·have d0:decide (k<0)=true:=by simpa using h0
  have hr:iW cells k=0:=by unfold iW;rw [if_neg (by omega)]
  rw [hr];exact Tzev
 ·obtain ⟨j,rfl⟩:=Int.eq_ofNat_of_zero_le (show 0<=k by omega);by_cases h1:j<n
  ·obtain ⟨b,off,x,rfl,_,hb,hx,kn⟩:=h.at_ cD (j:=j) (by have:=HL.out.1;omega) (by omega);have q:w.cell? ⟨b,off+j,none⟩=some (.int .i64 x):=by
    have:=kn 0 _ rfl;rw [Nat.mul_one] at this;exact this
   have hr:iW cells (j:Int)=x:=by
    unfold iW;rw [if_pos ⟨by omega,by have:=HL.out.1;omega⟩];simp [List.getD,hx]
   rw [hr];clear hx kn hr;exact Tzev
  ·have hr:iW cells (j:Int)=0:=by unfold iW;rw [if_neg (by have:=HL.out.1;omega)]
   rw [hr];clear hr;exact Tzev
theorem xE (A:Option Addr) (n c:Nat) (cells:List Int) (slot size index:Int) (w:World) (hl:cells.length=n) (hn:n<=1000) (hs:0<=slot/\slot<=1000) (hz:0<=size/\size<=1000) (hi:av index):
 Calls Tryz.prog 205 #[.int .i64 slot,.int .i64 size,.int .i64 index,.slice A n c] w λe w' =>e= .returned (.int .i64 (eL slot size index cells))/\w' =w:=by
 have HL:=aA hl;obtain ⟨i1,i2⟩:=hi;obtain ⟨s1,s2⟩:=hs;obtain ⟨z1,z2⟩:=hz;clear hl;have dneg:decide (slot<0)=false:=by simp;omega
 have dpos:decide (0<=slot)=true:=by simp;omega
 by_cases h0:index<0
 ·have hr:eL slot size index cells= -1:=by unfold eL;rw [if_neg (by omega)]
  exact Tzc4
 ·by_cases h1:size<=index
  ·have hr:eL slot size index cells= -1:=by unfold eL;rw [if_neg (by omega)]
   exact Tzc4
  ·by_cases h2:(n:Int)<=slot
   ·have hr:eL slot size index cells= -1:=by unfold eL;rw [if_neg (by have:=HL.out;omega)]
    exact Tzc4
   ·by_cases h3:(n:Int)-slot<=index
    ·have hr:eL slot size index cells= -1:=by unfold eL;rw [if_neg (by have:=HL.out;omega)]
     exact Tzc4
    ·have hr:eL slot size index cells=slot+index:=by unfold eL;rw [if_pos ⟨by omega,by omega,by have:=HL.out;omega⟩]
     rw [hr];clear hr;have d5:decide ((n:Int)<=slot+index)=false:=by simp;omega
     go_enter func205,ntmps205;go_wp2;go_ret;exact ⟨rfl,rfl⟩
def Jt:Nat->Ex->Prop
 |0,_=>False
 |n+1,.mk op val name slot size args=>(0<=op/\op<=22)/\av val/\(0<=slot/\slot<=1000)/\(0<=size/\size<=1000)/\args.length<=2/\∀e∈args,Jt n e
structure qo (v:Env):Prop where
 self:av v.self
 procs:av v.procs
 frm:av v.frm
 value:av v.value
theorem MU {cells:List Int} (h:∀z∈cells,av z) (k:Int):av (iW cells k):=by
 unfold iW;split
 ·rename_i hk;obtain ⟨j,rfl⟩:=Int.eq_ofNat_of_zero_le hk.1;have hj:j<cells.length:=by omega
  have e:(Int.ofNat j).toNat=j:=rfl;rw [show ((j:Int)).toNat=j from rfl,List.getD_eq_getElem?_getD,List.getElem?_eq_getElem hj];exact h _ (List.getElem_mem hj)
 ·exact ⟨by decide,by decide⟩
def kQ (n:Nat) (cells:List Int) (v:Env) (args:List Ex) (i:Nat):Int:=match args[i]? with|none=>0|some e=>Yv n cells v e
theorem pT {cells:List Int} (h:∀z∈cells,av z) {v:Env} (hv:qo v):∀(n:Nat) (t:Ex),Jt n t->av (Yv n cells v t)
 |0,_,h=>h.elim
 |n+1,.mk op val name slot size args,⟨_,h2,_,_,_,h6⟩=>by
  have ha:∀i,av (kQ n cells v args i):=λi=>by
   unfold kQ;split
   ·exact ⟨by decide,by decide⟩
   ·rename_i e he;exact pT h hv n e (h6 e (List.mem_of_getElem? he))
  show av (if op=1 then val else if op=2 then iW cells slot else if op=3 then iW cells (eL slot size (kQ n cells v args 0) cells) else if op=4 then v.self else if op=5 then v.procs
   else if op=6 then v.frm else if op=7 then v.value else if op<8∨22<op then 0 else dT op (kQ n cells v args 0) (kQ n cells v args 1))
  have:=PY (op:=op) (ha 0) (ha 1);have h0:av 0:=⟨by decide,by decide⟩
  repeat' (first|assumption|exact MU h _|exact hv.1|exact hv.2|exact hv.3|exact hv.4|refine DL _ ?_ ?_)
theorem wO {cells:List Int} (h:∀z∈cells,av z) {v:Env} (hv:qo v) {n:Nat} {args:List Ex} (ha:∀e∈args,Jt n e) (i:Nat):av (kQ n cells v args i):=by
 unfold kQ;split
 ·exact ⟨by decide,by decide⟩
 ·rename_i e he;exact pT h hv n e (ha e (List.mem_of_getElem? he))
def yS (n:Nat):Prop:=∀(x:zc) (t:Ex) (S Sc:Nat->Prop) (w:World) (A:Option Addr) (m c:Nat) (cells:List Int) (v:Env),ab n S w x t->Jt n t->a7 bB Sc w (.slice A m c) cells->m<=1000->(∀z∈cells,av z)->qo v->
 Calls Tryz.prog 204 #[.agg #[.int .i64 x.op,.int .i64 x.val,.string x.name,.int .i64 x.slot,.int .i64 x.size,.slice x.A x.n x.c],.slice A m c,.agg #[.int .i64 v.self,.int .i64 v.procs,.int .i64 v.frm,.int .i64 v.value]] w λe w' =>e= .returned (.int .i64 (Yv n cells v t))/\Below w.heap.size w w'
theorem FM (w:World) (x:zc) (v:Env):∃W,W=(w.alloc (.cells #[.int .i64 x.op,.int .i64 x.val,.string x.name,.int .i64 x.slot,.int .i64 x.size,.slice x.A x.n x.c] 244)).alloc (.cells #[.int .i64 v.self,.int .i64 v.procs,.int .i64 v.frm,.int .i64 v.value] 208)/\Below w.heap.size w W/\RowKit.Hid (W.heap.size=w.heap.size+2)/\
 RowKit.Hid (W.heap[w.heap.size]? =some (.cells #[.int .i64 x.op,.int .i64 x.val,.string x.name,.int .i64 x.slot,.int .i64 x.size,.slice x.A x.n x.c] 244 (0,0)))/\RowKit.Hid (W.heap[w.heap.size+1]? =some (.cells #[.int .i64 v.self,.int .i64 v.procs,.int .i64 v.frm,.int .i64 v.value] 208 (0,0))):=by
 refine ⟨_,rfl,((Below.refl _ w).alloc (Nat.le_refl _) _).alloc (by simp) _,aA (by simp),aA ?_,aA ?_⟩
 ·exact Tzap
 ·have:=heap_alloc_new (w.alloc (.cells #[.int .i64 x.op,.int .i64 x.val,.string x.name,.int .i64 x.slot,.int .i64 x.size,.slice x.A x.n x.c] 244)) (.cells #[.int .i64 v.self,.int .i64 v.procs,.int .i64 v.frm,.int .i64 v.value] 208);rw [World.size_alloc] at this;exact this
theorem oP (w:World):(isAgg 242).run Tryz.prog w= .ok false w:=by simp [isAgg,run_underlying underlying242]
theorem TB {W w' :World} {b o:Nat} {y:zc} (hw:Below W.heap.size W w') (hb:b<W.heap.size) (hc:∀i u,(fE y)[i]? =some u->W.cell? ⟨b,o+i,none⟩=some u):
 (loadVar 244 ⟨b,o,none⟩).run Tryz.prog w' = .ok (.agg #[.int .i64 y.op,.int .i64 y.val,.string y.name,.int .i64 y.slot,.int .i64 y.size,.slice y.A y.n y.c]) w' :=by
 have:=run_loadVar_mid (P:=Tryz.prog) w' b o 244 (fE y) _ (λj v hv=>(hw.cell (p:=⟨b,o+j,none⟩) hb).trans (hc j v hv)) underlying244 rfl (by kernel_rfl);exact this
theorem NC (n:Nat) (ih:yS n) (x:zc) (args:List Ex) (i:Nat) (hi:i<=1) (S Sc:Nat->Prop) (w:World) (A:Option Addr) (m c:Nat) (cells:List Int) (v:Env) (hx:cw fE (ab n S w) S w (.slice x.A x.n x.c) args) (ha:∀e∈args,Jt n e) (hl:args.length<=2) (hr:a7 bB Sc w (.slice A m c) cells) (hm:m<=1000) (En:∀z∈cells,av z) (hv:qo v):
 Calls Tryz.prog 208 #[.agg #[.int .i64 x.op,.int .i64 x.val,.string x.name,.int .i64 x.slot,.int .i64 x.size,.slice x.A x.n x.c],.int .i64 (i:Int),.slice A m c,.agg #[.int .i64 v.self,.int .i64 v.procs,.int .i64 v.frm,.int .i64 v.value]] w λe w' =>e= .returned (.int .i64 (kQ n cells v args i))/\Below w.heap.size w w' :=by
 have hlen:=hx.len;have HL:=aA hlen.1;have Jb:=hlen.2;have Rq:x.n<=2:=by omega
 clear hlen;by_cases h0:i<x.n
 ·obtain ⟨b,off,y,u,hA,hS,hb,hu,fw,Am⟩:=hx.at_ eV (j:=i) h0 (by omega);obtain ⟨xo,xv,xm,xs,xz,xA,xn,xc⟩:=x;dsimp only at hA h0 Rq Jb ⊢;subst hA;obtain ⟨W,hW,aw,SW,R0,R1⟩:=FM w ⟨xo,xv,xm,xs,xz,some ⟨b,off,none⟩,xn,xc⟩ v;dsimp only at hW R0;have har:kQ n cells v args i=Yv n cells v u:=by unfold kQ;rw [hu]
  rw [har];have q5:=Ba R0.out;have HU:=aA (ha u (List.mem_of_getElem? hu));have HC:=aA (λk u' h=>(aw.cell (p:=⟨b,off+i*6+k,none⟩) hb).trans (Am k u' h));have qy:b<W.heap.size:=by have:=SW.out;omega
  have Mo:=aA En;clear hu Am har ha En hx;go_enter func208,ntmps208;go_upto_region 1 with fail;rw [<-hW];clear hW;go_upto_region 3 with fail;go_wp2_with fail;refine Tyag ?_;refine TkA ?_;refine lL (λw' ah =>aB (oP _) (Ba ((ah.block w.heap.size (by have:=SW.out;omega)).trans R0.out))) ?_;refine Tyac ?_;refine lL (λw' ah =>TB ah qy HC.out) ?_;refine Tyac ?_;refine bZ (⟨w.heap.size+1,0,none⟩) (.agg #[.int .i64 v.self,.int .i64 v.procs,.int .i64 v.frm,.int .i64 v.value]) rfl rfl rfl (λw' ah =>cT ((ah.block (w.heap.size+1) (by have:=SW.out;omega)).trans R1.out) underlying208 rfl (by kernel_rfl)) ?_;refine Tyai ?_;go_wp2_with fail;refine (ih y u _ _ _ A m c cells v (ab.keep (ae.of_below (Below.ext aw (Below.refl _ W).drew)) _ _ _ fw) HU.out ((hr.ext aw).ext (Below.refl _ W).drew) hm Mo.out hv).mono ?_;rintro e w2 ⟨rfl,ar⟩;have y2:=Below.ext (Below.refl _ W).drew ar;exact Tzfg
 ·have har:kQ n cells v args i=0:=by
   unfold kQ;rw [List.getElem?_eq_none (by have:=HL.out;omega)]
  rw [har];clear har;obtain ⟨W,hW,aw,SW,R0,R1⟩:=FM w x v;have q5:=Ba R0.out;go_enter func208,ntmps208;go_upto_region 1 with fail;rw [<-hW];clear hW;go_wp2;go_ret;exact ⟨rfl,aw⟩
theorem SD (n:Nat) (cells:List Int) (v:Env) (op val:Int) (name:ByteArray) (slot size:Int) (args:List Ex):Yv (n+1) cells v (.mk op val name slot size args)=
 if op=1 then val else if op=2 then iW cells slot else if op=3 then iW cells (eL slot size (kQ n cells v args 0) cells) else if op=4 then v.self else if op=5 then v.procs
  else if op=6 then v.frm else if op=7 then v.value else if op<8∨22<op then 0 else dT op (kQ n cells v args 0) (kQ n cells v args 1):=rfl
theorem GY {slot size index:Int} {cells:List Int} (hs:0<=slot/\slot<=1000) (hz:0<=size/\size<=1000):av (eL slot size index cells):=by
 unfold eL;split
 ·exact ⟨by omega,by omega⟩
 ·exact ⟨by decide,by decide⟩
theorem DU (n:Nat) (ih:yS n):yS (n+1):=by
 intro x t S Sc w A m c cells v fw Dt hr hm En hv;obtain ⟨op,val,name,slot,size,args⟩:=t;obtain ⟨rfl,rfl,rfl,rfl,rfl,ju⟩:=fw;obtain ⟨uo,wy,tp,tu,Zx,fg⟩:=Dt;obtain ⟨W,hW,aw,SW,R0,R1⟩:=FM w x v;have HR:=aA hr;have Mo:=aA En;have wj:=aA fg;have P0:=λ(w' :World) (ah :Below w.heap.size w w')=>ju.keep (ae.of_below ah) (λy u h=>ab.keep (ae.of_below ah) n y u h)
 have HAR:=aA (λ(w' :World) (ah :Below w.heap.size w w') (i:Nat) (hi:i<=1)=>NC n ih x args i hi S Sc w' A m c cells v (P0 w' ah) fg Zx (hr.ext ah) hm En hv);have Jb:=hr.len;have Qy:=aA Jb.1;clear ju P0 hr En fg Jb;rw [SD];have q0:=bn R0.out;have q1:=fi R0.out;have q3:=lj R0.out;have p0:=bn R1.out;have p1:=fi R1.out;have p2:=gn R1.out;have p3:=lj R1.out;have ze:av x.slot:=⟨by omega,by omega⟩
 have Lc:av x.op:=⟨by omega,by omega⟩
 by_cases h1:x.op=1
 ·have e1:(x.op==1)=true:=by simpa using h1
  rw [if_pos h1];clear h1;exact Tzby
 have e1:(x.op==1)=false:=by simpa using h1
 rw [if_neg h1];by_cases h2:x.op=2
 ·have e2:(x.op==2)=true:=by simpa using h2
  rw [if_pos h2];clear h2;go_enter func204,ntmps204;go_upto_region 1 with fail;try rw [<-hW]
  clear hW;go_upto_region 5 with fail;go_wp2_with fail;refine (BH A m c cells x.slot _ W (HR.out.ext aw) ze).mono ?_;rintro e w2 ⟨rfl,rfl⟩;go_wp2;go_ret;exact ⟨rfl,aw⟩
 have e2:(x.op==2)=false:=by simpa using h2
 rw [if_neg h2];by_cases h3:x.op=3
 ·have e3:(x.op==3)=true:=by simpa using h3
  rw [if_pos h3];clear h3;go_enter func204,ntmps204;go_upto_region 1 with fail;try rw [<-hW]
  clear hW;have K0:=aA (HAR.out W.drew (Below.ext aw (Below.refl _ W).drew) 0 (by omega));go_upto_region 7 with fail;go_wp2_with fail;refine Tyag ?_;refine TkA ?_;refine lL (λw' ah =>aB (aW _) (lj ((ah.block w.heap.size (by have:=SW.out;omega)).trans R0.out))) ?_;refine Tyac ?_;refine lL (λw' ah =>aB (aW _) (Tw ((ah.block w.heap.size (by have:=SW.out;omega)).trans R0.out))) ?_;refine Tyac ?_;refine Tyak ?_;go_wp2_with fail;refine K0.out.mono ?_;rintro e w2 ⟨rfl,ar⟩;have y2:=Below.ext (Below.refl _ W).drew ar;go_wp2_with fail;refine aD (y2) ?_;refine Tyah ?_;go_wp2_with fail;refine (xE A m c cells x.slot x.size _ w2 Qy.out hm tp tu (wO Mo.out hv wj.out 0)).mono ?_;rintro e w3 ⟨rfl,rfl⟩;go_wp2_with fail;refine aD (y2) ?_;refine Tyah ?_;go_wp2_with fail;refine (BH A m c cells _ _ w3 (HR.out.ext (Below.ext aw y2)) (GY tp tu)).mono ?_;rintro e w4 ⟨rfl,rfl⟩;exact Tzfg
 have e3:(x.op==3)=false:=by simpa using h3
 rw [if_neg h3];by_cases h4:x.op=4
 ·have e4:(x.op==4)=true:=by simpa using h4
  rw [if_pos h4];clear h4;exact Tzby
 have e4:(x.op==4)=false:=by simpa using h4
 rw [if_neg h4];by_cases h5:x.op=5
 ·have e5:(x.op==5)=true:=by simpa using h5
  rw [if_pos h5];clear h5;exact Tzby
 have e5:(x.op==5)=false:=by simpa using h5
 rw [if_neg h5];by_cases h6:x.op=6
 ·have e6:(x.op==6)=true:=by simpa using h6
  rw [if_pos h6];clear h6;exact Tzby
 have e6:(x.op==6)=false:=by simpa using h6
 rw [if_neg h6];by_cases h7:x.op=7
 ·have e7:(x.op==7)=true:=by simpa using h7
  rw [if_pos h7];clear h7;exact Tzby
 have e7:(x.op==7)=false:=by simpa using h7
 rw [if_neg h7];by_cases h8:x.op<8
 ·have e8:decide (x.op<8)=true:=by simpa using h8
  rw [if_pos (.inl h8)];exact Tzby
 ·have e8:decide (x.op<8)=false:=by simpa using h8
  have e22:decide (22<x.op)=false:=by simp;omega
  rw [if_neg (by omega)];go_enter func204,ntmps204;go_upto_region 1 with fail;try rw [<-hW]
  clear hW;have K0:=aA (HAR.out W.drew (Below.ext aw (Below.refl _ W).drew) 0 (by omega));go_upto_region 18 with fail;go_wp2_with fail;refine Tyag ?_;refine TkA ?_;refine Tyae ?_;refine Tyak ?_;go_wp2_with fail;refine K0.out.mono ?_;rintro e w2 ⟨rfl,ar⟩;have y2:=Below.ext (Below.refl _ W).drew ar;have K1:=aA (HAR.out w2 (Below.ext aw y2) 1 (by omega));go_wp2_with fail;refine aD (y2) ?_;refine TkA ?_;refine Tyak ?_;go_wp2_with fail;refine K1.out.mono ?_;rintro e w3 ⟨rfl,ea⟩;have y3:=Below.ext y2 ea;go_wp2_with fail;refine aD (y3) ?_;refine Tyah ?_;go_wp2_with fail;refine (KC x.op _ _ w3 uo (wO Mo.out hv wj.out 0) (wO Mo.out hv wj.out 1)).mono ?_;rintro e w4 ⟨rfl,rfl⟩;go_wp2_with fail;refine aD (y3) ?_;refine Tyan ?_;go_wp2_with fail;go_ret;exact ⟨rfl,Below.ext aw y3⟩
theorem wT:∀(n:Nat),yS n
 |0=>λx t S Sc w A m c cells v h=>h.elim
 |n+1=>DU n (wT n)
end Go.Proofs.YtiblijmngokcgaaGreatDoor
