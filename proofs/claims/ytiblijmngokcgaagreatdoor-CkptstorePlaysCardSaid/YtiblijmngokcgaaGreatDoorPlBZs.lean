import Derived.Test.YtiblijmngokcgaaGreatDoorG41Zs
import Derived.Test.YtiblijmngokcgaaGreatDoorPl9Zs
import Derived.Test.YtiblijmngokcgaaGreatDoorPlAZs
set_option linter.unusedVariables false
set_option linter.unusedSimpArgs false
set_option maxHeartbeats 32000000
set_option maxRecDepth 100000
namespace Go.Proofs.YtiblijmngokcgaaGreatDoor
open Go.Proofs.Tryz
open Go.RowKit
theorem dI {o:Oper} (h:nQ o=true):dC o=0:=by
 unfold nQ at h;split at h
 ·cases h
 ·simpa using h
section
variable {P : Program} {ops : Array Oper} {K0 : Act -> World -> Prop} {S : World -> Prop}
theorem kB {o:Oper} {a:Act} {w:World} {rest:List Oper} {t:TypeId} {x:Operand} (A:Addr) (v:Value) (ho:o.op= .load t x) (hw:Region.wanted o (yielded ops a.tmps)=true) (hx:a.eval x= .pointer (some A))
 (hv:∀w',S w'->(loadVar t A).run P w' = .ok v w') (h:bG P ops S eG K0 rest (a.put o.dst v) w):bG P ops S eG K0 (o::rest) a w:=
 pO v (by unfold eG bA;rw [ho]) hw (λw' ah =>by
  unfold execOp;simp only [ho,hx,Instr.loadAt,Instr.sureAddr,Sem.run_bind,Sem.run_pure,Result.andThen_ok,hv w' ah]) h
theorem tX {α:Type} {enc:α->List Value} {k:Nat} (hk:∀x,(enc x).length=k) {o:Oper} {a:Act} {w:World} {rest:List Oper} {T E:TypeId} {x:Operand} {lo hi mx:Option Operand} {A:Option Addr} {n c:Nat} {D:Nat->Prop} {w0:World} {L:List α} (l h m n' c' :Nat) (L' :List α)
 (uw:Region.wanted o (yielded ops a.tmps)=true) (ho:o.op= .slice T x lo hi mx) (hx:a.eval x= .slice A n c) (ht:P.underlying T=some (.slice E)) (Ej :(P.info? E).map (·.size)=some k)
 (ua:(lo=none/\l=0)∨∃y kd e,lo=some y/\a.eval y= .int kd e/\e=(l:Int)) (XE:(hi=none/\mx=none/\h=n)∨∃y kd e,hi=some y/\a.eval y= .int kd e/\e=(h:Int))
 (J9:(mx=none/\m=c)∨∃y kd e,mx=some y/\a.eval y= .int kd e/\e=(m:Int)) (hb:a7 enc D w0 (.slice A n c) L) (h1:l<=h) (h2:h<=m) (h3:h<=n) (h4:m<=c) (Du :n' =h-l) (XV :c' =m-l) (hL' :L' =(L.drop l).take (h-l))
 (K:∀A',a7 enc D w0 (.slice A' n' c') L'->n'<=c'->bG P ops S eG K0 rest (a.put o.dst (.slice A' n' c')) w):bG P ops S eG K0 (o::rest) a w:=by
 subst Du XV hL';refine eH (by unfold eG bA dC;simp [ho]) (.inl ⟨uw,λw' _=> ?_⟩) (K _ (hb.part hk h1 h2 h3 h4) (by omega));exact zO l h m ho hx ht Ej ua XE J9 h1 h2 h4 w'
end
structure StP (s:bj):Prop where
 sv:xr s
 c:s.cells.length<=400
 e:s.evs.length<=100
 sn:s.sent.length<=100
 o:s.outs.length<=100
theorem wX (A:Option Addr) (n c:Nat) (fs:List au) (S:Nat->Prop) (w:World) (hD:fh S w (.slice A n c) fs) (hn:n<=1000) (hf:eD fs) (slot:Int) (s:bj) (A1:Option Addr) (n1 c1:Nat) (A2:Option Addr) (n2 c2:Nat) (A3:Option Addr) (n3 c3:Nat) (A4:Option Addr) (n4 c4:Nat) (Ss:Nat->Prop) (hM:j7 Ss w s A1 n1 c1 A2 n2 c2 A3 n3 c3 A4 n4 c4) (hs:StP s) (base:Int) (Y6:av base) (r:Except Nat (List au)) (hr:gh fs s slot base r):
 Calls Tryz.prog 23 #[.agg #[.slice A n c],.int .i64 slot,.agg #[.slice A1 n1 c1,.slice A2 n2 c2,.slice A3 n3 c3,.slice A4 n4 c4],.int .i64 base] w λe w' =>Vn (λb=>S b∨w.heap.size<=b) n w' r e/\Below w.heap.size w w' :=by
 obtain ⟨W,hW,aw,SW,R0,R1,R2⟩:=BJ w #[.slice A n c] #[.slice A1 n1 c1,.slice A2 n2 c2,.slice A3 n3 c3,.slice A4 n4 c4] #[.slice none 0 0] 36 51 36;have af:w.heap.size+2<W.heap.size:=by have:=SW.out;omega
 have ez:=aA hD.len.1;have sx:fh (λb=>S b/\b<w.heap.size) W (.slice A n c) fs:=(hD.mono (λb h1 h2=>⟨h2,h1⟩)).ext aw;have wm:j7 (λb=>b<w.heap.size) W s A1 n1 c1 A2 n2 c2 A3 n3 c3 A4 n4 c4:=j7.ext ⟨hM.1.mono (λb h _=>h),hM.2.mono (λb h _=>h),hM.3.mono (λb h _=>h),hM.4.mono (λb h _=>h)⟩ aw;have HF:=aA hf;have HS:=aA hs;have q0:=bn R0.out;have nf:∀(m:Nat) (r' :Except Nat bj),bm fs m base r'->RlR fs base r' :=λm r' h=>by
  obtain ⟨r3,h3⟩:=bm.ex fs base;have:=bm.uniq h h3;subst this;exact mP fs hf _ _ _ h3 (by have:=ez.out;omega)
 have Ay:=aA nf;have HV:=aA hr.view;clear hD hf hM hs nf hr;go_enter func23,ntmps23;go_upto_region 1 with fail;rw [<-hW];clear hW;by_cases jg:slot<0∨(n:Int)<=slot
 ·have HR:=aA (show r= .error 11 by
   rcases HV.out with ⟨_,h⟩|⟨k,h1,h2,_⟩
   ·exact h
   ·have:=ez.out;omega)
  by_cases hk:slot<0
  ·have dk:decide (slot<0)=true:=by simpa using hk
   clear hk jg;exact Tzcl
  ·have dk:decide (slot<0)=false:=by simpa using hk
   have dk2:decide ((n:Int)<=slot)=true:=by simp;omega
   clear hk jg;exact Tzcl
 obtain ⟨k,rfl⟩:=Int.eq_ofNat_of_zero_le (show 0<=slot by omega);have Ln:k<n:=by omega
 have HR4:=aA (show (base= -1/\r=gN fs k ⟨1,0,-1,0⟩ (aI s.l))∨(base≠-1/\((∃n e,bm fs n base (.error e)/\r= .error 11)∨∃n u,bm fs n base (.ok u)/\(((base=(k:Int)∨¬tn s u)/\r= .error 7)∨(base≠(k:Int)/\tn s u/\∃g q,cA (bV fs base)= .ok (g,q)/\r=gN fs k ⟨2,0,base,g.stamp⟩ (dY s u))))) by
  rcases HV.out with ⟨h,_⟩|⟨k',h1,_,h2⟩
  ·have:=ez.out;omega
  ·obtain rfl:k=k' :=by omega
   exact h2)
 have dk:decide (n<=k)=false:=by simp;omega
 clear jg HV;obtain ⟨W2,fv,kh,Sh,bh,Lw,Rh,L7,lh,mh⟩:=bE W #[.int .i64 1,.int .i64 0,.int .i64 (-1),.int .i64 0] 96;have UM:=bT kh R1;have ri:=wm.ext kh;have HPS:=aA (oV (.slice none 0 0) [] (λ_=>True) W2 (Bytes.nil_ _ _) s A1 A2 A3 A4 n1 c1 n2 c2 n3 c3 n4 c4 (ri.1.mono (λb h _=>h)) (ri.2.mono (λb h _=>h)) (ri.3.mono (λb h _=>h)) (ri.4.mono (λb h _=>h)) HS.out.sv.ok (by simp) (by have:=ri.2.len.1;have:=HS.out.e;omega) (by have:=ri.3.len.1;have:=HS.out.sn;omega) (by have:=ri.4.len.1;have:=HS.out.o;omega));go_upto_region 4 with (refine sN ?_)
 try dsimp only
 rw [<-fv,<-L7.out];clear fv Lw;refine Tyal ?_;clear q0;go_wp2_with (refine aK (t:=51) (A:=⟨w.heap.size+1,0,none⟩) rfl rfl rfl (lB (t:=51) UM.out) ?_)
 refine HPS.out.mono ?_;rintro e w3 ⟨v3,rfl,Cc,b3⟩;rw [List.nil_append] at Cc;have s3:=b3.size;have y03:=Below.ext kh b3;have UR:=bT y03 R0;have RS3:=bT b3 UM;have ZR:=bT y03 R2;have RH3:=bT b3 Rh lh;have D8:=sx.ext y03;have Kr:=ri.ext b3;have ea:=Below.ext aw y03;have wbh:w.heap.size+2<bh:=by omega
 clear sx ri wm;obtain ⟨C,cc,rfl,ej,ed,fq⟩:=Cc;obtain ⟨Br,Ep⟩:=eX (aI s.l);rw [<-Ep] at ej fq ⊢;obtain ⟨m,hm⟩:=eX Br.length;rw [<-hm] at ej ⊢;have Zo:Bytes (λ_=>True) w3 (.slice C m cc) Br:=⟨C,cc,by rw [hm],by omega,ed,fq⟩
 have HBD:=aA Ep;have HM:=aA hm;clear hm Ep ej fq;rcases HR4.out with ⟨al,tv⟩|⟨al,Nt⟩
 ·have db:(base != -1)=false:=by simp [al]
  have HI:∀st:Int,av st->∀z∈(Hd.l ⟨1,st,-1,0⟩),av z:=by
   exact Tzdq
  rw [<-HBD.out] at tv;obtain ⟨kd,bs,un,RHt,HRt,HIt⟩:∃kd bs un:Int,RowKit.Hid (w3.heap[bh]? =some (.cells #[.int .i64 kd,.int .i64 0,.int .i64 bs,.int .i64 un] 96 (0,0)))/\RowKit.Hid (r=gN fs k ⟨kd,0,bs,un⟩ Br)/\RowKit.Hid (∀st:Int,av st->∀z∈(Hd.l ⟨kd,st,bs,un⟩),av z):=⟨1,-1,0,RH3,aA tv,aA HI⟩
  clear al tv HI HR4 Ay Kr;have RDt:=UR;have RZt:=ZR;have hDt:=D8;have Lu:=ea;have yWt:W2.heap.size<=w3.heap.size:=s3;obtain ⟨wt,hwt⟩:=eX w3;subst hwt;clear UR ZR D8 ea;go_upto_region 14 with fail;clear db;exact Tzab
 have db:(base != -1)=true:=by simpa using al
 clear al Zo HM HBD HR4;rcases Nt with ⟨m0,e0,hL,tv⟩|⟨m0,u,hL,Nt⟩
 ·have C8:=aA ((Ay.out _ _ hL).2 A n c _ w3 D8 hn);have HR:=aA tv;clear tv hL;go_wp2_with (refine lD (t:=36) UR ?_)
  refine C8.out.mono ?_;rintro e w4 ⟨gd,b4⟩;unfold Dh at gd;dsimp only at gd;obtain ⟨Jg,rfl⟩:=gd;have dx:((e0:Int) != 0)=true:=by simpa using Jg
  obtain ⟨W5,nj,ku,Su,bu,Oq,Ru,Qz,lu,mu⟩:=bE w4 #[.slice none 0 0,.slice none 0 0,.slice none 0 0,.slice none 0 0] 51;have y5:=Below.ext b4 ku;have Wu:=bT y5 ZR;have gu:=Below.ext ea y5;clear Jg;go_upto_region 7 with (refine sN ?_)
  try dsimp only
  rw [<-nj,<-Qz.out];clear nj Oq;refine Tyal ?_;exact Tzc3
 have C8:=aA ((Ay.out _ _ hL).2 A n c _ w3 D8 hn);clear hL;go_wp2_with (refine lD (t:=36) UR ?_)
 refine C8.out.mono ?_;rintro e w4 ⟨gd,b4⟩;unfold Dh at gd;dsimp only at gd;obtain ⟨E1,nz,pf,E2,jt,pe,E3,js,pb,E4,jr,pa,rfl,hU⟩:=gd;obtain ⟨W5,nj,ku,Su,bu,Oq,Ru,Qz,lu,mu⟩:=bE w4 #[.slice E1 nz pf,.slice E2 jt pe,.slice E3 js pb,.slice E4 jr pa] 51;have y5:=Below.ext b4 ku;have z5:=y5.size;have z4:=b4.size;have RD5:=bT y5 UR;have RS5:=bT y5 RS3;have Wu:=bT y5 ZR;have RH5:=bT y5 RH3;have gu:=Below.ext ea y5;have Md:=D8.ext y5;have E5:=Kr.ext y5;have ZA:=hU.ext ku;have hbu2:bh<bu:=by omega
 clear hU D8 Kr;go_upto_region 7 with (refine sN ?_)
 try dsimp only
 rw [<-nj,<-Qz.out];clear nj Oq;refine Tyal ?_;have Tc:=aA (CB s u A1 n1 c1 A2 n2 c2 A3 n3 c3 A4 n4 c4 E1 nz pf E2 jt pe E3 js pb E4 jr pa _ _ W5 E5 ZA);rcases Nt with ⟨Ry,tv⟩|⟨fb,hx,g,qg,hh,tv⟩
 ·have HR:=aA tv;clear tv;by_cases Ot:base=(k:Int)
  ·have ZJ:(base==(k:Int))=true:=by simpa using Ot
   clear Ot Ry;exact Tzc3
  ·have ZJ:(base==(k:Int))=false:=by simpa using Ot
   have hex:nE s u=false:=by
    have:=Ry.resolve_left Ot;rw [<-oM] at this;simpa using this
   rw [hex] at Tc;clear Ot Ry hex;go_wp2_with (first|(refine aK (t:=51) (A:=⟨w.heap.size+1,0,none⟩) rfl rfl rfl (lB (t:=51) RS5.out) ?_)|(refine lD (t:=51) Ru ?_))
   refine Tc.out.mono ?_;rintro e w6 ⟨rfl,b6⟩;have ZP:=bT b6 Wu;have il:=Below.ext gu b6;go_wp2_with (refine sR ZP ?_)
   refine rT ZP ?_;rw [HR.out];exact ⟨⟨by omega,rfl⟩,il.grown (aC _ _ _) il.size (λo e=>by cases e;omega)⟩
 have ZJ:(base==(k:Int))=false:=by simpa using fb
 have hex:=(oM s u).2 hx;rw [hex] at Tc;have HX:=aA hx;have HH:=aA hh;have Ax:=aA tv;have Jd:=(jP hh).1 g.stamp (by simp [Hd.l]);have hbl0:=jS HF.out base;clear hex fb hx hh tv;go_wp2_with (first|(refine aK (t:=51) (A:=⟨w.heap.size+1,0,none⟩) rfl rfl rfl (lB (t:=51) RS5.out) ?_)|(refine lD (t:=51) Ru ?_))
 refine Tc.out.mono ?_;rintro e w6 ⟨rfl,b6⟩;have z6:=b6.size;have ZT:=bT b6 RD5;have Ho:=Md.ext b6;have WC:=aA (mS A n c fs _ w6 Ho hn base HF.out);clear Md;go_wp2_with (refine lD (t:=36) ZT ?_)
 refine WC.out.mono ?_;rintro e w7 ⟨A7,m7,c7,rfl,hy7,b7⟩;have hm7:=hy7.len.1;have HRG:=aA (mR A7 m7 c7 (bV fs base) _ w7 hy7 (by omega));clear hy7 hm7 hbl0;go_wp2_with fail;refine HRG.out.mono ?_;rintro e w8 ⟨g',qg',xg,rfl,qj,b8⟩;obtain rfl:g' =g:=by
  rcases qj with ⟨h1,_⟩|⟨h1,_⟩
  ·rw [HH.out] at h1;cases h1;rfl
  ·rw [HH.out] at h1;cases h1
 obtain ⟨W9,ow,ke,Se,be,VX,Re,YZ,le,me⟩:=bE w8 #[.int .i64 g'.kind,.int .i64 g'.stamp,.int .i64 g'.base,.int .i64 g'.under] 96;have y9:=Below.ext b6 (Below.ext b7 (Below.ext b8 ke));have y69:=Below.ext b7 (Below.ext b8 ke);have z9:=y69.size;have RD9:=bT y69 ZT;have RS9:=bT y9 RS5;have RZ9:=bT y9 Wu;have RH9:=bT y9 RH5;have RU9:=bT y9 Ru lu;have Yn:=Ho.ext y69;have Is:=E5.ext y9;have We:=ZA.ext y9;have gf:=Below.ext gu y9;have mbe:bu<be:=by have:=b7.size;have:=b8.size;omega
 have qe:=fi Re.out;clear qj Ho E5 ZA;go_upto_region 12 with (refine sN ?_)
 try dsimp only
 rw [<-ow,<-YZ.out];clear ow VX;refine Tyal ?_;obtain ⟨kc,jb⟩:=eX (W9.setRow bh #[.int .i64 2,.int .i64 0,.int .i64 base,.int .i64 g'.stamp]);have T0:W9.grownBy kc (some bh):=by rw [jb];exact aC _ _ _
 have RHA:=aA (show kc.heap[bh]? =some (.cells #[.int .i64 2,.int .i64 0,.int .i64 base,.int .i64 g'.stamp] 96 (0,0)) by rw [jb];exact setRow_heap _ _ _ _ _ _ RH9.out);have RDA:=gT T0 RD9;have RSA:=gT T0 RS9;have RZA:=gT T0 RZ9;have RUA:=gT T0 RU9;have hDA:=Yn.keep (w' :=kc) (λb hb hs=>T0.block b hb (by have:=hs.2;simp;omega));have hbA:Below w.heap.size w kc:=gf.grown T0 gf.size (λo e=>by cases e;omega);have zA:W9.heap.size<=kc.heap.size:=T0.size;have kM:ae (λb=>b<w.heap.size) W9 kc:=λb hb hs=>T0.block b hb (by simp;omega)
 have kU:ae (λb=>w3.heap.size<=b) W9 kc:=λb hb hs=>T0.block b hb (by simp;omega)
 have N7:j7 (λb=>b<w.heap.size) kc s A1 n1 c1 A2 n2 c2 A3 n3 c3 A4 n4 c4:=⟨Is.1.keep kM,Is.2.keep kM,Is.3.keep kM,Is.4.keep kM⟩
 have Zz:j7 (λb=>w3.heap.size<=b) kc u E1 nz pf E2 jt pe E3 js pb E4 jr pa:=⟨We.1.keep kU,We.2.keep kU,We.3.keep kU,We.4.keep kU⟩
 clear Is We Yn;go_upto_region 13 with (refine sR RH9 ?_)
 rw [<-jb];refine Tyal ?_;clear jb qe T0;have l1:=N7.1.len;have l2:=N7.2.len;have l3:=N7.3.len;have l4:=N7.4.len;have k1:=Zz.1.len;have k2:=Zz.2.len;have k3:=Zz.3.len;have k4:=Zz.4.len;have x2:jt<=n2:=by have:=HX.out.e.length_le;omega
 have x3:js<=n3:=by have:=HX.out.sn.length_le;omega
 have x4:jr<=n4:=by have:=HX.out.o.length_le;omega
 have v1:n1<=400:=by have:=HS.out.c;omega
 have v2:n2<=100:=by have:=HS.out.e;omega
 have v3:n3<=100:=by have:=HS.out.sn;omega
 have v4:n4<=100:=by have:=HS.out.o;omega
 have v5:nz<=400:=by have:=HX.out.c;omega
 have y2:n2<=c2:=l2.2.1;have y3:n3<=c3:=l3.2.1;have y4:n4<=c4:=l4.2.1;have z2_:s.evs.length<=n2:=by omega
 have z3_:s.sent.length<=n3:=by omega
 have z4_:s.outs.length<=n4:=by omega
 have HK:=aA (show u.evs.length=jt/\u.sent.length=js/\u.outs.length=jr from ⟨k2.1,k3.1,k4.1⟩);have he2:=N7.2;have he3:=N7.3;have he4:=N7.4;clear l1 l2 l3 l4 k1 k2 k3 k4;obtain ⟨wd,Cb⟩:=eX kc.drew;have kd_:Below kc.heap.size kc wd:=by rw [Cb];exact (Below.refl _ kc).drew
 have HDF:=aA (GQ E1 nz pf u.cells A1 n1 c1 s.cells _ _ wd (Zz.1.ext kd_) (N7.1.ext kd_) (by omega) (by omega));go_wp2_with fail;refine vV ((λw' =>w'.heap[w.heap.size+1]? =some (.cells #[.slice A1 n1 c1,.slice A2 n2 c2,.slice A3 n3 c3,.slice A4 n4 c4] 51 (0,0))/\w'.heap[bu]? =some (.cells #[.slice E1 nz pf,.slice E2 jt pe,.slice E3 js pb,.slice E4 jr pa] 51 (0,0)))) (by kernel_rfl) (by kernel_rfl) (⟨RSA.out,RUA.out⟩) ?_;repeat (refine eE (dI rfl) rfl ?_;go_big_quiet_step (fail);refine wpQuiet_nil ?_)
 refine kB (⟨bu,0,none⟩) (.slice E1 nz pf) rfl rfl rfl (λw' ah =>aB (eQ _) (aM ah.2 0 _ rfl)) ?_;refine TkI ?_;repeat (refine eE (dI rfl) rfl ?_;go_big_quiet_step (fail);refine wpQuiet_nil ?_)
 refine kB (⟨w.heap.size+1,0,none⟩) (.slice A1 n1 c1) rfl rfl rfl (λw' ah =>aB (eQ _) (aM ah.1 0 _ rfl)) ?_;refine TkI ?_;repeat (refine eE (dI rfl) rfl ?_;go_big_quiet_step (fail);refine wpQuiet_nil ?_)
 rw [<-Cb];clear Cb;refine lP rfl ?_;go_wp2_with fail;refine HDF.out.mono ?_;rintro e wa ⟨P,pm,pc,rfl,hP,ba⟩;have za:=ba.size;have ya:=Below.ext kd_ ba;have jd:=hP.len;have hd:pm<=100:=by have h1:=pD u.cells s.cells;have h2:=HS.out.c;unfold bN at h1;omega
 have HPU:=aA (uU (.slice none 0 0) [] (λ_=>True) wa (Bytes.nil_ _ _) P pm pc (dJ u.cells s.cells) (DA hP) (qP HS.out.sv.ok.cells (by have:=HS.out.c;omega)) (by simp) hd);clear jd hP;go_wp2_with fail;refine kC (⟨(ya.block (w.heap.size+1) (by omega)).trans RSA.out,(ya.block bu (by omega)).trans RUA.out⟩) ?_;repeat (refine eE (dI rfl) rfl ?_;go_big_quiet_step (fail);refine wpQuiet_nil ?_)
 refine lP rfl ?_;go_wp2_with fail;refine HPU.out.mono ?_;rintro e wb ⟨vp,rfl,hvp,YA⟩;rw [List.nil_append] at hvp;have yb:=Below.ext ya YA;have zb:=yb.size;have hyl:=qN u.cells s.cells HS.out.sv.ok.cells (by have:=HS.out.c;omega);have Sb:=aA (show wb.heap[w.heap.size+1]? =some (.cells #[.slice A1 n1 c1,.slice A2 n2 c2,.slice A3 n3 c3,.slice A4 n4 c4] 51 (0,0))/\wb.heap[bu]? =some (.cells #[.slice E1 nz pf,.slice E2 jt pe,.slice E3 js pb,.slice E4 jr pa] 51 (0,0)) from ⟨(yb.block (w.heap.size+1) (by omega)).trans RSA.out,(yb.block bu (by omega)).trans RUA.out⟩);go_wp2_with fail;refine kC (Sb.out) ?_;repeat (refine eE (dI rfl) rfl ?_;go_big_quiet_step (fail);refine wpQuiet_nil ?_)
 refine kB (⟨w.heap.size+1,1,none⟩) (.slice A2 n2 c2) rfl rfl rfl (λw' ah =>aB (iD _) (aM ah.1 1 _ rfl)) ?_;refine TkI ?_;repeat (refine eE (dI rfl) rfl ?_;go_big_quiet_step (fail);refine wpQuiet_nil ?_)
 refine kB (⟨bu,1,none⟩) (.slice E2 jt pe) rfl rfl rfl (λw' ah =>aB (iD _) (aM ah.2 1 _ rfl)) ?_;refine TkI ?_;repeat (refine eE (dI rfl) rfl ?_;go_big_quiet_step (fail);refine wpQuiet_nil ?_)
 refine tX cN (jt) (n2) (c2) (n2-jt) (c2-jt) (s.evs.drop jt) rfl rfl rfl underlying30 (by kernel_rfl) (by first|exact .inl ⟨rfl,rfl⟩|exact .inr ⟨_,_,_,rfl,rfl,by omega⟩) (by first|exact .inl ⟨rfl,rfl,rfl⟩|exact .inr ⟨_,_,_,rfl,rfl,by omega⟩) (by first|exact .inl ⟨rfl,rfl⟩|exact .inr ⟨_,_,_,rfl,rfl,by omega⟩) (he2) (by omega) (by omega) (by omega) (by omega) (by omega) (by omega) (by first|rfl|(simp;done)|exact (List.take_of_length_le (by simp;omega)).symm) ?_;intro D2 wo Mc;refine TkI ?_;repeat (refine eE (dI rfl) rfl ?_;go_big_quiet_step (fail);refine wpQuiet_nil ?_)
 refine kB (⟨w.heap.size+1,2,none⟩) (.slice A3 n3 c3) rfl rfl rfl (λw' ah =>aB (jA _) (aM ah.1 2 _ rfl)) ?_;refine TkI ?_;repeat (refine eE (dI rfl) rfl ?_;go_big_quiet_step (fail);refine wpQuiet_nil ?_)
 refine kB (⟨bu,2,none⟩) (.slice E3 js pb) rfl rfl rfl (λw' ah =>aB (jA _) (aM ah.2 2 _ rfl)) ?_;refine TkI ?_;repeat (refine eE (dI rfl) rfl ?_;go_big_quiet_step (fail);refine wpQuiet_nil ?_)
 refine tX cZ (js) (n3) (c3) (n3-js) (c3-js) (s.sent.drop js) rfl rfl rfl underlying48 (by kernel_rfl) (by first|exact .inl ⟨rfl,rfl⟩|exact .inr ⟨_,_,_,rfl,rfl,by omega⟩) (by first|exact .inl ⟨rfl,rfl,rfl⟩|exact .inr ⟨_,_,_,rfl,rfl,by omega⟩) (by first|exact .inl ⟨rfl,rfl⟩|exact .inr ⟨_,_,_,rfl,rfl,by omega⟩) (he3) (by omega) (by omega) (by omega) (by omega) (by omega) (by omega) (by first|rfl|(simp;done)|exact (List.take_of_length_le (by simp;omega)).symm) ?_;intro D3 D8 Fs;refine TkI ?_;repeat (refine eE (dI rfl) rfl ?_;go_big_quiet_step (fail);refine wpQuiet_nil ?_)
 refine kB (⟨w.heap.size+1,3,none⟩) (.slice A4 n4 c4) rfl rfl rfl (λw' ah =>aB (jB _) (aM ah.1 3 _ rfl)) ?_;refine TkI ?_;repeat (refine eE (dI rfl) rfl ?_;go_big_quiet_step (fail);refine wpQuiet_nil ?_)
 refine kB (⟨bu,3,none⟩) (.slice E4 jr pa) rfl rfl rfl (λw' ah =>aB (jB _) (aM ah.2 3 _ rfl)) ?_;refine TkI ?_;repeat (refine eE (dI rfl) rfl ?_;go_big_quiet_step (fail);refine wpQuiet_nil ?_)
 refine tX dA (jr) (n4) (c4) (n4-jr) (c4-jr) (s.outs.drop jr) rfl rfl rfl underlying49 (by kernel_rfl) (by first|exact .inl ⟨rfl,rfl⟩|exact .inr ⟨_,_,_,rfl,rfl,by omega⟩) (by first|exact .inl ⟨rfl,rfl,rfl⟩|exact .inr ⟨_,_,_,rfl,rfl,by omega⟩) (by first|exact .inl ⟨rfl,rfl⟩|exact .inr ⟨_,_,_,rfl,rfl,by omega⟩) (he4) (by omega) (by omega) (by omega) (by omega) (by omega) (by omega) (by first|rfl|(simp;done)|exact (List.take_of_length_le (by simp;omega)).symm) ?_;intro D4 uv hE4;refine TkI ?_;repeat (refine eE (dI rfl) rfl ?_;go_big_quiet_step (fail);refine wpQuiet_nil ?_)
 have HPS2:=aA (oV vp (aI (wk (dJ u.cells s.cells))) _ wb hvp ⟨[],s.evs.drop jt,s.sent.drop js,s.outs.drop jr⟩ none D2 D3 D4 0 0 (n2-jt) (c2-jt) (n3-js) (c3-js) (n4-jr) (c4-jr) (a7.nil_ _ _) ((wo.ext yb).mono (λb h _=>h)) ((D8.ext yb).mono (λb h _=>h)) ((uv.ext yb).mono (λb h _=>h)) ⟨by simp,λe he=>HS.out.sv.ok.evs e (List.mem_of_mem_drop he),λe he=>HS.out.sv.ok.sent e (List.mem_of_mem_drop he),λe he=>HS.out.sv.ok.outs e (List.mem_of_mem_drop he),by simp⟩ (by omega) (by omega) (by omega) (by omega));clear hvp wo D8 uv he2 he3 he4;refine pO (.agg #[.slice none 0 0,.slice D2 (n2-jt) (c2-jt),.slice D3 (n3-js) (c3-js),.slice D4 (n4-jr) (c4-jr)]) rfl rfl (λw' _=>by kernel_rfl) ?_;refine TkI ?_;repeat (refine eE (dI rfl) rfl ?_;go_big_quiet_step (fail);refine wpQuiet_nil ?_)
 refine lP rfl ?_;go_wp2_with fail;refine HPS2.out.mono ?_;rintro e G0 ⟨v11,rfl,hv11,T3⟩;have uk:=Below.ext yb T3;have z11:=uk.size;go_wp2_with fail;refine kC (⟨(uk.block (w.heap.size+1) (by omega)).trans RSA.out,(uk.block bu (by omega)).trans RUA.out⟩) ?_;repeat (refine eE (dI rfl) rfl ?_;go_big_quiet_step (fail);refine wpQuiet_nil ?_)
 refine AJ ?_;have hv12:Bytes (λ_=>True) G0 v11 (dY s u):=by
  have e:dY s u=aI (wk (dJ u.cells s.cells))++aI (bj.l ⟨[],s.evs.drop jt,s.sent.drop js,s.outs.drop jr⟩):=by unfold dY eW;rw [HK.out.1,HK.out.2.1,HK.out.2.2]
  rw [e];exact hv11
 have tv:=Ax.out;clear hv11 N7 Zz;obtain ⟨C,cc,rfl,ej,ed,fq⟩:=hv12;obtain ⟨Br,Ep⟩:=eX (dY s u);rw [<-Ep] at ej fq tv ⊢;obtain ⟨m,hm⟩:=eX Br.length;rw [<-hm] at ej ⊢;have Zo:Bytes (λ_=>True) G0 (.slice C m cc) Br:=⟨C,cc,by rw [hm],by omega,ed,fq⟩
 have HM:=aA hm;have HI:∀st:Int,av st->∀z∈(Hd.l ⟨2,st,base,g'.stamp⟩),av z:=by
  intro st en z hz;simp only [Hd.l,List.mem_cons,List.not_mem_nil,or_false] at hz;rcases hz with rfl|rfl|rfl|rfl
  ·exact ⟨by omega,by omega⟩
  ·exact en
  ·exact Y6
  ·exact Jd
 have RDt:=bT uk RDA;have RZt:=bT uk RZA;obtain ⟨kd,bs,un,RHt,HRt,HIt⟩:∃kd bs un:Int,RowKit.Hid (G0.heap[bh]? =some (.cells #[.int .i64 kd,.int .i64 0,.int .i64 bs,.int .i64 un] 96 (0,0)))/\RowKit.Hid (r=gN fs k ⟨kd,0,bs,un⟩ Br)/\RowKit.Hid (∀st:Int,av st->∀z∈(Hd.l ⟨kd,st,bs,un⟩),av z):=⟨2,base,g'.stamp,bT uk RHA,aA tv,aA HI⟩
 have hDt:=hDA.ext uk;have Lu:=Below.ext hbA uk;have yWt:W2.heap.size<=G0.heap.size:=by omega
 clear hm Ep ej fq tv HI hDA;obtain ⟨wt,hwt⟩:=eX G0;subst hwt;go_upto_region 14 with fail;clear db ZJ;exact Tzab
end Go.Proofs.YtiblijmngokcgaaGreatDoor
