import Derived.Test.YtiblijmngokcgaaGreatDoorCs8Zs
import Derived.Test.YtiblijmngokcgaaGreatDoorG17Zs
set_option linter.unusedVariables false
set_option linter.unusedSimpArgs false
set_option maxHeartbeats 4000000
set_option maxRecDepth 100000
namespace Go.Proofs.YtiblijmngokcgaaGreatDoor
open Go.Proofs.Tryz
open Go.RowKit
structure xr (s:bj):Prop where
 ok:vw s
 c:s.cells.length<=1000
 e:s.evs.length<=400
 sn:s.sent.length<=400
 o:s.outs.length<=400
theorem qK {α:Type} (l:List α) (b:α->List Int) (k:Nat) (h:∀a∈l,(b a).length<=k):(l.flatMap b).length<=l.length*k:=by
 induction l with
 |nil=>simp
 |cons a l ih=>
  have h1:=ih (λx hx=>h x (List.mem_cons_of_mem _ hx));have h2:=h a (List.mem_cons_self ..);rw [List.flatMap_cons,List.length_append,List.length_cons,Nat.add_mul];omega
theorem qN (a b:List Int) (hb:∀z∈b,av z) (hl:b.length<=1000):(aI (wk (dJ a b))).length<=20000:=by
 have hi:=qP (a:=a) hb (by omega);have hn:=pD a b;have hc:bN b.length<=250:=by unfold bN;omega
 have h6:(wk (dJ a b)).length<=1+(dJ a b).length*6:=by
  unfold wk;rw [List.length_append,List.length_singleton]
  have:=qK (dJ a b) Pg.l 6 (λp hp=>by
   obtain ⟨k,hk,rfl⟩:=sH hp;have h4:(cR b k).length<=4:=by rw [oB];unfold dD;omega
   simp [Pg.l];omega)
  omega
 have h7:=cG (wk (dJ a b)) (λz hz=>by
  unfold wk at hz;rcases List.mem_append.1 hz with hz|hz
  ·simp at hz;subst hz;exact ⟨by omega,by omega⟩
  ·obtain ⟨p,hp,hz⟩:=List.mem_flatMap.1 hz;exact GZ (hi p hp) z hz)
 omega
theorem DA {S:Nat->Prop} {w:World} {v:Value} {ps:List Pg} (h:Dg S w v ps):Dg (·<w.heap.size) w v ps:=by
 exact Tzeu
theorem wF (s u:bj) (A1:Option Addr) (n1 c1:Nat) (A2:Option Addr) (n2 c2:Nat) (A3:Option Addr) (n3 c3:Nat) (A4:Option Addr) (n4 c4:Nat) (B1:Option Addr) (m1 d1:Nat) (B2:Option Addr) (m2 d2:Nat) (B3:Option Addr) (m3 d3:Nat) (B4:Option Addr) (m4 d4:Nat) (S1 S2:Nat->Prop) (w:World) (hM:j7 S1 w s A1 n1 c1 A2 n2 c2 A3 n3 c3 A4 n4 c4) (hU:j7 S2 w u B1 m1 d1 B2 m2 d2 B3 m3 d3 B4 m4 d4) (hs:xr s) (hx:tn s u):
 Calls Tryz.prog 50 #[.agg #[.slice A1 n1 c1,.slice A2 n2 c2,.slice A3 n3 c3,.slice A4 n4 c4],.agg #[.slice B1 m1 d1,.slice B2 m2 d2,.slice B3 m3 d3,.slice B4 m4 d4]] w λe w' =>∃v,e= .returned v/\Bytes (λ_=>True) w' v (dY s u)/\Below w.heap.size w w' :=by
 obtain ⟨W,hW,aw,SW,R0,R1⟩:∃W,W=(w.alloc (.cells #[.slice A1 n1 c1,.slice A2 n2 c2,.slice A3 n3 c3,.slice A4 n4 c4] 51)).alloc (.cells #[.slice B1 m1 d1,.slice B2 m2 d2,.slice B3 m3 d3,.slice B4 m4 d4] 51)/\Below w.heap.size w W/\RowKit.Hid (W.heap.size=w.heap.size+2)/\
  RowKit.Hid (W.heap[w.heap.size]? =some (.cells #[.slice A1 n1 c1,.slice A2 n2 c2,.slice A3 n3 c3,.slice A4 n4 c4] 51 (0,0)))/\RowKit.Hid (W.heap[w.heap.size+1]? =some (.cells #[.slice B1 m1 d1,.slice B2 m2 d2,.slice B3 m3 d3,.slice B4 m4 d4] 51 (0,0))):=by
  refine ⟨_,rfl,((Below.refl _ w).alloc (Nat.le_refl _) _).alloc (by simp) _,aA (by simp),aA ?_,aA ?_⟩
  ·exact Tzap
  ·exact Tzch
 have af:w.heap.size+1<W.heap.size:=by have:=SW.out;omega
 have l1:=hM.1.len;have l2:=hM.2.len;have l3:=hM.3.len;have l4:=hM.4.len;have k2:=hU.2.len;have k3:=hU.3.len;have k4:=hU.4.len;have x2:m2<=n2:=by have:=hx.e.length_le;omega
 have x3:m3<=n3:=by have:=hx.sn.length_le;omega
 have x4:m4<=n4:=by have:=hx.o.length_le;omega
 have b2:n2<=400:=by have:=hs.e;omega
 have b3:n3<=400:=by have:=hs.sn;omega
 have b4:n4<=400:=by have:=hs.o;omega
 have b1:n1<=1000:=by have:=hs.c;omega
 have y2:n2<=c2:=l2.2.1;have y3:n3<=c3:=l3.2.1;have y4:n4<=c4:=l4.2.1;have z2:s.evs.length<=n2:=by omega
 have z3:s.sent.length<=n3:=by omega
 have z4:s.outs.length<=n4:=by omega
 have HK2:=aA k2.1;have HK3:=aA k3.1;have HK4:=aA k4.1;have oc:=aA l2.1;have HL3:=aA l3.1;have HL4:=aA l4.1;have HS:=aA hs;have wm:=hM.ext aw;have hUW:=hU.ext aw;have HDF:=aA (MQ B1 m1 d1 u.cells A1 n1 c1 s.cells W (hUW.1.mono (λb h _=>h)) (wm.1.mono (λb h _=>h)) (by omega));have p0:=bn R0.out;have q0:=bn R1.out;clear l1 l2 l3 l4 k2 k3 k4 hM hU hx hs;go_enter func50,ntmps50;go_upto_region 1 with fail;rw [<-hW];clear hW;go_wp2_with fail;refine HDF.out.mono ?_;rintro e w1 ⟨P,pm,pc,rfl,hP,g1⟩;clear p0 q0;have jd:=hP.len;have hd:pm<=250:=by have h1:=pD u.cells s.cells;have h2:=HS.out.c;unfold bN at h1;omega
 have HPU:=aA (zV none 0 0 [] (λ_=>True) w1 (Bytes.nil_ _ _) P pm pc (dJ u.cells s.cells) (DA hP) (qP HS.out.ok.cells (by have:=HS.out.c;omega)) (by omega) (by omega));clear jd hP;go_wp2_with fail;refine HPU.out.mono ?_;rintro e w2 ⟨v2,rfl,zf,g2⟩;rw [List.nil_append] at zf;have hyl:=qN u.cells s.cells HS.out.ok.cells HS.out.c;obtain ⟨C,cc,rfl,ej,ed,fq⟩:=zf;obtain ⟨nn,tz⟩:=eX ((aI (wk (dJ u.cells s.cells))).length);rw [<-tz] at hyl ej ⊢;have zf:Bytes (λ_=>True) w2 (.slice C nn cc) (aI (wk (dJ u.cells s.cells))):=⟨C,cc,by rw [tz],by omega,ed,fq⟩
 have Ey:=Below.ext g1 g2;have RA:=bT Ey R0;have RB:=bT Ey R1 af;have ri:=wm.ext Ey;have ua:j7 (·<w2.heap.size) w2 s A1 n1 c1 A2 n2 c2 A3 n3 c3 A4 n4 c4:=⟨ri.1.mono (λb h _=>h),ri.2.mono (λb h _=>h),ri.3.mono (λb h _=>h),ri.4.mono (λb h _=>h)⟩
 have he2:=ua.2;have he3:=ua.3;have he4:=ua.4;obtain ⟨w3,Be⟩:=eX w2.drew;have g3:Below w2.heap.size w2 w3:=by rw [Be];exact (Below.refl _ w2).drew
 clear tz fq wm ri ua hUW;go_upto_region 2 with fail;go_wp2_with fail;refine aH ((λw' =>w'.heap[w.heap.size]? =some (.cells #[.slice A1 n1 c1,.slice A2 n2 c2,.slice A3 n3 c3,.slice A4 n4 c4] 51 (0,0))/\w'.heap[w.heap.size+1]? =some (.cells #[.slice B1 m1 d1,.slice B2 m2 d2,.slice B3 m3 d3,.slice B4 m4 d4] 51 (0,0)))) (by kernel_rfl) (by kernel_rfl) (⟨RA.out,RB.out⟩) ?_;refine TkB ?_;refine lL (λw' ah =>aB (iD _) (fi ah.1)) ?_;refine Tya0 ?_;refine lL (λw' ah =>aB (iD _) (fi ah.2)) ?_;refine Tya0 ?_;refine qG cN (m2) (n2) (c2) (n2-m2) (c2-m2) (s.evs.drop m2) rfl rfl rfl underlying30 (by kernel_rfl) (by first|exact .inl ⟨rfl,rfl⟩|exact .inr ⟨_,_,_,rfl,rfl,by omega⟩) (by first|exact .inl ⟨rfl,rfl,rfl⟩|exact .inr ⟨_,_,_,rfl,rfl,by omega⟩) (by first|exact .inl ⟨rfl,rfl⟩|exact .inr ⟨_,_,_,rfl,rfl,by omega⟩) (he2) (by omega) (by omega) (by omega) (by omega) (by omega) (by omega) (by first|rfl|(simp;done)|exact (List.take_of_length_le (by simp;omega)).symm) ?_;intro D2 wo Mc;refine Tya0 ?_;refine lL (λw' ah =>aB (jA _) (gn ah.1)) ?_;refine Tya0 ?_;refine lL (λw' ah =>aB (jA _) (gn ah.2)) ?_;refine Tya0 ?_;refine qG cZ (m3) (n3) (c3) (n3-m3) (c3-m3) (s.sent.drop m3) rfl rfl rfl underlying48 (by kernel_rfl) (by first|exact .inl ⟨rfl,rfl⟩|exact .inr ⟨_,_,_,rfl,rfl,by omega⟩) (by first|exact .inl ⟨rfl,rfl,rfl⟩|exact .inr ⟨_,_,_,rfl,rfl,by omega⟩) (by first|exact .inl ⟨rfl,rfl⟩|exact .inr ⟨_,_,_,rfl,rfl,by omega⟩) (he3) (by omega) (by omega) (by omega) (by omega) (by omega) (by omega) (by first|rfl|(simp;done)|exact (List.take_of_length_le (by simp;omega)).symm) ?_;intro D3 D8 Fs;refine Tya0 ?_;refine lL (λw' ah =>aB (jB _) (lj ah.1)) ?_;refine Tya0 ?_;refine lL (λw' ah =>aB (jB _) (lj ah.2)) ?_;refine Tya0 ?_;refine qG dA (m4) (n4) (c4) (n4-m4) (c4-m4) (s.outs.drop m4) rfl rfl rfl underlying49 (by kernel_rfl) (by first|exact .inl ⟨rfl,rfl⟩|exact .inr ⟨_,_,_,rfl,rfl,by omega⟩) (by first|exact .inl ⟨rfl,rfl,rfl⟩|exact .inr ⟨_,_,_,rfl,rfl,by omega⟩) (by first|exact .inl ⟨rfl,rfl⟩|exact .inr ⟨_,_,_,rfl,rfl,by omega⟩) (he4) (by omega) (by omega) (by omega) (by omega) (by omega) (by omega) (by first|rfl|(simp;done)|exact (List.take_of_length_le (by simp;omega)).symm) ?_;intro D4 uv hE4;refine Tya0 ?_;rw [<-Be];clear Be;have HV3:=aA (zf.ext g3);have RA3:=aA ((g3.block w.heap.size (by have:=Ey.size;omega)).trans RA.out);have RB3:=aA ((g3.block (w.heap.size+1) (by have:=Ey.size;omega)).trans RB.out);have hps:=rL C nn cc (aI (wk (dJ u.cells s.cells))) _ w3 HV3.out ⟨[],s.evs.drop m2,s.sent.drop m3,s.outs.drop m4⟩ none D2 D3 D4 0 0 (n2-m2) (c2-m2) (n3-m3) (c3-m3) (n4-m4) (c4-m4) (a7.nil_ _ _) ((wo.ext g3).mono (λb h _=>h)) ((D8.ext g3).mono (λb h _=>h)) ((uv.ext g3).mono (λb h _=>h)) ⟨by simp,λe he=>HS.out.ok.evs e (List.mem_of_mem_drop he),λe he=>HS.out.ok.sent e (List.mem_of_mem_drop he),λe he=>HS.out.ok.outs e (List.mem_of_mem_drop he),by simp⟩ (by omega) (by omega) (by omega) (by omega);have HPS:=aA hps;clear hps zf wo D8 uv he2 he3 he4;refine aF rfl ?_;go_wp2_with fail;refine aD (⟨RA3.out,RB3.out⟩) ?_;refine TkB ?_;refine aF rfl ?_;go_wp2_with fail;refine HPS.out.mono ?_;rintro e w4 ⟨v4,rfl,Im,g4⟩;have s3:=g3.size;have s12:=Ey.size;go_wp2_with fail;refine aD (⟨(g4.block w.heap.size (by omega)).trans RA3.out,(g4.block (w.heap.size+1) (by omega)).trans RB3.out⟩) ?_;refine TkB ?_;refine aP ?_;go_wp2;go_ret;have Kh:Bytes (λ_=>True) w4 v4 (dY s u):=by
  have e:dY s u=aI (wk (dJ u.cells s.cells))++aI (bj.l ⟨[],s.evs.drop m2,s.sent.drop m3,s.outs.drop m4⟩):=by unfold dY eW;rw [HK2.out,HK3.out,HK4.out]
  rw [e];exact Im
 exact ⟨v4,rfl,Kh,Below.ext aw (Below.ext Ey (Below.ext g3 g4))⟩
def Vn (S:Nat->Prop) (n:Nat) (w' :World) (r:Except Nat (List au)) (e:Ending):Prop:=
 match r with
 | .ok fs=>∃A c,e= .returned (.tuple #[.agg #[.slice A n c],.int .i64 0])/\fh S w' (.slice A n c) fs
 | .error k=>k≠0/\e= .returned (.tuple #[.agg #[.slice none 0 0],.int .i64 (k:Int)])
theorem BJ (w:World) (a b c:Array Value) (ta tb tc:TypeId):∃W,W=((w.alloc (.cells a ta)).alloc (.cells b tb)).alloc (.cells c tc)/\Below w.heap.size w W/\RowKit.Hid (W.heap.size=w.heap.size+3)/\
 RowKit.Hid (W.heap[w.heap.size]? =some (.cells a ta (0,0)))/\RowKit.Hid (W.heap[w.heap.size+1]? =some (.cells b tb (0,0)))/\RowKit.Hid (W.heap[w.heap.size+2]? =some (.cells c tc (0,0))):=by
 obtain ⟨W1,h1,_,k1,s1,r1⟩:=bX w w a ta (Below.refl _ _);obtain ⟨W2,h2,_,k2,s2,r2⟩:=bX W1 W1 b tb (Below.refl _ _);obtain ⟨W3,h3,_,k3,s3,r3⟩:=bX W2 W2 c tc (Below.refl _ _);have e1:=s1.out;have e2:=s2.out;have e3:=s3.out;refine ⟨W3,by rw [h3,h2,h1],Below.ext k1 (Below.ext k2 k3),aA (by omega),aA ?_,aA ?_,aA ?_⟩
 ·exact ((Below.ext k2 k3).block w.heap.size (by omega)).trans r1.out
 ·have:=(k3.block W1.heap.size (by omega)).trans r2.out;rw [e1] at this;exact this
 ·have:=r3.out;rw [e2,e1] at this;exact this
theorem vM (A:Option Addr) (n c:Nat) (fs:List au) (S:Nat->Prop) (w:World) (hD:fh S w (.slice A n c) fs) (hn:n<=1000) (k:Nat) (hk:k<n) (h:Hd) (hi:∀z∈h.l,av z) (B:Option Addr) (nb cb:Nat) (body:List UInt8) (Sb:Nat->Prop) (hb:Bytes Sb w (.slice B nb cb) body) (j6:nb<=100000000):
 Calls Tryz.prog 51 #[.agg #[.slice A n c],.int .i64 (k:Int),.agg #[.int .i64 h.kind,.int .i64 h.stamp,.int .i64 h.base,.int .i64 h.under],.slice B nb cb] w λe w' =>Vn (λb=>S b∨w.heap.size<=b) n w' (if 4096<body.length then .error 5 else .ok (fs.set k ⟨[],wu h body⟩)) e/\Below w.heap.size w w' :=by
 obtain ⟨W,hW,aw,SW,R0,R1,R2⟩:=BJ w #[.slice A n c] #[.int .i64 h.kind,.int .i64 h.stamp,.int .i64 h.base,.int .i64 h.under] #[.slice none 0 0] 36 90 36;have af:w.heap.size+2<W.heap.size:=by have:=SW.out;omega
 have hlen:=hD.len;have WG:=aA hb.len.1;have sx:fh (λb=>S b/\b<w.heap.size) W (.slice A n c) fs:=(hD.mono (λb h1 h2=>⟨h2,h1⟩)).ext aw;have HHB:=aA (FB h hi W);have HI:=aA hi;clear hD hi;go_enter func51,ntmps51;go_upto_region 1 with fail;rw [<-hW];clear hW;go_wp2_with (refine aK (t:=90) (A:=⟨w.heap.size+1,0,none⟩) rfl rfl rfl (lB (t:=90) R1.out) ?_)
 refine HHB.out.mono ?_;rintro e w1 ⟨v1,rfl,Ce,b1⟩;have HSE:=aA (zL v1 (aI h.l) _ w1 Ce (by have:=cG h.l HI.out;have e:h.l.length=4:=rfl;omega));clear Ce;go_wp2_with fail;refine HSE.out.mono ?_;rintro e w2 ⟨v2,rfl,J7,b2⟩;have Mu:=J7.bytes;obtain ⟨A2,c2,rfl,Cy,Cx,hcs2⟩:=Mu;obtain ⟨m2,pg⟩:=eX ((dK (aI h.l)).length);rw [<-pg] at J7 ⊢;have hm2b:m2<=48:=by rw [pg,eI];have:=cG h.l HI.out;have e:h.l.length=4:=rfl;omega
 have B8:=Below.ext b1 b2;have ar:=Below.ext aw B8;have rj:=bT B8 R0;have I0:=bT B8 R2 af;have wo:=sx.ext B8;have Tz:Bytes _ w2 (.slice B nb cb) body:=hb.ext ar;have sz1:=b1.size;have WT:=b2.size;clear pg Cy Cx hcs2 sx hb;by_cases hl:4096<body.length
 ·have an:=aA hl;have Cn:=aA (GD (.slice B nb cb) body _ w2 Tz hl);clear hl Tz;go_wp2_with fail;refine Cn.out.mono ?_;rintro e w3 ⟨rfl,rfl⟩;go_wp2_with (refine sR I0 ?_)
  refine rT I0 ?_;exact ⟨⟨by omega,rfl⟩,ar.grown (aC _ _ _) ar.size (λo e=>by cases e;omega)⟩
 have an:=aA hl;have HSB:=aA (zL (.slice B nb cb) body _ w2 Tz (by omega));have hnb:nb<=4096:=by have:=WG.out;omega
 clear hl Tz;go_wp2_with fail;refine HSB.out.mono ?_;rintro e w3 ⟨v3,rfl,VI,b3⟩;have Vy:=VI.bytes;obtain ⟨A3,c3,rfl,XU,XT,hcs3⟩:=Vy;obtain ⟨m3,Iq⟩:=eX ((dK body).length);rw [<-Iq] at VI ⊢;have hm3b:m3<=4104:=by rw [Iq,eI];have:=WG.out;omega
 have ho23:=J7.ext b3;have ea:=Below.ext ar b3;have I7:=bT b3 rj;have R23:=bT b3 I0;have D8:=wo.ext b3;have sz3:=b3.size;have Qv:=aA (qB A n c fs _ w3 D8 hn k hk none 0 0 [] (λ_=>True) (a7.nil_ _ _) (by omega));clear Iq XU XT hcs3 wo D8 J7;go_wp2_with (refine lD (t:=36) I7 ?_)
 refine Qv.out.mono ?_;rintro e w4 ⟨A4,c4,rfl,uv,b4⟩;have ia:=Below.ext ea b4;have sz4:=b4.size;have Iw:=bT b4 I7;have R24:=bT b4 R23;obtain ⟨w5,Mv⟩:=eX (w4.setRow w.heap.size #[.slice A4 n c4]);have g5:w4.grownBy w5 (some w.heap.size):=by rw [Mv];exact aC _ _ _
 have k5:ae (λb=>(S b/\b<w.heap.size)∨w.heap.size+3<=b) w4 w5:=λb hb hs=>g5.block b hb (by simp;omega)
 have I6:=aA (show w5.heap[w.heap.size]? =some (.cells #[.slice A4 n c4] 36 (0,0)) by rw [Mv];exact setRow_heap _ _ _ _ _ _ Iw.out);have Kz:=aA ((g5.block (w.heap.size+2) (by omega) (by simp)).trans R24.out);have sz5:w4.heap.size<=w5.heap.size:=g5.size;have gu:Below w.heap.size w w5:=ia.grown g5 ia.size (λo e=>by cases e;omega);have Md:fh (λb=>(S b/\b<w.heap.size)∨w.heap.size+3<=b) w5 (.slice A4 n c4) (fs.set k ⟨[],[]⟩):=(uv.mono (λb _ h=>h.imp id (λh=>by omega))).keep k5;have o2:a7 fV (λb=>(S b/\b<w.heap.size)∨w.heap.size+3<=b) w5 (.slice A2 m2 c2) (dK (aI h.l)):=(((ho23.ext b4).bytes.by_).mono (λb _ h=>Or.inr (by have:=h.1;have:=SW.out;omega))).keep k5;have o3:a7 fV (λb=>(S b/\b<w.heap.size)∨w.heap.size+3<=b) w5 (.slice A3 m3 c3) (dK body):=(((VI.ext b4).bytes.by_).mono (λb _ h=>Or.inr (by have:=h.1;have:=SW.out;omega))).keep k5;obtain ⟨w6,Bc⟩:=eX w5.drew;have b6:Below w5.heap.size w5 w6:=by rw [Bc];exact (Below.refl _ w5).drew
 obtain ⟨W7,oy,k7,S7,b7,vj,R7,HB7,l7,_⟩:=bE w6 #[.slice A2 m2 c2,.slice A3 m3 c3] 22;have Fi:=Below.ext b6 k7;have HCO:=aA (wG b7 A2 A3 m2 c2 m3 c3 _ _ _ _ W7 (aM R7.out 0 _ rfl) (aM R7.out 1 _ rfl) (o2.ext Fi) (o3.ext Fi) (by omega));have R07:=bT Fi I6;have R27:=bT Fi Kz;have hD7:=Md.ext Fi;have hb7w:=Below.ext gu Fi;have sz7:=Fi.size;clear vj uv Md o2 o3 ho23 VI k5 g5;go_upto_region 10 with (refine sR Iw ?_)
 rw [<-Mv];clear Mv;go_wp2_with fail;refine aH ((λw' =>w'.heap[w.heap.size]? =some (.cells #[.slice A4 n c4] 36 (0,0)))) (by kernel_rfl) (by kernel_rfl) (I6.out) ?_;refine TkA ?_;refine lL (λw' ah =>lB (t:=36) ah) ?_;refine Tyac ?_;rw [<-Bc];clear Bc;refine aF rfl ?_;go_wp2_with fail;rw [<-oy,<-HB7.out];clear oy;go_wp2_with fail;refine aD (R07.out) ?_;refine Tyah ?_;go_wp2_with fail;refine HCO.out.mono ?_;rintro e w8 ⟨A8,c8,rfl,ho8,b8⟩;have ZX:=bT b8 R07;have R28:=bT b8 R27;have hD8:=hD7.ext b8;have Bl:=Below.ext hb7w b8;have sz8:=b8.size;obtain ⟨m8,hm8⟩:=eX (m2+m3);rw [<-hm8] at ho8 ⊢;have Fx:=aA (KD A4 n c4 (fs.set k ⟨[],[]⟩) _ w8 hD8 hn k ⟨[],[]⟩ (by rw [List.getElem?_set_self (by omega)]) A8 m8 c8 (dK (aI h.l)++dK body) (ho8.by_.mono (λb _ h=>Or.inr (by omega))) (by simp;omega));rw [List.set_set] at Fx;clear hm8 ho8 hD7 hD8;go_wp2_with fail;refine aD (ZX.out) ?_;refine Tyah ?_;go_wp2_with fail;refine Fx.out.mono ?_;rintro e w9 ⟨A9,c9,rfl,Yn,b9⟩;have T6:=bT b9 ZX;have R29:=bT b9 R28;have gf:=Below.ext Bl b9;go_wp2_with fail;refine aD (T6.out) ?_;refine Tyah ?_;refine sR R29 ?_;refine aD ((setRow_other _ _ _ _ (by omega)).trans T6.out) ?_;refine Tyac ?_;refine aP ?_;go_wp2;refine rT R29 ?_;have gE:=aC w9 (w.heap.size+2) #[.slice A9 n c9];refine ⟨⟨A9,c9,rfl,?_⟩,gf.grown gE gf.size (λo e=>by cases e;omega)⟩;have hD10:=Yn.mono (S' :=λb=>(S b/\b<w.heap.size)∨w.heap.size+3<=b) (λb _ h=>by rcases h with h|h;exact h;exact .inr (by omega));have hD11:=hD10.keep (w' :=w9.setRow (w.heap.size+2) #[.slice A9 n c9]) (λb hb hs=>gE.block b hb (by simp;omega));exact hD11.mono (λb _ h=>h.imp (λh=>h.1) (λh=>by omega))
end Go.Proofs.YtiblijmngokcgaaGreatDoor
