import Derived.Test.YtiblijmngokcgaaGreatDoorPlBZs
import Derived.Test.YtiblijmngokcgaaGreatDoorPlCZs
set_option linter.unusedVariables false
set_option linter.unusedSimpArgs false
set_option maxHeartbeats 8000000
set_option maxRecDepth 100000
namespace Go.Proofs.YtiblijmngokcgaaGreatDoor
open Go.Proofs.Tryz
open Go.RowKit
section
variable {P : Program} {K0 : Act -> World -> Prop}
theorem uJ (S:World->Prop) (n1:Nat) {id:Nat} {l:List Oper} {Q:Exit->Act->World->Prop} {a:Act} {w:World}
 (hm:P.follows .mixedOrders=true) (hB:mB eG l=true) (hT:sP l n1=true) (Ct:n1<=l.length) (hS:S w.drew)
 (h:bG P l.toArray S eG (λa w=>wpList P l.toArray (cj (Q .normal)) (l.drop n1) a w) (l.take n1) a w.drew):(Code.region id l.toArray true).wp P Q a w:=by
 refine Code.wp_mono cj.to (wp_region_any hm ?_);have jx:∀j o,l[j]? =some o->∀e∈o.after,Region.binds .any e=true->e.on<j:=by
  intro j o ho e he hb;have af:=(List.getElem?_eq_some_iff.1 ho).1;have h:nM eG l.toArray l (qm l) j=true:=by
   simp only [mB,Bool.and_eq_true,List.all_eq_true,List.mem_range] at hB;exact hB.2 j af
  exact Tzey
 have No:bK l (List.range n1)=l.take n1:=by
  exact Tzfe
 have:=wU (K0:=Q .normal) eG S (λo=>xL) l n1 Ct hB hT (λa w h=>zK l n1 jx hT (l.length-n1) n1 (Nat.le_refl _) (by omega) a w h) n1 (List.range n1) (Array.replicate l.length false) a w.drew hS (by simp) (by simp) (λj=>by
  by_cases hj:j<l.length
  ·simp [hj];omega
  ·simp [hj];omega) List.pairwise_lt_range (by simp) (λk o hk hL=>by
  have af:=(List.getElem?_eq_some_iff.1 hk).1;simp [af] at hL) (by rw [No];exact h)
 rw [show n1+(l.length-n1)=l.length by omega] at this;simpa using this
end
theorem CG (B g:Nat) (w:World) (h:kj B w g):Calls Tryz.prog 13 #[.pointer (some ⟨g,0,none⟩)] w λe w' =>∃bb:Bool,e= .returned (.bool bb)/\Below w.heap.size w w' :=by
 obtain ⟨hB,A,c,l,k,hr,dy,hk,hl⟩:=h;refine (vO g k l.length c A w _ hr hl hk).mono ?_;rintro e w' ⟨rfl,rfl⟩;exact ⟨_,rfl,(Below.refl _ _).drew⟩
theorem ui.zin_ {w:World} {a:Option Addr} {len cap:Nat} {zs:List Int} (h:ui .i64 w a len cap zs):
 ∃l:List Int,l.length=len/\a7 bB (·<w.heap.size) w (.slice a len cap) l/\∀z∈l,av z:=by
 rcases h with ⟨rfl,rfl,rfl,rfl⟩|⟨x,rfl,hl,hm,hz,hc,hw⟩
 ·exact ⟨[],rfl,a7.nil_ _ _,by simp⟩
 ·refine ⟨zs.take len,by simp;omega,⟨some x,cap,by simp;omega,by simp;omega,hm,?_⟩,λz Ij =>QI (hw z (List.mem_of_mem_take Ij))⟩;rw [eT];intro hn;have Du :0<zs.length:=by simp at hn;omega
  obtain ⟨b,off,rfl⟩:=qX (hc 0 Du);refine ⟨b,off,rfl,block_lt_of_cell (hc 0 Du),λj u hu=> ?_⟩;have hj:j<zs.length/\j<len:=by
   have:=(List.getElem?_eq_some_iff.1 hu).1;simp at this;omega
  have:=hc j hj.1;rw [Addr.add_mid] at this;rw [this];simp [hj.1,hj.2] at hu;rw [<-hu];simp [hj.1]
def dkE (r:Except Nat (List au)):Nat:=match r with| .ok _=>0| .error k=>k
def Na (n:Nat) (r:Except Nat (List au)):Nat:=match r with| .ok _=>n| .error _=>0
def dkF (r:Except Nat (List au)):List au:=match r with| .ok fs=>fs| .error _=> []
theorem Vn.gen {S:Nat->Prop} {n:Nat} {w' :World} {r:Except Nat (List au)} {e:Ending} (h:Vn S n w' r e):∃A c,e= .returned (.tuple #[.agg #[.slice A (Na n r) c],.int .i64 (dkE r:Int)])/\fh S w' (.slice A (Na n r) c) (dkF r):=by
 cases r with
 |ok fs=>
  obtain ⟨A,c,h1,h2⟩:=h;exact ⟨A,c,h1,h2⟩
 |error k=>exact ⟨none,0,h.2,⟨[],a7.nil_ _ _,rfl,λi x f hx=>by simp at hx⟩⟩
def ldE (r:Except Nat bj):Nat:=match r with| .ok _=>0| .error k=>k
def ldS (r:Except Nat bj):bj:=match r with| .ok s=>s| .error _=>⟨[],[],[],[]⟩
theorem Dh.gen {base:Nat} {w' :World} {r:Except Nat bj} {e:Ending} (h:Dh base w' r e):∃(E1:Option Addr) (nz pf:Nat) (E2:Option Addr) (jt pe:Nat) (E3:Option Addr) (js pb:Nat) (E4:Option Addr) (jr pa:Nat),e= .returned (.tuple #[.agg #[.slice E1 nz pf,.slice E2 jt pe,.slice E3 js pb,.slice E4 jr pa],.int .i64 (ldE r:Int)])/\j7 (base<=·) w' (ldS r) E1 nz pf E2 jt pe E3 js pb E4 jr pa:=by
 cases r with
 |ok s=>
  obtain ⟨A1,n1,c1,A2,n2,c2,A3,n3,c3,A4,n4,c4,h1,h2⟩:=h;exact ⟨A1,n1,c1,A2,n2,c2,A3,n3,c3,A4,n4,c4,h1,h2⟩
 |error k=>exact ⟨none,0,0,none,0,0,none,0,0,none,0,0,h.2,⟨a7.nil_ _ _,a7.nil_ _ _,a7.nil_ _ _,a7.nil_ _ _⟩⟩
structure PI (B g bd:Nat) (w0 w6 wv:World) (A:Option Addr) (c:Nat) (fs:List au):Prop where
 b1:B<=g
 b2:B<=bd
 ne:bd≠g
 g0:w0.heap.size<=g
 d0:w0.heap.size<=bd
 gl:g<w6.heap.size
 dl:bd<w6.heap.size
 row:wv.heap[bd]? =some (.cells #[.slice A 4 c] 36 (0,0))
 dsk:fh (λb=>b≠bd/\b≠g) wv (.slice A 4 c) fs
 ok:eD fs
 cod:kj B wv g
 keep:ae (λb=>b≠bd/\b≠g) w6 wv
 size:w6.heap.size<=wv.heap.size
 bel:Below w0.heap.size w0 wv
theorem PI.ext {B g bd:Nat} {w0 w6 wv w' :World} {A:Option Addr} {c:Nat} {fs:List au} (h:PI B g bd w0 w6 wv A c fs) (hb:Below wv.heap.size wv w'):PI B g bd w0 w6 w' A c fs:=by
 have:=h.dl;have:=h.size;exact {h with row:=(hb.block bd (by omega)).trans h.row,dsk:=h.dsk.ext hb,cod:=h.cod.ext hb,keep:=λb ar hs=>(hb.block b (by omega)).trans (h.keep b ar hs),size:=Nat.le_trans h.size hb.size,bel:=Below.ext h.bel hb}
theorem PI.next {B g bd:Nat} {w0 w6 wv w' :World} {A:Option Addr} {c:Nat} {fs:List au} (h:PI B g bd w0 w6 wv A c fs) (hc:kj B w' g) (hg:wv.grownBy w' (some g)):PI B g bd w0 w6 w' A c fs:=by
 have h1:=h.dl;have h2:=h.size;have h3:=h.ne;have h4:=h.g0;exact {h with row:=(hg.block bd (by omega) (by simpa using h3)).trans h.row,dsk:=h.dsk.keep (λb hb hs=>hg.block b hb (by simpa using hs.2)),cod:=hc,keep:=λb ar hs=>(hg.block b (by omega) (by simpa using hs.2)).trans (h.keep b ar hs),size:=Nat.le_trans h.size hg.size,bel:=h.bel.grown hg h.bel.size (λo e=>by cases e;exact h4)}
theorem PI.set {B g bd:Nat} {w0 w6 wv:World} {A A' :Option Addr} {c c' :Nat} {fs Cl :List au} (h:PI B g bd w0 w6 wv A c fs) (hd:fh (λb=>b≠bd/\b≠g) wv (.slice A' 4 c') Cl) (hf:eD Cl):PI B g bd w0 w6 (wv.setRow bd #[.slice A' 4 c']) A' c' Cl :=by
 have h1:=h.dl;have h2:=h.size;have h3:=h.ne;have h4:=h.d0;have h5:=h.b2;have hg:=aC wv bd #[.slice A' 4 c'];exact {h with row:=setRow_heap _ _ _ _ _ _ h.row,dsk:=hd.keep (λb hb hs=>hg.block b hb (by simpa using hs.1)),ok:=hf,cod:=h.cod.grown hg (λm e=>by cases e;exact ⟨h5,h3⟩),keep:=λb ar hs=>(hg.block b (by omega) (by simpa using hs.1)).trans (h.keep b ar hs),size:=Nat.le_trans h.size hg.size,bel:=h.bel.grown hg h.bel.size (λo e=>by cases e;exact h4)}
theorem GC (A:Option Addr) (n c:Nat) (fs:List au) (S:Nat->Prop) (w:World) (hD:fh S w (.slice A n c) fs) (hn:n<=1000) (S6:0<n) (hf:eD fs) (k:Nat) (VO:k<=1000) (m:Nat) (hm:m<=1000) (yv:Int) (hy0:0<=yv) (Ge:yv<256):
 Calls Tryz.prog 19 #[.agg #[.slice A n c],.int .i64 (k:Int),.int .i64 (m:Int),.int .u8 yv] w λe w' =>∃A' c' Cl,e= .returned (.agg #[.slice A' n c'])/\fh (λb=>S b∨w.heap.size<=b) w' (.slice A' n c') Cl/\eD Cl/\Below w.heap.size w w' :=by
 obtain ⟨y,rfl⟩:∃y:UInt8,yv=(y.toNat:Int):=⟨UInt8.ofNat yv.toNat,by rw [UInt8.toNat_ofNat',Nat.mod_eq_of_lt (by omega)];omega⟩
 have hyb:=y.toNat_lt;have HF:=aA hf;have ez:=aA hD.len.1;obtain ⟨W,hW,aw,fo,vd,iy⟩:=fQ w (.slice A n c);have SW:=aA fo;have R0:=aA vd;have R1:=aA iy;have sW:w.heap.size+1<W.heap.size:=by omega
 have Bp:=(hD.mono (S' :=λb=>S b/\b<w.heap.size) (λb hb hs=>⟨hs,hb⟩)).ext aw;have HDW:=aA Bp;obtain ⟨xs,hR,oo,fw⟩:=Bp;have Rq:=hR.len;have T8:=aA oo;have Fc:=aA fw;have HR:=aA hR;have q0:=bn R0.out;have ev:=Rq.1;have ew:=Rq.2;clear hD hf fo vd iy hR oo fw Rq;go_enter func19,ntmps19;go_upto_region 1 with fail;rw [<-hW];clear hW;go_wp2_with (refine eY 14 rfl ?_)
 refine ⟨?_⟩;refine aJ fZ oO pV 48 _ _ 34 86 W.heap.size [] xs A n c (.slice none 0 0) n rfl rfl underlying34 tB rfl (by omega) rfl rfl (a8.nil_ _ _ _) HR.out (by simp) (by simp;omega) (by simp;omega) (Nat.le_refl _) ?_;intro A1 c1 w1 ec Cv Hf Om Ol;rw [List.nil_append] at ec;obtain ⟨g,rfl,fj,da⟩:=a8.some_ ec (by omega);have al:Below W.heap.size W w1:=(Below.refl _ _).grown Cv (Nat.le_refl _) (λo e=>by cases e);have s1:=al.size;have uh:=bT al R0;have yw:=bT al R1 sW;have Lt:=Below.ext aw al;have Vt:∀w9,Below w1.heap.size w1 w9->∃A' c' Cl,(Ending.returned (Value.agg #[.slice (some ⟨g,0,none⟩) n c1]))= .returned (.agg #[.slice A' n c'])/\fh (λb=>S b∨w.heap.size<=b) (w9.setRow (w.heap.size+1) #[.slice (some ⟨g,0,none⟩) n c1]) (.slice A' n c') Cl/\eD Cl/\Below w.heap.size w (w9.setRow (w.heap.size+1) #[.slice (some ⟨g,0,none⟩) n c1]):=by
  intro w9 h9;have gE:=aC w9 (w.heap.size+1) #[.slice (some ⟨g,0,none⟩) n c1];have gf:=Below.ext Lt h9;refine ⟨some ⟨g,0,none⟩,c1,fs,rfl,⟨xs,?_,T8.out,λi x f hx hh=> ?_⟩,HF.out,gf.grown gE gf.size (λo e=>by cases e;omega)⟩
  ·exact ((ec.ext h9).recs.keep (λb hb hs=>gE.block b hb (by have h2:W.heap.size<=b:=hs.1;simp;omega))).mono (λb _ h=> .inr (by have h2:W.heap.size<=b:=h.1;omega))
  ·exact ((((Fc.out i x f hx hh).ext al).ext h9).keep (λb hb hs=>gE.block b hb (by have:=hs.2;simp;omega))).mono (λb _ h=> .inl h.1)
 have SAME:=aA Vt;clear Cv Hf Vt q0;by_cases nx:k<n;case neg=>
  have d1:decide (k<n)=false:=by simpa using nx
  clear nx;exact Tzd0
 have d1:decide (k<n)=true:=by simpa using nx
 obtain ⟨b,off,x,e1,_,hb,hx,hc⟩:=ec.recs.at_ fZ (j:=k) (by omega) (by omega);cases e1;have p0:w1.cell? ⟨g,k*2,none⟩=some (.slice x.A1 x.n1 x.c1):=by have:=hc 0 _ rfl;simpa using this
 have p1:w1.cell? ⟨g,k*2+1,none⟩=some (.slice x.A2 x.n2 x.c2):=by have:=hc 1 _ rfl;simpa using this
 obtain ⟨f,Ui⟩:∃f,fs[k]? =some f:=⟨_,List.getElem?_eq_getElem (by have:=ez.out;omega)⟩
 have yj:=Fc.out k x f hx Ui;have l1:=yj.s.len.1;have l2:=yj.p.len.1;have hfb:=HF.out f (List.mem_of_getElem? Ui);have HX:=aA hx;have HFF:=aA Ui;obtain ⟨ml,Ei⟩:=eX (f.s.length+f.p.length);have TZ:(x.n1:Int)+(x.n2:Int)=(ml:Int):=by omega
 have HML:=aA Ei;have hmb:ml<=1000000:=by omega
 have x1b:x.n1<=1000000:=by omega
 have x2b:x.n2<=1000000:=by omega
 have Vd:=uT A n c fs _ w1.drew ((HDW.out.ext al).ext (Below.refl _ _).drew) hn k f Ui (by omega);rw [<-Ei] at Vd;have Vd:=aA Vd;clear yj hx hc Ui l1 l2 Ei hfb;by_cases um:0<ml;case neg=>
  have d2:decide (0<ml)=false:=by simpa using um
  have d2i:decide ((0:Int)<(ml:Int))=false:=by simp;omega
  exact Tzd0
 have d2:decide (0<ml)=true:=by simpa using um
 have d2i:decide ((0:Int)<(ml:Int))=true:=by simp;omega
 go_upto_region 2 with fail;go_wp2_with fail;refine Tyab ?_;clear d1 d2 d2i TZ p0 p1;obtain ⟨wd,Cb⟩:=eX w1.drew;have kd:Below w1.heap.size w1 wd:=by rw [Cb];exact (Below.refl _ w1).drew
 rw [<-Cb] at Vd ⊢;clear Cb;have R0d:=bT kd uh;go_wp2_with (refine lD (t:=36) R0d ?_)
 refine Vd.out.mono ?_;rintro e w3 ⟨A3,c3,rfl,gg,b3⟩;have k3:=Below.ext kd b3;have s3:=b3.size;have sd:=kd.size;obtain ⟨i,hi⟩:=eX (m%ml);have VR:i<ml:=by rw [hi];exact Nat.mod_lt _ um
 have HMO:=OU (m:Int) (ml:Int) w3 (by omega) (by omega) (by omega) (by omega);rw [show ((m:Int)%(ml:Int))=(i:Int) by rw [hi];rfl] at HMO;have HMOD:=aA HMO;obtain ⟨gb,rfl,hgb1,hgb2⟩:=gg.some_ (by have:=gg.len.1;omega);obtain ⟨cb,co,cx,ce,hcb,kn,Dy⟩:=gg.by_.byte (k:=i) VR;cases ce;have c9:w3.cell? ⟨gb,i,none⟩=some (.int .u8 (cx.toNat:Int)):=by simpa using Dy
 have f9:w3.frozen? ⟨gb,i,none⟩=false:=by
  have h:=gg;have hl:=h.len.1;subst hl;exact World.ownsRow.frozenAt h _
 obtain ⟨nv,hnv⟩:∃x:UInt8,x=cx ^^^ y:=⟨_,rfl⟩
 have hnv2:nv.toNat=cx.toNat ^^^ y.toNat:=by rw [hnv,UInt8.toNat_xor]
 have jq:=gg.setB i nv;rw [hnv2] at jq;have cxb:=cx.toNat_lt;have h1k:=ec.ext k3;obtain ⟨w4,Il⟩:=eX (w3.setCell ⟨gb,i,none⟩ (.int .u8 ((cx.toNat ^^^ y.toNat:Nat):Int)));have g4:w3.grownBy w4 (some gb):=by rw [Il];exact aL (bC _ _)
 rw [<-Il] at jq;have s4:w3.heap.size<=w4.heap.size:=g4.size;have UC:=h1k.kept g4 (.inr (by simp [Value.ownBlock];omega));have Df:=aA ((g4.block (w.heap.size+1) (by omega) (by simp;omega)).trans ((k3.block (w.heap.size+1) (by omega)).trans yw.out));clear hi HMO kn Dy hnv hnv2 gg um;go_wp2_with fail;refine HMOD.out.mono ?_;rintro e w5 ⟨rfl,rfl⟩;go_upto_region 5 with fail;rw [u8_xor_nat cx.toNat y.toNat cx.toNat_lt y.toNat_lt,<-Il];clear Il c9 f9;have Ln:k<n:=by have:=ez.out;have:=(List.getElem?_eq_some_iff.1 HFF.out).1;omega
 obtain ⟨⟨u0,J5⟩,hf0⟩:=UC.cellF Ln 0 (by omega);obtain ⟨⟨u1,Nm⟩,Zv⟩:=UC.cellF Ln 1 (by omega);rw [Nat.add_zero] at J5 hf0;have h2:=UC.setF ⟨some ⟨gb,0,none⟩,ml,c3,none,0,0⟩ Ln;obtain ⟨w6,Bc⟩:=eX ((w4.setCell ⟨g,k*2,none⟩ (.slice (some ⟨gb,0,none⟩) ml c3)).setCell ⟨g,k*2+1,none⟩ (.slice none 0 0));have g6:w4.grownBy w6 (some g):=by rw [Bc];exact aL (aL (bC _ _))
 have h2' :a8 iG 2 w6 W.heap.size 86 (.slice (some ⟨g,0,none⟩) n c1) (xs.set k ⟨some ⟨gb,0,none⟩,ml,c3,none,0,0⟩):=by rw [Bc];exact h2
 have Dz:=jq.kept g6 (.inr (by simp [Value.ownBlock];omega));have Qf:=gT g6 Df;clear h2 UC jq h1k;go_upto_region 6 with fail;rw [<-Bc];clear Bc J5 hf0 Nm Zv;go_wp2_with (refine sR Qf ?_)
 refine rC Qf ?_;have gE:=aC w6 (w.heap.size+1) #[.slice (some ⟨g,0,none⟩) n c1];have s6:w4.heap.size<=w6.heap.size:=g6.size;have ea:=Below.ext Lt k3;have ia:=ea.grown g4 ea.size (λo e=>by cases e;omega);have il:=ia.grown g6 ia.size (λo e=>by cases e;omega);refine ⟨some ⟨g,0,none⟩,c1,fs.set k ⟨(f.s++f.p).set i nv,[]⟩,rfl,⟨_,(h2'.recs.keep (λb hb hs=>gE.block b hb (by have h2:W.heap.size<=b:=hs.1;simp;omega))).mono (λb _ h=> .inr (by have h2:W.heap.size<=b:=h.1;omega)),by rw [List.length_set,List.length_set];exact T8.out,λj x' f' o6 hh' => ?_⟩,λf' xh => ?_,il.grown gE il.size (λo e=>by cases e;omega)⟩
 ·by_cases Si:k=j
  ·subst Si;rw [List.getElem?_set_self (by omega)] at o6;rw [List.getElem?_set_self (by have:=ez.out;omega)] at hh';cases o6;cases hh';exact ⟨(Dz.by_.keep (λb hb hs=>gE.block b hb (by simp;omega))).mono (λb _ h=> .inr (by omega)),a7.nil_ _ _⟩
  ·rw [List.getElem?_set_ne Si] at o6 hh';have h9:=(Fc.out j x' f' o6 hh').ext (Below.ext al k3);have Yt:=h9.keep (w' :=w4) (λb hb hs=>g4.block b hb (by have:=hs.2;simp;omega));have ZH:=Yt.keep (w' :=w6) (λb hb hs=>g6.block b hb (by have:=hs.2;simp;omega));exact (ZH.keep (λb hb hs=>gE.block b hb (by have:=hs.2;simp;omega))).mono (λb _ h=> .inl h.1)
 ·rcases List.mem_or_eq_of_mem_set xh with h3|h3
  ·exact HF.out f' h3
  ·subst h3;have:=HF.out f (List.mem_of_getElem? HFF.out);simp;omega
theorem gH (A:Option Addr) (n c:Nat) (fs:List au) (S:Nat->Prop) (w:World) (hD:fh S w (.slice A n c) fs) (hn:n<=1000) (hf:eD fs) (ay:Int) (L:Option Addr) (ln lc:Nat) (zs:List Int) (Sl:Nat->Prop) (hE:a7 bB Sl w (.slice L ln lc) zs) (eg:∀z∈zs,av z):
 Calls Tryz.prog 24 #[.agg #[.slice A n c],.int .i64 ay,.slice L ln lc] w λe w' =>e= .returned (.bool true)/\Below w.heap.size w w' :=by
 have HF:=aA hf;have ez:=aA hD.len.1;have L6:=aA eg;obtain ⟨W,hW,bW,kW,SW,R0⟩:=bX w w #[.slice A n c] 36 (Below.refl _ _);have sW:w.heap.size<W.heap.size:=by have:=SW.out;omega
 have Bp:=hD.ext kW;have Jp:=hE.ext kW;clear hD hf hE eg;go_enter func24,ntmps24;go_upto_region 1 with fail;rw [<-hW];clear hW;go_wp2;go_loopw [7] (λv wr=>∃(j:Nat),v= .int .i64 ((j:Int)-1)/\j<=n+2/\Below W.heap.size W wr) (λv _=>n+2-(intOf v+1).toNat);case atStart=>exact ⟨0,rfl,by omega,Below.refl _ _⟩
 case round=>
  obtain ⟨j,rfl,hj,ag⟩:=hrel;have Ng:=ag.size;obtain ⟨z,hz⟩:∃z:Int,z=(j:Int)-1:=⟨_,rfl⟩
  rw [<-hz];have E6:=bT ag R0;have qd:=bn E6.out;by_cases af:z<=(n:Int)
  ·have dz:decide (z<=(n:Int))=true:=by simpa using af
   obtain ⟨r,hr⟩:=eX (Ea fs z);have zp:=(iT fs HF.out _ _ _ (iZ fs z) (by have:=ez.out;omega)).2 A n c _ wr (Bp.ext ag) hn;have oc:=(mP fs HF.out _ _ _ (iZ fs z) (by have:=ez.out;omega)).2;rw [<-hr] at zp oc;have HLA:=aA zp;have HLB:=aA oc;have HZ:=aA hz;clear hr zp oc hz;go_wp2_with (refine lD (t:=36) E6 ?_)
   refine HLA.out.mono ?_;rintro e wa ⟨hla,ba⟩;obtain ⟨E1,nz,pf,E2,jt,pe,E3,js,pb,E4,jr,pa,rfl,N7⟩:=hla.gen;clear hla qd;obtain ⟨W2,fv,ks,Ss,bs,vg,Rs,Jw,ls,ms⟩:=bE wa #[.slice E1 nz pf,.slice E2 jt pe,.slice E3 js pb,.slice E4 jr pa] 51;have y2:=Below.ext ba ks;have z2:=y2.size;have R2_:=bT y2 E6;have Qy:=aA (HLB.out A n c _ W2 ((Bp.ext ag).ext y2) hn);go_upto_region 5 with (refine sN ?_)
   try dsimp only
   rw [<-fv,<-Jw.out];clear fv vg;refine Tyal ?_;go_wp2_with (refine lD (t:=36) R2_ ?_)
   refine Qy.out.mono ?_;rintro e wb ⟨Lm,YA⟩;obtain ⟨G1,Mp,Tg,G2,J0,Tf,G3,Iz,Te,G4,Iy,Td,rfl,hMB⟩:=Lm.gen;clear Lm;obtain ⟨W3,ig,kt,St,bt,Lu,Rt,HBt,lt,mt⟩:=bE wb #[.slice G1 Mp Tg,.slice G2 J0 Tf,.slice G3 Iz Te,.slice G4 Iy Td] 51;have y3:=Below.ext YA kt;have y23:=Below.ext y2 y3;have Rs3:=bT y3 Rs ls;have HSM:=aA (QU (ldS r) E1 nz pf E2 jt pe E3 js pb E4 jr pa G1 Mp Tg G2 J0 Tf G3 Iz Te G4 Iy Td _ _ W3 ((N7.ext ks).ext y3) (hMB.ext kt));have de:((ldE r:Int) != (ldE r:Int))=false:=by simp
   obtain ⟨er,Cj⟩:=eX (ldE r);rw [<-Cj] at de ⊢;have den:(er != er)=false:=by simp
   clear N7 hMB Cj;go_upto_region 6 with (refine sN ?_)
   try dsimp only
   rw [<-ig,<-HBt.out];clear ig Lu;refine Tyal ?_;go_wp2_with (first|(refine lD (t:=51) Rs3 ?_)|(refine lD (t:=51) Rt ?_))
   refine HSM.out.mono ?_;rintro e wc ⟨rfl,bc⟩;have hz:=HZ.out;have zr:z+1=((j+1:Nat):Int)-1:=by omega
   have zb:z<=1000:=by omega
   go_wp2;go_roundw;case rel=>exact ⟨j+1,by rw [show ((j+1:Nat):Int)-1=(j:Int) by omega],by omega,Below.ext ag (Below.ext y23 bc)⟩
   case measure=>simp [intOf];omega
  ·have dz:decide (z<=(n:Int))=false:=by simpa using af
   have hBb:=aA (JX A n c fs _ wr (Bp.ext ag) hn HF.out ay);obtain ⟨bv,hbv⟩:=eX (((nB ay (dR fs n)).getD (0,0)).1);obtain ⟨ob,hob⟩:=eX ((nB ay (dR fs n)).isSome);rw [<-hbv,<-hob] at hBb;have d1:((bv:Int)==(bv:Int))=true:=by simp
   have d1n:(bv==bv)=true:=by simp
   have d2:(ob==ob)=true:=by simp
   have HBV:=aA (And.intro hbv hob);clear hbv hob af hz;go_wp2_with (refine lD (t:=36) E6 ?_)
   refine hBb.out.mono ?_;rintro e wa ⟨rfl,ba⟩;have za:=ba.size;have Ra:=bT ba E6;have hRb:=GU A n c fs _ wa ((Bp.ext ag).ext ba) hn HF.out ay;rw [<-HBV.out.1,<-HBV.out.2] at hRb;have HRB:=aA hRb;clear hRb qd dz;go_wp2_with (refine lD (t:=36) Ra ?_)
   refine HRB.out.mono ?_;rintro e wb ⟨rfl,YA⟩;have yab:=Below.ext ba YA;have yb:=Below.ext ag yab;have zb:=yb.size;have Rb:=bT yb R0 sW;obtain ⟨wd,Cb⟩:=eX wb.drew;have kd:Below wb.heap.size wb wd:=by rw [Cb];exact (Below.refl _ wb).drew
   have yd:=Below.ext yb kd;have HC1:=aA (yB A n c fs _ wd (Bp.ext yd) hn HF.out);go_upto_region 10 with fail;go_wp2_with fail;refine aH ((λw' =>w'.heap[w.heap.size]? =some (.cells #[.slice A n c] 36 (0,0)))) (by kernel_rfl) (by kernel_rfl) (Rb.out) ?_;refine TkA ?_;refine lL (λw' h=>lB (t:=36) h) ?_;refine Tyac ?_;rw [<-Cb];clear Cb d1 d1n d2;refine aF rfl ?_;go_wp2_with fail;refine HC1.out.mono ?_;rintro e w1 ⟨B1,k1,d1,rfl,iq,lv,c1⟩;have y1:=Below.ext yd c1;have WD:=aA (wY A n c fs _ w1 (Bp.ext y1) hn HF.out);go_wp2_with fail;refine aD ((y1.block w.heap.size sW).trans R0.out) ?_;refine Tyap ?_;go_wp2_with fail;refine WD.out.mono ?_;rintro e w2 ⟨B2,k2,d2,rfl,uc,dw,c2⟩;have y2:=Below.ext y1 c2;obtain rfl:k1=k2:=by have h1:=lv.len.1;have h2:=dw.len.1;omega
   have HC3:=aA (EA B1 B2 k1 d1 d2 (dR fs n) _ _ w2 (lv.recs.ext c2) dw.recs);clear lv dw;go_wp2_with fail;refine aD ((y2.block w.heap.size sW).trans R0.out) ?_;refine Tyah ?_;go_wp2_with fail;refine HC3.out.mono ?_;rintro e w3 ⟨rfl,c3⟩;have y3:=Below.ext y2 c3;have HC4:=aA (ET A n c fs _ w3 (Bp.ext y3) hn HF.out L ln lc zs _ (Jp.ext y3) L6.out);go_wp2_with fail;refine aD ((y3.block w.heap.size sW).trans R0.out) ?_;refine Tyap ?_;go_wp2_with fail;refine HC4.out.mono ?_;rintro e w4 ⟨B4,k4,d4,rfl,jq,c4⟩;have y4:=Below.ext y3 c4;have HC5:=aA (BY A n c fs _ w4 (Bp.ext y4) hn HF.out L ln lc zs _ (Jp.ext y4));go_wp2_with fail;refine aD ((y4.block w.heap.size sW).trans R0.out) ?_;refine Tyap ?_;go_wp2_with fail;refine HC5.out.mono ?_;rintro e w5 ⟨B5,k5,d5,rfl,ux,c5⟩;have y5:=Below.ext y4 c5;have hsi:=CR B4 B5 k4 d4 k5 d5 _ _ _ _ w5 (jq.recs.ext c5) ux.recs;rw [show decide (fO (cE fs n zs) n=fO (cE fs n zs) n)=true by simp] at hsi;have HC6:=aA hsi;clear jq ux hsi;go_wp2_with fail;refine aD ((y5.block w.heap.size sW).trans R0.out) ?_;refine Tyah ?_;go_wp2_with fail;refine HC6.out.mono ?_;rintro e w6 ⟨rfl,c6⟩;have y6:=Below.ext y5 c6;go_wp2_with fail;refine aD ((y6.block w.heap.size sW).trans R0.out) ?_;refine Tyan ?_;go_wp2;go_ret;exact ⟨rfl,Below.ext kW y6⟩
end Go.Proofs.YtiblijmngokcgaaGreatDoor
namespace Go.Proofs.YtiblijmngokcgaaGreatDoor
open Go.Proofs.Tryz
open Go.RowKit
theorem PI.oth {B g bd X:Nat} {w0 w6 wv w' :World} {A:Option Addr} {c:Nat} {fs:List au} (h:PI B g bd w0 w6 wv A c fs) (hg:wv.grownBy w' (some X)) (hX:w6.heap.size<=X) (hd:fh (λb=>b≠bd/\b≠g) w' (.slice A 4 c) fs):PI B g bd w0 w6 w' A c fs:=by
 have h1:=h.dl;have h2:=h.size;have h3:=h.gl;have h4:=h.g0;have h5:=h.b1;exact {h with row:=(hg.block bd (by omega) (by simp;omega)).trans h.row,dsk:=hd,cod:=h.cod.grown hg (λm e=>by cases e;exact ⟨by omega,by omega⟩),keep:=λb ar hs=>(hg.block b (by omega) (by simp;omega)).trans (h.keep b ar hs),size:=Nat.le_trans h.size hg.size,bel:=h.bel.grown hg h.bel.size (λo e=>by cases e;omega)}
theorem SI {n:Nat} {w:World} {c:Cd} {I1:Option Addr} {iw ix:Nat} {Q1:Option Addr} {k1 d1:Nat} {Q2:Option Addr} {k2 d2:Nat} {Q3:Option Addr} {k3 d3:Nat} {Q4:Option Addr} {k4 d4:Nat} (h:Ic (n<=·) w c I1 iw ix Q1 k1 d1 Q2 k2 d2 Q3 k3 d3 Q4 k4 d4):Ic (λb=>n<=b/\b<w.heap.size) w c I1 iw ix Q1 k1 d1 Q2 k2 d2 Q3 k3 d3 Q4 k4 d4:=by
 have f:∀{v ts},cw bJ (ak 3 (n<=·) w) (n<=·) w v ts->cw bJ (ak 3 (λb=>n<=b/\b<w.heap.size) w) (λb=>n<=b/\b<w.heap.size) w v ts:=λ{v ts} h=>h.mono (λb hb h=>⟨h,hb⟩) (λy u h=>ak.mono (λb hb h=>⟨h,hb⟩) 3 y u h)
 exact ⟨h.1.mono (λb hb h=>⟨h,hb⟩),f h.2,f h.3,f h.4,f h.5⟩
theorem RP:(Tryz.prog.info? 51).map (λi=>(i.zero,i.size,i.bytes))=some (some (.agg #[.slice none 0 0,.slice none 0 0,.slice none 0 0,.slice none 0 0]),4,96):=by kernel_rfl
theorem NE (ρ:Operand->Value) (o:Oper) (w:World) (ho:o.op= .alloc 51):(execOp ρ o).run Tryz.prog w= .ok (.value (.pointer (some ⟨w.heap.size,0,none⟩))) (w.alloc (.cells #[.slice none 0 0,.slice none 0 0,.slice none 0 0,.slice none 0 0] 51)):=by
 obtain ⟨i,hi,hz,_⟩:=info_parts RP;exact rH hi hz ρ o w ho
theorem j7.mono_ {S S' :Nat->Prop} {w:World} {s:bj} {E1:Option Addr} {nz pf:Nat} {E2:Option Addr} {jt pe:Nat} {E3:Option Addr} {js pb:Nat} {E4:Option Addr} {jr pa:Nat} (h:j7 S w s E1 nz pf E2 jt pe E3 js pb E4 jr pa) (hs:∀b,b<w.heap.size->S b->S' b):j7 S' w s E1 nz pf E2 jt pe E3 js pb E4 jr pa:=⟨h.1.mono hs,h.2.mono hs,h.3.mono hs,h.4.mono hs⟩
theorem ZN.stp {s:bj} (h:ZN s):StP s:=by
 have:=h.i.n;have h1:=h.c;have h2:=h.e;exact ⟨h.sv,by omega,by omega,by omega,by omega⟩
theorem KJ {c:Cd} {evs:List Ev} {s:bj} (hI:Kv evs.length (8*(evs.length+1)) s) (he:evs.length<=3) (sk:s.evs=evs) (hc:s.cells.length=c.init.length) (h5:5<=c.init.length) (ou:Ca c):ZN s:=by
 have h1:=ou.len;exact ⟨⟨hI.c,hI.e,λx hx=>(by have:=hI.sn x hx;exact ⟨this.1,this.2.1,by have:=this.2.2;omega⟩),λx hx=>(by have:=hI.o x hx;exact ⟨this.1,this.2.1,by have:=this.2.2;omega⟩),by have:=hI.n;omega⟩,by omega,by omega,by rw [sk];omega⟩
end Go.Proofs.YtiblijmngokcgaaGreatDoor
