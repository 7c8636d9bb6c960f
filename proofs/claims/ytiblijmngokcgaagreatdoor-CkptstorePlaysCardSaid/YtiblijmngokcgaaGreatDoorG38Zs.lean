import Derived.Test.YtiblijmngokcgaaGreatDoorG36Zs
import Derived.Test.YtiblijmngokcgaaGreatDoorG37Zs
set_option linter.unusedVariables false
set_option linter.unusedSimpArgs false
set_option maxHeartbeats 16000000
set_option maxRecDepth 100000
namespace Go.Proofs.YtiblijmngokcgaaGreatDoor
open Go.Proofs.Tryz
open Go.RowKit
theorem Bytes.avoid {S:Nat->Prop} {w:World} {v:Value} {l:List UInt8} {g:Nat} {row:Array Value} {T:TypeId} (h:Bytes S w v l) (hr:w.heap[g]? =some (.cells row T (0,0))) (xe:∀(j:Nat) (u:Value),row[j]? =some u->∀x:UInt8,u≠ .int .u8 (x.toNat:Int)):Bytes (λb=>b≠g) w v l:=by
 have hb:=h.by_;obtain ⟨A,c,rfl,h1,h2,h3⟩:=hb;refine a7.bytes ⟨A,c,rfl,h1,h2,λh0=> ?_⟩;obtain ⟨b,o,e,hS,h4⟩:=h3 h0;refine ⟨b,o,e,λpj=> ?_,h4⟩;subst pj;match l,h0 with
 |x::l,_=>
  have h5:=h4 0 (.int .u8 (x.toNat:Int)) rfl;rw [cell_of_row _ _ _ _ _ _ hr] at h5;exact xe _ _ h5 x rfl
theorem OL {L:List UInt8} {p q:Nat} {h:Hd} (e:jO L p= .ok (h,q)):∀z∈h.l,av z:=by
 unfold jO ft at e;cases h1:aQ L p with
 |error x=>rw [h1] at e;cases e
 |ok a=>
  rw [h1] at e;dsimp only at e;cases h2:aQ L a.2 with
  |error x=>rw [h2] at e;cases e
  |ok b=>
   rw [h2] at e;dsimp only at e;cases h3:aQ L b.2 with
   |error x=>rw [h3] at e;cases e
   |ok c=>
    rw [h3] at e;dsimp only at e;cases h4:aQ L c.2 with
    |error x=>rw [h4] at e;cases e
    |ok d=>
     rw [h4] at e;cases e;have k1:=(cQ h1).inr a.1 (by simp);have k2:=(cQ h2).inr b.1 (by simp);have k3:=(cQ h3).inr c.1 (by simp);have k4:=(cQ h4).inr d.1 (by simp);intro z hz;simp only [Hd.l,List.mem_cons,List.not_mem_nil,or_false] at hz;rcases hz with rfl|rfl|rfl|rfl
     ·exact k1
     ·exact k2
     ·exact k3
     ·exact k4
theorem jP {b:List UInt8} {h:Hd} {q:Nat} (e:cA b= .ok (h,q)):(∀z∈h.l,av z)/\1<=h.stamp:=by
 have h1:=pJ (uA e).2.1;exact ⟨OL h1.2,h1.1.1⟩
theorem uB {fs:List au} {k:Int} {h:Hd} {q:Nat} (e:cA (bV fs k)= .ok (h,q)):0<=k/\k<(fs.length:Int):=by
 by_cases hk:k<0∨(fs.length:Int)<=k
 ·rw [sE hk] at e;cases e
 ·omega
theorem bm.at_ {fs:List au} {n:Nat} {k:Int} {s:bj} (h:bm fs n k (.ok s)):0<=k/\k<(fs.length:Int):=by
 cases h with
 |full h1=>
  obtain ⟨_,_,h2,_⟩:=nK h1;exact uB h2
 |grown h1 _ _ _ _=>
  obtain ⟨_,h2,_⟩:=mV h1;exact uB h2
def Ii (f:au):Int:=match AP f with| .ok (h,_)=>h.stamp| .error _=>0
theorem jM (f:au) (l:List au):bM (f::l)=max (Ii f) (bM l):=rfl
theorem FZ (f:au):0<=Ii f/\Ii f<=nD:=by
 unfold Ii;split
 ·rename_i h q e;have:=jP e;have h2:=this.1 h.stamp (by simp [Hd.l]);exact ⟨by omega,h2.2⟩
 ·unfold nD;omega
theorem iR:∀l:List au,0<=bM l/\bM l<=nD
 |[]=>by unfold bM nD;omega
 |f::l=>by
  have h1:=FZ f;have h2:=iR l;rw [jM];omega
theorem rE (f:au):∀l:List au,bM (l++ [f])=max (bM l) (Ii f)
 |[]=>by
  have h1:=FZ f;show max (Ii f) 0=max 0 (Ii f);omega
 |g::l=>by
  rw [List.cons_append,jM,jM,rE f l];omega
theorem nZ {fs:List au} {i:Nat} {f:au} (h:fs[i]? =some f):bM (fs.take (i+1))=max (bM (fs.take i)) (Ii f):=by
 rw [List.take_add_one,h];exact rE f _
theorem zG {fs:List au} {i:Nat} {f:au} (h:fs[i]? =some f):Ii f=(match cA (bV fs (i:Int)) with| .ok (h,_)=>h.stamp| .error _=>0):=by
 rw [mZ h];rfl
theorem zH {s:bj} (hc:s.cells.length<=1000) (he:s.evs.length<=400) (hs:s.sent.length<=400) (ho:s.outs.length<=400):s.l.length<=20000:=by
 have f1:=qK s.evs Ev.l 7 (λ_ _=>Nat.le_refl _);have f2:=qK s.sent n7.l 4 (λ_ _=>Nat.le_refl _);have f3:=qK s.outs Ou.l 2 (λ_ _=>Nat.le_refl _);simp only [bj.l,List.length_append,List.length_cons,List.length_nil];omega
theorem JQ {s u:bj} (hs:xr s) (hx:tn s u):(dY s u).length<=300000:=by
 have h1:=qN u.cells s.cells hs.ok.cells hs.c;have hd:vw (eW s u):=⟨by simp [eW],λe he=>hs.ok.evs e (List.mem_of_mem_drop he),λe he=>hs.ok.sent e (List.mem_of_mem_drop he),λe he=>hs.ok.outs e (List.mem_of_mem_drop he),by simp [eW]⟩
 have e1:(eW s u).cells.length<=1000:=by simp [eW]
 have e2:(eW s u).evs.length<=400:=by have:=hs.e;simp [eW];omega
 have e3:(eW s u).sent.length<=400:=by have:=hs.sn;simp [eW];omega
 have e4:(eW s u).outs.length<=400:=by have:=hs.o;simp [eW];omega
 have h2:=cG _ (vX hd (by omega) (by omega) (by omega));have h3:=zH e1 e2 e3 e4;unfold dY;rw [List.length_append];omega
theorem pZ (A:Option Addr) (n c:Nat) (fs:List au) (S:Nat->Prop) (w:World) (hD:fh S w (.slice A n c) fs) (hn:n<=1000) (hf:eD fs) (slot:Int) (s:bj) (A1:Option Addr) (n1 c1:Nat) (A2:Option Addr) (n2 c2:Nat) (A3:Option Addr) (n3 c3:Nat) (A4:Option Addr) (n4 c4:Nat) (Ss:Nat->Prop) (hM:j7 Ss w s A1 n1 c1 A2 n2 c2 A3 n3 c3 A4 n4 c4) (hs:xr s) (base:Int) (r:Except Nat (List au)) (hr:gh fs s slot base r):
 Calls Tryz.prog 22 #[.agg #[.slice A n c],.int .i64 slot,.agg #[.slice A1 n1 c1,.slice A2 n2 c2,.slice A3 n3 c3,.slice A4 n4 c4],.int .i64 base] w λe w' =>Vn (λb=>S b∨w.heap.size<=b) n w' r e/\Below w.heap.size w w' :=by
 obtain ⟨W,hW,aw,SW,R0,R1,R2⟩:=BJ w #[.slice A n c] #[.slice A1 n1 c1,.slice A2 n2 c2,.slice A3 n3 c3,.slice A4 n4 c4] #[.slice none 0 0] 36 51 36;have af:w.heap.size+2<W.heap.size:=by have:=SW.out;omega
 have hlen:=hD.len.1;have ez:=aA hlen;have sx:fh (λb=>S b/\b<w.heap.size) W (.slice A n c) fs:=(hD.mono (λb h1 h2=>⟨h2,h1⟩)).ext aw;have wm:j7 (λb=>b<w.heap.size) W s A1 n1 c1 A2 n2 c2 A3 n3 c3 A4 n4 c4:=j7.ext ⟨hM.1.mono (λb h _=>h),hM.2.mono (λb h _=>h),hM.3.mono (λb h _=>h),hM.4.mono (λb h _=>h)⟩ aw;have HF:=aA hf;have HS:=aA hs;have q0:=bn R0.out;clear hD hf hM hs;obtain ⟨r2,mi⟩:=eX r;rw [<-mi];go_enter func22,ntmps22;go_upto_region 1 with fail;rw [<-hW];clear hW;have nf:∀(m:Nat) (r' :Except Nat bj),bm fs m base r'->LdR fs base r' :=λm r' h=>by
  obtain ⟨r3,h3⟩:=bm.ex fs base;have:=bm.uniq h h3;subst this;exact iT fs HF.out _ _ _ h3 (by omega)
 have Ay:=aA nf;clear nf hlen;cases hr with
 |none h0=>
  have HR:=aA mi;clear mi Ay;by_cases hk:slot<0
  ·have dk:decide (slot<0)=true:=by simpa using hk
   clear hk h0;exact Tzcl
  ·have dk:decide (slot<0)=false:=by simpa using hk
   have dk2:decide ((n:Int)<=slot)=true:=by have:=ez.out;simp;omega
   clear hk h0;exact Tzcl
 | @full k hk=>
  clear Ay;obtain ⟨W2,fv,kh,Sh,bh,Lw,Rh,L7,lh,_⟩:=bE W #[.int .i64 1,.int .i64 0,.int .i64 (-1),.int .i64 0] 90;have Qd:=bT kh R0;have UM:=bT kh R1;have Nc:=bT kh R2 af;have ar:=Below.ext aw kh;have wo:=sx.ext kh;have ri:=wm.ext kh;have Up:w.heap.size+2<bh:=by omega
  have dk:decide (n<=k)=false:=by simp;have:=ez.out;omega
  have Ln:k<n:=by have:=ez.out;omega
  have HR:=aA mi;clear Lw mi;have HPS:=aA (rL none 0 0 [] (λ_=>True) W2 (Bytes.nil_ _ _) s A1 A2 A3 A4 n1 c1 n2 c2 n3 c3 n4 c4 (ri.1.mono (λb h _=>h)) (ri.2.mono (λb h _=>h)) (ri.3.mono (λb h _=>h)) (ri.4.mono (λb h _=>h)) HS.out.ok (by omega) (by have:=ri.2.len.1;have:=HS.out.e;omega) (by have:=ri.3.len.1;have:=HS.out.sn;omega) (by have:=ri.4.len.1;have:=HS.out.o;omega));clear hk ri wm sx;go_upto_region 4 with (refine sN ?_)
  try dsimp only
  rw [<-fv,<-L7.out];clear fv;refine Tyal ?_;go_wp2_with (refine aK (t:=51) (A:=⟨w.heap.size+1,0,none⟩) rfl rfl rfl (lB (t:=51) UM.out) ?_)
  refine HPS.out.mono ?_;rintro e w3 ⟨v3,rfl,Cc,b3⟩;rw [List.nil_append] at Cc;have ki:=cG s.l (vX HS.out.ok (by have:=HS.out.e;omega) (by have:=HS.out.sn;omega) (by have:=HS.out.o;omega));have J6:s.l.length<=20000:=zH HS.out.c HS.out.e HS.out.sn HS.out.o;obtain ⟨C,cc,rfl,ej,ed,fq⟩:=Cc;obtain ⟨m,hm⟩:=eX ((aI s.l).length);rw [<-hm] at ki ej ⊢;have Cc:Bytes (λ_=>True) w3 (.slice C m cc) (aI s.l):=⟨C,cc,by rw [hm],by omega,ed,fq⟩
  have hmm:m<=200000:=by omega
  have UR:=bT b3 Qd;have ZR:=bT b3 Nc;have RH3:=bT b3 Rh lh;have D8:=wo.ext b3;have ea:=Below.ext ar b3;have q3:=bn UR.out;have hb3s:=b3.size;have HI:∀st:Int,av st->∀z∈(Hd.l ⟨1,st,-1,0⟩),av z:=by
   exact Tzdq
  clear hm ej ed fq ki J6 wo q0;obtain ⟨wt,hwt⟩:=eX w3;go_wp2;go_loopw [18,76] (λz i wr=>∃(iv:Nat),i= .int .i64 iv/\iv<=n/\z= .int .i64 (bM (fs.take iv))/\Below w3.heap.size w3 wr) (λ_ i _=>n-(intOf i).toNat);case atStart=>exact ⟨0,rfl,by omega,rfl,Below.refl _ _⟩
  case round=>
   obtain ⟨iv,rfl,hiv,rfl,ag⟩:=hrel;obtain ⟨z,hz⟩:=eX (bM (fs.take iv));rw [<-hz];have Fk:=iR (fs.take iv);rw [<-hz] at Fk;unfold nD at Fk;have HZ:=aA hz;clear hz;have Ng:=ag.size;by_cases eu:iv<n
   ·obtain ⟨f,hf⟩:∃f,fs[iv]? =some f:=⟨_,List.getElem?_eq_getElem (by have:=ez.out;omega)⟩
    have en:=nZ hf;rw [<-HZ.out,zG hf] at en;have lf:=aA en;have HCB:=aA (kG A n c fs _ wr (D8.ext ag) hn (iv:Int) HF.out);have E6:=bT ag UR;exact Tzan
   ·obtain rfl:n=iv:=by omega
    have Gb:z=bM fs:=by rw [HZ.out,List.take_of_length_le (by rw [ez.out];exact Nat.le_refl _)]
    have HZZ:=aA Gb;have qy:=Below.ext ea ag;have E6:=bT ag UR;have RZr:=bT ag ZR;have UO:=bT ag RH3;clear Gb;by_cases Gc:z=9223372036854775807
    ·exact Tzcw
    ·have dz:(z==9223372036854775807)=false:=by simpa using Gc
     have an:=aA (show r2=if 4096<List.length (aI s.l) then .error 5 else .ok (fs.set k ⟨[],wu ⟨1,z+1,(-1),0⟩ (aI s.l)⟩) by rw [HR.out];unfold gN;rw [if_neg (by rw [<-HZZ.out];exact Gc),<-HZZ.out]);have od:z+1<=9223372036854775807:=by omega
     have qh1:=fi UO.out;have fh1:wr.frozen? ⟨bh,1,none⟩=false:=frozen_of_row _ _ _ _ _ UO.out
     obtain ⟨w6,Bc⟩:=eX (wr.setCell ⟨bh,1,none⟩ (.int .i64 (z+1)));have g6:wr.grownBy w6 (some bh):=by rw [Bc];exact aL (bC _ _)
     have UQ:=aA (show w6.heap[bh]? =some (.cells #[.int .i64 1,.int .i64 (z+1),.int .i64 (-1),.int .i64 0] 90 (0,0)) by rw [Bc];exact heap_setCell_same _ _ _ _ _ _ UO.out);have ZT:=gT g6 E6;have ZP:=gT g6 RZr;have Ho:=(D8.ext ag).keep (w' :=w6) (λb hb hs=>g6.block b hb (by have:=hs.2;simp;omega));have il:Below w.heap.size w w6:=qy.grown g6 qy.size (λo e=>by cases e;omega);have hv6:=((Cc.ext ag).avoid UO.out (by intro j u hu x;rcases j with _|_|_|_|j<;>simp at hu<;>subst hu<;>simp)).keep (w' :=w6) (λb hb hs=>g6.block b hb (by intro e;exact hs (Option.some.inj e)));have s6:wr.heap.size<=w6.heap.size:=g6.size;have HWR:=aA (vM A n c fs _ w6 Ho hn k (by omega) ⟨1,z+1,(-1),0⟩ (HI (z+1) ⟨by omega,by omega⟩) C m cc (aI s.l) _ hv6 (by omega));clear Gc g6 Ho hv6;go_upto_region 26 with fail;try rw [<-Bc]
     clear Bc qh1 fh1;go_wp2_with (first|(refine lD (t:=36) ZT ?_)|(refine lD (t:=90) UQ ?_))
     refine HWR.out.mono ?_;rintro e w7 ⟨Uj,b7⟩;have T5:=bT b7 ZP;have vj:=Below.ext il b7;by_cases j6:4096<List.length (aI s.l)
     ·exact Tzcs
     ·exact Tzbv
 | @miss k base m e0 hk al hL=>
  have db:(base== -1)=false:=by simpa using al
  obtain ⟨W2,fv,kh,Sh,bh,Lw,Rh,L7,lh,_⟩:=bE W #[.int .i64 1,.int .i64 0,.int .i64 (-1),.int .i64 0] 90;have Qd:=bT kh R0;have UM:=bT kh R1;have Nc:=bT kh R2 af;have ar:=Below.ext aw kh;have wo:=sx.ext kh;have ri:=wm.ext kh;have Up:w.heap.size+2<bh:=by omega
  have dk:decide (n<=k)=false:=by simp;have:=ez.out;omega
  have Ln:k<n:=by have:=ez.out;omega
  have HR:=aA mi;clear Lw mi;have C8:=aA ((Ay.out _ _ hL).2 A n c _ W2 wo hn);clear Ay hL al;clear hk;go_upto_region 4 with (refine sN ?_)
  try dsimp only
  rw [<-fv,<-L7.out];clear fv;refine Tyal ?_;go_wp2_with (refine lD (t:=36) Qd ?_)
  refine C8.out.mono ?_;rintro e w3 ⟨gd,b3⟩;have s3:=b3.size;have ea:=Below.ext ar b3;unfold Dh at gd;dsimp only at gd;obtain ⟨Jg,rfl⟩:=gd;have dx:((e0:Int) != 0)=true:=by simpa using Jg
  obtain ⟨W4,ng,ku,Su,bu,Oq,Ru,Qz,lu,_⟩:=bE w3 #[.slice none 0 0,.slice none 0 0,.slice none 0 0,.slice none 0 0] 51;have ZQ:=bT (Below.ext b3 ku) Nc;have ia:=Below.ext ea ku;clear Oq Jg;exact Tzdc
 | @shape k base m u hk al hL Ry=>
  have db:(base== -1)=false:=by simpa using al
  obtain ⟨W2,fv,kh,Sh,bh,Lw,Rh,L7,lh,_⟩:=bE W #[.int .i64 1,.int .i64 0,.int .i64 (-1),.int .i64 0] 90;have Qd:=bT kh R0;have UM:=bT kh R1;have Nc:=bT kh R2 af;have ar:=Below.ext aw kh;have wo:=sx.ext kh;have ri:=wm.ext kh;have Up:w.heap.size+2<bh:=by omega
  have dk:decide (n<=k)=false:=by simp;have:=ez.out;omega
  have Ln:k<n:=by have:=ez.out;omega
  have HR:=aA mi;clear Lw mi;have C8:=aA ((Ay.out _ _ hL).2 A n c _ W2 wo hn);clear Ay hL al;clear hk;go_upto_region 4 with (refine sN ?_)
  try dsimp only
  rw [<-fv,<-L7.out];clear fv;refine Tyal ?_;go_wp2_with (refine lD (t:=36) Qd ?_)
  refine C8.out.mono ?_;rintro e w3 ⟨gd,b3⟩;have s3:=b3.size;have ea:=Below.ext ar b3;unfold Dh at gd;dsimp only at gd;obtain ⟨E1,p1,q1,E2,p2,q2,E3,p3,q3,E4,p4,q4,rfl,hU⟩:=gd;obtain ⟨W4,ng,ku,Su,bu,Oq,Ru,Qz,lu,_⟩:=bE w3 #[.slice E1 p1 q1,.slice E2 p2 q2,.slice E3 p3 q3,.slice E4 p4 q4] 51;have Co:=Below.ext b3 ku;have RD4:=bT Co Qd;have RS4:=bT Co UM;have ZQ:=bT Co Nc;have ZS:=bT Co Rh lh;have ia:=Below.ext ea ku;have uv:=wo.ext Co;have Uv:=ri.ext Co;have hU4:=hU.ext ku;have hbu2:bh<bu:=by omega
  have s4:=Co.size;clear Oq wo ri hU;by_cases Ot:base=(k:Int)
  ·have ZJ:(base==(k:Int))=true:=by simpa using Ot
   clear Ot Ry;exact Tzdc
  ·have ZJ:(base==(k:Int))=false:=by simpa using Ot
   have hex:nE s u=false:=by
    have:=Ry.resolve_left Ot;rw [<-oM] at this;simpa using this
   have HEX:=aA (tN s u A1 n1 c1 A2 n2 c2 A3 n3 c3 A4 n4 c4 E1 p1 q1 E2 p2 q2 E3 p3 q3 E4 p4 q4 _ _ W4 Uv hU4);rw [hex] at HEX;clear Ot Ry hex;go_upto_region 8 with (refine sN ?_)
   try dsimp only
   rw [<-ng,<-Qz.out];clear ng;refine Tyal ?_;go_wp2_with (first|(refine aK (t:=51) (A:=⟨w.heap.size+1,0,none⟩) rfl rfl rfl (lB (t:=51) RS4.out) ?_)|(refine lD (t:=51) Ru ?_))
   refine HEX.out.mono ?_;rintro e w5 ⟨rfl,b5⟩;have Wu:=bT b5 ZQ;have gu:=Below.ext ia b5;exact Tzc3
 | @inc k base m q u g hk al hL fb hx hh=>
  have db:(base== -1)=false:=by simpa using al
  obtain ⟨W2,fv,kh,Sh,bh,Lw,Rh,L7,lh,_⟩:=bE W #[.int .i64 1,.int .i64 0,.int .i64 (-1),.int .i64 0] 90;have Qd:=bT kh R0;have UM:=bT kh R1;have Nc:=bT kh R2 af;have ar:=Below.ext aw kh;have wo:=sx.ext kh;have ri:=wm.ext kh;have Up:w.heap.size+2<bh:=by omega
  have dk:decide (n<=k)=false:=by simp;have:=ez.out;omega
  have Ln:k<n:=by have:=ez.out;omega
  have HR:=aA mi;clear Lw mi;have C8:=aA ((Ay.out _ _ hL).2 A n c _ W2 wo hn);have jx:=hL.at_;have ZJ:(base==(k:Int))=false:=by simpa using fb
  have hex:=(oM s u).2 hx;have HX:=aA hx;have HH:=aA hh;have Jd:=(jP hh).1 g.stamp (by simp [Hd.l]);clear Ay hL al fb hx hh;clear hk;go_upto_region 4 with (refine sN ?_)
  try dsimp only
  rw [<-fv,<-L7.out];clear fv;refine Tyal ?_;go_wp2_with (refine lD (t:=36) Qd ?_)
  refine C8.out.mono ?_;rintro e w3 ⟨gd,b3⟩;have s3:=b3.size;have ea:=Below.ext ar b3;unfold Dh at gd;dsimp only at gd;obtain ⟨E1,p1,q1,E2,p2,q2,E3,p3,q3,E4,p4,q4,rfl,hU⟩:=gd;obtain ⟨W4,ng,ku,Su,bu,Oq,Ru,Qz,lu,_⟩:=bE w3 #[.slice E1 p1 q1,.slice E2 p2 q2,.slice E3 p3 q3,.slice E4 p4 q4] 51;have Co:=Below.ext b3 ku;have RD4:=bT Co Qd;have RS4:=bT Co UM;have ZQ:=bT Co Nc;have ZS:=bT Co Rh lh;have ia:=Below.ext ea ku;have uv:=wo.ext Co;have Uv:=ri.ext Co;have hU4:=hU.ext ku;have hbu2:bh<bu:=by omega
  have s4:=Co.size;clear Oq wo ri hU;have HEX:=aA (tN s u A1 n1 c1 A2 n2 c2 A3 n3 c3 A4 n4 c4 E1 p1 q1 E2 p2 q2 E3 p3 q3 E4 p4 q4 _ _ W4 Uv hU4);rw [hex] at HEX;clear hex;go_upto_region 8 with (refine sN ?_)
  try dsimp only
  rw [<-ng,<-Qz.out];clear ng;refine Tyal ?_;go_wp2_with (first|(refine aK (t:=51) (A:=⟨w.heap.size+1,0,none⟩) rfl rfl rfl (lB (t:=51) RS4.out) ?_)|(refine lD (t:=51) Ru ?_))
  refine HEX.out.mono ?_;rintro e w5 ⟨rfl,b5⟩;have s5:=b5.size;have RD5:=bT b5 RD4;have RS5:=bT b5 RS4;have Wu:=bT b5 ZQ;have RH5:=bT b5 ZS;have RU5:=bT b5 Ru lu;have Md:=uv.ext b5;have E5:=Uv.ext b5;have ZA:=hU4.ext b5;have gu:=Below.ext ia b5;have HBE:=aA (kG A n c fs _ w5 Md hn base HF.out);clear uv Uv hU4;go_wp2_with (refine lD (t:=36) RD5 ?_)
  refine HBE.out.mono ?_;rintro e w6 ⟨g',Vg,qg,xg,rfl,Lv,b6⟩;have s6:=b6.size;obtain ⟨rfl,rfl⟩:g' =g/\xg=0:=by
   rcases Lv with ⟨p,h1,_,h2,_⟩|⟨h1,_⟩
   ·rw [HH.out] at h1;cases h1;exact ⟨rfl,h2⟩
   ·rw [HH.out] at h1;cases h1
  obtain ⟨W7,oy,ke,Se,be,VX,Re,YZ,le,_⟩:=bE w6 #[.int .i64 g'.kind,.int .i64 g'.stamp,.int .i64 g'.base,.int .i64 g'.under] 90;have Fi:=Below.ext b6 ke;have RD7:=bT Fi RD5;have RS7:=bT Fi RS5;have T5:=bT Fi Wu;have RH7:=bT Fi RH5;have RU7:=bT Fi RU5;have hD7:=Md.ext Fi;have N8:=E5.ext Fi;have hU7:=ZA.ext Fi;have vj:=Below.ext gu Fi;have s7:=Fi.size;have qe:=fi Re.out;obtain ⟨w8,hw8⟩:=eX (W7.setRow bh #[.int .i64 2,.int .i64 0,.int .i64 base,.int .i64 g'.stamp]);have g8:W7.grownBy w8 (some bh):=by rw [hw8];exact aC _ _ _
  have RH8:=aA (show w8.heap[bh]? =some (.cells #[.int .i64 2,.int .i64 0,.int .i64 base,.int .i64 g'.stamp] 90 (0,0)) by rw [hw8];exact setRow_heap _ _ _ _ _ _ RH7.out);have RD8:=gT g8 RD7;have RS8:=gT g8 RS7;have RZ8:=gT g8 T5;have RU8:=gT g8 RU7;have hD8:=hD7.keep (w' :=w8) (λb hb hs=>g8.block b hb (by have:=hs.2;simp;omega));have Bl:Below w.heap.size w w8:=vj.grown g8 vj.size (λo e=>by cases e;omega);have s8:W7.heap.size<=w8.heap.size:=g8.size;have kM:ae (λb=>b<w.heap.size) W7 w8:=λb hb hs=>g8.block b hb (by simp;omega)
  have kU:ae (λb=>W2.heap.size<=b) W7 w8:=λb hb hs=>g8.block b hb (by simp;omega)
  have hM8:j7 (λb=>b<w.heap.size) w8 s A1 n1 c1 A2 n2 c2 A3 n3 c3 A4 n4 c4:=⟨N8.1.keep kM,N8.2.keep kM,N8.3.keep kM,N8.4.keep kM⟩
  have Yc:j7 (λb=>W2.heap.size<=b) w8 u E1 p1 q1 E2 p2 q2 E3 p3 q3 E4 p4 q4:=⟨hU7.1.keep kU,hU7.2.keep kU,hU7.3.keep kU,hU7.4.keep kU⟩
  have HDI:=aA (wF s u A1 n1 c1 A2 n2 c2 A3 n3 c3 A4 n4 c4 E1 p1 q1 E2 p2 q2 E3 p3 q3 E4 p4 q4 _ _ w8 hM8 Yc HS.out HX.out);clear VX Lv Md E5 ZA hD7 N8 hU7 hM8 Yc;go_upto_region 13 with (refine sN ?_)
  try dsimp only
  rw [<-oy,<-YZ.out];clear oy;refine Tyal ?_;go_upto_region 14 with (refine sR RH7 ?_)
  rw [<-hw8];clear hw8 qe g8;go_wp2_with (first|(refine aK (t:=51) (A:=⟨w.heap.size+1,0,none⟩) rfl rfl rfl (lB (t:=51) RS8.out) ?_)|(refine lD (t:=51) RU8 ?_))
  refine HDI.out.mono ?_;rintro e w9 ⟨v9,rfl,Eb,b9⟩;have j6:=JQ HS.out HX.out;obtain ⟨C,cc,rfl,ej,ed,fq⟩:=Eb;obtain ⟨Br,Ep⟩:=eX (dY s u);rw [<-Ep] at ej fq j6 HR ⊢;obtain ⟨m',U5⟩:∃m,m=Br.length:=⟨_,rfl⟩
  rw [<-U5] at j6 ej ⊢;have Eb:Bytes (λ_=>True) w9 (.slice C m' cc) Br:=⟨C,cc,by rw [U5],by omega,ed,fq⟩
  have RD9:=bT b9 RD8;have RZ9:=bT b9 RZ8;have RH9:=bT b9 RH8;have Yn:=hD8.ext b9;have gf:=Below.ext Bl b9;have hb9s:=b9.size;have q9:=bn RD9.out;have HI:∀st:Int,av st->∀z∈(Hd.l ⟨2,st,base,g'.stamp⟩),av z:=by
   intro st en z hz;simp only [Hd.l,List.mem_cons,List.not_mem_nil,or_false] at hz;rcases hz with rfl|rfl|rfl|rfl
   ·exact ⟨by omega,by omega⟩
   ·exact en
   ·have:=ez.out;exact ⟨by omega,by omega⟩
   ·exact Jd
  clear U5 ej ed fq Ep hD8 q0;obtain ⟨wt,hwt⟩:=eX w9;go_wp2;go_loopw [18,76] (λz i wr=>∃(iv:Nat),i= .int .i64 iv/\iv<=n/\z= .int .i64 (bM (fs.take iv))/\Below w9.heap.size w9 wr) (λ_ i _=>n-(intOf i).toNat);case atStart=>exact ⟨0,rfl,by omega,rfl,Below.refl _ _⟩
  case round=>
   obtain ⟨iv,rfl,hiv,rfl,ag⟩:=hrel;obtain ⟨z,hz⟩:=eX (bM (fs.take iv));rw [<-hz];have Fk:=iR (fs.take iv);rw [<-hz] at Fk;unfold nD at Fk;have HZ:=aA hz;clear hz;have Ng:=ag.size;by_cases eu:iv<n
   ·obtain ⟨f,hf⟩:∃f,fs[iv]? =some f:=⟨_,List.getElem?_eq_getElem (by have:=ez.out;omega)⟩
    have en:=nZ hf;rw [<-HZ.out,zG hf] at en;have lf:=aA en;have HCB:=aA (kG A n c fs _ wr (Yn.ext ag) hn (iv:Int) HF.out);have E6:=bT ag RD9;exact Tzan
   ·obtain rfl:n=iv:=by omega
    have Gb:z=bM fs:=by rw [HZ.out,List.take_of_length_le (by rw [ez.out];exact Nat.le_refl _)]
    have HZZ:=aA Gb;have qy:=Below.ext gf ag;have E6:=bT ag RD9;have RZr:=bT ag RZ9;have UO:=bT ag RH9;clear Gb;by_cases Gc:z=9223372036854775807
    ·exact Tzcw
    ·have dz:(z==9223372036854775807)=false:=by simpa using Gc
     have an:=aA (show r2=if 4096<List.length (Br) then .error 5 else .ok (fs.set k ⟨[],wu ⟨2,z+1,base,g'.stamp⟩ (Br)⟩) by rw [HR.out];unfold gN;rw [if_neg (by rw [<-HZZ.out];exact Gc),<-HZZ.out]);have od:z+1<=9223372036854775807:=by omega
     have qh1:=fi UO.out;have fh1:wr.frozen? ⟨bh,1,none⟩=false:=frozen_of_row _ _ _ _ _ UO.out
     obtain ⟨w6,Bc⟩:=eX (wr.setCell ⟨bh,1,none⟩ (.int .i64 (z+1)));have g6:wr.grownBy w6 (some bh):=by rw [Bc];exact aL (bC _ _)
     have UQ:=aA (show w6.heap[bh]? =some (.cells #[.int .i64 2,.int .i64 (z+1),.int .i64 base,.int .i64 g'.stamp] 90 (0,0)) by rw [Bc];exact heap_setCell_same _ _ _ _ _ _ UO.out);have ZT:=gT g6 E6;have ZP:=gT g6 RZr;have Ho:=(Yn.ext ag).keep (w' :=w6) (λb hb hs=>g6.block b hb (by have:=hs.2;simp;omega));have il:Below w.heap.size w w6:=qy.grown g6 qy.size (λo e=>by cases e;omega);have hv6:=((Eb.ext ag).avoid UO.out (by intro j u hu x;rcases j with _|_|_|_|j<;>simp at hu<;>subst hu<;>simp)).keep (w' :=w6) (λb hb hs=>g6.block b hb (by intro e;exact hs (Option.some.inj e)));have s6:wr.heap.size<=w6.heap.size:=g6.size;have HWR:=aA (vM A n c fs _ w6 Ho hn k (by omega) ⟨2,z+1,base,g'.stamp⟩ (HI (z+1) ⟨by omega,by omega⟩) C m' cc (Br) _ hv6 (by omega));clear Gc g6 Ho hv6;go_upto_region 26 with fail;try rw [<-Bc]
     clear Bc qh1 fh1;go_wp2_with (first|(refine lD (t:=36) ZT ?_)|(refine lD (t:=90) UQ ?_))
     refine HWR.out.mono ?_;rintro e w7 ⟨Uj,b7⟩;have T5:=bT b7 ZP;have vj:=Below.ext il b7;by_cases j6:4096<List.length (Br)
     ·exact Tzcs
     ·exact Tzbv
theorem nT {z:Int} (h:av z):(cP z).length<=10:=by
 have:=cG [z] (by simpa using h);simpa [aI] using this
structure ZN (s:bj):Prop where
 i:Kv 10 88 s
 c:s.cells.length<=30
 c5:5<=s.cells.length
 e:s.evs.length<=10
theorem ZN.sv {s:bj} (h:ZN s):xr s:=by
 have:=h.i.n;have h1:=h.c;have h2:=h.e;exact ⟨h.i.ok (by omega),by omega,by omega,by omega,by omega⟩
structure Lin (c:Cd) (l:List Ev):Prop where
 ci:Ca c
 c5:5<=c.init.length
 n:l.length<=10
 r:∀e∈l,∀z∈e.l,av z
theorem Lin.st {c:Cd} {l:List Ev} (h:Lin c l) {k:Nat} {s:bj} (hr:qf c 0 3 (l.take k) s):ZN s/\s.evs=l.take k:=by
 have hn:=h.n;have hk:(l.take k).length<=10:=by simp;omega
 obtain ⟨h1,h2,h3⟩:=hr.in_ h.ci ⟨by decide,by decide⟩ ⟨by decide,by decide⟩ (λe he=>h.r e (List.mem_of_mem_take he)) (by omega);refine ⟨⟨⟨h1.c,h1.e,λx hx=> ?_,λx hx=> ?_,?_⟩,by have:=h.ci.len;omega,by have:=h.c5;omega,by rw [h2];exact hk⟩,h2⟩
 ·have:=h1.sn x hx;exact ⟨this.1,this.2.1,by have:=this.2.2;omega⟩
 ·have:=h1.o x hx;exact ⟨this.1,this.2.1,by have:=this.2.2;omega⟩
 ·have:=h1.n;omega
theorem IP {fs:List au} {i:Int} {h:Hd} {s:bj} (hf:bV fs i=wu h (aI s.l)) (hi:we h) (hk:h.kind=1) (hs:xr s) (hl:(aI s.l).length<=4096):bm fs 0 i (.ok s):=by
 refine .full ?_;rw [hf];have:=wR hs.ok (by have:=hs.c;omega) (by have:=hs.e;omega) (by have:=hs.sn;omega) (by have:=hs.o;omega) [];exact IB hi hl hk (by simpa using this)
theorem MC {fs:List au} {i:Int} {n:Nat} {h g:Hd} {gb:List UInt8} {s u:bj} (hf:bV fs i=wu h (dY s u)) (hi:we h) (hk:h.kind=2) (hg:bV fs h.base=wu g gb) (Jd:we g) (en:g.stamp=h.under) (hu:bm fs n h.base (.ok u)) (hs:xr s) (hx:tn s u) (hl:(dY s u).length<=4096):bm fs (n+1) i (.ok s):=by
 have h1:eO (bV fs i)= .inc h (dY s u):=by rw [hf];exact AA hi hl (by omega)
 have h2:cA (bV fs h.base)= .ok (g,8+(aI g.l).length):=by rw [hg];exact oF (body:=gb) Jd
 exact .grown h1 h2 en hu (JF hx hs.ok (by have:=hs.c;omega) (by have:=hs.e;omega) (by have:=hs.sn;omega) (by have:=hs.o;omega))
theorem QN {h:Hd} {body:List UInt8} (hi:we h):Ii ⟨[],wu h body⟩=h.stamp:=by
 have e:AP ⟨[],wu h body⟩= .ok (h,8+(aI h.l).length):=by unfold AP;exact oF (body:=body) hi
 unfold Ii;rw [e]
theorem SR:Ii fP=0:=rfl
theorem PJ {z:Int} (h0:0<=z) (h:z<=1000):we ⟨1,z+1,-1,0⟩:=by
 refine ⟨⟨by show (1:Int)<=z+1;omega,.inl ⟨rfl,rfl,rfl⟩⟩,λy hy=> ?_⟩;exact Tzfb
theorem SA {z b u:Int} (hb:0<=b/\b<=1000) (hu:1<=u) (hz:u<=z) (h:z<=1000):we ⟨2,z+1,b,u⟩:=by
 refine ⟨⟨by show (1:Int)<=z+1;omega,.inr ⟨rfl,hb.1,hu,by show u<z+1;omega⟩⟩,λy hy=> ?_⟩;exact Tzfb
theorem CY {fs:List au} {k:Nat} {h:Hd} {body:List UInt8} (hz:bM fs<=1000) (hl:body.length<=4096):gN fs k h body= .ok (fs.set k ⟨[],wu {h with stamp:=bM fs+1} body⟩):=by
 unfold gN nD;rw [if_neg (by omega),if_neg (by omega)]
theorem GE {fs:List au} {k:Nat} {s:bj} {z:Int} (hk:k<fs.length) (hs:(aI s.l).length<=4096) (hz:bM fs=z) (J3:z<=1000):gh fs s (k:Int) (-1) (.ok (fs.set k ⟨[],wu ⟨1,z+1,-1,0⟩ (aI s.l)⟩)):=by
 have h:=gh.full (s:=s) hk;rw [CY (by omega) hs,hz] at h;exact h
theorem KK {fs:List au} {k b n:Nat} {s u:bj} {g:Hd} {gb:List UInt8} {z:Int} (hk:k<fs.length) (hs:(dY s u).length<=4096) (hz:bM fs=z) (J3:z<=1000) (hb:b≠k) (hl:bm fs n (b:Int) (.ok u)) (hf:bV fs (b:Int)=wu g gb) (hg:we g) (hx:tn s u):gh fs s (k:Int) (b:Int) (.ok (fs.set k ⟨[],wu ⟨2,z+1,(b:Int),g.stamp⟩ (dY s u)⟩)):=by
 have h1:cA (bV fs (b:Int))= .ok (g,8+(aI g.l).length):=by rw [hf];exact oF (body:=gb) hg
 have h:=gh.inc (s:=s) hk (by omega) hl (by omega) hx h1;rw [CY (by omega) hs,hz] at h;exact h
theorem JU (h:Hd) (body:List UInt8):(wu h body).length=16+(aI h.l).length+body.length:=by
 unfold wu;rw [List.length_append,eI,eI];omega
def Mg (s:bj):List UInt8:=wu ⟨1,1,-1,0⟩ (aI s.l)
def T1 (s t:bj):List UInt8:=wu ⟨2,2,0,1⟩ (dY t s)
theorem BK:we ⟨1,1,-1,0⟩:=PJ (z:=0) (by omega) (by omega)
theorem NF:we ⟨2,2,0,1⟩:=SA (z:=1) (by omega) (by omega) (by omega) (by omega)
theorem BF {h:Hd} {b:List UInt8} (hh:∀z∈h.l,av z) (hb:b.length<=4096):(wu h b).length<=5000:=by
 have:=rY hh;rw [JU];omega
theorem CQ (n:Nat):bM (List.replicate n fP)=0:=by
 induction n with
 |zero=>rfl
 |succ n ih=>rw [List.replicate_succ,jM,ih,SR];rfl
theorem MI {f g:au} (h:f.s++f.p=g.s++g.p):Ii f=Ii g:=by unfold Ii AP;rw [h]
theorem SS (s:bj) {f:au} (h:f.s++f.p=Mg s):Ii f=1:=by
 rw [MI (g:=⟨[],Mg s⟩) h];exact QN BK
theorem yR (f:au) (l:List au):bV (f::l) 0=f.s++f.p:=by
 have:=mZ (fs:=f::l) (k:=0) rfl;exact this
theorem NO (f g:au) (l:List au):bV (f::g::l) 1=g.s++g.p:=by
 have:=mZ (fs:=f::g::l) (k:=1) rfl;exact this
theorem SV {s:bj} (h:(aI s.l).length<=4096) (n:Nat):gh (List.replicate (n+1) fP) s 0 (-1) (.ok (⟨[],Mg s⟩::List.replicate n fP)):=by
 have:=GE (fs:=List.replicate (n+1) fP) (k:=0) (s:=s) (z:=0) (by simp) h (CQ _) (by omega);rw [List.replicate_succ,List.set_cons_zero,show (0:Int)+1=1 from rfl] at this;exact this
theorem NN {s:bj} (h:(aI s.l).length<=4096) (hs:xr s) {f:au} (hf:f.s++f.p=Mg s) (l:List au):bm (f::l) 0 0 (.ok s):=
 IP (h:=⟨1,1,-1,0⟩) ((yR f l).trans hf) BK rfl hs h
theorem SU {s t:bj} (h:(aI s.l).length<=4096) (hs:xr s) (h2:(dY t s).length<=4096) (hx:tn t s) {f:au} (hf:f.s++f.p=Mg s) (n:Nat):gh (f::List.replicate (n+1) fP) t 1 0 (.ok (f::⟨[],T1 s t⟩::List.replicate n fP)):=by
 have en:bM (f::List.replicate (n+1) fP)=1:=by rw [jM,CQ,SS s hf];rfl
 have:=KK (fs:=f::List.replicate (n+1) fP) (k:=1) (b:=0) (n:=0) (s:=t) (u:=s) (g:=⟨1,1,-1,0⟩) (gb:=aI s.l) (z:=1) (by simp) h2 en (by omega) (by omega) (NN h hs hf _) ((yR _ _).trans hf) BK hx;rw [List.replicate_succ,List.set_cons_succ,List.set_cons_zero,show (1:Int)+1=2 from rfl] at this;exact this
theorem TA {s t:bj} (h:(aI s.l).length<=4096) (hs:xr s) (h2:(dY t s).length<=4096) (hx:tn t s) (ht:xr t) {f g:au} (hf:f.s++f.p=Mg s) (hg:g.s++g.p=T1 s t) (l:List au):bm (f::g::l) 1 1 (.ok t):=
 MC (h:=⟨2,2,0,1⟩) (g:=⟨1,1,-1,0⟩) (gb:=aI s.l) ((NO _ _ _).trans hg) NF rfl ((yR _ _).trans hf) BK rfl (NN h hs hf _) ht hx h2
theorem SZ {s t:bj} (h2:(dY t s).length<=4096) {g:au} (hg:g.s++g.p=T1 s t) (l:List au):bm (⟨[],[]⟩::g::l) 0 1 (.error 11):=by
 refine .lost (h:=⟨2,2,0,1⟩) (body:=dY t s) ?_ (λg' q hg' => ?_)
 ·rw [NO,hg];exact AA NF h2 (by decide)
 ·have h0:cA (bV (⟨[],[]⟩::g::l) 0)= .error 11:=by rw [yR];rfl
  rw [show (Hd.base ⟨2,2,0,1⟩)=0 from rfl,h0] at hg';cases hg'
theorem ER {a b:au} (ha:a.s.length+a.p.length<=5000) (hb:b.s.length+b.p.length<=5000) (n:Nat):eD (a::b::List.replicate n fP):=by
 intro f hf;simp only [List.mem_cons,List.mem_replicate] at hf;rcases hf with rfl|rfl|⟨_,rfl⟩
 ·omega
 ·omega
 ·decide
theorem RL {s:bj} (h:(aI s.l).length<=4096):(Mg s).length<=5000:=BF BK.inr h
theorem RI {s t:bj} (h:(dY t s).length<=4096):(T1 s t).length<=5000:=BF NF.inr h
noncomputable def Ea (fs:List au) (k:Int):Except Nat bj:=Classical.choose (bm.ex fs k)
theorem iZ (fs:List au) (k:Int):bm fs fs.length k (Ea fs k):=Classical.choose_spec (bm.ex fs k)
theorem RO {fs:List au} {n:Nat} {k:Int} {r:Except Nat bj} (h:bm fs n k r):Ea fs k=r:=(bm.uniq (iZ fs k) h)
noncomputable def LH (fs:List au) (i:Nat):List (Nat×Nat):=match Ea fs (i:Int) with| .ok s=> [(i,s.evs.length)]| .error _=> []
noncomputable def dR (fs:List au):Nat->List (Nat×Nat)
 |0=> []
 |n+1=>dR fs n++LH fs n
def bY (ay:Int) (b:Option (Nat×Nat)) (p:Nat×Nat):Option (Nat×Nat):=if (p.2:Int)<=ay then (match b with|none=>some p|some q=>if q.2<p.2 then some p else b) else b
def nB (ay:Int) (l:List (Nat×Nat)):Option (Nat×Nat):=l.foldl (bY ay) none
end Go.Proofs.YtiblijmngokcgaaGreatDoor
