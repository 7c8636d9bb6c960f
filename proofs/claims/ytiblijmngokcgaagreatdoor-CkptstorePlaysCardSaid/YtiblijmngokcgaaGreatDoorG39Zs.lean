import Derived.Test.YtiblijmngokcgaaGreatDoorG29Zs
set_option linter.unusedVariables false
set_option linter.unusedSimpArgs false
set_option maxHeartbeats 8000000
set_option maxRecDepth 100000
namespace Go.Proofs.YtiblijmngokcgaaGreatDoor
open Go.Proofs.Tryz
open Go.RowKit
theorem lW {α:Type} {enc:α->List Value} (l:List α) {w:World} {X:Nat} {T:TypeId} {row:Array Value} (h:w.heap[X]? =some (.cells row T (0,0))) (hr:row.toList=l.flatMap enc) (hl:l.length<=1000) {S:Nat->Prop} (hS:S X) {n:Nat} (hn:n=l.length):a7 enc S w (.slice (some ⟨X,0,none⟩) n n) l:=by
 subst hn
 exact ⟨_,l.length,rfl,Nat.le_refl _,by unfold maxLen;omega,λ_=>⟨X,0,rfl,hS,λj u hu=>by
  rw [cell_of_row _ _ _ _ _ _ h,Nat.zero_add];rw [<-hr] at hu;simpa using hu⟩⟩
def aS:bj:=⟨[1,2],[⟨2,0,0,0,0,0,0⟩],[],[]⟩
def aT:bj:=⟨[1,3],[⟨2,0,0,0,0,0,0⟩,⟨3,0,0,0,0,0,0⟩],[],[]⟩
theorem kK {l:List Int} (h:∀z∈l,0<=z/\z<=63):∀z∈l,av z:=λz hz=>⟨by have:=(h z hz).1;omega,by have:=(h z hz).2;omega⟩
theorem FO:xr aS:=⟨⟨kK (by decide),λe he=>kK (by revert e;decide),λe he=>absurd he (by simp [aS]),λe he=>absurd he (by simp [aS]),by decide⟩,by decide,by decide,by decide,by decide⟩
theorem NR:xr aT:=⟨⟨kK (by decide),λe he=>kK (by revert e;decide),λe he=>absurd he (by simp [aT]),λe he=>absurd he (by simp [aT]),by decide⟩,by decide,by decide,by decide,by decide⟩
theorem aX:tn aT aS:=⟨rfl,by decide,by decide,by decide⟩
theorem sM:(aI aS.l).length<=4096:=by
 have:=cG aS.l (kK (by decide));have h2:aS.l.length=13:=by decide
 omega
theorem sL:(dY aT aS).length<=4096:=by
 have h1:=cG (wk (dJ aS.cells aT.cells)) (kK (by decide));have h2:=cG (eW aT aS).l (kK (by decide));have h3:(wk (dJ aS.cells aT.cells)).length=5:=by decide
 have h4:(eW aT aS).l.length=11:=by decide
 unfold dY;rw [List.length_append];omega
theorem TP:eD [fP,fP]:=ER (a:=fP) (b:=fP) (by decide) (by decide) 0
theorem TO:eD [⟨[],Mg aS⟩,fP]:=ER (a:=⟨[],Mg aS⟩) (b:=fP) (by have:=RL sM;simpa using this) (by decide) 0
theorem TN:eD [⟨[],Mg aS⟩,⟨[],T1 aS aT⟩]:=ER (a:=⟨[],Mg aS⟩) (b:=⟨[],T1 aS aT⟩) (by have:=RL sM;simpa using this) (by have:=RI sL;simpa using this) 0
theorem TM:eD [⟨[],[]⟩,⟨[],T1 aS aT⟩]:=ER (a:=⟨[],[]⟩) (b:=⟨[],T1 aS aT⟩) (by decide) (by have:=RI sL;simpa using this) 0
theorem CO (w:World):Calls Tryz.prog 9 #[] w λe w' =>e= .returned (.bool true)/\Below w.heap.size w w' :=by
 have Bg:=RD 2 (by omega) w;rw [show ((2:Nat):Int)=2 from rfl,show List.replicate 2 fP=[fP,fP] from rfl] at Bg;have Fe:=aA Bg;clear Bg;go_enter func9,ntmps9;go_wp2_with fail;refine Fe.out.mono ?_;rintro e v1 ⟨A1,c1,rfl,D1,al⟩;obtain ⟨W1,px,kd,Sd,bd,ll,Rd,WE,ld,_⟩:=bE v1 #[.slice A1 2 c1] 36;have tg:=Below.ext al kd;have wd:w.heap.size<=bd:=by have:=al.size;omega
 have dD1:=(D1.mono (S' :=λb=>b≠bd) (λb hb _=>by omega)).ext kd;clear ll;go_upto_region 2 with (refine sN ?_)
 try dsimp only
 rw [<-px,<-WE.out];clear px;refine Tyal ?_;obtain ⟨W2,fv,kb2,S2,Rap,Rbp,Rcp⟩:=BJ W1 #[.int .i64 1,.int .i64 2] #[.int .i64 2,.int .i64 0,.int .i64 0,.int .i64 0,.int .i64 0,.int .i64 0,.int .i64 0] #[.slice (some ⟨W1.heap.size,0,none⟩) 2 2,.slice (some ⟨W1.heap.size+1,0,none⟩) 1 1,.slice none 0 0,.slice none 0 0] 3 78 51;obtain ⟨p,hp⟩:=eX W1.heap.size;have Hp:=aA hp;rw [<-hp] at Rap Rbp Rcp;have lp:p+2<W2.heap.size:=by have:=S2.out;omega
 go_upto_region 3 with (refine sN ?_)
 try dsimp only
 rw [<-fv,<-Hp.out,show p+1+1=p+2 from rfl];clear fv;refine Tyal ?_;have D2:=dD1.ext kb2;have Rd2:=bT kb2 Rd ld;have B2:=Below.ext tg kb2;have pd:bd<p:=by omega
 obtain ⟨W3,ig,Tv,S3,Raq,Rbq,Rcq⟩:=BJ W2 #[.int .i64 1,.int .i64 3] #[.int .i64 2,.int .i64 0,.int .i64 0,.int .i64 0,.int .i64 0,.int .i64 0,.int .i64 0,.int .i64 3,.int .i64 0,.int .i64 0,.int .i64 0,.int .i64 0,.int .i64 0,.int .i64 0] #[.slice (some ⟨W2.heap.size,0,none⟩) 2 2,.slice (some ⟨W2.heap.size+1,0,none⟩) 2 2,.slice none 0 0,.slice none 0 0] 3 78 51;obtain ⟨q,hq⟩:=eX W2.heap.size;have Hq:=aA hq;rw [<-hq] at Raq Rbq Rcq;have lq:q+2<W3.heap.size:=by have:=S3.out;omega
 go_upto_region 4 with (refine sN ?_)
 try dsimp only
 rw [<-ig,<-Hq.out,show q+1+1=q+2 from rfl];clear ig;refine Tyal ?_;have pq:p+2<q:=by omega
 have D3:=D2.ext Tv;have Rd3:=bT Tv Rd2;have Rs3:=bT Tv Rcp;have Rt3:=Rcq;have B3:=Below.ext B2 Tv;have MS:j7 (λb=>b≠bd) W3 aS (some ⟨p,0,none⟩) 2 2 (some ⟨p+1,0,none⟩) 1 1 none 0 0 none 0 0:=⟨lW [1,2] ((Tv.block p (by omega)).trans Rap.out) rfl (by decide) (by omega) rfl,lW aS.evs ((Tv.block (p+1) (by omega)).trans Rbp.out) rfl (by decide) (by omega) rfl,a7.nil_ _ _,a7.nil_ _ _⟩
 have MT:j7 (λb=>b≠bd) W3 aT (some ⟨q,0,none⟩) 2 2 (some ⟨q+1,0,none⟩) 2 2 none 0 0 none 0 0:=⟨lW [1,3] Raq.out rfl (by decide) (by omega) rfl,lW aT.evs Rbq.out rfl (by decide) (by omega) rfl,a7.nil_ _ _,a7.nil_ _ _⟩
 have HSV:=aA (pZ A1 2 c1 [fP,fP] _ W3 D3 (by omega) TP 0 aS _ _ _ _ _ _ _ _ _ _ _ _ _ MS FO (-1) _ (SV sM 1));clear D2 dD1 D1 Rap Raq Rbp Rbq Rcp hp hq S2 S3;go_wp2_with (first|(refine lD (t:=36) Rd3 ?_)|(refine aK (t:=51) (A:=⟨p+2,0,none⟩) rfl rfl rfl (lB (t:=51) Rs3.out) ?_))
 refine HSV.out.mono ?_;rintro e v4 ⟨⟨A4,c4,rfl,Dv4⟩,b4⟩;have y4:=b4.size;have MT4:=MT.ext b4;have Bv4:=Below.ext B3 b4;have Rdv4:=bT b4 Rd3;have Rtv4:=bT b4 Rt3;obtain ⟨W5,nj⟩:=eX (v4.setRow bd #[.slice A4 2 c4]);have g5:v4.grownBy W5 (some bd):=by rw [nj];exact aC _ _ _
 have T4:=aA (show W5.heap[bd]? =some (.cells #[.slice A4 2 c4] 36 (0,0)) by rw [nj];exact setRow_heap _ _ _ _ _ _ Rdv4.out);have z5:v4.heap.size<=W5.heap.size:=g5.size;have D5:=(Dv4.mono (S' :=λb=>b≠bd) (λb _ h=>by omega)).keep (w' :=W5) (λb hb hs=>g5.block b hb (by simp;omega));have B5:Below w.heap.size w W5:=Bv4.grown g5 Bv4.size (λo e=>by cases e;omega);have Rt5:=gT g5 Rtv4;go_upto_region 5 with (refine sR Rdv4 ?_)
 rw [<-nj];clear nj Dv4;have MT5:=(MT4.kept (S' :=λb=>b≠bd) (λb hb hs=>g5.block b hb (by simp;omega)) (λb h=>h))
 have HSW:=aA (pZ A4 2 c4 _ _ W5 D5 (by omega) TO 1 aT _ _ _ _ _ _ _ _ _ _ _ _ _ MT5 NR 0 _ (SU sM FO sL aX (f:=⟨[],Mg aS⟩) rfl 0));clear MT MT4;go_wp2_with (first|(refine lD (t:=36) T4 ?_)|(refine aK (t:=51) (A:=⟨q+2,0,none⟩) rfl rfl rfl (lB (t:=51) Rt5.out) ?_))
 refine HSW.out.mono ?_;rintro e v6 ⟨⟨A6,c6,rfl,Dv6⟩,b6⟩;have y6:=b6.size;have Bv6:=Below.ext B5 b6;have Rdv6:=bT b6 T4;obtain ⟨W7,oy⟩:=eX (v6.setRow bd #[.slice A6 2 c6]);have g7:v6.grownBy W7 (some bd):=by rw [oy];exact aC _ _ _
 have ZO:=aA (show W7.heap[bd]? =some (.cells #[.slice A6 2 c6] 36 (0,0)) by rw [oy];exact setRow_heap _ _ _ _ _ _ Rdv6.out);have z7:v6.heap.size<=W7.heap.size:=g7.size;have D7:=(Dv6.mono (S' :=λb=>b≠bd) (λb _ h=>by omega)).keep (w' :=W7) (λb hb hs=>g7.block b hb (by simp;omega));have B7:Below w.heap.size w W7:=Bv6.grown g7 Bv6.size (λo e=>by cases e;omega);go_upto_region 6 with (refine sR Rdv6 ?_)
 rw [<-oy];clear oy Dv6;have C8:=aA ((iT _ TN _ _ _ (TA sM FO sL aX NR (f:=⟨[],Mg aS⟩) (g:=⟨[],T1 aS aT⟩) rfl rfl []) (by omega)).2 A6 2 c6 _ W7 D7 (by omega));clear MT5 D5;go_wp2_with (refine lD (t:=36) ZO ?_)
 refine C8.out.mono ?_;rintro e v8 ⟨⟨E1,p1,q1,E2,p2,q2,E3,p3,q3,E4,p4,q4,rfl,hU⟩,b8⟩;have y8:=b8.size;obtain ⟨W9,ow,ku,Su,bu,Oq,Ru,Qz,lu,_⟩:=bE v8 #[.slice E1 p1 q1,.slice E2 p2 q2,.slice E3 p3 q3,.slice E4 p4 q4] 51;have k9:=Below.ext b8 ku;have B9:=Below.ext B7 k9;have D9:=D7.ext k9;have U9:=hU.ext ku;have UL:=bT k9 ZO;have Vl:=aA (MO A6 2 c6 _ _ W9 D9 (by omega) 0 (by omega));go_upto_region 7 with (refine sN ?_)
 try dsimp only
 rw [<-ow,<-Qz.out];clear ow Oq;refine Tyal ?_;go_wp2_with (refine lD (t:=36) UL ?_)
 refine Vl.out.mono ?_;rintro e v10 ⟨A10,T2,rfl,Dv10,nh⟩;have y10:=nh.size;obtain ⟨yr,vr,kx,Sx,bx,ff,Rx,HBx,lx,_⟩:=bE v10 #[.slice A10 2 T2] 36;have Lb:=Below.ext nh kx;have B11:=Below.ext B9 Lb;have D11:=Dv10.ext kx;have U11:=U9.ext Lb;have Ru11:=bT Lb Ru lu;have HLE:=aA ((iT _ TM _ _ _ (SZ sL (g:=⟨[],T1 aS aT⟩) rfl []) (by omega)).2 A10 2 T2 _ yr D11 (by omega));go_upto_region 8 with (refine sN ?_)
 try dsimp only
 rw [<-vr,<-HBx.out];clear vr ff;refine Tyal ?_;go_wp2_with (refine lD (t:=36) Rx ?_)
 refine HLE.out.mono ?_;rintro e v12 ⟨⟨_,rfl⟩,tj⟩;have U12:=U11.ext tj;obtain ⟨W13,hW13,kz,Sz,bz,hbz,Rz,HBz,lz,_⟩:=bE v12 #[.slice none 0 0,.slice none 0 0,.slice none 0 0,.slice none 0 0] 51;have k13:=Below.ext tj kz;have B8:=tj.size;have uk:=Lb.size;have B13:=Below.ext B11 k13;have U13:=U12.ext kz;have y13:=k13.size;have Ru13:=bT k13 Ru11;go_upto_region 9 with (refine sN ?_)
 try dsimp only
 rw [<-hW13,<-HBz.out];clear hW13 hbz;refine Tyal ?_;obtain rfl:p1=2:=U13.1.len.1.symm;obtain rfl:p2=2:=U13.2.len.1.symm;obtain ⟨cb,co,cx,rfl,_,hcb,kn,Dy⟩:=U13.1.at_ cD (j:=1) (by decide) (by omega);have e0:=bn Ru13.out;have e1:=fi Ru13.out;obtain rfl:cx=3:=by simpa [aT] using kn.symm
 have e2:W13.cell? ⟨cb,co+1,none⟩=some (.int .i64 3):=Dy 0 _ rfl
 clear kn Dy;go_wp2;go_ret;exact ⟨rfl,B13⟩
theorem JI {w x:World} {B:Nat} (h:rm 2 w) (hb:Below w.heap.size w x) (h1:w.heap.size<=B) (h2:B<=x.heap.size):rm B x:=by
 have hl:=h.le;have g:=h.ext hb;exact ⟨by omega,h2,g.s0,g.s1,g.s2,g.a0,g.a1⟩
theorem a8.setZ {w:World} {base:Nat} {e:TypeId} {g n c:Nat} {l:List Int} (h:a8 bB 1 w base e (.slice (some ⟨g,0,none⟩) n c) l) (j:Nat) (x:Int):
 a8 bB 1 (w.setCell ⟨g,j,none⟩ (.int .i64 x)) base e (.slice (some ⟨g,0,none⟩) n c) (l.set j x):=by
 have hl:=h.len.1;have hf:∀k:List Int,k.flatMap bB=k.map (λz=>Value.int .i64 z):=λk=>by
  induction k with
  |nil=>rfl
  |cons a k ih=>rw [List.flatMap_cons,ih,List.map_cons];rfl
 unfold a8 at*;rw [List.length_set,hf,List.map_set,<-hf];subst hl;exact (World.ownsRow.stored h _ _).1
theorem a8.frozenZ {w:World} {base:Nat} {e:TypeId} {g n c:Nat} {l:List Int} (h:a8 bB 1 w base e (.slice (some ⟨g,0,none⟩) n c) l) (j:Nat):w.frozen? ⟨g,j,none⟩=false:=by
 have hl:=h.len.1;unfold a8 at h;subst hl;exact World.ownsRow.frozenAt h j
theorem EL (A:Option Addr) (n c:Nat) (fs:List au) (S:Nat->Prop) (w:World) (hD:fh S w (.slice A n c) fs) (hn:n<=1000) (k:Int) (hf:eD fs):
 Calls Tryz.prog 45 #[.agg #[.slice A n c],.int .i64 k] w λe w' =>∃A' m' c' x,e= .returned (.tuple #[.slice A' m' c',.int .i64 x])/\Bytes (w.heap.size<=·) w' (.slice A' m' c') (bV fs k)/\Below w.heap.size w w' :=by
 have hl:=hD.len.1;by_cases hk:k<0∨(n:Int)<=k
 ·refine (EH A n c k hk hn w).mono ?_;rintro e w' ⟨rfl,hb⟩;have e0:=sE (fs:=fs) (k:=k) (by omega);exact ⟨none,0,0,11,rfl,by rw [e0];exact Bytes.nil_ _ _,hb⟩
 ·obtain ⟨j,rfl⟩:=Int.eq_ofNat_of_zero_le (by omega:0<=k);have hj:j<fs.length:=by omega
  have Gw:fs[j]? =some fs[j]:=List.getElem?_eq_getElem hj
  refine (uT A n c fs S w hD hn j fs[j] Gw (by have:=hf _ (List.getElem_mem hj);omega)).mono ?_;rintro e w' ⟨A',c',rfl,hO,hb⟩;exact ⟨A',_,c',0,rfl,by rw [mZ Gw];exact hO.by_.bytes,hb⟩
theorem mS (A:Option Addr) (n c:Nat) (fs:List au) (S:Nat->Prop) (w:World) (hD:fh S w (.slice A n c) fs) (hn:n<=1000) (k:Int) (hf:eD fs):
 Calls Tryz.prog 55 #[.agg #[.slice A n c],.int .i64 k] w λe w' =>∃A' m' c',e= .returned (.slice A' m' c')/\Bytes (w.heap.size<=·) w' (.slice A' m' c') (bV fs k)/\Below w.heap.size w w' :=by
 obtain ⟨W,hW,bW,kW,SW,R0⟩:=bX w w #[.slice A n c] 36 (Below.refl _ _);have sW:w.heap.size<W.heap.size:=by have:=SW.out;omega
 have HR:=aA (EL A n c fs S W (hD.ext kW) hn k hf);clear hD hf;go_enter func55,ntmps55;go_upto_region 1 with fail;rw [<-hW];clear hW;go_wp2_with (refine lD (t:=36) R0 ?_)
 refine HR.out.mono ?_;rintro e w1 ⟨A1,m1,c1,x1,rfl,Ge,b1⟩;have hy:=Ge.mono (S' :=(w.heap.size<=·)) (λb _ h=>by omega);have HY:=aA hy;clear hy Ge;go_wp2;go_ret;exact ⟨_,_,_,rfl,HY.out,Below.ext kW b1⟩
end Go.Proofs.YtiblijmngokcgaaGreatDoor
