import Derived.Test.YtiblijmngokcgaaGreatDoorG15Zs
set_option linter.unusedVariables false
set_option linter.unusedSimpArgs false
set_option maxHeartbeats 16000000
set_option maxRecDepth 100000
namespace Go.Proofs.YtiblijmngokcgaaGreatDoor
open Go.Proofs.Tryz
open Go.RowKit
def BO (n:Nat):Prop:=∀(A:Option Addr) (m c:Nat) (ts:List Sm) (w:World),te n w (.slice A m c) ts->(∀s∈ts,uj n s)->
 Calls Tryz.prog 186 #[.slice A m c] w λe w' =>e= .returned (.bool true)/\Below w.heap.size w w'
theorem JK (n:Nat) (ih:∀k,k<n->BO k):BO n:=by
 intro A m c ts w hL Dt;have HL:=aA hL.len.1;have Jb:=hL.len.2;have Qt:=aA Dt;have wi:=aA ih;clear Dt ih;go_enter func186,ntmps186;go_wp2;go_loopw [3] (λb wr=>∃(k:Nat),b= .int .i64 k/\k<=m/\Below w.heap.size w wr) (λb _=>m-(intOf b).toNat);case atStart=>exact ⟨0,rfl,by omega,Below.refl _ _⟩
 case round=>
  obtain ⟨k,rfl,hk,hb⟩:=hrel;by_cases af:k<m
  ·obtain ⟨ba,oa,x,t,rfl,hSb,o5,ht,fw,kn⟩:=hL.at_ dE (j:=k) af (by omega);cases n with
   |zero=>exact fw.elim
   |succ n=>
    have Le:=Qt.out t (List.mem_of_getElem? ht);obtain ⟨kind,name,slot,size,place,value,body,j0⟩:=t;obtain ⟨rfl,rfl,rfl,rfl,jd,qi,ll,ki⟩:=fw;obtain ⟨J6,ef,Kb,Kd,Kc,ncl⟩:=Le;obtain ⟨xk,xm,xs,xz,⟨po,pv,pm,ps,pz,pA,pn,pc⟩,vx,xA,xn,xc,xB,sj,xd⟩:=x;dsimp only at*;subst J6 ef;have HC:=aA (λi u h2=>((Below.refl _ _).trans hb |>.cell (p:=⟨ba,oa+k*18+i,none⟩) o5).trans (kn i u h2));rcases ncl with ⟨rfl,nn,rfl,rfl,rfl⟩|⟨rfl,nn,Nj,rfl,rfl⟩|⟨rfl,rfl,Nj,rfl,rfl⟩|⟨rfl,rfl,rfl,rfl,rfl⟩|⟨rfl,rfl,rfl,_,_⟩|⟨rfl,rfl,rfl,rfl,_⟩
    ·obtain ⟨cc,Dy,rfl⟩:=pB (.inl nn);clear nn;obtain ⟨rfl,rfl,rfl,rfl,rfl,Gn⟩:=jd;dsimp only at*;obtain rfl:pn=0:=by have:=Gn.len.1;simpa using this.symm
     obtain rfl:xn=0:=by have:=ll.len.1;simpa using this.symm
     obtain rfl:sj=0:=by have:=ki.len.1;simpa using this.symm
     obtain ⟨W,hW,bW,kW,SW,R0⟩:=bX wr wr #[.int .i64 1,.string (ByteArray.mk #[cc]),.int .i64 0,.int .i64 0,.int .i64 0,.int .i64 0,.string (ByteArray.mk #[]),.int .i64 0,.int .i64 0,.slice pA 0 pc,.int .i64 vx.op,.int .i64 vx.val,.string vx.name,.int .i64 vx.slot,.int .i64 vx.size,.slice vx.A vx.n vx.c,.slice xA 0 xc,.slice xB 0 xd] 246 (Below.refl _ _);obtain ⟨bx,ff⟩:=eX wr.heap.size;rw [<-ff] at R0;have tm:=aA ff;have kf:bx<W.heap.size:=by have:=SW.out;omega
     have yW:=Below.ext hb kW;have Fv:=aA (λ(w' :World) (h:Below W.heap.size W w')=>iV 3 vx value _ w' (ab.keep (ae.of_below (Below.ext yW h)) _ _ _ qi) Kb);have HB:=aA (λ(w' :World) (h:Below W.heap.size W w')=>wi.out n (by omega) xA 0 xc _ w' (te.ext ll (Below.ext yW h)) Kd);have HE:=aA (λ(w' :World) (h:Below W.heap.size W w')=>wi.out n (by omega) xB 0 xd _ w' (te.ext ki (Below.ext yW h)) Kc);clear ff qi ll ki kn ht hL Gn;go_upto_region 5 with (first|(refine aK (t:=246) (A:=⟨ba,oa+k*18,none⟩) rfl rfl rfl (mH HC.out) ?_)|(refine sN ?_))
     try dsimp only
     rw [<-hW,<-tm.out];clear hW;refine Tyal ?_;go_wp2_with fail;refine Tya6 ?_;refine Tyan ?_;obtain ⟨w1,iy⟩:=eX W.drew;rw [<-iy];have y1:Below W.heap.size W w1:=by rw [iy];exact (Below.refl _ W).drew
     clear iy;have tk:=bT y1 R0 kf;have Px:=bn tk.out;have Pw:=fi tk.out;have Pv:=gn tk.out;have Pu:=lj tk.out;go_wp2_with fail;refine (mN cc Dy w1).mono ?_;rintro e w2 ⟨rfl,rfl⟩;exact Tzbw
    ·obtain ⟨cc,Dy,rfl⟩:=pB (.inr nn);clear nn;obtain rfl:xn=0:=by have:=ll.len.1;simpa using this.symm
     obtain rfl:sj=0:=by have:=ki.len.1;simpa using this.symm
     obtain ⟨W,hW,bW,kW,SW,R0⟩:=bX wr wr #[.int .i64 2,.string (ByteArray.mk #[cc]),.int .i64 0,.int .i64 0,.int .i64 po,.int .i64 pv,.string pm,.int .i64 ps,.int .i64 pz,.slice pA pn pc,.int .i64 vx.op,.int .i64 vx.val,.string vx.name,.int .i64 vx.slot,.int .i64 vx.size,.slice vx.A vx.n vx.c,.slice xA 0 xc,.slice xB 0 xd] 246 (Below.refl _ _);obtain ⟨bx,ff⟩:=eX wr.heap.size;rw [<-ff] at R0;have tm:=aA ff;have kf:bx<W.heap.size:=by have:=SW.out;omega
     have yW:=Below.ext hb kW;have Fv:=aA (λ(w' :World) (h:Below W.heap.size W w')=>iV 3 vx value _ w' (ab.keep (ae.of_below (Below.ext yW h)) _ _ _ qi) Kb);have HB:=aA (λ(w' :World) (h:Below W.heap.size W w')=>wi.out n (by omega) xA 0 xc _ w' (te.ext ll (Below.ext yW h)) Kd);have HE:=aA (λ(w' :World) (h:Below W.heap.size W w')=>wi.out n (by omega) xB 0 xd _ w' (te.ext ki (Below.ext yW h)) Kc);have HP:=aA (λ(w' :World) (h:Below W.heap.size W w')=>iV 3 ⟨po,pv,pm,ps,pz,pA,pn,pc⟩ place _ w' (ab.keep (ae.of_below (Below.ext yW h)) _ _ _ jd) Nj);clear ff qi ll ki kn ht hL jd;go_upto_region 5 with (first|(refine aK (t:=246) (A:=⟨ba,oa+k*18,none⟩) rfl rfl rfl (mH HC.out) ?_)|(refine sN ?_))
     try dsimp only
     rw [<-hW,<-tm.out];clear hW;refine Tyal ?_;go_wp2_with fail;refine Tya6 ?_;refine Tyan ?_;obtain ⟨w1,iy⟩:=eX W.drew;rw [<-iy];have y1:Below W.heap.size W w1:=by rw [iy];exact (Below.refl _ W).drew
     clear iy;have tk:=bT y1 R0 kf;have Px:=bn tk.out;have Pw:=fi tk.out;have Pv:=gn tk.out;have Pu:=lj tk.out;go_wp2_with fail;refine (mN cc Dy w1).mono ?_;rintro e w2 ⟨rfl,rfl⟩;exact Tzbx
    ·obtain rfl:xn=0:=by have:=ll.len.1;simpa using this.symm
     obtain rfl:sj=0:=by have:=ki.len.1;simpa using this.symm
     obtain ⟨W,hW,bW,kW,SW,R0⟩:=bX wr wr #[.int .i64 5,.string (ByteArray.mk #[]),.int .i64 0,.int .i64 0,.int .i64 po,.int .i64 pv,.string pm,.int .i64 ps,.int .i64 pz,.slice pA pn pc,.int .i64 vx.op,.int .i64 vx.val,.string vx.name,.int .i64 vx.slot,.int .i64 vx.size,.slice vx.A vx.n vx.c,.slice xA 0 xc,.slice xB 0 xd] 246 (Below.refl _ _);obtain ⟨bx,ff⟩:=eX wr.heap.size;rw [<-ff] at R0;have tm:=aA ff;have kf:bx<W.heap.size:=by have:=SW.out;omega
     have yW:=Below.ext hb kW;have Fv:=aA (λ(w' :World) (h:Below W.heap.size W w')=>iV 3 vx value _ w' (ab.keep (ae.of_below (Below.ext yW h)) _ _ _ qi) Kb);have HB:=aA (λ(w' :World) (h:Below W.heap.size W w')=>wi.out n (by omega) xA 0 xc _ w' (te.ext ll (Below.ext yW h)) Kd);have HE:=aA (λ(w' :World) (h:Below W.heap.size W w')=>wi.out n (by omega) xB 0 xd _ w' (te.ext ki (Below.ext yW h)) Kc);have HP:=aA (λ(w' :World) (h:Below W.heap.size W w')=>iV 3 ⟨po,pv,pm,ps,pz,pA,pn,pc⟩ place _ w' (ab.keep (ae.of_below (Below.ext yW h)) _ _ _ jd) Nj);clear ff qi ll ki kn ht hL jd;go_upto_region 5 with (first|(refine aK (t:=246) (A:=⟨ba,oa+k*18,none⟩) rfl rfl rfl (mH HC.out) ?_)|(refine sN ?_))
     try dsimp only
     rw [<-hW,<-tm.out];clear hW;refine Tyal ?_;go_wp2_with fail;refine Tyag ?_;refine Tyaa ?_;refine Tyaa ?_;refine Tyaa ?_;refine Tyan ?_;obtain ⟨w1,iy⟩:=eX W.drew;rw [<-iy];have y1:Below W.heap.size W w1:=by rw [iy];exact (Below.refl _ W).drew
     clear iy;have tk:=bT y1 R0 kf;have Px:=bn tk.out;have Pw:=fi tk.out;have Pv:=gn tk.out;have Pu:=lj tk.out;obtain ⟨w2,Kg⟩:=eX w1;subst Kg;exact Tzbx
    ·obtain ⟨rfl,rfl,rfl,rfl,rfl,Gn⟩:=jd;dsimp only at*;obtain rfl:pn=0:=by have:=Gn.len.1;simpa using this.symm
     obtain rfl:xn=0:=by have:=ll.len.1;simpa using this.symm
     obtain rfl:sj=0:=by have:=ki.len.1;simpa using this.symm
     obtain ⟨W,hW,bW,kW,SW,R0⟩:=bX wr wr #[.int .i64 6,.string (ByteArray.mk #[]),.int .i64 0,.int .i64 0,.int .i64 0,.int .i64 0,.string (ByteArray.mk #[]),.int .i64 0,.int .i64 0,.slice pA 0 pc,.int .i64 vx.op,.int .i64 vx.val,.string vx.name,.int .i64 vx.slot,.int .i64 vx.size,.slice vx.A vx.n vx.c,.slice xA 0 xc,.slice xB 0 xd] 246 (Below.refl _ _);obtain ⟨bx,ff⟩:=eX wr.heap.size;rw [<-ff] at R0;have tm:=aA ff;have kf:bx<W.heap.size:=by have:=SW.out;omega
     have yW:=Below.ext hb kW;have Fv:=aA (λ(w' :World) (h:Below W.heap.size W w')=>iV 3 vx value _ w' (ab.keep (ae.of_below (Below.ext yW h)) _ _ _ qi) Kb);have HB:=aA (λ(w' :World) (h:Below W.heap.size W w')=>wi.out n (by omega) xA 0 xc _ w' (te.ext ll (Below.ext yW h)) Kd);have HE:=aA (λ(w' :World) (h:Below W.heap.size W w')=>wi.out n (by omega) xB 0 xd _ w' (te.ext ki (Below.ext yW h)) Kc);clear ff qi ll ki kn ht hL Gn;go_upto_region 5 with (first|(refine aK (t:=246) (A:=⟨ba,oa+k*18,none⟩) rfl rfl rfl (mH HC.out) ?_)|(refine sN ?_))
     try dsimp only
     rw [<-hW,<-tm.out];clear hW;refine Tyal ?_;go_wp2_with fail;refine Tyag ?_;refine Tyaa ?_;refine Tyaa ?_;refine Tyaa ?_;refine Tyan ?_;obtain ⟨w1,iy⟩:=eX W.drew;rw [<-iy];have y1:Below W.heap.size W w1:=by rw [iy];exact (Below.refl _ W).drew
     clear iy;have tk:=bT y1 R0 kf;have Px:=bn tk.out;have Pw:=fi tk.out;have Pv:=gn tk.out;have Pu:=lj tk.out;obtain ⟨w2,Kg⟩:=eX w1;subst Kg;exact Tzbw
    ·obtain ⟨rfl,rfl,rfl,rfl,rfl,Gn⟩:=jd;dsimp only at*;obtain rfl:pn=0:=by have:=Gn.len.1;simpa using this.symm
     obtain ⟨W,hW,bW,kW,SW,R0⟩:=bX wr wr #[.int .i64 3,.string (ByteArray.mk #[]),.int .i64 0,.int .i64 0,.int .i64 0,.int .i64 0,.string (ByteArray.mk #[]),.int .i64 0,.int .i64 0,.slice pA 0 pc,.int .i64 vx.op,.int .i64 vx.val,.string vx.name,.int .i64 vx.slot,.int .i64 vx.size,.slice vx.A vx.n vx.c,.slice xA xn xc,.slice xB sj xd] 246 (Below.refl _ _);obtain ⟨bx,ff⟩:=eX wr.heap.size;rw [<-ff] at R0;have tm:=aA ff;have kf:bx<W.heap.size:=by have:=SW.out;omega
     have yW:=Below.ext hb kW;have Fv:=aA (λ(w' :World) (h:Below W.heap.size W w')=>iV 3 vx value _ w' (ab.keep (ae.of_below (Below.ext yW h)) _ _ _ qi) Kb);have HB:=aA (λ(w' :World) (h:Below W.heap.size W w')=>wi.out n (by omega) xA xn xc _ w' (te.ext ll (Below.ext yW h)) Kd);have HE:=aA (λ(w' :World) (h:Below W.heap.size W w')=>wi.out n (by omega) xB sj xd _ w' (te.ext ki (Below.ext yW h)) Kc);clear ff qi ll ki kn ht hL Gn;go_upto_region 5 with (first|(refine aK (t:=246) (A:=⟨ba,oa+k*18,none⟩) rfl rfl rfl (mH HC.out) ?_)|(refine sN ?_))
     try dsimp only
     rw [<-hW,<-tm.out];clear hW;refine Tyal ?_;go_wp2_with fail;refine Tya6 ?_;refine Tyan ?_;obtain ⟨w1,iy⟩:=eX W.drew;rw [<-iy];have y1:Below W.heap.size W w1:=by rw [iy];exact (Below.refl _ W).drew
     clear iy;have tk:=bT y1 R0 kf;have Px:=bn tk.out;have Pw:=fi tk.out;have Pv:=gn tk.out;have Pu:=lj tk.out;obtain ⟨w2,Kg⟩:=eX w1;subst Kg;go_wp2_with (refine aK (t:=244) (A:=⟨bx,10,none⟩) rfl rfl rfl (cS (y:=vx) tk.out rfl) ?_)
     refine (Fv.out _ y1).mono ?_;rintro e w3 ⟨rfl,b3⟩;have y3:=Below.ext y1 b3;have F6:=bT y3 R0 kf;have Yx:=bn F6.out;have Pt:w3.cell? ⟨bx,16,none⟩=some (.slice xA xn xc):=aM F6.out 16 _ rfl
     have Ps:w3.cell? ⟨bx,17,none⟩=some (.slice xB sj xd):=aM F6.out 17 _ rfl
     go_wp2_with (refine aK (t:=244) (A:=⟨bx,4,none⟩) rfl rfl rfl (cS (y:=⟨0,0,ByteArray.mk #[],0,0,pA,0,pc⟩) F6.out rfl) ?_)
     refine (pU pA pc w3).mono ?_;rintro e w4 ⟨rfl,b4⟩;have y4:=Below.ext y3 b4;have Qc:=bT y4 R0 kf;have cw40:=bn Qc.out;have Wp:w4.cell? ⟨bx,16,none⟩=some (.slice xA xn xc):=aM Qc.out 16 _ rfl
     have Wo:w4.cell? ⟨bx,17,none⟩=some (.slice xB sj xd):=aM Qc.out 17 _ rfl
     go_wp2_with fail;refine (HB.out _ y4).mono ?_;rintro e w5 ⟨rfl,b5⟩;have y5:=Below.ext y4 b5;have Rw5:=bT y5 R0 kf;have Wn:w5.cell? ⟨bx,17,none⟩=some (.slice xB sj xd):=aM Rw5.out 17 _ rfl
     exact Tzdp
    ·obtain ⟨rfl,rfl,rfl,rfl,rfl,Gn⟩:=jd;dsimp only at*;obtain rfl:pn=0:=by have:=Gn.len.1;simpa using this.symm
     obtain rfl:sj=0:=by have:=ki.len.1;simpa using this.symm
     obtain ⟨W,hW,bW,kW,SW,R0⟩:=bX wr wr #[.int .i64 4,.string (ByteArray.mk #[]),.int .i64 0,.int .i64 0,.int .i64 0,.int .i64 0,.string (ByteArray.mk #[]),.int .i64 0,.int .i64 0,.slice pA 0 pc,.int .i64 vx.op,.int .i64 vx.val,.string vx.name,.int .i64 vx.slot,.int .i64 vx.size,.slice vx.A vx.n vx.c,.slice xA xn xc,.slice xB 0 xd] 246 (Below.refl _ _);obtain ⟨bx,ff⟩:=eX wr.heap.size;rw [<-ff] at R0;have tm:=aA ff;have kf:bx<W.heap.size:=by have:=SW.out;omega
     have yW:=Below.ext hb kW;have Fv:=aA (λ(w' :World) (h:Below W.heap.size W w')=>iV 3 vx value _ w' (ab.keep (ae.of_below (Below.ext yW h)) _ _ _ qi) Kb);have HB:=aA (λ(w' :World) (h:Below W.heap.size W w')=>wi.out n (by omega) xA xn xc _ w' (te.ext ll (Below.ext yW h)) Kd);have HE:=aA (λ(w' :World) (h:Below W.heap.size W w')=>wi.out n (by omega) xB 0 xd _ w' (te.ext ki (Below.ext yW h)) Kc);clear ff qi ll ki kn ht hL Gn;go_upto_region 5 with (first|(refine aK (t:=246) (A:=⟨ba,oa+k*18,none⟩) rfl rfl rfl (mH HC.out) ?_)|(refine sN ?_))
     try dsimp only
     rw [<-hW,<-tm.out];clear hW;refine Tyal ?_;go_wp2_with fail;refine Tyag ?_;refine Tyaa ?_;refine Tyaa ?_;refine Tyaa ?_;refine Tyan ?_;obtain ⟨w1,iy⟩:=eX W.drew;rw [<-iy];have y1:Below W.heap.size W w1:=by rw [iy];exact (Below.refl _ W).drew
     clear iy;have tk:=bT y1 R0 kf;have Px:=bn tk.out;have Pw:=fi tk.out;have Pv:=gn tk.out;have Pu:=lj tk.out;obtain ⟨w2,Kg⟩:=eX w1;subst Kg;go_wp2_with (refine aK (t:=244) (A:=⟨bx,10,none⟩) rfl rfl rfl (cS (y:=vx) tk.out rfl) ?_)
     refine (Fv.out _ y1).mono ?_;rintro e w3 ⟨rfl,b3⟩;have y3:=Below.ext y1 b3;have F6:=bT y3 R0 kf;have Yx:=bn F6.out;have Pt:w3.cell? ⟨bx,16,none⟩=some (.slice xA xn xc):=aM F6.out 16 _ rfl
     have Ps:w3.cell? ⟨bx,17,none⟩=some (.slice xB 0 xd):=aM F6.out 17 _ rfl
     go_wp2_with (refine aK (t:=244) (A:=⟨bx,4,none⟩) rfl rfl rfl (cS (y:=⟨0,0,ByteArray.mk #[],0,0,pA,0,pc⟩) F6.out rfl) ?_)
     refine (pU pA pc w3).mono ?_;rintro e w4 ⟨rfl,b4⟩;have y4:=Below.ext y3 b4;have Qc:=bT y4 R0 kf;have cw40:=bn Qc.out;have Wp:w4.cell? ⟨bx,16,none⟩=some (.slice xA xn xc):=aM Qc.out 16 _ rfl
     have Wo:w4.cell? ⟨bx,17,none⟩=some (.slice xB 0 xd):=aM Qc.out 17 _ rfl
     go_wp2_with fail;refine (HB.out _ y4).mono ?_;rintro e w5 ⟨rfl,b5⟩;have y5:=Below.ext y4 b5;have Rw5:=bT y5 R0 kf;have Wn:w5.cell? ⟨bx,17,none⟩=some (.slice xB 0 xd):=aM Rw5.out 17 _ rfl
     exact Tzdp
  ·obtain rfl:k=m:=by omega
   go_wp2;go_ret;exact ⟨rfl,hb⟩
theorem qL:∀(n:Nat),BO n:=λn=>Nat.strongRecOn n λn ih=>JK n ih
end Go.Proofs.YtiblijmngokcgaaGreatDoor
