import Derived.Test.YtiblijmngokcgaaGreatDoorG11Zs
set_option linter.unusedVariables false
set_option linter.unusedSimpArgs false
set_option maxHeartbeats 8000000
set_option maxRecDepth 100000
namespace Go.Proofs.YtiblijmngokcgaaGreatDoor
open Go.Proofs.Tryz
open Go.RowKit
def Aw:Nat->Sm->Prop
 |0,_=>False
 |n+1,.mk kind name slot size place value body j0=>(1<=kind/\kind<=6)/\(0<=slot/\slot<=1000)/\(0<=size/\size<=1000)/\Jt 3 place/\Jt 3 value/\(∀s∈body,Aw n s)/\(∀s∈j0,Aw n s)
def BM (n:Nat):Prop:=∀(w:World) (p base:Nat) (v:Env) (r:ir) (F:Nat->Prop) (A:Option Addr) (m c:Nat) (ts:List Sm),ey w p base v r F->qo v->cw bJ (ak n (·<base) w) (·<base) w (.slice A m c) ts->(∀s∈ts,Aw n s)->
 Calls Tryz.prog 198 #[.pointer (some ⟨p,0,none⟩),.slice A m c] w λe w' =>∃r' ok,e= .returned (.bool ok)/\fy v ts r r' ok/\ey w' p base v r' F/\Below base w w'/\ae F w w'
theorem qI {base:Nat} {w w' :World} (h:Below base w w'):ae (·<base) w w' :=λb _ hs=>h.block b hs
theorem ey.weak {w:World} {p base:Nat} {v:Env} {r:ir} {F G:Nat->Prop} (h:ey w p base v r F) (hG:∀b,G b->F b):ey w p base v r G:=by
 obtain ⟨a1,a2,a3,a4,a5,a6,hM,hF⟩:=h;exact ⟨_,_,_,_,_,_,hM,λq hq=>hF q (hG q hq)⟩
theorem ey.add {w W:World} {p base:Nat} {v:Env} {r:ir} {F:Nat->Prop} (h:ey w p base v r F) (hb:Below w.heap.size w W) (hs:w.heap.size<W.heap.size):ey W p base v r (λb=>b=w.heap.size∨F b):=by
 obtain ⟨a1,a2,a3,a4,a5,a6,hM,hF⟩:=h;refine ⟨_,_,_,_,_,_,hM.ext hb,λq hq=> ?_⟩;rcases hq with rfl|hq
 ·exact ⟨hs,λe=>by have:=hM.lt;omega,λe=>Nat.lt_irrefl _ (World.ownsRow.lt hM.cel _ e).2,λe=>Nat.lt_irrefl _ (World.ownsRow.lt hM.eff _ e).2⟩
 ·exact hF.size hb.size q hq
theorem ey.bw {w:World} {p base:Nat} {v:Env} {r:ir} {F:Nat->Prop} (h:ey w p base v r F):base<=w.heap.size:=by
 obtain ⟨a1,a2,a3,a4,a5,a6,hM,hF⟩:=h;exact hM.bw
theorem ae.tr {F:Nat->Prop} {a b c:World} (h:ae F a b) (k:ae F b c) (hs:a.heap.size<=b.heap.size):ae F a c:=λq hq hf=>(k q (Nat.lt_of_lt_of_le hq hs) hf).trans (h q hq hf)
theorem mH {w:World} {b o:Nat} {y:Kw} (hc:∀i u,(bJ y)[i]? =some u->w.cell? ⟨b,o+i,none⟩=some u):(loadVar 246 ⟨b,o,none⟩).run Tryz.prog w= .ok (.agg #[.int .i64 y.kind,.string y.name,.int .i64 y.slot,.int .i64 y.size,.int .i64 y.p.op,.int .i64 y.p.val,.string y.p.name,.int .i64 y.p.slot,.int .i64 y.p.size,.slice y.p.A y.p.n y.p.c,.int .i64 y.v.op,.int .i64 y.v.val,.string y.v.name,.int .i64 y.v.slot,.int .i64 y.v.size,.slice y.v.A y.v.n y.v.c,.slice y.A y.n y.c,.slice y.B y.m y.d]) w:=by
 have:=run_loadVar_mid (P:=Tryz.prog) w b o 246 (bJ y) _ (λj v hv=>hc j v hv) underlying246 rfl (by kernel_rfl);exact this
theorem IS (n:Nat) (ih:∀k,k<n->BM k):BM n:=by
 intro w p base v r F A m c ts hR hv hL Dt;have HL:=aA hL.len.1;have Jb:=hL.len.2;have Qt:=aA Dt;have wi:=aA ih;clear Dt ih;go_enter func198,ntmps198;go_wp2;go_loopg [5] (m+1) (λgk i wr=>∃(k:Nat) (r1:ir),i= .int .i64 (k:Int)/\k<=m/\m+1<=k+gk/\RowKit.Hid (∀r' ok,fy v (ts.drop k) r1 r' ok->fy v ts r r' ok)/\ey wr p base v r1 F/\Below base w wr/\ae F w wr);case atStart=>exact ⟨0,r,rfl,by omega,by omega,aA (λr' ok h=>by simpa using h),hR,Below.refl _ _,λ_ _ _=>rfl⟩
 case round=>
  obtain ⟨k,r1,rfl,hk,XG,hup,o9,hb,hkp⟩:=hrel;by_cases af:k<m
  ·obtain ⟨ba,oa,x,t,rfl,hSb,o5,ht,fw,kn⟩:=hL.at_ dE (j:=k) af (by omega);have hSb' :ba<base:=hSb;cases n with
   |zero=>exact fw.elim
   |succ n=>
    have Le:=Qt.out t (List.mem_of_getElem? ht);obtain ⟨kind,name,slot,size,place,value,body,j0⟩:=t;obtain ⟨rfl,rfl,rfl,rfl,jd,qi,ll,ki⟩:=fw;obtain ⟨Xy,J6,ef,rpl,rvl,rbd,rel_⟩:=Le;have Dx:ts.drop k= .mk x.kind x.name x.slot x.size place value body j0::ts.drop (k+1):=by
     obtain ⟨h1,h2⟩:=List.getElem?_eq_some_iff.1 ht;rw [List.drop_eq_getElem_cons h1,h2]
    have Vc:=aA (λr' ok h=>hup.out r' ok (by rw [Dx];exact h));have HC:=aA (λi u h=>(hb.cell (p:=⟨ba,oa+k*18+i,none⟩) hSb').trans (kn i u h));obtain ⟨W,hW,bW,kW,SW,R0⟩:=bX wr wr #[.int .i64 x.kind,.string x.name,.int .i64 x.slot,.int .i64 x.size,.int .i64 x.p.op,.int .i64 x.p.val,.string x.p.name,.int .i64 x.p.slot,.int .i64 x.p.size,.slice x.p.A x.p.n x.p.c,.int .i64 x.v.op,.int .i64 x.v.val,.string x.v.name,.int .i64 x.v.slot,.int .i64 x.v.size,.slice x.v.A x.v.n x.v.c,.slice x.A x.n x.c,.slice x.B x.m x.d] 246 (Below.refl _ _);obtain ⟨bx,ff⟩:=eX wr.heap.size;rw [<-ff] at R0;have tm:=aA ff;have kf:bx<W.heap.size:=by have:=SW.out;omega
    have hsw:=hb.size;have jl:=o9.bw;have Uu:ey W p base v r1 (λb=>b=bx∨F b):=by rw [tm.out];exact o9.add bW (by have:=SW.out;omega)
    have aw:Below base w W:=hb.trans (bW.mono jl);have hkW:ae F w W:=hkp.tr (ae.of_below bW) hsw;have hWs:w.heap.size<=W.heap.size:=aw.size;have cfin:∀(w' :World) (r' :ir),ey w' p base v r' (λb=>b=bx∨F b)->Below base W w'->ae (λb=>b=bx∨F b) W w'->ey w' p base v r' F/\Below base w w'/\ae F w w' :=λw' r' h1 h2 h3=>⟨h1.weak (λb hb=>Or.inr hb),aw.trans h2,hkW.tr (λq hq hf=>h3 q hq (Or.inr hf)) hWs⟩
    have n8:=aA cfin;have UN:=aA (λ(w' :World) (h3:ae (λb=>b=bx∨F b) W w')=>(h3 bx kf (Or.inl rfl)).trans R0.out);clear cfin;have q0:=bn R0.out;have KB:=aA (λw' (h:Below base w w')=>qI h);have Dl:=aA jd;have Fv:=aA qi;have HBD:=aA ll;have HEL:=aA ki;have hklt:k+1<=m:=by omega
    clear ff hup Dx kn jd qi ll ki ht o9 hL;go_upto_region 5 with (first|(refine aK (t:=246) (A:=⟨ba,oa+k*18,none⟩) rfl rfl rfl (mH HC.out) ?_)|(refine sN ?_))
    rw [<-hW,<-tm.out];clear hW;refine Tyal ?_;by_cases k4:x.kind=4
    ·have d4:(x.kind==4)=true:=by simpa using k4
     rw [k4] at Vc;clear k4;obtain ⟨g0,El⟩:=eX gk;rw [<-El] at XG;have Vj:=aA El;clear El;have Jm:=Below.refl base W;go_wp2_with fail;go_loopg [] 401 (λgk wr2=>∃(r2:ir),RowKit.Hid (∀r' ok,fy v (.mk 4 x.name x.slot x.size place value body j0::ts.drop (k+1)) r2 r' ok->fy v ts r r' ok)/\ey wr2 p base v r2 (λb=>b=bx∨F b)/\Below base W wr2/\ae (λb=>b=bx∨F b) W wr2/\401<=r2.used+gk);case atStart=>exact ⟨r1,Vc,Uu,Jm,λ_ _ _=>rfl,by omega⟩
     case round=>
      obtain ⟨r2,TW,sf,ar,uc,hgk2⟩:=hrel;have fo:=ar.size;by_cases hu:r2.used<400
      ·go_wp2_with fail;refine (DC wr p base v r2 _ sf hu).mono ?_;rintro e w3 ⟨rfl,Hk,ea,O8⟩;have hk3' :=uc.tr O8 fo;have Bm :=ar.trans ea;have R3:=aA (UN.out w3 hk3');have hvl3:=ab.keep (KB.out w3 (aw.trans Bm)) _ _ _ Fv.out;have Ql:=aA (nG w3 p base v r2.pay _ Hk x.v value _ hvl3 rvl hv);have Aj:=ea.size;have XZ:=Hk.bw;go_wp2_with (refine aK (t:=244) (A:=⟨bx,10,none⟩) rfl rfl rfl (cS (y:=x.v) R3.out rfl) ?_)
       refine Ql.out.mono ?_;rintro e w4 ⟨rfl,ia⟩;obtain ⟨z,hz⟩:=eX (uy r2.pay v value);rw [<-hz];have HZ:=aA hz;clear hz;have Sk:=Hk.ext ia;have Ha :Below base W w4:=Bm.trans (ia.mono XZ);have Gu:ae (λb=>b=bx∨F b) W w4:=hk3'.tr (ae.of_below ia) (Nat.le_trans fo Aj);have Io:=ia.size;by_cases rf:z=0
       ·have dz:(z==0)=true:=by simpa using rf
        have HU5:=aA (λr' ok h=>TW.out r' ok (.stop hu (by rw [<-HZ.out];exact rf) h));obtain ⟨f1,f2,f3⟩:=n8.out w4 _ Sk Ha Gu;clear rf;go_wp2;go_roundg (g0-1);case rel=>exact ⟨k+1,_,by go_num,by omega,by omega,HU5,f1,f2,f3⟩
        case measure=>have:=Vj.out;omega
       ·have dz:(z==0)=false:=by simpa using rf
        have R4:=aA (UN.out w4 Gu);have WV:w4.cell? ⟨bx,16,none⟩=some (.slice x.A x.n x.c):=aM R4.out 16 _ rfl
        have hlb4:=HBD.out.keep (KB.out w4 (aw.trans Ha)) (λy u h=>ak.keep (KB.out w4 (aw.trans Ha)) n y u h);have HL4:=aA (wi.out n (by omega) w4 p base v r2.pay _ x.A x.n x.c body Sk hv hlb4 rbd);have HUg:=aA (λ(q:ir) (hq:fy v body r2.pay q true) (r' :ir) (ok:Bool) (h:fy v (.mk 4 x.name x.slot x.size place value body j0::ts.drop (k+1)) q r' ok)=>TW.out r' ok (.go hu (by rw [<-HZ.out];exact rf) hq h));have HUf:=aA (λ(q:ir) (hq:fy v body r2.pay q false)=>TW.out q false (.goF hu (by rw [<-HZ.out];exact rf) hq));clear rf hlb4;go_wp2_with fail;refine HL4.out.mono ?_;rintro e w5 ⟨r5,ok,rfl,im,hR5,gu,VO⟩;have Dr:=im.keeps.used;have hus2:r2.pay.used=r2.used+1:=rfl;have hus3:r2.used+1<=r5.used:=by omega
        cases ok with
        |true=>
         have HU5:=aA (HUg.out r5 im);clear Dr hus2;go_wp2;go_roundg (gk-1);case rel=>exact ⟨r5,HU5,hR5,Ha.trans gu,Gu.tr VO (by omega),by omega⟩
         case measure=>omega
        |false=>
         have HU5:=aA (HUf.out r5 im);obtain ⟨f1,f2,f3⟩:=n8.out w5 _ hR5 (Ha.trans gu) (Gu.tr VO (by omega));go_wp2;go_ret;exact ⟨r5,false,rfl,HU5.out,f1,f2,f3⟩
      ·have im:=aA (TW.out r2 false (.out (by omega)));obtain ⟨f1,f2,f3⟩:=n8.out wr _ sf ar uc;go_wp2_with fail;refine (HD wr p base v r2 _ sf (by omega)).mono ?_;rintro e w3 ⟨rfl,rfl⟩;go_wp2;go_ret;exact ⟨r2,false,rfl,im.out,f1,f2,f3⟩
    ·have d4:(x.kind==4)=false:=by simpa using k4
     by_cases hu:r1.used<400
     ·go_upto_region 11 with fail;go_wp2_with fail;refine (DC W p base v r1 _ Uu hu).mono ?_;rintro e w2 ⟨rfl,sf,ar,uc⟩;have R2:=aA (UN.out w2 uc);have q2:=bn R2.out;have Ee:=ab.keep (KB.out w2 (aw.trans ar)) _ _ _ Dl.out;have hvl2:=ab.keep (KB.out w2 (aw.trans ar)) _ _ _ Fv.out;have Ds:=ar.size;clear q0;by_cases k3:x.kind=3
      ·have d3:(x.kind != 3)=false:=by simpa using k3
       rw [k3] at Vc;clear k3 k4;have Lm:=HBD.out.keep (KB.out w2 (aw.trans ar)) (λy u h=>ak.keep (KB.out w2 (aw.trans ar)) n y u h);have hle:=HEL.out.keep (KB.out w2 (aw.trans ar)) (λy u h=>ak.keep (KB.out w2 (aw.trans ar)) n y u h);have HLB:=aA Lm;have HLE:=aA hle;clear Lm hle;have WV:w2.cell? ⟨bx,16,none⟩=some (.slice x.A x.n x.c):=aM R2.out 16 _ rfl
       have Zg:w2.cell? ⟨bx,17,none⟩=some (.slice x.B x.m x.d):=aM R2.out 17 _ rfl
       have Ql:=aA (nG w2 p base v r1.pay _ sf x.v value _ hvl2 rvl hv);have Oo:=sf.bw;go_upto_region 16 with fail;go_wp2_with (refine aK (t:=244) (A:=⟨bx,10,none⟩) rfl rfl rfl (cS (y:=x.v) R2.out rfl) ?_)
       refine Ql.out.mono ?_;rintro e w3 ⟨rfl,ea⟩;obtain ⟨z,hz⟩:=eX (uy r1.pay v value);rw [<-hz];have HZ:=aA hz;clear hz;have Hk:=sf.ext ea;have Bm :Below base w2 w3:=ea.mono Oo;have O8:ae (λb=>b=bx∨F b) W w3:=uc.tr (ae.of_below ea) Ds;have R3:=aA (UN.out w3 O8);have q16' :w3.cell? ⟨bx,16,none⟩=some (.slice x.A x.n x.c):=aM R3.out 16 _ rfl
       have Aj:=ea.size;by_cases rf:z=0
       ·have dz:(z != 0)=false:=by simpa using rf
        have HL3:=aA (wi.out n (by omega) w3 p base v r1.pay _ x.B x.m x.d j0 Hk hv (HLE.out.keep (qI Bm) (λy u h=>ak.keep (qI Bm) n y u h)) rel_);have HUPc:=aA (λ(q:ir) (hq:fy v j0 r1.pay q true) (r' :ir) (ok:Bool) (h:fy v (ts.drop (k+1)) q r' ok)=>Vc.out r' ok (.cond hu (by rw [<-HZ.out,if_neg (by simp [rf])];exact hq) h));have HUPf:=aA (λ(q:ir) (hq:fy v j0 r1.pay q false)=>Vc.out q false (.condF hu (by rw [<-HZ.out,if_neg (by simp [rf])];exact hq)));exact Tzbm
       ·have dz:(z != 0)=true:=by simpa using rf
        have HL3:=aA (wi.out n (by omega) w3 p base v r1.pay _ x.A x.n x.c body Hk hv (HLB.out.keep (qI Bm) (λy u h=>ak.keep (qI Bm) n y u h)) rbd);have HUPc:=aA (λ(q:ir) (hq:fy v body r1.pay q true) (r' :ir) (ok:Bool) (h:fy v (ts.drop (k+1)) q r' ok)=>Vc.out r' ok (.cond hu (by rw [<-HZ.out,if_pos rf];exact hq) h));have HUPf:=aA (λ(q:ir) (hq:fy v body r1.pay q false)=>Vc.out q false (.condF hu (by rw [<-HZ.out,if_pos rf];exact hq)));exact Tzbm
      ·have d3:(x.kind != 3)=true:=by simpa using k3
       have hsim:=DY w2 p base v r1.pay _ sf hv x place value body j0 (by omega) J6 ef _ Ee hvl2 rpl rvl;have Hsim:=aA hsim;have HUP2:=aA (λr' ok h=>Vc.out r' ok (.sim k4 k3 hu h));clear hsim k3 k4;go_upto_region 14 with fail;go_wp2_with (refine lD (t:=246) R2 ?_)
       refine Hsim.out.mono ?_;rintro e w3 ⟨rfl,Hk,ea,O8⟩;obtain ⟨f1,f2,f3⟩:=n8.out w3 _ Hk (ar.trans ea) (uc.tr O8 Ds);go_wp2;go_roundg (gk-1);case rel=>exact ⟨k+1,_,by go_num,by omega,by omega,HUP2,f1,f2,f3⟩
       case measure=>omega
     ·have im:=aA (Vc.out r1 false (.out (by omega)));obtain ⟨f1,f2,f3⟩:=n8.out W _ Uu (Below.refl _ _) (λ_ _ _=>rfl);go_upto_region 11 with fail;go_wp2_with fail;refine (HD W p base v r1 _ Uu (by omega)).mono ?_;rintro e w2 ⟨rfl,rfl⟩;go_wp2;go_ret;exact ⟨r1,false,rfl,im.out,f1,f2,f3⟩
  ·obtain rfl:k=m:=by omega
   have Dx:ts.drop k=[]:=List.drop_eq_nil_of_le (by have:=HL.out;omega);have im:=aA (hup.out r1 true (by rw [Dx];exact fy.nil r1));clear Dx;go_wp2;go_ret;exact ⟨r1,true,rfl,im.out,o9,hb,hkp⟩
theorem MD (n:Nat):BM n:=by
 induction n using Nat.strongRecOn with
 |_ n ih=>exact IS n ih
end Go.Proofs.YtiblijmngokcgaaGreatDoor
