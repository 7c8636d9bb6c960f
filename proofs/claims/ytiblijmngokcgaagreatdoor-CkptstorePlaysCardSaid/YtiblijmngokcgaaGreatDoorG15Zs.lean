import Derived.Test.YtiblijmngokcgaaGreatDoorG13Zs
import Derived.Test.YtiblijmngokcgaaGreatDoorRunLZs
set_option linter.unusedVariables false
set_option linter.unusedSimpArgs false
set_option maxHeartbeats 8000000
set_option maxRecDepth 100000
namespace Go.Proofs.YtiblijmngokcgaaGreatDoor
open Go.Proofs.Tryz
open Go.RowKit
theorem PQ {x:Kw} {i:Nat} {u:Value} (h:(fE x.p)[i]? =some u):(bJ x)[4+i]? =some u:=by
 exact Tzew
theorem PP {x:Kw} {i:Nat} {u:Value} (h:(fE x.v)[i]? =some u):(bJ x)[10+i]? =some u:=by
 exact Tzew
theorem vI {w:World} {b o:Nat} {x:Kw} (hc:∀i u,(bJ x)[i]? =some u->w.cell? ⟨b,o+i,none⟩=some u):(loadVar 244 ⟨b,o+4,none⟩).run Tryz.prog w= .ok (.agg #[.int .i64 x.p.op,.int .i64 x.p.val,.string x.p.name,.int .i64 x.p.slot,.int .i64 x.p.size,.slice x.p.A x.p.n x.p.c]) w:=
 iY (y:=x.p) (λi u h=>by rw [Nat.add_assoc];exact hc _ u (PQ h))
theorem vH {w:World} {b o:Nat} {x:Kw} (hc:∀i u,(bJ x)[i]? =some u->w.cell? ⟨b,o+i,none⟩=some u):(loadVar 244 ⟨b,o+10,none⟩).run Tryz.prog w= .ok (.agg #[.int .i64 x.v.op,.int .i64 x.v.val,.string x.v.name,.int .i64 x.v.slot,.int .i64 x.v.size,.slice x.v.A x.v.n x.v.c]) w:=
 iY (y:=x.v) (λi u h=>by rw [Nat.add_assoc];exact hc _ u (PP h))
def Fb:Nat->Sm->Prop
 |0,_=>False
 |n+1,.mk kind name slot size place value body j0=>(1<=kind/\kind<=6)/\slot=0/\size=0/\I8 3 place/\I8 3 value/\((kind=1/\kJ name)∨(kind=2/\mI name)∨(3<=kind/\name=ByteArray.mk #[]))/\(∀s∈body,Fb n s)/\(∀s∈j0,Fb n s)
theorem Fb.of:∀{n:Nat} {t:Sm},uj n t->Fb n t
 |0,_,h=>h.elim
 |n+1,.mk kind name slot size place value body j0,⟨h1,h2,h3,h4,h5,h6⟩=>by
  have hb:∀s∈body,Fb n s:=λs hs=>Fb.of (h4 s hs)
  have he:∀s∈j0,Fb n s:=λs hs=>Fb.of (h5 s hs)
  have hv:=I8.of h3;have hz:I8 3 E8:=I8.zero 2;rcases h6 with ⟨a,b,c,_,_⟩|⟨a,b,c,_,_⟩|⟨a,b,c,_,_⟩|⟨a,b,c,_,_⟩|⟨a,b,c,_,_⟩|⟨a,b,c,_,_⟩
  ·exact ⟨⟨by omega,by omega⟩,h1,h2,by rw [c];exact hz,hv,.inl ⟨a,b⟩,hb,he⟩
  ·exact ⟨⟨by omega,by omega⟩,h1,h2,I8.of c,hv,.inr (.inl ⟨a,b⟩),hb,he⟩
  ·exact ⟨⟨by omega,by omega⟩,h1,h2,I8.of c,hv,.inr (.inr ⟨by omega,b⟩),hb,he⟩
  ·exact Tzec
  ·exact Tzec
  ·exact Tzec
theorem nU (w:World):(isAgg 27).run Tryz.prog w= .ok false w:=by simp [isAgg,run_underlying underlying27]
def te (n:Nat) (w:World) (v:Value) (ts:List Sm):Prop:=cw bJ (ak n (·<w.heap.size) w) (·<w.heap.size) w v ts
theorem te.ext {n:Nat} {w w' :World} {v:Value} {ts:List Sm} (h:te n w v ts) (hb:Below w.heap.size w w'):te n w' v ts:=
 (cw.mono h (S' :=(·<w'.heap.size)) (P' :=ak n (·<w'.heap.size) w) (λb gv _=>Nat.lt_of_lt_of_le gv hb.size) (λy u h=>ak.mono (λb gv _=>Nat.lt_of_lt_of_le gv hb.size) n y u h)).keep (ae.of_below hb) (λy u h=>ak.keep (ae.of_below hb) n y u h)
def Ke (x y z u:Int):Int:=max (max (max x y) z) u
theorem KM {P:Program} (w:World) (at_:Array TypeId) (ty:TypeId) (x y z u:Int):(Builtin.max_ at_ ty #[.int .i64 x,.int .i64 y,.int .i64 z,.int .i64 u]).run P w= .ok (.int .i64 (Ke x y z u)) w:=by
 have e:Ke x y z u=if u>(if z>(if y>x then y else x) then z else (if y>x then y else x)) then u else (if z>(if y>x then y else x) then z else (if y>x then y else x)):=by
  unfold Ke
  repeat' split
  all_goals omega
 rw [e];simp [Builtin.max_,Builtin.max2]
theorem xK {P:Program} {ops:Array Oper} {K0:Act->World->Prop} {S:World->Prop} {o:Oper} {a:Act} {w:World} {rest:List Oper} {p q r t:Operand} {ts:Array TypeId} {x y z u:Int} (ho:o.op= .call {callee:= .builtin .max,args:= #[p,q,r,t],argTypes:=ts}) (hw:Region.wanted o (yielded ops a.tmps)=true)
 (hp:a.eval p= .int .i64 x) (hq:a.eval q= .int .i64 y) (hr:a.eval r= .int .i64 z) (ht:a.eval t= .int .i64 u) (h:bG P ops S bA K0 rest (a.put o.dst (.int .i64 (Ke x y z u))) w):bG P ops S bA K0 (o::rest) a w:=by
 refine eH (by unfold bA dC;rw [ho]) (v:= .int .i64 (Ke x y z u)) (.inl ⟨hw,λw' ah => ?_⟩) h;have key:∀ρ:Operand->Value,ρ p= .int .i64 x->ρ q= .int .i64 y->ρ r= .int .i64 z->ρ t= .int .i64 u->(execOp ρ o).run P w' = .ok (.value (.int .i64 (Ke x y z u))) w' :=by
  intro ρ h1 h2 h3 h4;unfold execOp;simp [ho,go_sem,h1,h2,h3,h4,KM,Sem.run_bind]
 exact key a.eval hp hq hr ht
def BL (n:Nat):Prop:=∀(A:Option Addr) (m c:Nat) (ts:List Sm) (w:World),te n w (.slice A m c) ts->(∀s∈ts,Fb n s)->
 Calls Tryz.prog 192 #[.slice A m c] w λe w' =>∃d:Int,e= .returned (.int .i64 d)/\0<=d/\d<=n+3/\Below w.heap.size w w'
theorem IF (n:Nat) (hn:n<=10) (ih:∀k,k<n->BL k):BL n:=by
 intro A m c ts w hL Dt;have HL:=aA hL.len.1;have Jb:=hL.len.2;have Qt:=aA Dt;have wi:=aA ih;clear Dt ih;go_enter func192,ntmps192;go_wp2;go_loopw [3,4] (λa b wr=>∃(k:Nat) (d:Int),b= .int .i64 k/\k<=m/\a= .int .i64 d/\0<=d/\d<=n+3/\Below w.heap.size w wr) (λ_ b _=>m-(intOf b).toNat);case atStart=>exact ⟨0,0,rfl,by omega,rfl,by omega,by omega,Below.refl _ _⟩
 case round=>
  obtain ⟨k,d,rfl,hk,rfl,hd0,hdn,hb⟩:=hrel;by_cases af:k<m
  ·obtain ⟨ba,oa,x,t,rfl,hSb,o5,ht,fw,kn⟩:=hL.at_ dE (j:=k) af (by omega);cases n with
   |zero=>exact fw.elim
   |succ n=>
    have Le:=Qt.out t (List.mem_of_getElem? ht);obtain ⟨kind,name,slot,size,place,value,body,j0⟩:=t;obtain ⟨rfl,rfl,rfl,rfl,jd,qi,ll,ki⟩:=fw;obtain ⟨Xy,J6,ef,Nj,Kb,WY,Kd,Kc⟩:=Le;have HC:=aA (λ(w' :World) (h:Below wr.heap.size wr w') i u h2=>((Below.ext hb h).cell (p:=⟨ba,oa+k*18+i,none⟩) o5).trans (kn i u h2));have up:=λ(w' :World) (h:Below wr.heap.size wr w')=>(ae.of_below (Below.ext hb h):ae (·<w.heap.size) w w')
    have HP:=aA (λ(w' :World) (h:Below wr.heap.size wr w')=>uF 3 (by omega) x.p place _ w' (ab.keep (up w' h) _ _ _ jd) Nj);have HV:=aA (λ(w' :World) (h:Below wr.heap.size wr w')=>uF 3 (by omega) x.v value _ w' (ab.keep (up w' h) _ _ _ qi) Kb);have HB:=aA (λ(w' :World) (h:Below wr.heap.size wr w')=>wi.out n (by omega) x.A x.n x.c body w' (te.ext ll (Below.ext hb h)) Kd);have HE:=aA (λ(w' :World) (h:Below wr.heap.size wr w')=>wi.out n (by omega) x.B x.m x.d j0 w' (te.ext ki (Below.ext hb h)) Kc);clear up jd qi ll ki kn ht hL WY;go_upto_region 5 with fail;go_wp2_with fail;refine aH ((λw' =>Below wr.heap.size wr w')) (by kernel_rfl) (by kernel_rfl) ((Below.refl _ wr).drew) ?_;refine TkA ?_;refine lL (λw' ah =>vI (HC.out w' ah)) ?_;refine Tyai ?_;go_wp2_with fail;refine (HP.out _ (Below.refl _ wr).drew).mono ?_;rintro e w1 ⟨d1,rfl,g1,l1,b1⟩;have y1:=Below.ext (Below.refl _ wr).drew b1;go_wp2_with fail;refine aD (y1) ?_;refine TkA ?_;refine lL (λw' ah =>vH (HC.out w' ah)) ?_;refine Tyai ?_;go_wp2_with fail;refine (HV.out _ y1).mono ?_;rintro e w2 ⟨d2,rfl,g2,l2,b2⟩;have y2:=Below.ext y1 b2;go_wp2_with fail;refine aD (y2) ?_;refine TkA ?_;refine bZ (⟨ba,oa+k*18+16,none⟩) (.slice x.A x.n x.c) rfl rfl rfl (λw' ah =>aB (nU _) (HC.out w' ah 16 _ rfl)) ?_;refine Tyai ?_;go_wp2_with fail;refine (HB.out _ y2).mono ?_;rintro e w3 ⟨d3,rfl,g3,l3,b3⟩;have y3:=Below.ext y2 b3;go_wp2_with fail;refine aD (y3) ?_;refine TkA ?_;refine bZ (⟨ba,oa+k*18+17,none⟩) (.slice x.B x.m x.d) rfl rfl rfl (λw' ah =>aB (nU _) (HC.out w' ah 17 _ rfl)) ?_;refine Tyai ?_;go_wp2_with fail;refine (HE.out _ y3).mono ?_;rintro e w4 ⟨d4,rfl,g4,l4,b4⟩;have y4:=Below.ext y3 b4;go_wp2_with fail;refine aD (y4) ?_;refine TkA ?_;refine xK rfl rfl rfl rfl rfl rfl ?_;refine TkI ?_;have J9:0<=Ke d1 d2 d3 d4/\Ke d1 d2 d3 d4<=n+3:=by unfold Ke;omega
    obtain ⟨dm,XM⟩:=eX (Ke d1 d2 d3 d4);rw [<-XM] at J9 ⊢;clear XM;obtain ⟨Sf,jh⟩:=J9;refine Tyan ?_;go_wp2_with fail;go_roundw;case rel=>exact ⟨k+1,if d<1+dm then 1+dm else d,by go_num,by omega,rfl,by split<;>omega,by split<;>omega,Below.ext hb y4⟩
    case measure=>simp [intOf];omega
  ·obtain rfl:k=m:=by omega
   go_wp2;go_ret;exact ⟨d,rfl,hd0,hdn,hb⟩
theorem qE:∀(n:Nat),n<=10->BL n:=λn=>Nat.strongRecOn n λn ih hn=>IF n hn λk hk=>ih k hk (by omega)
def BS (n:Nat):Prop:=∀(A:Option Addr) (m c:Nat) (ts:List Sm) (w:World) (V:Nat) (i s k:Int),1<=s->s<=5->w.heap[V]? =some (.cells (fG i s k) 199 (0,0))->te n w (.slice A m c) ts->(∀s∈ts,Fb n s)->
 Calls Tryz.prog 154 #[.slice (some ⟨V,0,none⟩) 5 5,.slice A m c] w λe w' =>e= .returned (.bool true)/\Below w.heap.size w w'
theorem JT (n:Nat) (ih:∀k,k<n->BS k):BS n:=by
 intro A m c ts w V i s k0 iz jw hV hL Dt;have HL:=aA hL.len.1;have Jb:=hL.len.2;have Qt:=aA Dt;have wi:=aA ih;have Eu:V<w.heap.size:=(Array.getElem?_eq_some_iff.1 hV).1;have rb:=aA (λ(w' :World) (hb:Below w.heap.size w w')=>(hb.block V Eu).trans hV);clear Dt ih hV;go_enter func154,ntmps154;go_wp2;go_loopw [5] (λb wr=>∃(k:Nat),b= .int .i64 k/\k<=m/\Below w.heap.size w wr) (λb _=>m-(intOf b).toNat);case atStart=>exact ⟨0,rfl,by omega,Below.refl _ _⟩
 case round=>
  obtain ⟨k,rfl,hk,hb⟩:=hrel;by_cases af:k<m
  ·obtain ⟨ba,oa,x,t,rfl,hSb,o5,ht,fw,kn⟩:=hL.at_ dE (j:=k) af (by omega);cases n with
   |zero=>exact fw.elim
   |succ n=>
    have Le:=Qt.out t (List.mem_of_getElem? ht);obtain ⟨kind,name,slot,size,place,value,body,j0⟩:=t;obtain ⟨rfl,rfl,rfl,rfl,jd,qi,ll,ki⟩:=fw;obtain ⟨Xy,J6,ef,Nj,Kb,WY,Kd,Kc⟩:=Le;have HC:=aA (λ(w' :World) (h:Below wr.heap.size wr w') i u h2=>((Below.ext hb h).cell (p:=⟨ba,oa+k*18+i,none⟩) o5).trans (kn i u h2));have up:=λ(w' :World) (h:Below wr.heap.size wr w')=>(ae.of_below (Below.ext hb h):ae (·<w.heap.size) w w')
    have HP:=aA (λ(w' :World) (h:Below wr.heap.size wr w')=>rQ 3 x.p place _ w' V i s k0 iz jw (rb.out w' (Below.ext hb h)) (ab.keep (up w' h) _ _ _ jd) Nj);have HV:=aA (λ(w' :World) (h:Below wr.heap.size wr w')=>rQ 3 x.v value _ w' V i s k0 iz jw (rb.out w' (Below.ext hb h)) (ab.keep (up w' h) _ _ _ qi) Kb);have HB:=aA (λ(w' :World) (h:Below wr.heap.size wr w')=>wi.out n (by omega) x.A x.n x.c body w' V i s k0 iz jw (rb.out w' (Below.ext hb h)) (te.ext ll (Below.ext hb h)) Kd);have HE:=aA (λ(w' :World) (h:Below wr.heap.size wr w')=>wi.out n (by omega) x.B x.m x.d j0 w' V i s k0 iz jw (rb.out w' (Below.ext hb h)) (te.ext ki (Below.ext hb h)) Kc);have nm6:kJ x.name∨mI x.name∨x.name=ByteArray.mk #[]:=by
     rcases WY with h|h|h
     ·exact .inl h.2
     ·exact .inr (.inl h.2)
     ·exact .inr (.inr h.2)
    have HK:=aA (kA wr V i s k0 iz jw (rb.out wr hb) x.name nm6);have NNM:=aA WY;have q1:wr.cell? ⟨ba,oa+k*18+1,none⟩=some (.string x.name):=HC.out wr (Below.refl _ _) 1 _ rfl
    clear up jd qi ll ki kn ht hL WY nm6;go_upto_region 5 with fail;go_wp2_with fail;refine HK.out.mono ?_;rintro e w1 ⟨a,b,ok,rfl,jg,b1⟩;have c0:w1.cell? ⟨ba,oa+k*18,none⟩=some (.int .i64 x.kind):=HC.out w1 b1 0 _ rfl
    rcases NNM.out with ⟨kk,g⟩|⟨kk,g⟩|⟨kk,g⟩
    ·rw [kk] at c0;obtain rfl:ok=true:=(jg.2.2.1 g).2;clear kk;exact Tzaq
    ·rw [kk] at c0;obtain rfl:ok=true:=(jg.2.2.2 g).2;clear kk;exact Tzaq
    ·have e2:(x.kind==1)=false:=by simp;omega
     have e3:(x.kind==2)=false:=by simp;omega
     exact Tzaq
  ·obtain rfl:k=m:=by omega
   go_wp2;go_ret;exact ⟨rfl,hb⟩
theorem qQ:∀(n:Nat),BS n:=λn=>Nat.strongRecOn n λn ih=>JT n ih
end Go.Proofs.YtiblijmngokcgaaGreatDoor
