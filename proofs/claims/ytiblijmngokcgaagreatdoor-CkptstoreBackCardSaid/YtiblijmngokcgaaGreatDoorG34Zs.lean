import Derived.Test.YtiblijmngokcgaaGreatDoorMacZs
import Derived.Test.YtiblijmngokcgaaGreatDoorG33Zs
import Derived.Test.YtiblijmngokcgaaGreatDoorG19Zs
namespace Go.Proofs.YtiblijmngokcgaaGreatDoor
open Go.RowKit
set_option maxRecDepth 100000
set_option linter.unusedVariables false
set_option linter.unusedSimpArgs false
theorem JO {x:SmV} {i:Nat} {u:Value} (h:(eB x.p)[i]? =some u):(bM x)[4+i]? =some u:=by
 exact Tzc9
theorem JN {x:SmV} {i:Nat} {u:Value} (h:(eB x.v)[i]? =some u):(bM x)[10+i]? =some u:=by
 exact Tzc9
theorem rB {w:World} {b o:Nat} {x:SmV} (hc:∀i u,(bM x)[i]? =some u→w.cell? ⟨b,o+i,none⟩=some u):(loadVar 244 ⟨b,o+4,none⟩).run Tryz.prog w= .ok (.agg #[.int .i64 x.p.op,.int .i64 x.p.val,.string x.p.name,.int .i64 x.p.slot,.int .i64 x.p.size,.slice x.p.A x.p.n x.p.c]) w:=
 gC (y:=x.p) (fun i u h=>by rw [Nat.add_assoc];exact hc _ u (JO h))
theorem rA {w:World} {b o:Nat} {x:SmV} (hc:∀i u,(bM x)[i]? =some u→w.cell? ⟨b,o+i,none⟩=some u):(loadVar 244 ⟨b,o+10,none⟩).run Tryz.prog w= .ok (.agg #[.int .i64 x.v.op,.int .i64 x.v.val,.string x.v.name,.int .i64 x.v.slot,.int .i64 x.v.size,.slice x.v.A x.v.n x.v.c]) w:=
 gC (y:=x.v) (fun i u h=>by rw [Nat.add_assoc];exact hc _ u (JN h))
def NmS:Nat→Sm→Prop
 |0,_=>False
 |n+1,.mk kind name slot size place value body els=>(1≤kind∧kind≤6)∧slot=0∧size=0∧NmE 3 place∧NmE 3 value∧((kind=1∧gW name)∨(kind=2∧jJ name)∨(3≤kind∧name=ByteArray.mk #[]))∧(∀s∈body,NmS n s)∧(∀s∈els,NmS n s)
theorem NmS.of:∀{n:Nat} {t:Sm},DrS n t→NmS n t
 |0,_,h=>h.elim
 |n+1,.mk kind name slot size place value body els,⟨h1,h2,h3,h4,h5,h6⟩=>by
  have hb:∀s∈body,NmS n s:=fun s hs=>NmS.of (h4 s hs)
  have he:∀s∈els,NmS n s:=fun s hs=>NmS.of (h5 s hs)
  have hv:=NmE.of h3
  have hz:NmE 3 zEx:=NmE.zero 2
  rcases h6 with ⟨a,b,c,_,_⟩|⟨a,b,c,_,_⟩|⟨a,b,c,_,_⟩|⟨a,b,c,_,_⟩|⟨a,b,c,_,_⟩|⟨a,b,c,_,_⟩
  ·exact ⟨⟨by omega,by omega⟩,h1,h2,by rw [c];exact hz,hv,.inl ⟨a,b⟩,hb,he⟩
  ·exact ⟨⟨by omega,by omega⟩,h1,h2,NmE.of c,hv,.inr (.inl ⟨a,b⟩),hb,he⟩
  ·exact ⟨⟨by omega,by omega⟩,h1,h2,NmE.of c,hv,.inr (.inr ⟨by omega,b⟩),hb,he⟩
  ·exact ⟨⟨by omega,by omega⟩,h1,h2,by rw [c];exact hz,hv,.inr (.inr ⟨by omega,b⟩),hb,he⟩
  ·exact ⟨⟨by omega,by omega⟩,h1,h2,by rw [c];exact hz,hv,.inr (.inr ⟨by omega,b⟩),hb,he⟩
  ·exact ⟨⟨by omega,by omega⟩,h1,h2,by rw [c];exact hz,hv,.inr (.inr ⟨by omega,b⟩),hb,he⟩
theorem kO (w:World):(isAgg 27).run Tryz.prog w= .ok false w:=by simp [isAgg,run_underlying Tryz.underlying27]
def SmL (n:Nat) (w:World) (v:Value) (ts:List Sm):Prop:=LsOk bM (SmOk n (·<w.heap.size) w) (·<w.heap.size) w v ts
theorem SmL.ext {n:Nat} {w w' :World} {v:Value} {ts:List Sm} (h:SmL n w v ts) (hb:Below w.heap.size w w'):SmL n w' v ts:=
 (LsOk.mono h (S' :=(·<w'.heap.size)) (P' :=SmOk n (·<w'.heap.size) w) (fun b hb' _=>Nat.lt_of_lt_of_le hb' hb.size) (fun y u h=>SmOk.mono (fun b hb' _=>Nat.lt_of_lt_of_le hb' hb.size) n y u h)).keep (Keep.of_below hb) (fun y u h=>SmOk.keep (Keep.of_below hb) n y u h)
def mx4 (x y z u:Int):Int:=max (max (max x y) z) u
theorem DR {P:Program} (w:World) (at_:Array TypeId) (ty:TypeId) (x y z u:Int):(Builtin.max_ at_ ty #[.int .i64 x,.int .i64 y,.int .i64 z,.int .i64 u]).run P w= .ok (.int .i64 (mx4 x y z u)) w:=by
 have e:mx4 x y z u=if u>(if z>(if y>x then y else x) then z else (if y>x then y else x)) then u else (if z>(if y>x then y else x) then z else (if y>x then y else x)):=by
  unfold mx4
  repeat' split
  all_goals omega
 rw [e]
 simp [Builtin.max_,Builtin.max2]
theorem tB {P:Program} {ops:Array Oper} {K0:Act→World→Prop} {S:World→Prop} {o:Oper} {a:Act} {w:World} {rest:List Oper} {p q r t:Operand} {ts:Array TypeId} {x y z u:Int} (ho:o.op= .call {callee:= .builtin .max,args:= #[p,q,r,t],argTypes:=ts}) (hw:Region.wanted o (yielded ops a.tmps)=true)
 (hp:a.eval p= .int .i64 x) (hq:a.eval q= .int .i64 y) (hr:a.eval r= .int .i64 z) (ht:a.eval t= .int .i64 u) (h:bK P ops S aY K0 rest (a.put o.dst (.int .i64 (mx4 x y z u))) w):bK P ops S aY K0 (o::rest) a w:=by
 refine eL (by unfold aY cY;rw [ho]) (v:= .int .i64 (mx4 x y z u)) (.inl ⟨hw,fun w' hw' => ?_⟩) h
 have key:∀ρ:Operand→Value,ρ p= .int .i64 x→ρ q= .int .i64 y→ρ r= .int .i64 z→ρ t= .int .i64 u→(execOp ρ o).run P w' = .ok (.value (.int .i64 (mx4 x y z u))) w' :=by
  intro ρ h1 h2 h3 h4
  unfold execOp
  simp [ho,go_sem,h1,h2,h3,h4,DR,Sem.run_bind]
 exact key a.eval hp hq hr ht
def wC (n:Nat):Prop:=∀(A:Option Addr) (m c:Nat) (ts:List Sm) (w:World),SmL n w (.slice A m c) ts→(∀s∈ts,NmS n s)→
 Calls Tryz.prog 192 #[.slice A m c] w fun e w' =>∃d:Int,e= .returned (.int .i64 d)∧0≤d∧d≤n+3∧Below w.heap.size w w'
set_option maxHeartbeats 8000000 in
theorem BD (n:Nat) (hn:n≤10) (ih:∀k,k<n→wC k):wC n:=by
 intro A m c ts w hL hrs
 have HL:=Lib.hid hL.len.1
 have hlc:=hL.len.2
 have HRS:=Lib.hid hrs
 have HIH:=Lib.hid ih
 clear hrs ih
 go_enter Tryz.func192,Tryz.ntmps192
 go_wp2
 go_loopw [3,4] (fun a b wr=>∃(k:Nat) (d:Int),b= .int .i64 k∧k≤m∧a= .int .i64 d∧0≤d∧d≤n+3∧Below w.heap.size w wr) (fun _ b _=>m-(intOf b).toNat)
 case atStart=>exact ⟨0,0,rfl,by omega,rfl,by omega,by omega,Below.refl _ _⟩
 case round=>
  obtain ⟨k,d,rfl,hk,rfl,hd0,hdn,hb⟩:=hrel
  by_cases hlt:k<m
  ·obtain ⟨ba,oa,x,t,rfl,hSb,hba,ht,hok,hcx⟩:=hL.at_ cS (j:=k) hlt (by omega)
   cases n with
   |zero=>exact hok.elim
   |succ n=>
    have hrt:=HRS.out t (List.mem_of_getElem? ht)
    obtain ⟨kind,name,slot,size,place,value,body,els⟩:=t
    obtain ⟨rfl,rfl,rfl,rfl,hpl,hvl,hbd,hel⟩:=hok
    obtain ⟨hkd,hsl,hsz,npl,nvl,nnm,nbd,nel⟩:=hrt
    have HC:=Lib.hid (fun (w' :World) (h:Below wr.heap.size wr w') i u h2=>((Below.ext hb h).cell (p:=⟨ba,oa+k*18+i,none⟩) hba).trans (hcx i u h2))
    have up:=fun (w' :World) (h:Below wr.heap.size wr w')=>(Keep.of_below (Below.ext hb h):Keep (·<w.heap.size) w w')
    have HP:=Lib.hid (fun (w' :World) (h:Below wr.heap.size wr w')=>qI 3 (by omega) x.p place _ w' (ExOk.keep (up w' h) _ _ _ hpl) npl)
    have HV:=Lib.hid (fun (w' :World) (h:Below wr.heap.size wr w')=>qI 3 (by omega) x.v value _ w' (ExOk.keep (up w' h) _ _ _ hvl) nvl)
    have HB:=Lib.hid (fun (w' :World) (h:Below wr.heap.size wr w')=>HIH.out n (by omega) x.A x.n x.c body w' (SmL.ext hbd (Below.ext hb h)) nbd)
    have HE:=Lib.hid (fun (w' :World) (h:Below wr.heap.size wr w')=>HIH.out n (by omega) x.B x.m x.d els w' (SmL.ext hel (Below.ext hb h)) nel)
    clear up hpl hvl hbd hel hcx ht hL nnm
    go_upto_region 5 with fail
    go_wp2_with fail
    refine aM ((fun w' =>Below wr.heap.size wr w')) (by kernel_rfl) (by kernel_rfl) ((Below.refl _ wr).drew) ?_
    refine TkA ?_
    refine aE (⟨ba,oa+k*18+4,none⟩) (.agg #[.int .i64 x.p.op,.int .i64 x.p.val,.string x.p.name,.int .i64 x.p.slot,.int .i64 x.p.size,.slice x.p.A x.p.n x.p.c]) rfl rfl rfl (fun w' hw' =>rB (HC.out w' hw')) ?_
    refine TkI ?_
    refine TkA ?_
    refine aL rfl ?_
    go_wp2_with fail
    refine (HP.out _ (Below.refl _ wr).drew).mono ?_
    rintro e w1 ⟨d1,rfl,g1,l1,b1⟩
    have y1:=Below.ext (Below.refl _ wr).drew b1
    go_wp2_with fail
    refine aI (y1) ?_
    refine TkA ?_
    refine aE (⟨ba,oa+k*18+10,none⟩) (.agg #[.int .i64 x.v.op,.int .i64 x.v.val,.string x.v.name,.int .i64 x.v.slot,.int .i64 x.v.size,.slice x.v.A x.v.n x.v.c]) rfl rfl rfl (fun w' hw' =>rA (HC.out w' hw')) ?_
    refine TkI ?_
    refine TkA ?_
    refine aL rfl ?_
    go_wp2_with fail
    refine (HV.out _ y1).mono ?_
    rintro e w2 ⟨d2,rfl,g2,l2,b2⟩
    have y2:=Below.ext y1 b2
    go_wp2_with fail
    refine aI (y2) ?_
    refine TkA ?_
    refine aE (⟨ba,oa+k*18+16,none⟩) (.slice x.A x.n x.c) rfl rfl rfl (fun w' hw' =>aG (kO _) (HC.out w' hw' 16 _ rfl)) ?_
    refine TkI ?_
    refine TkA ?_
    refine aL rfl ?_
    go_wp2_with fail
    refine (HB.out _ y2).mono ?_
    rintro e w3 ⟨d3,rfl,g3,l3,b3⟩
    have y3:=Below.ext y2 b3
    go_wp2_with fail
    refine aI (y3) ?_
    refine TkA ?_
    refine aE (⟨ba,oa+k*18+17,none⟩) (.slice x.B x.m x.d) rfl rfl rfl (fun w' hw' =>aG (kO _) (HC.out w' hw' 17 _ rfl)) ?_
    refine TkI ?_
    refine TkA ?_
    refine aL rfl ?_
    go_wp2_with fail
    refine (HE.out _ y3).mono ?_
    rintro e w4 ⟨d4,rfl,g4,l4,b4⟩
    have y4:=Below.ext y3 b4
    go_wp2_with fail
    refine aI (y4) ?_
    refine TkA ?_
    refine tB rfl rfl rfl rfl rfl rfl ?_
    refine TkI ?_
    have hmx:0≤mx4 d1 d2 d3 d4∧mx4 d1 d2 d3 d4≤n+3:=by unfold mx4;omega
    obtain ⟨dm,hdm⟩:∃dm,dm=mx4 d1 d2 d3 d4:=⟨_,rfl⟩
    rw [←hdm] at hmx ⊢
    clear hdm
    obtain ⟨hm0,hm1⟩:=hmx
    refine TkA ?_
    refine aZ ?_
    go_wp2_with fail
    go_roundw
    case rel=>exact ⟨k+1,if d<1+dm then 1+dm else d,by go_num,by omega,rfl,by split<;>omega,by split<;>omega,Below.ext hb y4⟩
    case measure=>simp [intOf];omega
  ·obtain rfl:k=m:=by omega
   go_wp2
   go_ret
   exact ⟨d,rfl,hd0,hdn,hb⟩
theorem mX:∀(n:Nat),n≤10→wC n:=fun n=>Nat.strongRecOn n fun n ih hn=>BD n hn fun k hk=>ih k hk (by omega)
end Go.Proofs.YtiblijmngokcgaaGreatDoor
namespace Go.Proofs.YtiblijmngokcgaaGreatDoor
open Go.RowKit
set_option maxRecDepth 100000
set_option linter.unusedVariables false
set_option linter.unusedSimpArgs false
def wI (n:Nat):Prop:=∀(A:Option Addr) (m c:Nat) (ts:List Sm) (w:World) (V:Nat) (i s k:Int),1≤s→s≤5→w.heap[V]? =some (.cells (eC i s k) 199 (0,0))→SmL n w (.slice A m c) ts→(∀s∈ts,NmS n s)→
 Calls Tryz.prog 154 #[.slice (some ⟨V,0,none⟩) 5 5,.slice A m c] w fun e w' =>e= .returned (.bool true)∧Below w.heap.size w w'
set_option maxHeartbeats 8000000 in
theorem DA (n:Nat) (ih:∀k,k<n→wI k):wI n:=by
 intro A m c ts w V i s k0 hs1 hs5 hV hL hrs
 have HL:=Lib.hid hL.len.1
 have hlc:=hL.len.2
 have HRS:=Lib.hid hrs
 have HIH:=Lib.hid ih
 have hVl:V<w.heap.size:=(Array.getElem?_eq_some_iff.1 hV).1
 have HVV:=Lib.hid (fun (w' :World) (hb:Below w.heap.size w w')=>(hb.block V hVl).trans hV)
 clear hrs ih hV
 go_enter Tryz.func154,Tryz.ntmps154
 go_wp2
 go_loopw [5] (fun b wr=>∃(k:Nat),b= .int .i64 k∧k≤m∧Below w.heap.size w wr) (fun b _=>m-(intOf b).toNat)
 case atStart=>exact ⟨0,rfl,by omega,Below.refl _ _⟩
 case round=>
  obtain ⟨k,rfl,hk,hb⟩:=hrel
  by_cases hlt:k<m
  ·obtain ⟨ba,oa,x,t,rfl,hSb,hba,ht,hok,hcx⟩:=hL.at_ cS (j:=k) hlt (by omega)
   cases n with
   |zero=>exact hok.elim
   |succ n=>
    have hrt:=HRS.out t (List.mem_of_getElem? ht)
    obtain ⟨kind,name,slot,size,place,value,body,els⟩:=t
    obtain ⟨rfl,rfl,rfl,rfl,hpl,hvl,hbd,hel⟩:=hok
    obtain ⟨hkd,hsl,hsz,npl,nvl,nnm,nbd,nel⟩:=hrt
    have HC:=Lib.hid (fun (w' :World) (h:Below wr.heap.size wr w') i u h2=>((Below.ext hb h).cell (p:=⟨ba,oa+k*18+i,none⟩) hba).trans (hcx i u h2))
    have up:=fun (w' :World) (h:Below wr.heap.size wr w')=>(Keep.of_below (Below.ext hb h):Keep (·<w.heap.size) w w')
    have HP:=Lib.hid (fun (w' :World) (h:Below wr.heap.size wr w')=>nZ 3 x.p place _ w' V i s k0 hs1 hs5 (HVV.out w' (Below.ext hb h)) (ExOk.keep (up w' h) _ _ _ hpl) npl)
    have HV:=Lib.hid (fun (w' :World) (h:Below wr.heap.size wr w')=>nZ 3 x.v value _ w' V i s k0 hs1 hs5 (HVV.out w' (Below.ext hb h)) (ExOk.keep (up w' h) _ _ _ hvl) nvl)
    have HB:=Lib.hid (fun (w' :World) (h:Below wr.heap.size wr w')=>HIH.out n (by omega) x.A x.n x.c body w' V i s k0 hs1 hs5 (HVV.out w' (Below.ext hb h)) (SmL.ext hbd (Below.ext hb h)) nbd)
    have HE:=Lib.hid (fun (w' :World) (h:Below wr.heap.size wr w')=>HIH.out n (by omega) x.B x.m x.d els w' V i s k0 hs1 hs5 (HVV.out w' (Below.ext hb h)) (SmL.ext hel (Below.ext hb h)) nel)
    have nm6:gW x.name∨jJ x.name∨x.name=ByteArray.mk #[]:=by
     rcases nnm with h|h|h
     ·exact .inl h.2
     ·exact .inr (.inl h.2)
     ·exact .inr (.inr h.2)
    have HK:=Lib.hid (gQ wr V i s k0 hs1 hs5 (HVV.out wr hb) x.name nm6)
    have NNM:=Lib.hid nnm
    have q1:wr.cell? ⟨ba,oa+k*18+1,none⟩=some (.string x.name):=HC.out wr (Below.refl _ _) 1 _ rfl
    clear up hpl hvl hbd hel hcx ht hL nnm nm6
    go_upto_region 5 with fail
    go_wp2_with fail
    refine HK.out.mono ?_
    rintro e w1 ⟨a,b,ok,rfl,hout,b1⟩
    have c0:w1.cell? ⟨ba,oa+k*18,none⟩=some (.int .i64 x.kind):=HC.out w1 b1 0 _ rfl
    rcases NNM.out with ⟨kk,g⟩|⟨kk,g⟩|⟨kk,g⟩
    ·rw [kk] at c0
     obtain rfl:ok=true:=(hout.2.2.1 g).2
     clear kk
     exact Tzan
    ·rw [kk] at c0
     obtain rfl:ok=true:=(hout.2.2.2 g).2
     clear kk
     exact Tzan
    ·have e2:(x.kind==1)=false:=by simp;omega
     have e3:(x.kind==2)=false:=by simp;omega
     exact Tzan
  ·obtain rfl:k=m:=by omega
   go_wp2
   go_ret
   exact ⟨rfl,hb⟩
theorem nH:∀(n:Nat),wI n:=fun n=>Nat.strongRecOn n fun n ih=>DA n ih
end Go.Proofs.YtiblijmngokcgaaGreatDoor
