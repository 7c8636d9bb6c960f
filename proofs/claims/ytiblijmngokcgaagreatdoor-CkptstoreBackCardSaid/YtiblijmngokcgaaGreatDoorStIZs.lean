import Derived.Test.YtiblijmngokcgaaGreatDoorG21Zs
import Derived.Test.YtiblijmngokcgaaGreatDoorG19Zs
import Derived.Test.YtiblijmngokcgaaGreatDoorRepZs
namespace Go.Proofs.YtiblijmngokcgaaGreatDoor
open Go.RowKit
set_option linter.unusedVariables false
set_option linter.unusedSimpArgs false
structure RIn (r:Rst):Prop where
 c:∀z∈r.cells,InR z
 l:∀e∈r.l,InR e.to∧InR e.value
 n:r.l.length≤8
theorem RIn.pay {r:Rst} (h:RIn r):RIn r.pay:=⟨h.c,h.l,h.n⟩
theorem RIn.eff {r:Rst} (h:RIn r) {e:Ef} (h1:InR e.to) (h2:InR e.value):RIn (r.eff e):=by
 unfold Rst.eff
 split
 ·rename_i hl
  refine ⟨h.c,fun x hx=> ?_,by simp;omega⟩
  rcases List.mem_append.1 hx with hx|hx
  ·exact h.l x hx
  ·rw [List.mem_singleton] at hx
   subst hx
   exact ⟨h1,h2⟩
 ·exact h
theorem RIn.set {r:Rst} (h:RIn r) (k:Nat) {z:Int} (hz:InR z):RIn {r with cells:=r.cells.set k z}:=by
 refine ⟨fun x hx=> ?_,h.l,h.n⟩
 rcases List.mem_or_eq_of_mem_set hx with hx|rfl
 ·exact h.c x hx
 ·exact hz
theorem IJ {n:Nat} {v:Env} {r:Rst} {s:Sm} (hs:RsS (n+1) s) (hv:EnvIn v) (hr:RIn r):RIn (mB v r s):=by
 obtain ⟨kind,name,slot,size,p,e,body,els⟩:=s
 obtain ⟨_,_,_,hp,he,_,_⟩:=hs
 have h1:InR (ev3 r v e):=mM hr.c hv 3 e he
 have h2:InR (ev3 r v p):=mM hr.c hv 3 p hp
 unfold mB
 dsimp only
 split
 ·split
  ·exact hr.set _ h1
  ·exact hr
 ·split
  ·split
   ·exact hr.set _ h1
   ·exact hr
  ·split
   ·split
    ·exact hr.eff h2 h1
    ·exact hr
   ·split
    ·exact hr.eff (show InR 0 from ⟨by decide,by decide⟩) h1
    ·exact hr
theorem RunL.in_ {v:Env} {l:List Sm} {r r' :Rst} {ok:Bool} (h:RunL v l r r' ok) (hv:EnvIn v):∀n,(∀s∈l,RsS n s)→RIn r→RIn r' :=by
 have tl:∀{n:Nat} {s:Sm} {l:List Sm},(∀x∈s::l,RsS n x)→∀x∈l,RsS n x:=fun h x hx=>h x (List.mem_cons_of_mem _ hx)
 have hd:∀{n:Nat} {s:Sm} {l:List Sm},(∀x∈s::l,RsS n x)→RsS n s:=fun h=>h _ (List.mem_cons_self ..)
 induction h with
 |nil r=>intro n _ h;exact h
 |out _=>intro n _ h;exact h
 |sim k1 k2 hu _ ih=>
  intro n hl hr
  match n,hd hl with
  |m+1,hh=>exact ih (m+1) (tl hl) (IJ hh hv hr.pay)
 |cond hu _ _ ih1 ih2=>
  intro n hl hr
  match n,hd hl with
  |m+1,hh=>
   refine ih2 (m+1) (tl hl) (ih1 m ?_ hr.pay)
   split
   ·exact hh.2.2.2.2.2.1
   ·exact hh.2.2.2.2.2.2
 |condF hu _ ih1=>
  intro n hl hr
  match n,hd hl with
  |m+1,hh=>
   refine ih1 m ?_ hr.pay
   split
   ·exact hh.2.2.2.2.2.1
   ·exact hh.2.2.2.2.2.2
 |stop hu he _ ih=>intro n hl hr;exact ih n (tl hl) hr.pay
 |go hu he _ _ ih1 ih2=>
  intro n hl hr
  match n,hd hl with
  |m+1,hh=>exact ih2 (m+1) hl (ih1 m hh.2.2.2.2.2.1 hr.pay)
 |goF hu he _ ih1=>
  intro n hl hr
  match n,hd hl with
  |m+1,hh=>exact ih1 m hh.2.2.2.2.2.1 hr.pay
structure StI (k m:Nat) (s:Stt):Prop where
 c:∀z∈s.cells,InR z
 e:∀x∈s.evs,∀z∈x.l,InR z
 sn:∀x∈s.sent,(∀z∈x.l,InR z)∧0≤x.a∧x.a≤(k:Int)
 o:∀x∈s.outs,(∀z∈x.l,InR z)∧0≤x.a∧x.a≤(k:Int)
 n:s.sent.length+s.outs.length≤m
theorem rX {idx:Int} {k:Nat} (h0:0≤idx) (hk:idx≤(k:Int)) (hkk:k≤1000000):∀(l:List Ef) (o:Nat),o+l.length≤1000000→(∀e∈l,InR e.to∧InR e.value)→∀x∈gH idx o l,(∀z∈x.l,InR z)∧0≤x.a∧x.a≤(k:Int)
 |[],_,_,_,x,hx=>by simp [gH] at hx
 |e::l,o,ho,h,x,hx=>by
  have ht:=fun y hy=>h y (List.mem_cons_of_mem _ hy)
  have he:=h e (List.mem_cons_self ..)
  rw [List.length_cons] at ho
  unfold gH at hx
  split at hx
  ·rcases List.mem_cons.1 hx with rfl|hx
   ·refine ⟨fun z hz=> ?_,h0,hk⟩
    simp only [Snd.l,List.mem_cons,List.not_mem_nil,or_false] at hz
    rcases hz with rfl|rfl|rfl|rfl
    ·exact ⟨by omega,by omega⟩
    ·exact ⟨by omega,by omega⟩
    ·exact he.1
    ·exact he.2
   ·exact rX h0 hk hkk l (o+1) (by omega) ht x hx
  ·exact rX h0 hk hkk l o (by omega) ht x hx
theorem qC {idx:Int} {k:Nat} (h0:0≤idx) (hk:idx≤(k:Int)) (hkk:k≤1000000):∀(l:List Ef),(∀e∈l,InR e.to∧InR e.value)→∀x∈fE idx l,(∀z∈x.l,InR z)∧0≤x.a∧x.a≤(k:Int)
 |[],_,x,hx=>by simp [fE] at hx
 |e::l,h,x,hx=>by
  have ht:=fun y hy=>h y (List.mem_cons_of_mem _ hy)
  have he:=h e (List.mem_cons_self ..)
  unfold fE at hx
  split at hx
  ·exact qC h0 hk hkk l ht x hx
  ·rcases List.mem_cons.1 hx with rfl|hx
   ·refine ⟨fun z hz=> ?_,h0,hk⟩
    simp only [Ou.l,List.mem_cons,List.not_mem_nil,or_false] at hz
    rcases hz with rfl|rfl
    ·exact ⟨by omega,by omega⟩
    ·exact he.2
   ·exact qC h0 hk hkk l ht x hx
theorem ExR.in_ {body:List Sm} {v:Env} {idx:Int} {s s' :Stt} {k m:Nat} (h:ExR body v idx s s') (hb:∀x∈body,RsS 3 x) (hv:EnvIn v) (h0:0≤idx) (hk:idx≤(k:Int)) (hkk:k≤1000000) (hs:StI k m s):StI k (m+8) s' :=by
 obtain ⟨r,ok,hr,rfl⟩:=h
 have hi:=hr.in_ hv 3 hb ⟨hs.c,fun e he=>by simp at he,by simp⟩
 have h8:=hi.n
 refine ⟨hi.c,hs.e,fun x hx=> ?_,fun x hx=> ?_,?_⟩
 ·rcases List.mem_append.1 hx with hx|hx
  ·exact hs.sn x hx
  ·exact rX h0 hk hkk _ 0 (by omega) hi.l x hx
 ·rcases List.mem_append.1 hx with hx|hx
  ·exact hs.o x hx
  ·exact qC h0 hk hkk _ hi.l x hx
 ·have h1:=mT idx r.l 0
  have h2:=nV idx r.l
  have h3:=hs.n
  show (s.sent++gH idx 0 r.l).length+(s.outs++fE idx r.l).length≤m+8
  rw [List.length_append,List.length_append]
  omega
theorem NextR.in_ {c:Cd} {self procs:Int} {s s' :Stt} {e:Ev} {k m:Nat} (h:NextR c self procs s e s') (hc:CdIn c) (hse:InR self) (hpr:InR procs) (he:∀z∈e.l,InR z) (hk:s.evs.length+1≤k) (hkk:k≤1000000) (hs:StI k m s):StI k (m+8) s' :=by
 have ha:StI k m (fS s e):=⟨hs.c,fun x hx=>by
  rcases List.mem_append.1 hx with hx|hx
  ·exact hs.e x hx
  ·rw [List.mem_singleton] at hx;subst hx;exact he,hs.sn,hs.o,hs.n⟩
 have h2:InR e.k2:=he _ (by simp [Ev.l])
 have h6:InR e.k6:=he _ (by simp [Ev.l])
 unfold NextR at h
 split at h
 ·exact ExR.in_ h hc.me ⟨hse,hpr,h2,h6⟩ (by omega) (by omega) hkk ha
 ·split at h
  ·exact ExR.in_ h hc.ti ⟨hse,hpr,hse,h6⟩ (by omega) (by omega) hkk ha
  ·split at h
   ·exact ExR.in_ h hc.inp ⟨hse,hpr,hse,h6⟩ (by omega) (by omega) hkk ha
   ·rw [h]
    exact ⟨ha.c,ha.e,ha.sn,ha.o,Nat.le_trans ha.n (by omega)⟩
theorem NextR.evs_ {c:Cd} {self procs:Int} {s s' :Stt} {e:Ev} (h:NextR c self procs s e s'):s'.evs=s.evs++ [e]:=by
 unfold NextR at h
 split at h
 ·obtain ⟨r,ok,_,rfl⟩:=h;rfl
 ·split at h
  ·obtain ⟨r,ok,_,rfl⟩:=h;rfl
  ·split at h
   ·obtain ⟨r,ok,_,rfl⟩:=h;rfl
   ·rw [h];rfl
theorem RepR.in_ {c:Cd} {self procs:Int} {s s' :Stt} {l:List Ev} (h:RepR c self procs s l s') (hc:CdIn c) (hse:InR self) (hpr:InR procs):∀{k m:Nat},(∀e∈l,∀z∈e.l,InR z)→s.evs.length+l.length≤k→k≤1000000→StI k m s→StI k (m+8*l.length) s'∧s'.evs=s.evs++l:=by
 induction h with
 |nil s=>intro k m _ _ _ hs;exact ⟨by simpa using hs,by simp⟩
 |cons h1 h2 ih=>
  intro k m hl hk hkk hs
  rw [List.length_cons] at hk
  have he:=hl _ (List.mem_cons_self ..)
  have hn:=NextR.evs_ h1
  have hi:=NextR.in_ h1 hc hse hpr he (by omega) hkk hs
  obtain ⟨g1,g2⟩:=ih (fun e h=>hl e (List.mem_cons_of_mem _ h)) (by rw [hn,List.length_append,List.length_singleton];omega) hkk hi
  refine ⟨?_,by rw [g2,hn];simp⟩
  have hh:∀n:Nat,m+8*(n+1)=m+8+8*n:=fun n=>by omega
  rw [List.length_cons,hh]
  exact g1
theorem ReplayR.in_ {c:Cd} {self procs:Int} {l:List Ev} {s:Stt} (h:ReplayR c self procs l s) (hc:CdIn c) (hse:InR self) (hpr:InR procs) (hl:∀e∈l,∀z∈e.l,InR z) (hn:l.length≤1000):StI l.length (8*(l.length+1)) s∧s.evs=l∧s.cells.length=c.init.length:=by
 obtain ⟨s0,h1,h2⟩:=h
 have h00:(0:Int)≤(l.length:Int):=by omega
 have i0:StI l.length 0 ⟨c.init,[],[],[]⟩:=⟨hc.init,fun x hx=>by simp at hx,fun x hx=>by simp at hx,fun x hx=>by simp at hx,by simp⟩
 have i1:=ExR.in_ h1 hc.st ⟨hse,hpr,hse,(show InR 0 from ⟨by decide,by decide⟩)⟩ (by omega) h00 (by omega) i0
 have e1:=(ExR.pre h1).2
 have c1:=(ExR.pre h1).1.cells
 have e1' :s0.evs=[]:=e1
 obtain ⟨g1,g2⟩:=RepR.in_ h2 hc hse hpr hl (by rw [e1'];simp) (by omega) i1
 have c2:=(RepR.pre h2).1.cells
 refine ⟨?_,by rw [g2,e1'];simp,by rw [c2,c1]⟩
 have:8*(l.length+1)=0+8+8*l.length:=by omega
 rw [this]
 exact g1
theorem StI.ok {k m:Nat} {s:Stt} (h:StI k m s) (hc:s.cells.length≤2000000):SttOk s:=⟨h.c,h.e,fun x hx=>(h.sn x hx).1,fun x hx=>(h.o x hx).1,hc⟩
end Go.Proofs.YtiblijmngokcgaaGreatDoor
