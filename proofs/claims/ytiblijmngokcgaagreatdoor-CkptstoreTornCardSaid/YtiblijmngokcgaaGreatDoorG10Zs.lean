import Derived.Test.YtiblijmngokcgaaGreatDoorRtrZs
import Derived.Test.YtiblijmngokcgaaGreatDoorG07Zs
import Derived.Test.YtiblijmngokcgaaGreatDoorDiskBZs
import Derived.Test.YtiblijmngokcgaaGreatDoorCodecCZs
import Derived.Deep.Cut
namespace Go.Proofs.YtiblijmngokcgaaGreatDoor
open Go.RowKit
set_option linter.unusedVariables false
set_option linter.unusedSimpArgs false
structure Hd where
 kind:Int
 stamp:Int
 base:Int
 under:Int
deriving DecidableEq,Inhabited
def Hd.l (h:Hd):List Int:=[h.kind,h.stamp,h.base,h.under]
def eK (h:Hd):Prop:=1≤h.stamp∧((h.kind=1∧h.base= -1∧h.under=0)∨(h.kind=2∧0≤h.base∧1≤h.under∧h.under<h.stamp))
instance (h:Hd):Decidable (eK h):=by unfold eK;infer_instance
def iP (L:List UInt8) (p:Nat):Except Nat (Hd×Nat):=bnd (bA L p) fun a p1=>bnd (bA L p1) fun b p2=>bnd (bA L p2) fun c p3=>bnd (bA L p3) fun d p4=> .ok (⟨a,b,c,d⟩,p4)
def fU (body:List UInt8):Option Hd:=match iP body 0 with| .ok (h,q)=>if q=body.length∧eK h then some h else none| .error _=>none
def cF (b:List UInt8):Except Nat (Hd×Nat):=if (bO b 0).2.2=0 then (match fU (bO b 0).1 with|some h=> .ok (h,(bO b 0).2.1)|none=> .error 9) else .error (bO b 0).2.2
def cR (b:List UInt8) (p:Nat):Option Stt:=match eH b p with| .ok (s,q)=>if q=b.length then some s else none| .error _=>none
inductive Got where
 |err (e:Nat)
 |full (s:Stt)
 |inc (h:Hd) (body:List UInt8)
def dJ (b:List UInt8):Got:=match cF b with
 | .error e=> .err e
 | .ok (h,at_)=>if (bO b at_).2.2=0 then (if (bO b at_).2.1=b.length then (if h.kind=1 then (match cR (bO b at_).1 0 with|some s=> .full s|none=> .err 9) else .inc h (bO b at_).1) else .err 9) else .err (bO b at_).2.2
def cM (n:Nat):Nat:=(n+3) / 4
def dI (n k:Nat):Nat:=min (k*4+4) n-k*4
def cA (a:List Int) (k:Nat):List Int:=(a.drop (k*4)).take (dI a.length k)
def iS (a:List Int) (o:Nat) (l:List Int):List Int:=a.take o++l++a.drop (o+l.length)
def jZ (a:List Int) (p:Pg):Except Nat (List Int):=if p.num<0∨(cM a.length:Int)≤p.num then .error 3 else if dI a.length p.num.toNat=p.cells.length then .ok (iS a (p.num.toNat*4) p.cells) else .error 7
def cJ:List Int→List Pg→Except Nat (List Int)
 |a,[]=> .ok a
 |a,p::l=>match jZ a p with| .ok b=>cJ b l| .error e=> .error e
def cN (a b:List Int):List Pg:=(List.range (cM b.length)).filterMap fun k=>if a.length=b.length∧cA a k=cA b k then none else some ⟨(k:Int),cA b k⟩
def dX (s:Stt) (body:List UInt8):Except Nat Stt:=match eJ body 0 with
 | .error _=> .error 9
 | .ok (ps,q)=>match cR body q with
  |none=> .error 9
  |some t=>match cJ s.cells ps with
   | .error _=> .error 9
   | .ok cells=>if t.cells=[] then .ok ⟨cells,s.evs++t.evs,s.sent++t.sent,s.outs++t.outs⟩ else .error 9
def cH (fs:List Fil) (k:Int):List UInt8:=if k<0 then [] else match fs[k.toNat]? with|some f=>f.s++f.p|none=> []
inductive LoadR (fs:List Fil):Nat→Int→Except Nat Stt→Prop
 |err {n:Nat} {k:Int} {e:Nat}:dJ (cH fs k)= .err e→LoadR fs n k (.error e)
 |full {n:Nat} {k:Int} {s:Stt}:dJ (cH fs k)= .full s→LoadR fs n k (.ok s)
 |lost {n:Nat} {k:Int} {h:Hd} {body:List UInt8}:dJ (cH fs k)= .inc h body→(∀g q,cF (cH fs h.base)= .ok (g,q)→g.stamp≠h.under)→LoadR fs n k (.error 11)
 |under {n:Nat} {k:Int} {h g:Hd} {q e:Nat} {body:List UInt8}:dJ (cH fs k)= .inc h body→cF (cH fs h.base)= .ok (g,q)→g.stamp=h.under→LoadR fs n h.base (.error e)→LoadR fs (n+1) k (.error 11)
 |grown {n:Nat} {k:Int} {h g:Hd} {q:Nat} {body:List UInt8} {s:Stt} {r:Except Nat Stt}:dJ (cH fs k)= .inc h body→cF (cH fs h.base)= .ok (g,q)→g.stamp=h.under→LoadR fs n h.base (.ok s)→dX s body=r→LoadR fs (n+1) k r
theorem LoadR.uniq {fs:List Fil} {n:Nat} {k:Int} {r:Except Nat Stt} (h:LoadR fs n k r):∀{m r'},LoadR fs m k r'→r=r' :=by
 induction h with
 |err h1=>intro m r' h2;cases h2<;>rename_i k1<;>simp_all
 |full h1=>intro m r' h2;cases h2<;>simp_all
 |lost h1 h3=>intro m r' h2;cases h2<;>simp_all
 |under h1 h3 h4 h5 ih=>
  intro m r' h2
  cases h2 with
  |err k1=>rw [h1] at k1;cases k1
  |full k1=>rw [h1] at k1;cases k1
  |lost k1 k2=>rfl
  |under k1 k3 k4 k5=>rfl
  |grown k1 k3 k4 k5 k6=>
   rw [h1] at k1
   cases k1
   cases ih k5
 |grown h1 h3 h4 h5 h6 ih=>
  intro m r' h2
  cases h2 with
  |err k1=>rw [h1] at k1;cases k1
  |full k1=>rw [h1] at k1;cases k1
  |lost k1 k2=>
   rw [h1] at k1
   cases k1
   exact absurd h4 (k2 _ _ h3)
  |under k1 k3 k4 k5=>
   rw [h1] at k1
   cases k1
   cases ih k5
  |grown k1 k3 k4 k5 k6=>
   rw [h1] at k1
   cases k1
   cases ih k5
   rw [←h6,←k6]
theorem LoadR.up {fs:List Fil} {n:Nat} {k:Int} {r:Except Nat Stt} (h:LoadR fs n k r):LoadR fs (n+1) k r:=by
 induction h with
 |err h1=>exact .err h1
 |full h1=>exact .full h1
 |lost h1 h3=>exact .lost h1 h3
 |under h1 h3 h4 h5 ih=>exact .under h1 h3 h4 ih
 |grown h1 h3 h4 h5 h6 ih=>exact .grown h1 h3 h4 ih h6
theorem pN {b:List UInt8} {h:Hd} (e:fU b=some h):eK h∧iP b 0= .ok (h,b.length):=by
 unfold fU at e
 split at e
 ·rename_i g q hq
  split at e
  ·rename_i hc
   cases e
   exact ⟨hc.2,by rw [hq,hc.1]⟩
  ·cases e
 ·cases e
theorem vG {b:List UInt8} {h:Hd} {q:Nat} (e:cF b= .ok (h,q)):(bO b 0).2.2=0∧fU (bO b 0).1=some h∧(bO b 0).2.1=q:=by
 unfold cF at e
 split at e
 ·rename_i h0
  split at e
  ·rename_i g hg
   cases e
   exact ⟨h0,hg,rfl⟩
  ·cases e
 ·cases e
theorem nW {b body:List UInt8} {h:Hd} (e:dJ b= .inc h body):∃q,cF b= .ok (h,q)∧(bO b q).2.2=0∧(bO b q).2.1=b.length∧(bO b q).1=body∧h.kind≠1:=by
 unfold dJ at e
 split at e
 ·cases e
 ·rename_i g q hq
  split at e
  ·rename_i h1
   split at e
   ·rename_i h2
    split at e
    ·split at e<;>cases e
    ·rename_i h3
     cases e
     exact ⟨q,hq,h1,h2,rfl,h3⟩
   ·cases e
  ·cases e
theorem qV {b:List UInt8} {s:Stt} (e:dJ b= .full s):∃h q,cF b= .ok (h,q)∧(bO b q).2.2=0∧(bO b q).2.1=b.length∧h.kind=1∧cR (bO b q).1 0=some s:=by
 unfold dJ at e
 split at e
 ·cases e
 ·rename_i g q hq
  split at e
  ·rename_i h1
   split at e
   ·rename_i h2
    split at e
    ·rename_i h3
     split at e
     ·rename_i s' hs
      cases e
      exact ⟨g,q,hq,h1,h2,h3,hs⟩
     ·cases e
    ·cases e
   ·cases e
  ·cases e
def zK (fs:List Fil) (z:Int):Nat:=fs.countP fun f=>match cF (f.s++f.p) with| .ok (h,_)=>decide (h.stamp≤z)| .error _=>false
theorem JU (fs:List Fil) (z:Int):zK fs z≤fs.length:=List.countP_le_length
theorem tL {α:Type} {p q:α→Bool}:∀{l:List α} (k:Nat) (x:α),l[k]? =some x→q x=true→p x=false→(∀y∈l,p y=true→q y=true)→l.countP p<l.countP q
 |[],k,x,h,_,_,_=>by simp at h
 |a::l,0,x,h,h1,h2,h3=>by
  cases h
  rw [List.countP_cons_of_pos h1,List.countP_cons_of_neg (by simp [h2])]
  have:=List.countP_mono_left (l:=l) (fun y hy=>h3 y (List.mem_cons_of_mem _ hy))
  omega
 |a::l,k+1,x,h,h1,h2,h3=>by
  have ih:=tL (l:=l) k x (by simpa using h) h1 h2 (fun y hy=>h3 y (List.mem_cons_of_mem _ hy))
  have ha:=h3 a (List.mem_cons_self ..)
  rw [List.countP_cons,List.countP_cons]
  cases hp:p a
  ·simp only [Bool.false_eq_true,if_false]
   split<;>omega
  ·rw [if_pos rfl,if_pos (ha hp)]
   omega
theorem JT {fs:List Fil} {k:Int} {h:Hd} {q:Nat} (e:cF (cH fs k)= .ok (h,q)) {z:Int} (hz:z<h.stamp):zK fs z<zK fs h.stamp:=by
 unfold cH at e
 have hn:cF []= .error 11:=rfl
 split at e
 ·rw [hn] at e;cases e
 ·split at e
  ·rename_i f hf
   refine tL k.toNat f hf ?_ ?_ ?_
   ·rw [e];simp
   ·rw [e];simp;omega
   ·intro y _ hy
    revert hy
    split
    ·simp;omega
    ·simp
  ·rw [hn] at e;cases e
theorem LoadR.ex_n (fs:List Fil):∀(n:Nat) (k:Int),(∀h q,cF (cH fs k)= .ok (h,q)→zK fs h.stamp≤n)→∃r,LoadR fs n k r
 |n,k,hc=>by
  cases ho:dJ (cH fs k) with
  |err e=>exact ⟨_,.err ho⟩
  |full s=>exact ⟨_,.full ho⟩
  |inc h body=>
   obtain ⟨q,hh,_,_,_,hk1⟩:=nW ho
   have hgood:=(pN (vG hh).2.1).1
   by_cases hl:∃g q,cF (cH fs h.base)= .ok (g,q)∧g.stamp=h.under
   ·obtain ⟨g,q',hg,hgs⟩:=hl
    have hlt:h.under<h.stamp:=by
     rcases hgood.2 with h1|h1
     ·exact absurd h1.1 hk1
     ·exact h1.2.2.2
    have h1:=JT hh hlt
    have h2:=hc _ _ hh
    match n,h2 with
    |0,h2=>omega
    |m+1,h2=>
     obtain ⟨r,hr⟩:=LoadR.ex_n fs m h.base (fun g' q'' hg' =>by
      rw [hg] at hg'
      cases hg'
      rw [hgs]
      omega)
     cases r with
     |error e=>exact ⟨_,.under ho hg hgs hr⟩
     |ok s=>exact ⟨_,.grown ho hg hgs hr rfl⟩
   ·exact ⟨_,.lost ho (fun g q hg hgs=>hl ⟨g,q,hg,hgs⟩)⟩
theorem LoadR.ex (fs:List Fil) (k:Int):∃r,LoadR fs fs.length k r:=LoadR.ex_n fs _ k (fun _ _ _=>JU _ _)
end Go.Proofs.YtiblijmngokcgaaGreatDoor
namespace Go.Proofs.YtiblijmngokcgaaGreatDoor
open Go.RowKit
set_option linter.unusedVariables false
set_option linter.unusedSimpArgs false
theorem EF (L:List UInt8):∀(n i u p t q:Nat),n+i=10→u<2^(7*i)→rdI L n i u p= .ok (t,q)→
 p<q∧q≤L.length∧∃v,t=u+v*2^(7*i)∧t<2^64∧(0<i→0<v)∧fH v=(L.take q).drop p:=by
 intro n
 induction n with
 |zero=>intro i u p t q _ _ h;simp [rdI] at h
 |succ n ih=>
  intro i u p t q hni hu h
  cases hc:L[p]? with
  |none=>rw [pZ hc] at h;cases h
  |some c=>
   have hpl:p<L.length:=(List.getElem?_eq_some_iff.1 hc).1
   have hlt:=c.toNat_lt
   by_cases hb:(i=9∧1<c.toNat)∨(0<i∧c.toNat=0)
   ·rw [mJ hc hb] at h;cases h
   ·by_cases h1:c.toNat<128
    ·rw [kJ hc hb h1] at h
     injection h with h;injection h with ht hq
     subst ht hq
     have hv:=lB (i:=i) (u:=u) (c:=c.toNat) (by omega) hu hlt (by omega)
     rw [Nat.mod_eq_of_lt h1] at hv
     refine ⟨by omega,by omega,c.toNat,rfl,by simpa using hv,by omega,?_⟩
     rw [kL h1,List.take_add_one,hc,List.drop_append,List.drop_eq_nil_of_le (by simp;omega)]
     simp only [List.length_take,Option.toList_some]
     rw [show min p L.length=p by omega,Nat.sub_self]
     simp
    ·rw [nS hc hb h1] at h
     have hi9:i<9:=by omega
     have hu2:=oE (i:=i) (u:=u) (x:=c.toNat-128) (by omega) hu (by omega)
     obtain ⟨hp,hq,v,hv,h64,hpos,he⟩:=ih (i+1) _ (p+1) t q (by omega) hu2 h
     refine ⟨by omega,hq,(c.toNat-128)+v*128,?_,h64,by omega,?_⟩
     ·have e1:(2:Nat)^(7*(i+1))=128*2^(7*i):=by rw [show 7*(i+1)=7+7*i by omega,Nat.pow_add]
      rw [hv,e1,Nat.add_mul,Nat.mul_assoc v 128,Nat.add_assoc]
     ·have hv0:=hpos (by omega)
      rw [pG (by omega),show ((c.toNat-128)+v*128)%128+128=c.toNat by omega,show ((c.toNat-128)+v*128) / 128=v by omega,he]
      have hd:(L.take q).drop p=c::(L.take q).drop (p+1):=by
       have h3:p<(L.take q).length:=by simp;omega
       rw [List.drop_eq_getElem_cons h3]
       congr 1
       rw [List.getElem_take]
       exact (List.getElem?_eq_some_iff.1 hc).2
      rw [hd,UInt8.ofNat_toNat]
theorem LT (t:Nat):zz (zd t)=t:=by
 unfold zd zz
 by_cases h:t%2=0
 ·rw [if_pos h,if_pos (by omega)];omega
 ·rw [if_neg h,if_neg (by omega)];omega
structure Seg (L:List UInt8) (p q:Nat) (l:List Int):Prop where
 lo:p+l.length≤q
 hi:q≤L.length
 inr:∀z∈l,InR z
 eq:aK l=(L.take q).drop p
theorem zY {L:List UInt8} {p q r:Nat} (h1:p≤q) (h2:q≤r) (hr:r≤L.length):(L.take q).drop p++(L.take r).drop q=(L.take r).drop p:=by
 have h3:L.take r=L.take q++(L.take r).drop q:=by
  have:=List.take_append_drop q (L.take r)
  rw [List.take_take,Nat.min_eq_left h2] at this
  exact this.symm
 conv=>rhs;rw [h3,List.drop_append,show p-(L.take q).length=0 by simp;omega]
 rfl
theorem Seg.nil_ {L:List UInt8} {p:Nat} (h:p≤L.length):Seg L p p []:=⟨by simp,h,fun z hz=>by simp at hz,by simp [aK]⟩
theorem Seg.app {L:List UInt8} {p q r:Nat} {a b:List Int} (h1:Seg L p q a) (h2:Seg L q r b):Seg L p r (a++b):=by
 have e1:=h1.lo
 have e2:=h2.lo
 refine ⟨by simp;omega,h2.hi,fun z hz=> ?_,?_⟩
 ·rcases List.mem_append.1 hz with hz|hz
  ·exact h1.inr z hz
  ·exact h2.inr z hz
 ·rw [gG,h1.eq,h2.eq,zY (by omega) (by omega) h2.hi]
theorem dC {α β:Type} {x:Except Nat (α×Nat)} {f:α→Nat→Except Nat (β×Nat)} {y:β×Nat} (h:bnd x f= .ok y):∃a q,x= .ok (a,q)∧f a q= .ok y:=by
 cases x with
 |error k=>cases h
 |ok v=>exact ⟨v.1,v.2,rfl,h⟩
theorem cI {L:List UInt8} {p:Nat} {a:Int} {q:Nat} (h:bA L p= .ok (a,q)):Seg L p q [a]:=by
 unfold bA rdU at h
 cases hr:rdI L 10 0 0 p with
 |error k=>rw [hr] at h;cases h
 |ok x=>
  obtain ⟨t,q'⟩:=x
  rw [hr] at h
  injection h with h;injection h with ha hq
  subst ha hq
  obtain ⟨hp,hq,v,hv,h64,_,he⟩:=EF L 10 0 0 p t q' rfl (by decide) hr
  have hvt:t=v:=by simpa using hv
  subst hvt
  refine ⟨by simp;omega,hq,?_,?_⟩
  ·intro z hz
   simp at hz
   subst hz
   unfold zd InR
   split<;>constructor<;>omega
  ·simp [aK,cZ,LT,he]
theorem EI {L:List UInt8} {p:Nat} {a:Ev} {q:Nat} (h:dG L p= .ok (a,q)):Seg L p q a.l:=by
 unfold dG at h
 obtain ⟨a0,p0,h0,h⟩:=dC h
 obtain ⟨a1,p1,h1,h⟩:=dC h
 obtain ⟨a2,p2,h2,h⟩:=dC h
 obtain ⟨a3,p3,h3,h⟩:=dC h
 obtain ⟨a4,p4,h4,h⟩:=dC h
 obtain ⟨a5,p5,h5,h⟩:=dC h
 obtain ⟨a6,p6,h6,h⟩:=dC h
 injection h with h;injection h with ha hq
 subst ha hq
 exact (cI h0).app ((cI h1).app ((cI h2).app ((cI h3).app ((cI h4).app ((cI h5).app (cI h6))))))
theorem DX {L:List UInt8} {p:Nat} {a:Snd} {q:Nat} (h:eA L p= .ok (a,q)):Seg L p q a.l:=by
 unfold eA at h
 obtain ⟨a0,p0,h0,h⟩:=dC h
 obtain ⟨a1,p1,h1,h⟩:=dC h
 obtain ⟨a2,p2,h2,h⟩:=dC h
 obtain ⟨a3,p3,h3,h⟩:=dC h
 injection h with h;injection h with ha hq
 subst ha hq
 exact (cI h0).app ((cI h1).app ((cI h2).app (cI h3)))
theorem ED {L:List UInt8} {p:Nat} {a:Ou} {q:Nat} (h:eM L p= .ok (a,q)):Seg L p q a.l:=by
 unfold eM at h
 obtain ⟨a0,p0,h0,h⟩:=dC h
 obtain ⟨a1,p1,h1,h⟩:=dC h
 injection h with h;injection h with ha hq
 subst ha hq
 exact (cI h0).app (cI h1)
theorem AO {α:Type} {L:List UInt8} {f:Nat→Except Nat (α×Nat)} {b:α→List Int} (hf:∀p a q,f p= .ok (a,q)→Seg L p q (b a)):∀(n p:Nat) (l:List α) (q:Nat),p≤L.length→dD f n p= .ok (l,q)→Seg L p q (l.flatMap b)∧l.length=n:=by
 intro n
 induction n with
 |zero=>
  intro p l q hp h
  rw [dD] at h
  injection h with h;injection h with ha hq
  subst ha hq
  exact ⟨Seg.nil_ hp,rfl⟩
 |succ n ih=>
  intro p l q hp h
  rw [dD] at h
  obtain ⟨a,p1,h1,h⟩:=dC h
  obtain ⟨l',p2,h2,h⟩:=dC h
  injection h with h;injection h with ha hq
  subst ha hq
  have s1:=hf _ _ _ h1
  obtain ⟨s2,hl⟩:=ih _ _ _ s1.hi h2
  exact ⟨by rw [List.flatMap_cons];exact s1.app s2,by simp [hl]⟩
theorem iN {α:Type} {L:List UInt8} {f:Nat→Except Nat (α×Nat)} {b:α→List Int} (hf:∀p a q,f p= .ok (a,q)→Seg L p q (b a)) {p:Nat} {l:List α} {q:Nat} (h:bB f L p= .ok (l,q)):Seg L p q ([(l.length:Int)]++l.flatMap b):=by
 unfold bB at h
 obtain ⟨n,p1,h1,h⟩:=dC h
 have s1:=cI h1
 by_cases hb:n<0∨(L.length:Int)-(p1:Int)<n
 ·rw [if_pos hb] at h;cases h
 ·rw [if_neg hb] at h
  obtain ⟨s2,hl⟩:=AO hf _ _ _ _ s1.hi h
  have:(l.length:Int)=n:=by omega
  rw [this]
  exact s1.app s2
theorem FZ (l:List Int):l.flatMap (fun a=> [a])=l:=by
 induction l with
 |nil=>rfl
 |cons a l ih=>rw [List.flatMap_cons,ih];rfl
theorem qT {L:List UInt8} {p:Nat} {l:List Int} {q:Nat} (h:bB (bA L) L p= .ok (l,q)):Seg L p q ([(l.length:Int)]++l):=by
 have:=iN (b:=fun a=> [a]) (fun p a q h=>cI h) h
 rwa [FZ] at this
theorem EB {L:List UInt8} {p:Nat} {a:Pg} {q:Nat} (h:eR L p= .ok (a,q)):Seg L p q a.l:=by
 unfold eR at h
 obtain ⟨a0,p0,h0,h⟩:=dC h
 obtain ⟨a1,p1,h1,h⟩:=dC h
 injection h with h;injection h with ha hq
 subst ha hq
 exact (cI h0).app (qT h1)
theorem sR {L:List UInt8} {p:Nat} {a:List Pg} {q:Nat} (h:eJ L p= .ok (a,q)):Seg L p q (pgL a):=iN (fun p a q h=>EB h) h
theorem DU {L:List UInt8} {p:Nat} {a:Stt} {q:Nat} (h:eH L p= .ok (a,q)):Seg L p q a.l:=by
 unfold eH at h
 obtain ⟨a0,p0,h0,h⟩:=dC h
 obtain ⟨a1,p1,h1,h⟩:=dC h
 obtain ⟨a2,p2,h2,h⟩:=dC h
 obtain ⟨a3,p3,h3,h⟩:=dC h
 injection h with h;injection h with ha hq
 subst ha hq
 have:=((qT h0).app ((iN (fun p a q h=>EI h) h1).app ((iN (fun p a q h=>DX h) h2).app (iN (fun p a q h=>ED h) h3))))
 have hl:Stt.l ⟨a0,a1,a2,a3⟩=([(a0.length:Int)]++a0)++(([(a1.length:Int)]++a1.flatMap Ev.l)++(([(a2.length:Int)]++a2.flatMap Snd.l)++([(a3.length:Int)]++a3.flatMap Ou.l))):=by
  simp only [Stt.l,List.append_assoc]
 rw [hl]
 exact this
def Er {α:Type} (x:Except Nat (α×Nat)):Prop:=∀k,x= .error k→k≠0
theorem Er.ok_ {α:Type} (y:α×Nat):Er (.ok y):=fun k h=>by cases h
theorem Er.bnd_ {α β:Type} {x:Except Nat (α×Nat)} {f:α→Nat→Except Nat (β×Nat)} (h:Er x) (hf:∀a q,Er (f a q)):Er (bnd x f):=by
 intro k hk
 cases x with
 |error e=>injection hk with hk;subst hk;exact h _ rfl
 |ok y=>exact hf y.1 y.2 k hk
theorem KT (L:List UInt8):∀(n i u p k:Nat),rdI L n i u p= .error k→k≠0:=by
 intro n
 induction n with
 |zero=>intro i u p k h;rw [rdI] at h;injection h with h;omega
 |succ n ih=>
  intro i u p k h
  cases hc:L[p]? with
  |none=>rw [pZ hc] at h;injection h with h;omega
  |some c=>
   by_cases hb:(i=9∧1<c.toNat)∨(0<i∧c.toNat=0)
   ·rw [mJ hc hb] at h;injection h with h;omega
   ·by_cases h1:c.toNat<128
    ·rw [kJ hc hb h1] at h;cases h
    ·rw [nS hc hb h1] at h;exact ih _ _ _ _ h
theorem dF (L:List UInt8) (p:Nat):Er (bA L p):=by
 intro k h
 unfold bA rdU at h
 cases hr:rdI L 10 0 0 p with
 |error e=>rw [hr] at h;injection h with h;subst h;exact KT _ _ _ _ _ _ hr
 |ok x=>rw [hr] at h;cases h
theorem IS (L:List UInt8) (p:Nat):Er (dG L p):=
 (dF _ _).bnd_ fun _ _=>(dF _ _).bnd_ fun _ _=>(dF _ _).bnd_ fun _ _=>(dF _ _).bnd_ fun _ _=>(dF _ _).bnd_ fun _ _=>(dF _ _).bnd_ fun _ _=>(dF _ _).bnd_ fun _ _=>Er.ok_ _
theorem iOq (L:List UInt8) (p:Nat):Er (eA L p):=
 (dF _ _).bnd_ fun _ _=>(dF _ _).bnd_ fun _ _=>(dF _ _).bnd_ fun _ _=>(dF _ _).bnd_ fun _ _=>Er.ok_ _
theorem IQ (L:List UInt8) (p:Nat):Er (eM L p):=(dF _ _).bnd_ fun _ _=>(dF _ _).bnd_ fun _ _=>Er.ok_ _
theorem DZ {α:Type} {f:Nat→Except Nat (α×Nat)} (hf:∀p,Er (f p)):∀n p,Er (dD f n p):=by
 intro n
 induction n with
 |zero=>intro p;exact Er.ok_ _
 |succ n ih=>intro p;exact (hf p).bnd_ fun _ q=>(ih q).bnd_ fun _ _=>Er.ok_ _
theorem iG {α:Type} {f:Nat→Except Nat (α×Nat)} (hf:∀p,Er (f p)) (L:List UInt8) (p:Nat):Er (bB f L p):=
 (dF _ _).bnd_ fun n q=>by
  intro k h
  by_cases hb:n<0∨(L.length:Int)-(q:Int)<n
  ·rw [if_pos hb] at h;injection h with h;omega
  ·rw [if_neg hb] at h;exact DZ hf _ _ _ h
theorem IP (L:List UInt8) (p:Nat):Er (eR L p):=(dF _ _).bnd_ fun _ _=>(iG (dF L) _ _).bnd_ fun _ _=>Er.ok_ _
theorem EA (L:List UInt8) (p:Nat):Er (eJ L p):=iG (IP L) _ _
theorem IN (L:List UInt8) (p:Nat):Er (eH L p):=
 (iG (dF L) _ _).bnd_ fun _ _=>(iG (IS L) _ _).bnd_ fun _ _=>(iG (iOq L) _ _).bnd_ fun _ _=>(iG (IQ L) _ _).bnd_ fun _ _=>Er.ok_ _
def OneAt (L:List UInt8) (q x:Int) (l:List Int):Prop:=x=0→∃n:Nat,q=n∧Seg L 0 n l
theorem OneAt.er {L:List UInt8} {q x:Int} {l:List Int} {k:Nat} (hk:k≠0) (hx:x=k):OneAt L q x l:=fun h=>absurd h (by omega)
theorem Pgs.lt_ {S:Nat→Prop} {w:World} {v:Value} {ps:List Pg} (h:Pgs S w v ps):Pgs (·<w.heap.size) w v ps:=by
 obtain ⟨xs,h1,h2,h3⟩:=h
 exact ⟨xs,h1.mono fun b hb _=>hb,h2,fun i x p hx hp=>⟨(h3 i x p hx hp).1,(h3 i x p hx hp).2.mono fun b hb _=>hb⟩⟩
end Go.Proofs.YtiblijmngokcgaaGreatDoor
namespace Go.Proofs.YtiblijmngokcgaaGreatDoor
open Go.RowKit
set_option linter.unusedVariables false
set_option linter.unusedSimpArgs false
theorem pD {α:Type} (b:α→List Int) (hb:∀a,1≤(b a).length) (l:List α):l.length≤(l.flatMap b).length:=by
 induction l with
 |nil=>simp
 |cons a l ih=>rw [List.flatMap_cons,List.length_append,List.length_cons];have:=hb a;omega
structure SzSt (m:Nat) (s:Stt):Prop where
 ok:SttOk s
 c:s.cells.length≤4096
 e:s.evs.length≤m
 sn:s.sent.length≤m
 o:s.outs.length≤m
theorem SzSt.up {m m' :Nat} {s:Stt} (h:SzSt m s) (hm:m≤m'):SzSt m' s:=⟨h.ok,h.c,Nat.le_trans h.e hm,Nat.le_trans h.sn hm,Nat.le_trans h.o hm⟩
theorem KU {L:List UInt8} {p q:Nat} {ps:List Pg} (h:Seg L p q (pgL ps)) (hL:L.length≤1000000):(∀x∈ps,wB x)∧ps.length≤L.length:=by
 have h1:=h.lo
 have h2:=h.hi
 have h3:(pgL ps).length=1+(ps.flatMap Pg.l).length:=by simp [pgL];omega
 have h4:=pD Pg.l (fun a=>by simp [Pg.l]) ps
 refine ⟨fun x hx=> ?_,by omega⟩
 have hz:∀z∈x.l,InR z:=fun z hz=>h.inr z (List.mem_append_right _ (List.mem_flatMap.2 ⟨x,hx,hz⟩))
 have h5:x.l.length≤(ps.flatMap Pg.l).length:=by
  obtain ⟨s,t,rfl⟩:=List.append_of_mem hx
  simp
  omega
 have h6:x.l.length=2+x.cells.length:=by simp [Pg.l];omega
 exact ⟨hz _ (by simp [Pg.l]),fun z hzz=>hz z (by simp [Pg.l,hzz]),by omega⟩
theorem MA {L:List UInt8} {p q:Nat} {s:Stt} (h:Seg L p q s.l) (hL:L.length≤4096):SzSt 4096 s:=by
 have h1:=h.lo
 have h2:=h.hi
 have h3:s.l.length=4+s.cells.length+(s.evs.flatMap Ev.l).length+(s.sent.flatMap Snd.l).length+(s.outs.flatMap Ou.l).length:=by simp only [Stt.l,List.length_append,List.length_cons,List.length_nil];omega
 have g1:=pD Ev.l (fun a=>by simp [Ev.l]) s.evs
 have g2:=pD Snd.l (fun a=>by simp [Snd.l]) s.sent
 have g3:=pD Ou.l (fun a=>by simp [Ou.l]) s.outs
 refine ⟨⟨fun z hz=>h.inr z (by simp [Stt.l,hz]),fun e he z hz=>h.inr z ?_,fun e he z hz=>h.inr z ?_,fun e he z hz=>h.inr z ?_,by omega⟩,by omega,by omega,by omega,by omega⟩
 ·have:z∈s.evs.flatMap Ev.l:=List.mem_flatMap.2 ⟨e,he,hz⟩
  simp only [Stt.l,List.mem_append]
  simp only [this,true_or,or_true]
 ·have:z∈s.sent.flatMap Snd.l:=List.mem_flatMap.2 ⟨e,he,hz⟩
  simp only [Stt.l,List.mem_append]
  simp only [this,true_or,or_true]
 ·have:z∈s.outs.flatMap Ou.l:=List.mem_flatMap.2 ⟨e,he,hz⟩
  simp only [Stt.l,List.mem_append]
  simp only [this,true_or,or_true]
theorem zV {b:List UInt8} {p:Nat} {s:Stt} (h:cR b p=some s):eH b p= .ok (s,b.length):=by
 unfold cR at h
 split at h
 ·rename_i s' q hq
  split at h
  ·rename_i he
   cases h
   rw [hq,he]
  ·cases h
 ·cases h
theorem kR {b:List UInt8} {p:Nat} {s:Stt} (hb:b.length≤4096) (h:cR b p=some s):SzSt 4096 s:=MA (DU (zV h)) hb
theorem lM (b:List UInt8) (q:Int):(bO b q).1.length≤4096:=by
 unfold bO
 repeat' split
 all_goals simp
 omega
theorem uZ (a l:List Int) (o:Nat) (h:o+l.length≤a.length):(iS a o l).length=a.length:=by
 unfold iS
 simp
 omega
theorem FK {a l:List Int} {o:Nat} {z:Int} (h:z∈iS a o l):z∈a∨z∈l:=by
 unfold iS at h
 rcases List.mem_append.1 h with h|h
 ·rcases List.mem_append.1 h with h|h
  ·exact .inl (List.mem_of_mem_take h)
  ·exact .inr h
 ·exact .inl (List.mem_of_mem_drop h)
theorem JW {a b:List Int} {p:Pg} (h:jZ a p= .ok b):0≤p.num∧p.num<(cM a.length:Int)∧dI a.length p.num.toNat=p.cells.length∧b=iS a (p.num.toNat*4) p.cells∧b.length=a.length:=by
 unfold jZ at h
 split at h
 ·cases h
 ·rename_i h1
  split at h
  ·rename_i h2
   cases h
   refine ⟨by omega,by omega,h2,rfl,uZ _ _ _ ?_⟩
   rw [←h2]
   unfold dI
   unfold cM at h1
   omega
  ·cases h
theorem tP:∀{ps:List Pg} {a b:List Int},cJ a ps= .ok b→(∀z∈a,InR z)→(∀p∈ps,wB p)→b.length=a.length∧∀z∈b,InR z
 |[],a,b,h,ha,_=>by
  unfold cJ at h
  cases h
  exact ⟨rfl,ha⟩
 |p::l,a,b,h,ha,hp=>by
  unfold cJ at h
  split at h
  ·rename_i c hc
   obtain ⟨_,_,_,h4,h5⟩:=JW hc
   have:=tP (ps:=l) h (fun z hz=>by
    rw [h4] at hz
    rcases FK hz with hz|hz
    ·exact ha z hz
    ·exact (hp p (List.mem_cons_self ..)).2.1 z hz) (fun x hx=>hp x (List.mem_cons_of_mem _ hx))
   exact ⟨this.1.trans h5,this.2⟩
  ·cases h
theorem FT {s r:Stt} {body:List UInt8} (h:dX s body= .ok r):∃ps q t cells,eJ body 0= .ok (ps,q)∧cR body q=some t∧cJ s.cells ps= .ok cells∧t.cells=[]∧r=⟨cells,s.evs++t.evs,s.sent++t.sent,s.outs++t.outs⟩:=by
 unfold dX at h
 split at h
 ·cases h
 ·rename_i ps q hq
  split at h
  ·cases h
  ·rename_i t ht
   split at h
   ·cases h
   ·rename_i c hc
    split at h
    ·rename_i h0
     cases h
     exact ⟨ps,q,t,c,hq,ht,hc,h0,rfl⟩
    ·cases h
theorem FQ {s r:Stt} {body:List UInt8} {m:Nat} (hs:SzSt m s) (hb:body.length≤4096) (h:dX s body= .ok r):SzSt (m+4096) r:=by
 obtain ⟨ps,q,t,cells,h1,h2,h3,h4,rfl⟩:=FT h
 have hp:=KU (sR h1) (by omega)
 have ht:=kR hb h2
 have ha:=tP h3 hs.ok.cells hp.1
 have:=hs.c
 have:=hs.e
 have:=hs.sn
 have:=hs.o
 have:=ht.e
 have:=ht.sn
 have:=ht.o
 refine ⟨⟨ha.2,fun e he=> ?_,fun e he=> ?_,fun e he=> ?_,by show cells.length≤_;omega⟩,by show cells.length≤_;omega,by simp;omega,by simp;omega,by simp;omega⟩
 ·rcases List.mem_append.1 he with he|he
  ·exact hs.ok.evs e he
  ·exact ht.ok.evs e he
 ·rcases List.mem_append.1 he with he|he
  ·exact hs.ok.sent e he
  ·exact ht.ok.sent e he
 ·rcases List.mem_append.1 he with he|he
  ·exact hs.ok.outs e he
  ·exact ht.ok.outs e he
theorem LoadR.sz {fs:List Fil} {n:Nat} {k:Int} {s:Stt} (h:LoadR fs n k (.ok s)):SzSt ((n+1)*4096) s:=by
 suffices hh:∀r,LoadR fs n k r→∀s,r= .ok s→SzSt ((n+1)*4096) s from hh _ h _ rfl
 clear h s
 intro r hr
 induction hr with
 |err=>intro s hs;cases hs
 |full h1=>
  intro s hs
  cases hs
  obtain ⟨_,_,_,_,_,_,hw⟩:=qV h1
  exact (kR (lM _ _) hw).up (by omega)
 |lost=>intro s hs;cases hs
 |under=>intro s hs;cases hs
 |grown h1 h2 h3 h4 h5 ih=>
  intro s hs
  subst hs
  obtain ⟨_,_,_,_,hb,_⟩:=nW h1
  exact (FQ (ih _ rfl) (by rw [←hb];exact lM _ _) h5).up (by omega)
end Go.Proofs.YtiblijmngokcgaaGreatDoor
namespace Go.Proofs.YtiblijmngokcgaaGreatDoor
open Go.RowKit
set_option linter.unusedVariables false
set_option linter.unusedSimpArgs false
theorem sP {b pre post li:List UInt8} (hb:b=pre++(cX li++post)) (hl:li.length≤4096):bO b pre.length=(li,pre.length+8+li.length,0):=by
 have d0:b.drop pre.length=cX li++post:=by rw [hb,List.drop_left]
 have e1:(b.drop pre.length).take 4=le4 li.length:=by rw [d0];simp [cX,gR,le4]
 have e2:(b.drop (pre.length+4)).take 4=le4 (gT li):=by rw [←List.drop_drop,d0];simp [cX,gR,le4]
 have e3:(b.drop (pre.length+8)).take li.length=li:=by rw [←List.drop_drop,d0];simp [cX,gR,le4]
 have n1:num ((b.drop pre.length).take 4)=li.length:=by rw [e1,rY _ (by omega)]
 have hlen:pre.length+8+li.length≤b.length:=by rw [hb,List.length_append,List.length_append,eD];omega
 have h:=qD (b:=b) (k:=pre.length) (by omega) (by rw [n1];exact hl) (by rw [n1];exact hlen) (by rw [n1,e3,e2,rY _ (II _)])
 rw [n1,e3] at h
 exact h
def ckF (h:Hd) (body:List UInt8):List UInt8:=cX (aK h.l)++cX body
structure HdIn (h:Hd):Prop where
 good:eK h
 inr:∀z∈h.l,InR z
theorem vI {h:Hd} (hi:∀z∈h.l,InR z):(aK h.l).length≤40:=cE _ hi
theorem EH {L post:List UInt8} {p:Nat} {h:Hd} (hz:∀z∈h.l,InR z) (e:L.drop p=aK h.l++post):iP L p= .ok (h,p+(aK h.l).length):=by
 obtain ⟨a,b,c,d⟩:=h
 have e0:L.drop p=cZ a++(cZ b++(cZ c++(cZ d++post))):=by rw [e];simp [Hd.l,aK]
 have e1:=cT e0
 have e2:=cT e1
 have e3:=cT e2
 unfold iP
 rw [aR (cO (hz a (by simp [Hd.l])) e0),aR (cO (hz b (by simp [Hd.l])) e1),aR (cO (hz c (by simp [Hd.l])) e2),aR (cO (hz d (by simp [Hd.l])) e3)]
 simp [Hd.l,aK]
 omega
theorem yP {h:Hd} (hi:HdIn h):fU (aK h.l)=some h:=by
 unfold fU
 rw [EH hi.inr (L:=aK h.l) (p:=0) (post:=[]) (by simp)]
 simp [hi.good]
theorem jD {h:Hd} {body more:List UInt8} (hi:HdIn h):cF (cX (aK h.l)++more)= .ok (h,8+(aK h.l).length):=by
 have h1:=sP (b:=cX (aK h.l)++more) (pre:=[]) (post:=more) (li:=aK h.l) rfl (by have:=vI hi.inr;omega)
 unfold cF
 have h2:bO (cX (aK h.l)++more) 0=(aK h.l,8+(aK h.l).length,0):=by simpa using h1
 rw [h2]
 simp [yP hi]
theorem tM {h:Hd} {body:List UInt8} (hi:HdIn h) (hb:body.length≤4096):bO (ckF h body) ((8+(aK h.l).length:Nat):Int)=(body,(ckF h body).length,0):=by
 have h1:=sP (b:=ckF h body) (pre:=cX (aK h.l)) (post:=[]) (li:=body) (by simp [ckF]) hb
 rw [eD] at h1
 rw [h1]
 simp [ckF,eD]
 omega
theorem AY {h:Hd} {body:List UInt8} {s:Stt} (hi:HdIn h) (hb:body.length≤4096) (hk:h.kind=1) (hw:cR body 0=some s):dJ (ckF h body)= .full s:=by
 unfold dJ
 have h1:cF (ckF h body)= .ok (h,8+(aK h.l).length):=jD (body:=body) hi
 rw [h1]
 simp only []
 rw [tM hi hb]
 simp [hk,hw]
theorem uN {h:Hd} {body:List UInt8} (hi:HdIn h) (hb:body.length≤4096) (hk:h.kind≠1):dJ (ckF h body)= .inc h body:=by
 unfold dJ
 have h1:cF (ckF h body)= .ok (h,8+(aK h.l).length):=jD (body:=body) hi
 rw [h1]
 simp only []
 rw [tM hi hb]
 simp [hk]
theorem rV {s:Stt} (h:SttOk s) (h2:s.evs.length≤1000000) (h3:s.sent.length≤1000000) (h4:s.outs.length≤1000000):∀z∈s.l,InR z:=by
 have h1:=h.small
 have len:∀n:Nat,n≤2000000→InR (n:Int):=fun n hn=>⟨by omega,by omega⟩
 intro z hz
 simp only [Stt.l,List.mem_append,List.mem_singleton,List.mem_flatMap] at hz
 rcases hz with ((((((hz|hz)|hz)|⟨e,he,hz⟩)|hz)|⟨e,he,hz⟩)|hz)|⟨e,he,hz⟩
 ·rw [hz];exact len _ (by omega)
 ·exact h.cells z hz
 ·rw [hz];exact len _ (by omega)
 ·exact h.evs e he z hz
 ·rw [hz];exact len _ (by omega)
 ·exact h.sent e he z hz
 ·rw [hz];exact len _ (by omega)
 ·exact h.outs e he z hz
theorem sL {s:Stt} (h:SttOk s) (h1:s.cells.length≤1000000) (h2:s.evs.length≤1000000) (h3:s.sent.length≤1000000) (h4:s.outs.length≤1000000) (pre:List UInt8):cR (pre++aK s.l) pre.length=some s:=by
 have:=DW (L:=pre++aK s.l) (p:=pre.length) (post:=[]) (rV h h2 h3 h4) h1 h2 h3 h4 (by simp)
 unfold cR
 rw [this]
 simp
theorem gM (a:List Int) (k:Nat):(cA a k).length=dI a.length k:=by
 unfold cA dI
 rw [List.length_take,List.length_drop]
 omega
theorem kT (a:List Int) (k i:Nat) (hi:i<4):(cA a k)[i]? =a[k*4+i]? :=by
 unfold cA dI
 rw [List.getElem?_take,List.getElem?_drop]
 split
 ·rfl
 ·rw [List.getElem?_eq_none (by omega)]
theorem FL (a l:List Int) (o i:Nat) (h:o+l.length≤a.length):(iS a o l)[i]? =if o≤i∧i<o+l.length then l[i-o]? else a[i]? :=by
 unfold iS
 rw [List.append_assoc,List.getElem?_append]
 have ht:(a.take o).length=o:=by rw [List.length_take];omega
 rw [ht]
 split
 ·rename_i h1
  rw [if_neg (by omega),List.getElem?_take,if_pos h1]
 ·rename_i h1
  rw [List.getElem?_append]
  split
  ·rename_i h2
   rw [if_pos (by omega)]
  ·rename_i h2
   rw [if_neg (by omega),List.getElem?_drop]
   congr 1
   omega
def mD (a b:List Int) (m:Nat):List Int:=b.take (m*4)++a.drop (m*4)
theorem EZ {a b:List Int} (m:Nat) (h:a.length=b.length):(mD a b m).length=a.length:=by
 unfold mD
 simp
 omega
theorem kX {a b:List Int} (m i:Nat) (h:a.length=b.length):(mD a b m)[i]? =if i<m*4 then b[i]? else a[i]? :=by
 unfold mD
 rw [List.getElem?_append,List.length_take]
 by_cases h1:i<m*4
 ·rw [if_pos h1]
  by_cases h2:i<b.length
  ·rw [if_pos (by omega),List.getElem?_take,if_pos h1]
  ·rw [if_neg (by omega),List.getElem?_drop,List.getElem?_eq_none (by omega),List.getElem?_eq_none (by omega)]
 ·rw [if_neg h1,if_neg (by omega),List.getElem?_drop]
  by_cases h2:i<a.length
  ·congr 1;omega
  ·rw [List.getElem?_eq_none (by omega),List.getElem?_eq_none (by omega)]
theorem BH {a b:List Int} {m:Nat} (h:a.length=b.length) (hp:cA a m=cA b m):mD a b (m+1)=mD a b m:=by
 apply List.ext_getElem?
 intro i
 rw [kX _ _ h,kX _ _ h]
 by_cases h1:i<m*4
 ·rw [if_pos (by omega),if_pos h1]
 ·rw [if_neg h1]
  split
  ·have e1:=kT a m (i-m*4) (by omega)
   have e2:=kT b m (i-m*4) (by omega)
   rw [show m*4+(i-m*4)=i by omega] at e1 e2
   rw [←e1,←e2,hp]
  ·rfl
theorem BG {a b:List Int} {m:Nat} (h:a.length=b.length) (hm:m<cM b.length):jZ (mD a b m) ⟨(m:Int),cA b m⟩= .ok (mD a b (m+1)):=by
 have hl:=EZ (a:=a) (b:=b) m h
 have hc:m*4<b.length:=by unfold cM at hm;omega
 have hpl:(cA b m).length=dI b.length m:=gM b m
 unfold jZ
 rw [if_neg (by rw [hl,h];simp;omega),if_pos (by rw [hl,h];simpa using hpl.symm)]
 congr 1
 apply List.ext_getElem?
 intro i
 have e0:((m:Int)).toNat=m:=rfl
 simp only [e0]
 rw [FL _ _ _ _ (by rw [hpl,hl,h];unfold dI;omega),kX _ _ h,kX _ _ h,hpl]
 have hpL:dI b.length m=min (m*4+4) b.length-m*4:=rfl
 by_cases h1:i<m*4
 ·rw [if_neg (by omega),if_pos h1,if_pos (by omega)]
 ·by_cases h2:i<(m+1)*4
  ·rw [if_pos h2]
   by_cases h3:i<b.length
   ·rw [if_pos (by omega),kT b m _ (by omega)]
    congr 1
    omega
   ·rw [if_neg (by omega),if_neg h1,List.getElem?_eq_none (by omega),List.getElem?_eq_none (by omega)]
  ·rw [if_neg (by omega),if_neg h1,if_neg h2]
theorem rU (a:List Int):∀(l m:List Pg),cJ a (l++m)=(match cJ a l with| .ok b=>cJ b m| .error e=> .error e)
 |[],m=>by simp [cJ]
 |p::l,m=>by
  rw [List.cons_append,cJ,cJ]
  cases jZ a p with
  |ok b=>exact rU b l m
  |error e=>rfl
theorem zO {a b:List Int} (h:a.length=b.length):cJ a (cN a b)= .ok b:=by
 have key:∀m,m≤cM b.length→cJ a ((List.range m).filterMap fun k=>if a.length=b.length∧cA a k=cA b k then none else some (⟨(k:Int),cA b k⟩:Pg))= .ok (mD a b m):=by
  intro m
  induction m with
  |zero=>intro _;simp [cJ,mD]
  |succ m ih=>
   intro hm
   rw [List.range_succ,List.filterMap_append,rU,ih (by omega)]
   by_cases hp:cA a m=cA b m
   ·simp [h,hp,cJ,BH h hp]
   ·have:=BG h (show m<cM b.length by omega)
    simp [h,hp,cJ,this]
 have:=key _ (Nat.le_refl _)
 unfold cN
 rw [this]
 congr 1
 apply List.ext_getElem?
 intro i
 rw [kX _ _ h]
 split
 ·rfl
 ·rename_i h1
  unfold cM at h1
  rw [List.getElem?_eq_none (by omega),List.getElem?_eq_none (by omega)]
def dO (s u:Stt):Stt:=⟨[],s.evs.drop u.evs.length,s.sent.drop u.sent.length,s.outs.drop u.outs.length⟩
def dN (s u:Stt):List UInt8:=aK (pgL (cN u.cells s.cells))++aK (dO s u).l
structure ExtM (s u:Stt):Prop where
 c:s.cells.length=u.cells.length
 e:u.evs<+:s.evs
 sn:u.sent<+:s.sent
 o:u.outs<+:s.outs
theorem qA {α:Type} {a b:List α} (h:a<+:b):a++b.drop a.length=b:=by
 obtain ⟨t,rfl⟩:=h
 simp
theorem lV {a b:List Int} {p:Pg} (h:p∈cN a b):∃k,k<cM b.length∧p=⟨(k:Int),cA b k⟩:=by
 unfold cN at h
 obtain ⟨k,hk,he⟩:=List.mem_filterMap.1 h
 split at he
 ·cases he
 ·cases he
  exact ⟨k,by simpa using hk,rfl⟩
theorem lW (a b:List Int):(cN a b).length≤cM b.length:=by
 unfold cN
 have:=List.length_filterMap_le (fun k=>if a.length=b.length∧cA a k=cA b k then none else some (⟨(k:Int),cA b k⟩:Pg)) (List.range (cM b.length))
 simpa using this
theorem qH {a b:List Int} (hb:∀z∈b,InR z) (hl:b.length≤1000000):∀p∈cN a b,wB p:=by
 intro p hp
 obtain ⟨k,hk,rfl⟩:=lV hp
 unfold cM at hk
 refine ⟨⟨by show _≤(k:Int);omega,by show (k:Int)≤_;omega⟩,fun z hz=> ?_,?_⟩
 ·exact hb z (List.mem_of_mem_drop (List.mem_of_mem_take hz))
 ·show (cA b k).length≤_
  rw [gM]
  unfold dI
  omega
theorem AU {p:Pg} (h:wB p):∀z∈p.l,InR z:=by
 intro z hz
 have h3:=h.2.2
 simp only [Pg.l,List.mem_append,List.mem_cons,List.not_mem_nil,or_false] at hz
 rcases hz with (hz|hz)|hz
 ·rw [hz];exact h.1
 ·rw [hz];exact ⟨by omega,by omega⟩
 ·exact h.2.1 z hz
theorem CJ {s u:Stt} (h:ExtM s u) (hs:SttOk s) (h1:s.cells.length≤1000000) (h2:s.evs.length≤1000000) (h3:s.sent.length≤1000000) (h4:s.outs.length≤1000000):dX u (dN s u)= .ok s:=by
 have hd:=qH (a:=u.cells) hs.cells h1
 have hdl:=lW u.cells s.cells
 have hr:=AP (L:=dN s u) (p:=0) (post:=aK (dO s u).l) (ps:=cN u.cells s.cells) (fun e he=>⟨AU (hd e he),by
  obtain ⟨k,hk,rfl⟩:=lV he
  show (cA s.cells k).length≤_
  rw [gM]
  unfold dI
  omega⟩) (by unfold cM at hdl;omega) (by simp [dN])
 have hw:=sL (s:=dO s u) ⟨by simp [dO],fun e he=>hs.evs e (List.mem_of_mem_drop he),fun e he=>hs.sent e (List.mem_of_mem_drop he),fun e he=>hs.outs e (List.mem_of_mem_drop he),by simp [dO]⟩ (by simp [dO]) (by simp [dO];omega) (by simp [dO];omega) (by simp [dO];omega) (aK (pgL (cN u.cells s.cells)))
 unfold dX
 rw [hr]
 simp only [Nat.zero_add]
 rw [show dN s u=aK (pgL (cN u.cells s.cells))++aK (dO s u).l from rfl,hw]
 simp only []
 rw [zO h.c.symm]
 simp only []
 rw [if_pos (by rfl)]
 congr 1
 obtain ⟨sc,se,ss,so⟩:=s
 simp only [dO,Stt.mk.injEq,true_and]
 exact ⟨qA h.e,qA h.sn,qA h.o⟩
def vJ (f:Fil):Except Nat (Hd×Nat):=cF (f.s++f.p)
def bV:List Fil→Int
 |[]=>0
 |f::l=>max (match vJ f with| .ok (h,_)=>h.stamp| .error _=>0) (bV l)
def oA:Int:=9223372036854775807
def nU (fs:List Fil) (slot:Nat) (h:Hd) (body:List UInt8):Except Nat (List Fil):=if bV fs=oA then .error 3 else if 4096<body.length then .error 5 else .ok (fs.set slot ⟨[],ckF {h with stamp:=bV fs+1} body⟩)
inductive SaveR (fs:List Fil) (s:Stt):Int→Int→Except Nat (List Fil)→Prop
 |none {k base:Int}:k<0∨(fs.length:Int)≤k→SaveR fs s k base (.error 11)
 |full {k:Nat}:k<fs.length→SaveR fs s (k:Int) (-1) (nU fs k ⟨1,0,-1,0⟩ (aK s.l))
 |miss {k:Nat} {base:Int} {n e:Nat}:k<fs.length→base≠-1→LoadR fs n base (.error e)→SaveR fs s (k:Int) base (.error 11)
 |shape {k:Nat} {base:Int} {n:Nat} {u:Stt}:k<fs.length→base≠-1→LoadR fs n base (.ok u)→(base=(k:Int)∨¬ExtM s u)→SaveR fs s (k:Int) base (.error 7)
 |inc {k:Nat} {base:Int} {n q:Nat} {u:Stt} {g:Hd}:k<fs.length→base≠-1→LoadR fs n base (.ok u)→base≠(k:Int)→ExtM s u→cF (cH fs base)= .ok (g,q)→SaveR fs s (k:Int) base (nU fs k ⟨2,0,base,g.stamp⟩ (dN s u))
end Go.Proofs.YtiblijmngokcgaaGreatDoor
