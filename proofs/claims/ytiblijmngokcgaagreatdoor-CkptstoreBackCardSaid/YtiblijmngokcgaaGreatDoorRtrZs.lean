import Derived.Test.YtiblijmngokcgaaGreatDoorCodecBZs
namespace Go.Proofs.YtiblijmngokcgaaGreatDoor
open Go.RowKit
set_option linter.unusedVariables false
set_option linter.unusedSimpArgs false
theorem vP {L:List UInt8} {p:Nat} {c:UInt8} {r:List UInt8} (h:L.drop p=c::r):L[p]? =some c∧L.drop (p+1)=r:=by
 constructor
 ·have:=List.getElem?_drop (xs:=L) (i:=p) (j:=0)
  rw [h] at this
  simpa using this.symm
 ·rw [←List.drop_drop,h]
  rfl
theorem cT {L a r:List UInt8} {p:Nat} (h:L.drop p=a++r):L.drop (p+a.length)=r:=by
 rw [←List.drop_drop,h,List.drop_left]
theorem EG (L post:List UInt8):∀(n i u p v:Nat),n+i=10→u<2^(7*i)→(0<i→0<v)→u+v*2^(7*i)<18446744073709551616→L.drop p=fH v++post→
 rdI L n i u p= .ok (u+v*2^(7*i),p+(fH v).length):=by
 intro n
 induction n with
 |zero=>
  intro i u p v hn hu hv h64 hL
  obtain rfl:i=10:=by omega
  have h1:=hv (by omega)
  have:2^(7*10)=1180591620717411303424:=by decide
  rw [this] at h64
  omega
 |succ n ih=>
  intro i u p v hn hu hv h64 hL
  have hi9:i≤9:=by omega
  by_cases h1:v<128
  ·rw [kL h1] at hL ⊢
   have hc:=(vP hL).1
   have hcn:(UInt8.ofNat v).toNat=v:=by rw [UInt8.toNat_ofNat'];exact Nat.mod_eq_of_lt (by omega)
   rw [kJ hc (by
    rw [hcn]
    rintro (⟨rfl,h2⟩|⟨h2,h3⟩)
    ·have e:2^(7*9)=9223372036854775808:=by decide
     rw [e] at h64
     omega
    ·have:=hv h2
     omega) (by rw [hcn];exact h1),hcn]
   rfl
  ·have hge:fH v=UInt8.ofNat (v%128+128)::fH (v / 128):=pG h1
   rw [hge] at hL
   rw [hge,List.length_cons]
   have hc:=vP hL
   have hcn:(UInt8.ofNat (v%128+128)).toNat=v%128+128:=by rw [UInt8.toNat_ofNat'];exact Nat.mod_eq_of_lt (by omega)
   have hi8:i<9:=by
    rcases Nat.lt_or_ge i 9 with h|h
    ·exact h
    ·obtain rfl:i=9:=by omega
     have e:2^(7*9)=9223372036854775808:=by decide
     rw [e] at h64
     omega
   rw [nS hc.1 (by
    rw [hcn]
    rintro (⟨rfl,h2⟩|⟨h2,h3⟩)<;>omega) (by rw [hcn];omega),hcn]
   have e1:(2:Nat)^(7*(i+1))=128*2^(7*i):=by rw [show 7*(i+1)=7+7*i by omega,Nat.pow_add]
   have e2:u+(v%128+128-128)*2^(7*i)+v / 128*2^(7*(i+1))=u+v*2^(7*i):=by
    rw [e1,Nat.add_sub_cancel]
    generalize 2^(7*i)=P
    have hv2:v=v%128+v / 128*128:=by omega
    conv=>rhs;rw [hv2,Nat.add_mul,Nat.mul_assoc]
    rw [Nat.add_assoc]
   have hu2:=oE (i:=i) (u:=u) (x:=v%128+128-128) (by omega) hu (by omega)
   rw [ih (i+1) _ (p+1) (v / 128) (by omega) hu2 (by omega) (by rw [e2];exact h64) hc.2,e2]
   congr 2
   omega
theorem LV {z:Int} (h:InR z):zd (zz z)=z:=by
 unfold zd zz
 obtain ⟨h1,h2⟩:=h
 by_cases hz:0≤z
 ·rw [if_pos hz,if_pos (by omega)];omega
 ·rw [if_neg hz,if_neg (by omega)];omega
theorem cO {L post:List UInt8} {p:Nat} {z:Int} (hz:InR z) (h:L.drop p=cZ z++post):bA L p= .ok (z,p+(cZ z).length):=by
 unfold bA rdU
 have h64:zz z<18446744073709551616:=xZ hz.1 hz.2
 rw [EG L post 10 0 0 p (zz z) rfl (by decide) (by omega) (by simpa using h64) h]
 simp [LV hz,cZ]
theorem fK (a:Int) (l:List Int):aK (a::l)=cZ a++aK l:=rfl
theorem EJ {L post:List UInt8} {p:Nat} {e:Ev} (hz:∀z∈e.l,InR z) (h:L.drop p=aK e.l++post):dG L p= .ok (e,p+(aK e.l).length):=by
 unfold Ev.l at h hz ⊢
 simp only [fK,List.append_assoc] at h
 unfold dG
 have h0:=cO (hz _ (by simp)) h
 have g0:=cT h
 have h1:=cO (hz _ (by simp)) g0
 have g1:=cT g0
 have h2:=cO (hz _ (by simp)) g1
 have g2:=cT g1
 have h3:=cO (hz _ (by simp)) g2
 have g3:=cT g2
 have h4:=cO (hz _ (by simp)) g3
 have g4:=cT g3
 have h5:=cO (hz _ (by simp)) g4
 have g5:=cT g4
 have h6:=cO (hz _ (by simp)) g5
 rw [aR h0,aR h1,aR h2,aR h3,aR h4,aR h5,aR h6]
 congr 2
 simp only [fK,List.length_append]
 simp [aK]
 omega
theorem DY {L post:List UInt8} {p:Nat} {e:Snd} (hz:∀z∈e.l,InR z) (h:L.drop p=aK e.l++post):eA L p= .ok (e,p+(aK e.l).length):=by
 unfold Snd.l at h hz ⊢
 simp only [fK,List.append_assoc] at h
 unfold eA
 have h0:=cO (hz _ (by simp)) h
 have g0:=cT h
 have h1:=cO (hz _ (by simp)) g0
 have g1:=cT g0
 have h2:=cO (hz _ (by simp)) g1
 have g2:=cT g1
 have h3:=cO (hz _ (by simp)) g2
 rw [aR h0,aR h1,aR h2,aR h3]
 congr 2
 simp only [fK,List.length_append]
 simp [aK]
 omega
theorem EE {L post:List UInt8} {p:Nat} {e:Ou} (hz:∀z∈e.l,InR z) (h:L.drop p=aK e.l++post):eM L p= .ok (e,p+(aK e.l).length):=by
 unfold Ou.l at h hz ⊢
 simp only [fK,List.append_assoc] at h
 unfold eM
 have h0:=cO (hz _ (by simp)) h
 have g0:=cT h
 have h1:=cO (hz _ (by simp)) g0
 rw [aR h0,aR h1]
 congr 2
 simp only [fK,List.length_append]
 simp [aK]
 omega
theorem lF (a b:List Int):aK (a++b)=aK a++aK b:=by simp [aK]
theorem IA (a b c d:List Int):aK (a++(b++(c++d)))=aK a++(aK b++(aK c++aK d)):=by simp only [lF]
theorem vO (z:Int):1≤(cZ z).length:=by
 unfold cZ
 rw [fH]
 split<;>simp
theorem xX:∀(l:List Int),l.length≤(aK l).length
 |[]=>by simp
 |a::l=>by
  have:=vO a
  have:=xX l
  rw [fK,List.length_append,List.length_cons]
  omega
theorem sQ {α:Type} {L:List UInt8} {f:Nat→Except Nat (α×Nat)} {b:α→List Int}:∀(l:List α) (p:Nat) (post:List UInt8),(∀x∈l,∀p post,L.drop p=aK (b x)++post→f p= .ok (x,p+(aK (b x)).length))→L.drop p=aK (l.flatMap b)++post→
 dD f l.length p= .ok (l,p+(aK (l.flatMap b)).length)
 |[],p,post,hf,h=>by simp [dD,aK]
 |x::l,p,post,hf,h=>by
  rw [List.flatMap_cons,lF,List.append_assoc] at h
  have h0:=hf x (by simp) p _ h
  have h1:=sQ l _ post (fun y hy=>hf y (by simp [hy])) (cT h)
  rw [List.length_cons,dD,aR h0,aR h1,List.flatMap_cons,lF,List.length_append,Nat.add_assoc]
theorem iO {α:Type} {L:List UInt8} {f:Nat→Except Nat (α×Nat)} {b:α→List Int} (hb:∀a,1≤(b a).length) (l:List α) (p:Nat) (post:List UInt8) (hl:l.length≤1000000) (hf:∀x∈l,∀p post,L.drop p=aK (b x)++post→f p= .ok (x,p+(aK (b x)).length)) (h:L.drop p=aK ([(l.length:Int)]++l.flatMap b)++post):
 bB f L p= .ok (l,p+(aK ([(l.length:Int)]++l.flatMap b)).length):=by
 rw [lF,List.append_assoc] at h
 have e1:aK [(l.length:Int)]=cZ (l.length:Int):=by simp [aK]
 rw [e1] at h
 have h0:=cO (z:=(l.length:Int)) ⟨by omega,by omega⟩ h
 have h1:=cT h
 have h2:=sQ l _ post hf h1
 have hlen:l.length≤(aK (l.flatMap b)).length:=by
  refine Nat.le_trans ?_ (xX _)
  clear h h0 h1 h2 e1 hl hf
  induction l with
  |nil=>simp
  |cons x l ih=>rw [List.flatMap_cons,List.length_append,List.length_cons];have:=hb x;omega
 have hL:l.length+(p+(cZ (l.length:Int)).length)≤L.length:=by
  have h3:=congrArg List.length h1
  rw [List.length_drop,List.length_append] at h3
  rcases Nat.eq_zero_or_pos l.length with h4|h4
  ·have h5:=congrArg List.length h
   rw [List.length_drop,List.length_append] at h5
   have:=vO (l.length:Int)
   omega
  ·omega
 rw [fT h0 (by omega),aR h2,lF,e1,List.length_append,←Nat.add_assoc]
 rfl
theorem xS (l:List Int):l.flatMap (fun a=> [a])=l:=by
 induction l with
 |nil=>rfl
 |cons a l ih=>rw [List.flatMap_cons,ih];rfl
theorem qU {L:List UInt8} (l:List Int) (p:Nat) (post:List UInt8) (hl:l.length≤1000000) (hz:∀z∈l,InR z) (h:L.drop p=aK ([(l.length:Int)]++l)++post):bB (bA L) L p= .ok (l,p+(aK ([(l.length:Int)]++l)).length):=by
 have:=iO (L:=L) (f:=bA L) (b:=fun a=> [a]) (fun a=>by simp) l p post hl (fun x hx p post h=>by
  have e:aK [x]=cZ x:=by simp [aK]
  rw [e] at h ⊢
  exact cO (hz x hx) h) (by rwa [xS])
 rwa [xS] at this
theorem EC {L:List UInt8} {p:Nat} {post:List UInt8} {e:Pg} (hz:∀z∈e.l,InR z) (hl:e.cells.length≤1000000) (h:L.drop p=aK e.l++post):eR L p= .ok (e,p+(aK e.l).length):=by
 have e1:e.l=e.num::([(e.cells.length:Int)]++e.cells):=rfl
 rw [e1] at h ⊢
 rw [fK,List.append_assoc] at h
 have h0:=cO (hz _ (by rw [e1];simp)) h
 have h1:=qU e.cells _ post hl (fun z hz' =>hz z (by rw [e1];simp [hz'])) (cT h)
 unfold eR
 rw [aR h0,aR h1,fK,List.length_append,←Nat.add_assoc]
theorem AP {L:List UInt8} {p:Nat} {post:List UInt8} {ps:List Pg} (hz:∀e∈ps,(∀z∈e.l,InR z)∧e.cells.length≤1000000) (hl:ps.length≤1000000) (h:L.drop p=aK (pgL ps)++post):eJ L p= .ok (ps,p+(aK (pgL ps)).length):=
 iO (b:=Pg.l) (fun a=>by simp [Pg.l]) ps p post hl (fun x hx p post h=>EC (hz x hx).1 (hz x hx).2 h) h
theorem DW {L:List UInt8} {p:Nat} {post:List UInt8} {s:Stt} (hz:∀z∈s.l,InR z) (h1:s.cells.length≤1000000) (h2:s.evs.length≤1000000) (h3:s.sent.length≤1000000) (h4:s.outs.length≤1000000) (h:L.drop p=aK s.l++post):eH L p= .ok (s,p+(aK s.l).length):=by
 have e:s.l=([(s.cells.length:Int)]++s.cells)++(([(s.evs.length:Int)]++s.evs.flatMap Ev.l)++(([(s.sent.length:Int)]++s.sent.flatMap Snd.l)++([(s.outs.length:Int)]++s.outs.flatMap Ou.l))):=by
  simp only [Stt.l,List.append_assoc]
 rw [e] at h hz ⊢
 rw [IA,List.append_assoc,List.append_assoc,List.append_assoc] at h
 have mem2:∀{α:Type} {b:α→List Int} {l:List α} {x:α} {z:Int},x∈l→z∈b x→z∈l.flatMap b:=fun hx hz=>List.mem_flatMap.2 ⟨_,hx,hz⟩
 have g1:=qU s.cells p _ h1 (fun z hz' =>hz z (by simp [hz'])) h
 have d1:=cT h
 have g2:=iO (f:=dG L) (b:=Ev.l) (fun a=>by simp [Ev.l]) s.evs _ _ h2 (fun x hx p post h=>EJ (fun z hz' =>hz z (by have:=mem2 hx hz';simp only [List.mem_append];simp only [this,true_or,or_true])) h) d1
 have d2:=cT d1
 have g3:=iO (f:=eA L) (b:=Snd.l) (fun a=>by simp [Snd.l]) s.sent _ _ h3 (fun x hx p post h=>DY (fun z hz' =>hz z (by have:=mem2 hx hz';simp only [List.mem_append];simp only [this,true_or,or_true])) h) d2
 have d3:=cT d2
 have g4:=iO (f:=eM L) (b:=Ou.l) (fun a=>by simp [Ou.l]) s.outs _ _ h4 (fun x hx p post h=>EE (fun z hz' =>hz z (by have:=mem2 hx hz';simp only [List.mem_append];simp only [this,true_or,or_true])) h) d3
 unfold eH
 rw [aR g1,aR g2,aR g3,aR g4,IA,List.length_append,List.length_append,List.length_append]
 congr 2
 omega
theorem LR {α β:Type} {x:Except Nat (α×Nat)} {f:α→Nat→Except Nat (β×Nat)} {y:β×Nat} (h:bnd x f= .ok y):∃a q,x= .ok (a,q)∧f a q= .ok y:=by
 cases x with
 |error k=>cases h
 |ok v=>exact ⟨v.1,v.2,rfl,h⟩
def Mon {α:Type} (k:Nat) (f g:Nat→Except Nat (α×Nat)):Prop:=∀p a q,f p= .ok (a,q)→g p= .ok (a,q)∧(p≤k→q≤k)
theorem Mon.ok_ {α:Type} (k:Nat) (a:α):Mon k (fun p=> .ok (a,p)) (fun p=> .ok (a,p)):=fun p b q h=>by
 cases h
 exact ⟨rfl,id⟩
theorem Mon.bnd_ {α β:Type} {k:Nat} {f g:Nat→Except Nat (α×Nat)} {f' g' :α→Nat→Except Nat (β×Nat)} (h:Mon k f g) (h' :∀a,Mon k (f' a) (g' a)):Mon k (fun p=>bnd (f p) f') (fun p=>bnd (g p) g'):=fun p b q e=>by
 obtain ⟨a,q1,e1,e2⟩:=LR e
 have h1:=h p a q1 e1
 have h2:=h' a q1 b q e2
 exact ⟨by show bnd (g p) g' =_;rw [aR h1.1];exact h2.1,fun hp=>h2.2 (h1.2 hp)⟩
def E89 {α:Type} (x:Except Nat (α×Nat)):Prop:=∀k,x= .error k→k=8∨k=9
theorem E89.ok_ {α:Type} (y:α×Nat):E89 (.ok y):=fun k h=>by cases h
theorem E89.bnd_ {α β:Type} {x:Except Nat (α×Nat)} {f:α→Nat→Except Nat (β×Nat)} (h:E89 x) (hf:∀a q,E89 (f a q)):E89 (bnd x f):=by
 cases x with
 |error j=>exact fun k e=>h k (by cases e;rfl)
 |ok y=>exact hf y.1 y.2
end Go.Proofs.YtiblijmngokcgaaGreatDoor
