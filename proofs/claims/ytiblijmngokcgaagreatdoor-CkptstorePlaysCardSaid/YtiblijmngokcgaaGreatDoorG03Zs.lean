import Derived.Test.YtiblijmngokcgaaGreatDoorG02Zs
import Derived.Test.YtiblijmngokcgaaGreatDoorCodecCZs
import Derived.Lib.AppendZeros
set_option linter.unusedVariables false
set_option linter.unusedSimpArgs false
set_option maxHeartbeats 4000000
set_option maxRecDepth 100000
namespace Go.Proofs.YtiblijmngokcgaaGreatDoor
open Go.Proofs.Tryz
open Go.RowKit
theorem vG (k:Int) (h1:97<=k) (h2:k<=122) (w:World):Calls Tryz.prog 193 #[.int .u8 k] w λe w' =>e= .returned (.bool true)/\w' =w:=by
 go_enter func193,ntmps193;go_wp2;go_ret;exact ⟨rfl,rfl⟩
def FE (c:UInt8):Prop:=c=97∨c=98∨c=120∨c=121∨c=122
def QH:List UInt8:=[32,118,97,114,32,97,114,114,97,121,32,111,110,32,115,116,97,114,116,32,109,101,115,115,97,103,101,32,116,105,99,107,32,105,110,112,117,116,32,105,102,32,101,108,115,101,32,119,104,105,108,101,32,115,101,110,100,32,111,117,116,112,117,116,32,115,101,108,102,32,112,114,111,99,115,32,102,114,111,109,32,118,97,108,117,101,32]
theorem zQ (c:UInt8) (hc:FE c) (w:World):Calls Tryz.prog 194 #[.string (ByteArray.mk #[c])] w λe w' =>e= .returned (.bool false)/\w' =w:=by
 have D:∀k,k<=84->(((ByteArray.mk QH.toArray).extract k (k+3)).toList==(ByteArray.mk #[32]++ByteArray.mk #[c]++ByteArray.mk #[32]).toList)=false:=by
  rcases hc with rfl|rfl|rfl|rfl|rfl<;>decide +kernel
 rcases hc with rfl|rfl|rfl|rfl|rfl
 all_goals
  go_enter func194,ntmps194;go_wp2;go_loopw [3] (λa wr=>∃k:Nat,a= .int .i64 k/\k<=1/\wr=w) (λa _=>1-(intOf a).toNat);case atStart=>exact ⟨0,rfl,by omega,rfl⟩
  case round=>
   obtain ⟨k,rfl,hk,rfl⟩:=hrel;by_cases h0:k=0
   ·subst h0;go_wp2;go_roundw;case rel=>exact ⟨1,rfl,by omega,trivial⟩
    case measure=>simp [intOf]
   ·obtain rfl:k=1:=by omega
    go_wp2;go_loopw [5] (λa wr2=>∃k:Nat,a= .int .i64 k/\k<=85/\wr2=wr) (λa _=>85-(intOf a).toNat);case atStart=>exact ⟨0,rfl,by omega,rfl⟩
    case round=>
     obtain ⟨k,rfl,hk,_⟩:=hrel;by_cases h1:k<85
     ·go_wp2
      ·rename_i h;exact absurd (h.symm.trans (D k (by omega))) (by decide)
      ·refine ⟨⟨k+1,rfl,by omega,trivial⟩,by simp [intOf];omega⟩
     ·obtain rfl:k=85:=by omega
      go_wp2;go_ret;exact ⟨rfl,rfl⟩
theorem mN (c:UInt8) (hc:FE c) (w:World):Calls Tryz.prog 185 #[.string (ByteArray.mk #[c])] w λe w' =>e= .returned (.bool true)/\w' =w:=by
 have hR:=zQ c hc w;rcases hc with rfl|rfl|rfl|rfl|rfl
 all_goals
  have HR:=aA hR;clear hR;go_enter func185,ntmps185;go_wp2_with fail;refine (vG _ (by decide) (by decide) w).mono ?_;rintro e w1 ⟨rfl,rfl⟩;go_wp2_with fail;refine HR.out.mono ?_;rintro e w1 ⟨rfl,rfl⟩;go_wp2;go_loopw [3] (λa wr=>∃k:Nat,a= .int .i64 k/\k<=1/\wr=w1) (λa _=>1-(intOf a).toNat);case atStart=>exact ⟨0,rfl,by omega,rfl⟩
  case round=>
   obtain ⟨k,rfl,hk,rfl⟩:=hrel;by_cases h0:k=0
   ·subst h0;go_wp2_with fail;refine (vG _ (by decide) (by decide) wr).mono ?_;rintro e w1 ⟨rfl,rfl⟩;go_wp2;go_roundw;case rel=>exact ⟨1,rfl,by omega,trivial⟩
    case measure=>simp [intOf]
   ·obtain rfl:k=1:=by omega
    go_wp2;go_ret;exact ⟨rfl,rfl⟩
def iS (op:Int):Int:=if op=1∨op=2∨(4<=op/\op<=7) then 0 else if op=3∨op=8∨op=9 then 1 else if 10<=op/\op<=22 then 2 else -1
theorem iN (op:Int) (h1:1<=op) (h2:op<=22) (w:World):Calls Tryz.prog 200 #[.int .i64 op] w λe w' =>e= .returned (.int .i64 (iS op))/\w' =w:=by
 by_cases a1:op=1∨op=2∨(4<=op/\op<=7)
 ·have e:iS op=0:=by unfold iS;rw [if_pos a1]
  rw [e];clear e;rcases a1 with rfl|rfl|⟨a,b⟩
  ·exact Tzc9
  ·exact Tzc9
  ·have b1:(op==1)=false:=by simp;omega
   have b2:(op==2)=false:=by simp;omega
   exact Tzc9
 ·by_cases a2:op=3∨op=8∨op=9
  ·have e:iS op=1:=by unfold iS;rw [if_neg a1,if_pos a2]
   rw [e];clear e;rcases a2 with rfl|rfl|rfl
   all_goals
    clear a1;go_enter func200,ntmps200;go_wp2;go_ret;exact ⟨rfl,rfl⟩
  ·have e:iS op=2:=by unfold iS;rw [if_neg a1,if_neg a2,if_pos (by omega)]
   rw [e];clear e;have b1:(op==1)=false:=by simp;omega
   have b2:(op==2)=false:=by simp;omega
   have b3:(op==3)=false:=by simp;omega
   have b8:(op==8)=false:=by simp;omega
   have b9:(op==9)=false:=by simp;omega
   have c4:10<=op:=by omega
   clear a1 a2;exact Tzc9
theorem eB (nm:ByteArray) (size init:Int) (h0:0<=size) (h1:size<=1000) (w:World):Calls Tryz.prog 153 #[.agg #[.string nm,.int .i64 size,.int .i64 init]] w λe w' =>e= .returned (.int .i64 (max size 1))/\Below w.heap.size w w' :=by
 by_cases hz:size=0
 ·subst hz;go_enter func153,ntmps153;exact Tzcj
 ·have h2:1<=size:=by omega
  have e:max size 1=size:=by omega
  rw [e];clear e hz h0;go_enter func153,ntmps153;go_wp2;all_goals
   go_ret;exact ⟨gJ (by first|omega|(simp at *;omega)|(simp at *)),(Below.refl _ w).alloc (Nat.le_refl _) _⟩
def jF (idx:Int):Nat->List Ef->List n7
 |_,[]=> []
 |o,e::l=>if e.kind=1 then ⟨idx,(o:Int),e.to,e.value⟩::jF idx (o+1) l else jF idx o l
def gL (idx:Int):List Ef->List Ou
 |[]=> []
 |e::l=>if e.kind=1 then gL idx l else ⟨idx,e.value⟩::gL idx l
def iH:List Ef->Nat
 |[]=>0
 |e::l=>if e.kind=1 then iH l+1 else iH l
theorem oU (idx:Int) (e:Ef):∀(l:List Ef) (o:Nat),jF idx o (l++ [e])=jF idx o l++(if e.kind=1 then [⟨idx,((o+iH l:Nat):Int),e.to,e.value⟩] else [])
 |[],o=>by simp [jF,iH]
 |a::l,o=>by
  rw [List.cons_append];unfold jF iH;by_cases h:a.kind=1
  ·rw [if_pos h,if_pos h,if_pos h,oU idx e l (o+1),List.cons_append];have:o+1+iH l=o+(iH l+1):=by omega
   rw [this]
  ·rw [if_neg h,if_neg h,if_neg h,oU idx e l o]
theorem nJ (idx:Int) (e:Ef):∀(l:List Ef),gL idx (l++ [e])=gL idx l++(if e.kind=1 then [] else [⟨idx,e.value⟩])
 |[]=>by simp [gL]
 |a::l=>by
  rw [List.cons_append];unfold gL;by_cases h:a.kind=1
  ·rw [if_pos h,if_pos h,nJ idx e l]
  ·rw [if_neg h,if_neg h,nJ idx e l,List.cons_append]
theorem pG (e:Ef):∀(l:List Ef),iH (l++ [e])=iH l+(if e.kind=1 then 1 else 0)
 |[]=>by simp [iH]
 |a::l=>by
  rw [List.cons_append];unfold iH;by_cases h:a.kind=1
  ·rw [if_pos h,if_pos h,pG e l];omega
  ·rw [if_neg h,if_neg h,pG e l]
theorem wK:∀(l:List Ef),iH l<=l.length
 |[]=>by simp [iH]
 |a::l=>by
  have:=wK l;unfold iH;split<;>simp<;>omega
theorem pY (idx:Int):∀(l:List Ef) (o:Nat),(jF idx o l).length=iH l
 |[],o=>rfl
 |a::l,o=>by
  unfold jF iH;split
  ·rw [List.length_cons,pY idx l]
  ·exact pY idx l o
theorem rN (idx:Int):∀(l:List Ef),(gL idx l).length+iH l=l.length
 |[]=>rfl
 |a::l=>by
  have:=rN idx l;unfold gL iH;split
  ·rw [List.length_cons];omega
  ·rw [List.length_cons,List.length_cons];omega
def Fy (body:List Sm) (v:Env) (idx:Int) (s s' :bj):Prop:=∃r ok,fy v body ⟨s.cells,[],0⟩ r ok/\s' =⟨r.cells,s.evs,s.sent++jF idx 0 r.l,s.outs++gL idx r.l⟩
structure Cd where
 init:List Int
 st:List Sm
 me:List Sm
 ti:List Sm
 inp:List Sm
def KG (c:Cd) (self procs:Int) (s:bj):Prop:=Fy c.st ⟨self,procs,self,0⟩ 0 ⟨c.init,[],[],[]⟩ s
def iK (s:bj) (e:Ev):bj:={s with evs:=s.evs++ [e]}
def gw (c:Cd) (self procs:Int) (s:bj) (e:Ev) (s' :bj):Prop:=
 if e.k0=1 then Fy c.me ⟨self,procs,e.k2,e.k6⟩ ((s.evs.length+1:Nat):Int) (iK s e) s'
 else if e.k0=2 then Fy c.ti ⟨self,procs,self,e.k6⟩ ((s.evs.length+1:Nat):Int) (iK s e) s'
 else if e.k0=3 then Fy c.inp ⟨self,procs,self,e.k6⟩ ((s.evs.length+1:Nat):Int) (iK s e) s' else s' =iK s e
inductive ra (c:Cd) (self procs:Int):bj->List Ev->bj->Prop
 |nil (s:bj):ra c self procs s [] s
 |cons {s s1 s2:bj} {e:Ev} {l:List Ev}:gw c self procs s e s1->ra c self procs s1 l s2->ra c self procs s (e::l) s2
def qf (c:Cd) (self procs:Int) (l:List Ev) (s:bj):Prop:=∃s0,KG c self procs s0/\ra c self procs s0 l s
theorem ra.snoc {c:Cd} {self procs:Int} {s a b:bj} {l:List Ev} {e:Ev} (h:ra c self procs s l a) (k:gw c self procs a e b):ra c self procs s (l++ [e]) b:=by
 induction h with
 |nil s=>exact .cons k (.nil _)
 |cons h1 _ ih=>exact .cons h1 (ih k)
structure mw (a b:bj):Prop where
 cells:b.cells.length=a.cells.length
 evs:a.evs<+:b.evs
 sent:a.sent<+:b.sent
 outs:a.outs<+:b.outs
theorem mw.refl (a:bj):mw a a:=⟨rfl,List.prefix_refl _,List.prefix_refl _,List.prefix_refl _⟩
theorem mw.trans {a b c:bj} (h:mw a b) (k:mw b c):mw a c:=⟨k.cells.trans h.cells,h.evs.trans k.evs,h.sent.trans k.sent,h.outs.trans k.outs⟩
theorem Fy.pre {body:List Sm} {v:Env} {idx:Int} {s a:bj} (h:Fy body v idx s a):mw s a/\a.evs=s.evs:=by
 obtain ⟨r,ok,h1,rfl⟩:=h;exact ⟨⟨h1.keeps.len,List.prefix_refl _,List.prefix_append _ _,List.prefix_append _ _⟩,rfl⟩
theorem gw.pre {c:Cd} {self procs:Int} {s a:bj} {e:Ev} (h:gw c self procs s e a):mw s a/\a.evs=s.evs++ [e]:=by
 have h0:mw s (iK s e):=⟨rfl,List.prefix_append _ _,List.prefix_refl _,List.prefix_refl _⟩
 unfold gw at h;split at h
 ·exact ⟨h0.trans h.pre.1,h.pre.2⟩
 ·split at h
  ·exact ⟨h0.trans h.pre.1,h.pre.2⟩
  ·split at h
   ·exact ⟨h0.trans h.pre.1,h.pre.2⟩
   ·rw [h];exact ⟨h0,rfl⟩
theorem ra.pre {c:Cd} {self procs:Int} {s a:bj} {l:List Ev} (h:ra c self procs s l a):mw s a/\a.evs=s.evs++l:=by
 induction h with
 |nil s=>exact ⟨mw.refl _,by simp⟩
 |cons h1 _ ih=>
  refine ⟨h1.pre.1.trans ih.1,?_⟩;rw [ih.2,h1.pre.2,List.append_assoc];rfl
theorem LC (L:List UInt8):∀(n i u p t q:Nat),n+i=10->u<2^(7*i)->Dp L n i u p= .ok (t,q)->
 p<q/\q<=L.length/\∃v,t=u+v*2^(7*i)/\t<2^64/\(0<i->0<v)/\dS v=(L.take q).drop p:=by
 intro n;induction n with
 |zero=>intro i u p t q _ _ h;simp [Dp] at h
 |succ n ih=>
  intro i u p t q hni hu h;cases hc:L[p]? with
  |none=>rw [qD hc] at h;cases h
  |some c=>
   have jd:p<L.length:=(List.getElem?_eq_some_iff.1 hc).1;have af:=c.toNat_lt;by_cases hb:(i=9/\1<c.toNat)∨(0<i/\c.toNat=0)
   ·rw [kX hc hb] at h;cases h
   ·by_cases h1:c.toNat<128
    ·rw [jD hc hb h1] at h;injection h with h;injection h with ht hq;subst ht hq;have hv:=iU (i:=i) (u:=u) (c:=c.toNat) (by omega) hu af (by omega);rw [Nat.mod_eq_of_lt h1] at hv;refine ⟨by omega,by omega,c.toNat,rfl,by simpa using hv,by omega,?_⟩;rw [mC h1,List.take_add_one,hc,List.drop_append,List.drop_eq_nil_of_le (by simp;omega)];simp only [List.length_take,Option.toList_some];rw [show min p L.length=p by omega,Nat.sub_self];simp
    ·rw [oA hc hb h1] at h;have hi9:i<9:=by omega
     have VA:=oH (i:=i) (u:=u) (x:=c.toNat-128) (by omega) hu (by omega);obtain ⟨hp,hq,v,hv,Sq,um,he⟩:=ih (i+1) _ (p+1) t q (by omega) VA h;refine ⟨by omega,hq,(c.toNat-128)+v*128,?_,Sq,by omega,?_⟩
     ·have e1:(2:Nat)^(7*(i+1))=128*2^(7*i):=by rw [show 7*(i+1)=7+7*i by omega,Nat.pow_add]
      rw [hv,e1,Nat.add_mul,Nat.mul_assoc v 128,Nat.add_assoc]
     ·have Mx:=um (by omega);rw [nS (by omega),show ((c.toNat-128)+v*128)%128+128=c.toNat by omega,show ((c.toNat-128)+v*128) / 128=v by omega,he];have hd:(L.take q).drop p=c::(L.take q).drop (p+1):=by
       have h3:p<(L.take q).length:=by simp;omega
       rw [List.drop_eq_getElem_cons h3];congr 1;rw [List.getElem_take];exact (List.getElem?_eq_some_iff.1 hc).2
      rw [hd,UInt8.ofNat_toNat]
theorem SM (t:Nat):zz (zd t)=t:=by
 unfold zd zz;by_cases h:t%2=0
 ·rw [if_pos h,if_pos (by omega)];omega
 ·rw [if_neg h,if_neg (by omega)];omega
structure De (L:List UInt8) (p q:Nat) (l:List Int):Prop where
 lo:p+l.length<=q
 hi:q<=L.length
 inr:∀z∈l,av z
 eq:aI l=(L.take q).drop p
theorem FX {L:List UInt8} {p q r:Nat} (h1:p<=q) (h2:q<=r) (hr:r<=L.length):(L.take q).drop p++(L.take r).drop q=(L.take r).drop p:=by
 have h3:L.take r=L.take q++(L.take r).drop q:=by
  have:=List.take_append_drop q (L.take r);rw [List.take_take,Nat.min_eq_left h2] at this;exact this.symm
 conv=>rhs;rw [h3,List.drop_append,show p-(L.take q).length=0 by simp;omega]
 rfl
theorem De.nil_ {L:List UInt8} {p:Nat} (h:p<=L.length):De L p p []:=⟨by simp,h,λz hz=>by simp at hz,by simp [aI]⟩
theorem De.app {L:List UInt8} {p q r:Nat} {a b:List Int} (h1:De L p q a) (h2:De L q r b):De L p r (a++b):=by
 have e1:=h1.lo;have e2:=h2.lo;refine ⟨by simp;omega,h2.hi,λz hz=> ?_,?_⟩
 ·rcases List.mem_append.1 hz with hz|hz
  ·exact h1.inr z hz
  ·exact h2.inr z hz
 ·rw [fA,h1.eq,h2.eq,FX (by omega) (by omega) h2.hi]
theorem dV {α β:Type} {x:Except Nat (α×Nat)} {f:α->Nat->Except Nat (β×Nat)} {y:β×Nat} (h:ft x f= .ok y):∃a q,x= .ok (a,q)/\f a q= .ok y:=by
 cases x with
 |error k=>cases h
 |ok v=>exact ⟨v.1,v.2,rfl,h⟩
theorem cQ {L:List UInt8} {p:Nat} {a:Int} {q:Nat} (h:aQ L p= .ok (a,q)):De L p q [a]:=by
 unfold aQ Vu at h;cases hr:Dp L 10 0 0 p with
 |error k=>rw [hr] at h;cases h
 |ok x=>
  obtain ⟨t,q'⟩:=x;rw [hr] at h;injection h with h;injection h with ha hq;subst ha hq;obtain ⟨hp,hq,v,hv,Sq,_,he⟩:=LC L 10 0 0 p t q' rfl (by decide) hr;have Zo:t=v:=by simpa using hv
  subst Zo;refine ⟨by simp;omega,hq,?_,?_⟩
  ·intro z hz;simp at hz;subst hz;unfold zd av;split<;>constructor<;>omega
  ·simp [aI,cP,SM,he]
theorem LF {L:List UInt8} {p:Nat} {a:Ev} {q:Nat} (h:cU L p= .ok (a,q)):De L p q a.l:=by
 unfold cU at h;obtain ⟨a0,p0,h0,h⟩:=dV h;obtain ⟨a1,p1,h1,h⟩:=dV h;obtain ⟨a2,p2,h2,h⟩:=dV h;obtain ⟨a3,p3,h3,h⟩:=dV h;obtain ⟨a4,p4,h4,h⟩:=dV h;obtain ⟨a5,p5,h5,h⟩:=dV h;obtain ⟨a6,p6,h6,h⟩:=dV h;injection h with h;injection h with ha hq;subst ha hq;exact (cQ h0).app ((cQ h1).app ((cQ h2).app ((cQ h3).app ((cQ h4).app ((cQ h5).app (cQ h6))))))
theorem KT {L:List UInt8} {p:Nat} {a:n7} {q:Nat} (h:dO L p= .ok (a,q)):De L p q a.l:=by
 unfold dO at h;obtain ⟨a0,p0,h0,h⟩:=dV h;obtain ⟨a1,p1,h1,h⟩:=dV h;obtain ⟨a2,p2,h2,h⟩:=dV h;obtain ⟨a3,p3,h3,h⟩:=dV h;injection h with h;injection h with ha hq;subst ha hq;exact (cQ h0).app ((cQ h1).app ((cQ h2).app (cQ h3)))
theorem LA {L:List UInt8} {p:Nat} {a:Ou} {q:Nat} (h:eC L p= .ok (a,q)):De L p q a.l:=by
 unfold eC at h;obtain ⟨a0,p0,h0,h⟩:=dV h;obtain ⟨a1,p1,h1,h⟩:=dV h;injection h with h;injection h with ha hq;subst ha hq;exact (cQ h0).app (cQ h1)
theorem GR {α:Type} {L:List UInt8} {f:Nat->Except Nat (α×Nat)} {b:α->List Int} (hf:∀p a q,f p= .ok (a,q)->De L p q (b a)):∀(n p:Nat) (l:List α) (q:Nat),p<=L.length->bI f n p= .ok (l,q)->De L p q (l.flatMap b)/\l.length=n:=by
 intro n;induction n with
 |zero=>
  intro p l q hp h;rw [bI] at h;injection h with h;injection h with ha hq;subst ha hq;exact ⟨De.nil_ hp,rfl⟩
 |succ n ih=>
  intro p l q hp h;rw [bI] at h;obtain ⟨a,p1,h1,h⟩:=dV h;obtain ⟨l',p2,h2,h⟩:=dV h;injection h with h;injection h with ha hq;subst ha hq;have s1:=hf _ _ _ h1;obtain ⟨s2,hl⟩:=ih _ _ _ s1.hi h2;exact ⟨by rw [List.flatMap_cons];exact s1.app s2,by simp [hl]⟩
theorem lJ {α:Type} {L:List UInt8} {f:Nat->Except Nat (α×Nat)} {b:α->List Int} (hf:∀p a q,f p= .ok (a,q)->De L p q (b a)) {p:Nat} {l:List α} {q:Nat} (h:bF f L p= .ok (l,q)):De L p q ([(l.length:Int)]++l.flatMap b):=by
 unfold bF at h;obtain ⟨n,p1,h1,h⟩:=dV h;have s1:=cQ h1;by_cases hb:n<0∨(L.length:Int)-(p1:Int)<n
 ·rw [if_pos hb] at h;cases h
 ·rw [if_neg hb] at h;obtain ⟨s2,hl⟩:=GR hf _ _ _ _ s1.hi h;have:(l.length:Int)=n:=by omega
  rw [this];exact s1.app s2
theorem MM (l:List Int):l.flatMap (λa=> [a])=l:=by
 induction l with
 |nil=>rfl
 |cons a l ih=>rw [List.flatMap_cons,ih];rfl
theorem uX {L:List UInt8} {p:Nat} {l:List Int} {q:Nat} (h:bF (aQ L) L p= .ok (l,q)):De L p q ([(l.length:Int)]++l):=by
 have:=lJ (b:=λa=> [a]) (λp a q h=>cQ h) h
 rwa [MM] at this
theorem KX {L:List UInt8} {p:Nat} {a:Pg} {q:Nat} (h:eJ L p= .ok (a,q)):De L p q a.l:=by
 unfold eJ at h;obtain ⟨a0,p0,h0,h⟩:=dV h;obtain ⟨a1,p1,h1,h⟩:=dV h;injection h with h;injection h with ha hq;subst ha hq;exact (cQ h0).app (uX h1)
theorem rK {L:List UInt8} {p:Nat} {a:List Pg} {q:Nat} (h:eF L p= .ok (a,q)):De L p q (wk a):=lJ (λp a q h=>KX h) h
theorem KR {L:List UInt8} {p:Nat} {a:bj} {q:Nat} (h:eN L p= .ok (a,q)):De L p q a.l:=by
 unfold eN at h;obtain ⟨a0,p0,h0,h⟩:=dV h;obtain ⟨a1,p1,h1,h⟩:=dV h;obtain ⟨a2,p2,h2,h⟩:=dV h;obtain ⟨a3,p3,h3,h⟩:=dV h;injection h with h;injection h with ha hq;subst ha hq;have:=((uX h0).app ((lJ (λp a q h=>LF h) h1).app ((lJ (λp a q h=>KT h) h2).app (lJ (λp a q h=>LA h) h3))))
 have hl:bj.l ⟨a0,a1,a2,a3⟩=([(a0.length:Int)]++a0)++(([(a1.length:Int)]++a1.flatMap Ev.l)++(([(a2.length:Int)]++a2.flatMap n7.l)++([(a3.length:Int)]++a3.flatMap Ou.l))):=by
  simp only [bj.l,List.append_assoc]
 rw [hl];exact this
def Er {α:Type} (x:Except Nat (α×Nat)):Prop:=∀k,x= .error k->k≠0
theorem Er.ok_ {α:Type} (y:α×Nat):Er (.ok y):=λk h=>by cases h
theorem Er.bnd_ {α β:Type} {x:Except Nat (α×Nat)} {f:α->Nat->Except Nat (β×Nat)} (h:Er x) (hf:∀a q,Er (f a q)):Er (ft x f):=by
 intro k hk;cases x with
 |error e=>injection hk with hk;subst hk;exact h _ rfl
 |ok y=>exact hf y.1 y.2 k hk
theorem QV (L:List UInt8):∀(n i u p k:Nat),Dp L n i u p= .error k->k≠0:=by
 intro n;induction n with
 |zero=>intro i u p k h;rw [Dp] at h;injection h with h;omega
 |succ n ih=>
  intro i u p k h;cases hc:L[p]? with
  |none=>rw [qD hc] at h;injection h with h;omega
  |some c=>
   by_cases hb:(i=9/\1<c.toNat)∨(0<i/\c.toNat=0)
   ·rw [kX hc hb] at h;injection h with h;omega
   ·by_cases h1:c.toNat<128
    ·rw [jD hc hb h1] at h;cases h
    ·rw [oA hc hb h1] at h;exact ih _ _ _ _ h
theorem dX (L:List UInt8) (p:Nat):Er (aQ L p):=by
 intro k h;unfold aQ Vu at h;cases hr:Dp L 10 0 0 p with
 |error e=>rw [hr] at h;injection h with h;subst h;exact QV _ _ _ _ _ _ hr
 |ok x=>rw [hr] at h;cases h
theorem OM (L:List UInt8) (p:Nat):Er (cU L p):=
 (dX _ _).bnd_ λ_ _=>(dX _ _).bnd_ λ_ _=>(dX _ _).bnd_ λ_ _=>(dX _ _).bnd_ λ_ _=>(dX _ _).bnd_ λ_ _=>(dX _ _).bnd_ λ_ _=>(dX _ _).bnd_ λ_ _=>Er.ok_ _
theorem OH (L:List UInt8) (p:Nat):Er (dO L p):=
 (dX _ _).bnd_ λ_ _=>(dX _ _).bnd_ λ_ _=>(dX _ _).bnd_ λ_ _=>(dX _ _).bnd_ λ_ _=>Er.ok_ _
theorem OK (L:List UInt8) (p:Nat):Er (eC L p):=(dX _ _).bnd_ λ_ _=>(dX _ _).bnd_ λ_ _=>Er.ok_ _
theorem KV {α:Type} {f:Nat->Except Nat (α×Nat)} (hf:∀p,Er (f p)):∀n p,Er (bI f n p):=by
 intro n;induction n with
 |zero=>intro p;exact Er.ok_ _
 |succ n ih=>intro p;exact (hf p).bnd_ λ_ q=>(ih q).bnd_ λ_ _=>Er.ok_ _
theorem kV {α:Type} {f:Nat->Except Nat (α×Nat)} (hf:∀p,Er (f p)) (L:List UInt8) (p:Nat):Er (bF f L p):=
 (dX _ _).bnd_ λn q=>by
  intro k h;by_cases hb:n<0∨(L.length:Int)-(q:Int)<n
  ·rw [if_pos hb] at h;injection h with h;omega
  ·rw [if_neg hb] at h;exact KV hf _ _ _ h
theorem OI (L:List UInt8) (p:Nat):Er (eJ L p):=(dX _ _).bnd_ λ_ _=>(kV (dX L) _ _).bnd_ λ_ _=>Er.ok_ _
theorem zU (L:List UInt8) (p:Nat):Er (eF L p):=kV (OI L) _ _
theorem CU (L:List UInt8) (p:Nat):Er (eN L p):=
 (kV (dX L) _ _).bnd_ λ_ _=>(kV (OM L) _ _).bnd_ λ_ _=>(kV (OH L) _ _).bnd_ λ_ _=>(kV (OK L) _ _).bnd_ λ_ _=>Er.ok_ _
theorem QE (n:Nat) (h0:0<n) (hb:n*16<=140737488355328) (w:World):∃cap W,(Builtin.append_ #[49,3] 49 #[.slice none 0 0,.int .i64 (n:Int)]).run Tryz.prog w= .ok (.slice (some ⟨w.heap.size,0,none⟩) n cap) W/\
 a8 cX 2 W w.heap.size 129 (.slice (some ⟨w.heap.size,0,none⟩) 0 cap) []/\n<=cap/\cap<=9223372036854775807/\Below w.heap.size w W:=by
 obtain ⟨i,hi,hz,hs,dy⟩:=info_parts rV;have hn:n<=140737488355328:=by omega
 have h:=Lib.run_append_nil_zeros (P:=Tryz.prog) w 49 3 49 129 i (.agg #[.int .i64 0,.int .i64 0]) .i64 .i64 underlying49 underlying3 hi hz n h0 (by rw [hs];omega) (by omega) (by rw [dy];omega);have hg:=grownCap_ge w n 0 129;have hm:=grownCap_le_maxLen w n 0 129 (by unfold maxLen;omega);refine ⟨_,_,h,?_,hg,by unfold maxLen at hm;exact hm,((Below.refl _ w).drew).alloc (Nat.le_refl _) _⟩;refine ⟨rfl,.inr ⟨w.heap.size,_,_,rfl,Nat.le_refl _,heap_alloc_new w.drew _,by simp,hm,?_,by simp⟩⟩;rw [Array.size_append,size_zeroCells,size_zeroCells,show (Value.cells (.agg #[.int .i64 0,.int .i64 0])).size=2 from rfl,<-Nat.add_mul];congr 1;omega
theorem TE (n:Nat) (hb:n*16<=140737488355328) (w:World):
 Calls Tryz.prog 169 #[.slice none 0 0,.int .i64 (n:Int)] w λe w' =>∃A c,e= .returned (.slice A 0 c)/\a8 cX 2 w' w.heap.size 129 (.slice A 0 c) []/\Below w.heap.size w w' :=by
 have hn:n<=140737488355328:=by omega
 by_cases h0:0<n
 ·obtain ⟨cap,W,im,aj,h1,h2,qy⟩:=QE n h0 hb w;have Mm:=aA im;clear im;have d1:decide (0<n)=true:=by simpa using h0
  go_enter func169,ntmps169;exact Tzcg
 ·obtain rfl:n=0:=by omega
  go_enter func169,ntmps169;exact Tzct
theorem PT (g:Nat) (A1 A2:Option Addr) (n1 c1 n2 c2:Nat) (l1 l2:List Ou) (S1 S2:Nat->Prop) (w:World) (h0:w.cell? ⟨g,0,none⟩=some (.slice A1 n1 c1)) (h1:w.cell? ⟨g,1,none⟩=some (.slice A2 n2 c2))
 (r1:a7 cX S1 w (.slice A1 n1 c1) l1) (r2:a7 cX S2 w (.slice A2 n2 c2) l2) (hb:(n1+n2)*16<=140737488355328):
 Calls Tryz.prog 136 #[.slice (some ⟨g,0,none⟩) 2 2] w λe w' =>∃A c,e= .returned (.slice A (n1+n2) c)/\a8 cX 2 w' w.heap.size 129 (.slice A (n1+n2) c) (l1++l2)/\Below w.heap.size w w' :=by
 have hn:n1+n2<=140737488355328:=by omega
 have sm:g<w.heap.size:=block_lt_of_cell h0;obtain ⟨dv,dd,Ak⟩:=r1.len;obtain ⟨jh,pg,Iq⟩:=r2.len;have yx:=aA dv;have Hm1:=aA jh;clear dv jh;go_enter func136,ntmps136;go_wp2;go_loop [3,11] (λs i=>∃j:Nat,j<=2/\i= .int .i64 j/\s= .int .i64 ((if j=0 then 0 else if j=1 then n1 else n1+n2:Nat):Int)) (λ_ i=>2-(intOf i).toNat);case atStart=>exact ⟨0,by omega,rfl,rfl⟩
 case round=>
  obtain ⟨j,hj,rfl,rfl⟩:=hrel;obtain rfl|rfl|rfl:j=0∨j=1∨j=2:=by omega
  ·exact Tzcz
  ·exact Tzco
  ·refine Tybf ?_;go_wp2_with fail;rw [<-Int.natCast_add];refine (TE (n1+n2) hb w).mono ?_;rintro e w1 ⟨A,c,rfl,aj,al⟩;have Pn :=(al.cell (p:=⟨g,0,none⟩) sm).trans h0;have Pm :=(al.cell (p:=⟨g,1,none⟩) sm).trans h1;clear h0 h1;have Gl:=al.size;go_wp2;go_loopw [6,27] (λv i wr=>∃(j n' :Nat) (A' :Option Addr) (c' :Nat),j<=2/\i= .int .i64 j/\v= .slice A' n' c'/\n'<=n1+n2/\a8 cX 2 wr w.heap.size 129 (.slice A' n' c') (if j=0 then [] else if j=1 then l1 else l1++l2)/\Below w.heap.size w wr) (λ_ i _=>2-(intOf i).toNat);case atStart=>exact ⟨0,0,A,c,by omega,rfl,rfl,by omega,aj,al⟩
   case round=>
    obtain ⟨j,n',A',c',hj,rfl,rfl,Du,du,ag⟩:=hrel;have q0:=(ag.cell (p:=⟨g,0,none⟩) sm).trans ((al.cell (p:=⟨g,0,none⟩) sm).symm.trans Pn);have q1:=(ag.cell (p:=⟨g,1,none⟩) sm).trans ((al.cell (p:=⟨g,1,none⟩) sm).symm.trans Pm);have xa:=ag.size;clear Pn Pm;obtain rfl|rfl|rfl:j=0∨j=1∨j=2:=by omega
    ·simp only [if_true] at du;have hlen:=du.len.1;simp at hlen;subst hlen;go_wp2_with (refine aJ (o:=⟨some 33,_,_,_,_,_⟩) dA iQ (.agg #[.int .i64 0,.int .i64 0]) 16 _ _ 49 129 w.heap.size [] l1 A1 n1 c1 (.slice A' 0 c') n1 rfl rfl underlying49 rV rfl (by omega) rfl rfl du (r1.ext ag) (by simp) (by simp;omega) (by simp;omega) xa ?_;intro A9 c9 w9 ao ai ck gq gp)
     exact Tzbu
    ·simp only [if_true,Nat.one_ne_zero,if_false] at du;have hlen:=du.len.1;rw [yx.out] at hlen;subst hlen;go_wp2_with (refine aJ (o:=⟨some 33,_,_,_,_,_⟩) dA iQ (.agg #[.int .i64 0,.int .i64 0]) 16 _ _ 49 129 w.heap.size l1 l2 A2 n2 c2 (.slice A' n1 c') (n1+n2) rfl rfl underlying49 rV rfl (by omega) rfl rfl du (r2.ext ag) (by rw [yx.out]) (by rw [yx.out];exact hb) (by rw [yx.out];omega) xa ?_;intro A9 c9 w9 ao ai ck gq gp)
     exact Tzbs
    ·exact Tzbk
theorem QD (n:Nat) (h0:0<n) (hb:n*32<=140737488355328) (w:World):∃cap W,(Builtin.append_ #[48,3] 48 #[.slice none 0 0,.int .i64 (n:Int)]).run Tryz.prog w= .ok (.slice (some ⟨w.heap.size,0,none⟩) n cap) W/\
 a8 cW 4 W w.heap.size 127 (.slice (some ⟨w.heap.size,0,none⟩) 0 cap) []/\n<=cap/\cap<=9223372036854775807/\Below w.heap.size w W:=by
 obtain ⟨i,hi,hz,hs,dy⟩:=info_parts rS;have hn:n<=140737488355328:=by omega
 have h:=Lib.run_append_nil_zeros (P:=Tryz.prog) w 48 3 48 127 i (.agg #[.int .i64 0,.int .i64 0,.int .i64 0,.int .i64 0]) .i64 .i64 underlying48 underlying3 hi hz n h0 (by rw [hs];omega) (by omega) (by rw [dy];omega);have hg:=grownCap_ge w n 0 127;have hm:=grownCap_le_maxLen w n 0 127 (by unfold maxLen;omega);refine ⟨_,_,h,?_,hg,by unfold maxLen at hm;exact hm,((Below.refl _ w).drew).alloc (Nat.le_refl _) _⟩;refine ⟨rfl,.inr ⟨w.heap.size,_,_,rfl,Nat.le_refl _,heap_alloc_new w.drew _,by simp,hm,?_,by simp⟩⟩;rw [Array.size_append,size_zeroCells,size_zeroCells,show (Value.cells (.agg #[.int .i64 0,.int .i64 0,.int .i64 0,.int .i64 0])).size=4 from rfl,<-Nat.add_mul];congr 1;omega
theorem TD (n:Nat) (hb:n*32<=140737488355328) (w:World):
 Calls Tryz.prog 168 #[.slice none 0 0,.int .i64 (n:Int)] w λe w' =>∃A c,e= .returned (.slice A 0 c)/\a8 cW 4 w' w.heap.size 127 (.slice A 0 c) []/\Below w.heap.size w w' :=by
 have hn:n<=140737488355328:=by omega
 by_cases h0:0<n
 ·obtain ⟨cap,W,im,aj,h1,h2,qy⟩:=QD n h0 hb w;have Mm:=aA im;clear im;have d1:decide (0<n)=true:=by simpa using h0
  go_enter func168,ntmps168;exact Tzcg
 ·obtain rfl:n=0:=by omega
  go_enter func168,ntmps168;exact Tzct
theorem PS (g:Nat) (A1 A2:Option Addr) (n1 c1 n2 c2:Nat) (l1 l2:List n7) (S1 S2:Nat->Prop) (w:World) (h0:w.cell? ⟨g,0,none⟩=some (.slice A1 n1 c1)) (h1:w.cell? ⟨g,1,none⟩=some (.slice A2 n2 c2))
 (r1:a7 cW S1 w (.slice A1 n1 c1) l1) (r2:a7 cW S2 w (.slice A2 n2 c2) l2) (hb:(n1+n2)*32<=140737488355328):
 Calls Tryz.prog 135 #[.slice (some ⟨g,0,none⟩) 2 2] w λe w' =>∃A c,e= .returned (.slice A (n1+n2) c)/\a8 cW 4 w' w.heap.size 127 (.slice A (n1+n2) c) (l1++l2)/\Below w.heap.size w w' :=by
 have hn:n1+n2<=140737488355328:=by omega
 have sm:g<w.heap.size:=block_lt_of_cell h0;obtain ⟨dv,dd,Ak⟩:=r1.len;obtain ⟨jh,pg,Iq⟩:=r2.len;have yx:=aA dv;have Hm1:=aA jh;clear dv jh;go_enter func135,ntmps135;go_wp2;go_loop [3,11] (λs i=>∃j:Nat,j<=2/\i= .int .i64 j/\s= .int .i64 ((if j=0 then 0 else if j=1 then n1 else n1+n2:Nat):Int)) (λ_ i=>2-(intOf i).toNat);case atStart=>exact ⟨0,by omega,rfl,rfl⟩
 case round=>
  obtain ⟨j,hj,rfl,rfl⟩:=hrel;obtain rfl|rfl|rfl:j=0∨j=1∨j=2:=by omega
  ·exact Tzcz
  ·exact Tzco
  ·refine Tybf ?_;go_wp2_with fail;rw [<-Int.natCast_add];refine (TD (n1+n2) hb w).mono ?_;rintro e w1 ⟨A,c,rfl,aj,al⟩;have Pn :=(al.cell (p:=⟨g,0,none⟩) sm).trans h0;have Pm :=(al.cell (p:=⟨g,1,none⟩) sm).trans h1;clear h0 h1;have Gl:=al.size;go_wp2;go_loopw [6,27] (λv i wr=>∃(j n' :Nat) (A' :Option Addr) (c' :Nat),j<=2/\i= .int .i64 j/\v= .slice A' n' c'/\n'<=n1+n2/\a8 cW 4 wr w.heap.size 127 (.slice A' n' c') (if j=0 then [] else if j=1 then l1 else l1++l2)/\Below w.heap.size w wr) (λ_ i _=>2-(intOf i).toNat);case atStart=>exact ⟨0,0,A,c,by omega,rfl,rfl,by omega,aj,al⟩
   case round=>
    obtain ⟨j,n',A',c',hj,rfl,rfl,Du,du,ag⟩:=hrel;have q0:=(ag.cell (p:=⟨g,0,none⟩) sm).trans ((al.cell (p:=⟨g,0,none⟩) sm).symm.trans Pn);have q1:=(ag.cell (p:=⟨g,1,none⟩) sm).trans ((al.cell (p:=⟨g,1,none⟩) sm).symm.trans Pm);have xa:=ag.size;clear Pn Pm;obtain rfl|rfl|rfl:j=0∨j=1∨j=2:=by omega
    ·simp only [if_true] at du;have hlen:=du.len.1;simp at hlen;subst hlen;go_wp2_with (refine aJ (o:=⟨some 33,_,_,_,_,_⟩) cZ iP (.agg #[.int .i64 0,.int .i64 0,.int .i64 0,.int .i64 0]) 32 _ _ 48 127 w.heap.size [] l1 A1 n1 c1 (.slice A' 0 c') n1 rfl rfl underlying48 rS rfl (by omega) rfl rfl du (r1.ext ag) (by simp) (by simp;omega) (by simp;omega) xa ?_;intro A9 c9 w9 ao ai ck gq gp)
     exact Tzbu
    ·simp only [if_true,Nat.one_ne_zero,if_false] at du;have hlen:=du.len.1;rw [yx.out] at hlen;subst hlen;go_wp2_with (refine aJ (o:=⟨some 33,_,_,_,_,_⟩) cZ iP (.agg #[.int .i64 0,.int .i64 0,.int .i64 0,.int .i64 0]) 32 _ _ 48 127 w.heap.size l1 l2 A2 n2 c2 (.slice A' n1 c') (n1+n2) rfl rfl underlying48 rS rfl (by omega) rfl rfl du (r2.ext ag) (by rw [yx.out]) (by rw [yx.out];exact hb) (by rw [yx.out];omega) xa ?_;intro A9 c9 w9 ao ai ck gq gp)
     exact Tzbs
    ·exact Tzbk
end Go.Proofs.YtiblijmngokcgaaGreatDoor
