import Derived.Test.YtiblijmngokcgaaGreatDoorG04Zs
import Derived.Test.YtiblijmngokcgaaGreatDoorFrameZs
import Derived.Test.YtiblijmngokcgaaGreatDoorDiskBZs
import Derived.Test.YtiblijmngokcgaaGreatDoorG03Zs
set_option linter.unusedVariables false
set_option linter.unusedSimpArgs false
set_option maxHeartbeats 4000000
set_option maxRecDepth 100000
namespace Go.Proofs.YtiblijmngokcgaaGreatDoor
open Go.Proofs.Tryz
open Go.RowKit
structure Hd where
 kind:Int
 stamp:Int
 base:Int
 under:Int
deriving DecidableEq,Inhabited
def Hd.l (h:Hd):List Int:=[h.kind,h.stamp,h.base,h.under]
def fD (h:Hd):Prop:=1<=h.stamp/\((h.kind=1/\h.base= -1/\h.under=0)∨(h.kind=2/\0<=h.base/\1<=h.under/\h.under<h.stamp))
instance (h:Hd):Decidable (fD h):=by unfold fD;infer_instance
def jO (L:List UInt8) (p:Nat):Except Nat (Hd×Nat):=ft (aQ L p) λa p1=>ft (aQ L p1) λb p2=>ft (aQ L p2) λc p3=>ft (aQ L p3) λd p4=> .ok (⟨a,b,c,d⟩,p4)
def fS (body:List UInt8):Option Hd:=match jO body 0 with| .ok (h,q)=>if q=body.length/\fD h then some h else none| .error _=>none
def cA (b:List UInt8):Except Nat (Hd×Nat):=if (bL b 0).2.2=0 then (match fS (bL b 0).1 with|some h=> .ok (h,(bL b 0).2.1)|none=> .error 9) else .error (bL b 0).2.2
def cC (b:List UInt8) (p:Nat):Option bj:=match eN b p with| .ok (s,q)=>if q=b.length then some s else none| .error _=>none
inductive Got where
 |err (e:Nat)
 |full (s:bj)
 |inc (h:Hd) (body:List UInt8)
def eO (b:List UInt8):Got:=match cA b with
 | .error e=> .err e
 | .ok (h,at_)=>if (bL b at_).2.2=0 then (if (bL b at_).2.1=b.length then (if h.kind=1 then (match cC (bL b at_).1 0 with|some s=> .full s|none=> .err 9) else .inc h (bL b at_).1) else .err 9) else .err (bL b at_).2.2
def bN (n:Nat):Nat:=(n+3) / 4
def dD (n k:Nat):Nat:=min (k*4+4) n-k*4
def cR (a:List Int) (k:Nat):List Int:=(a.drop (k*4)).take (dD a.length k)
def iF (a:List Int) (o:Nat) (l:List Int):List Int:=a.take o++l++a.drop (o+l.length)
def jW (a:List Int) (p:Pg):Except Nat (List Int):=if p.num<0∨(bN a.length:Int)<=p.num then .error 3 else if dD a.length p.num.toNat=p.cells.length then .ok (iF a (p.num.toNat*4) p.cells) else .error 7
def bO:List Int->List Pg->Except Nat (List Int)
 |a,[]=> .ok a
 |a,p::l=>match jW a p with| .ok b=>bO b l| .error e=> .error e
def dJ (a b:List Int):List Pg:=(List.range (bN b.length)).filterMap λk=>if a.length=b.length/\cR a k=cR b k then none else some ⟨(k:Int),cR b k⟩
def eP (s:bj) (body:List UInt8):Except Nat bj:=match eF body 0 with
 | .error _=> .error 9
 | .ok (ps,q)=>match cC body q with
  |none=> .error 9
  |some t=>match bO s.cells ps with
   | .error _=> .error 9
   | .ok cells=>if t.cells=[] then .ok ⟨cells,s.evs++t.evs,s.sent++t.sent,s.outs++t.outs⟩ else .error 9
def bV (fs:List au) (k:Int):List UInt8:=if k<0 then [] else match fs[k.toNat]? with|some f=>f.s++f.p|none=> []
inductive bm (fs:List au):Nat->Int->Except Nat bj->Prop
 |err {n:Nat} {k:Int} {e:Nat}:eO (bV fs k)= .err e->bm fs n k (.error e)
 |full {n:Nat} {k:Int} {s:bj}:eO (bV fs k)= .full s->bm fs n k (.ok s)
 |lost {n:Nat} {k:Int} {h:Hd} {body:List UInt8}:eO (bV fs k)= .inc h body->(∀g q,cA (bV fs h.base)= .ok (g,q)->g.stamp≠h.under)->bm fs n k (.error 11)
 |under {n:Nat} {k:Int} {h g:Hd} {q e:Nat} {body:List UInt8}:eO (bV fs k)= .inc h body->cA (bV fs h.base)= .ok (g,q)->g.stamp=h.under->bm fs n h.base (.error e)->bm fs (n+1) k (.error 11)
 |grown {n:Nat} {k:Int} {h g:Hd} {q:Nat} {body:List UInt8} {s:bj} {r:Except Nat bj}:eO (bV fs k)= .inc h body->cA (bV fs h.base)= .ok (g,q)->g.stamp=h.under->bm fs n h.base (.ok s)->eP s body=r->bm fs (n+1) k r
theorem bm.uniq {fs:List au} {n:Nat} {k:Int} {r:Except Nat bj} (h:bm fs n k r):∀{m r'},bm fs m k r'->r=r' :=by
 induction h with
 |err h1=>intro m r' h2;cases h2<;>rename_i k1<;>simp_all
 |full h1=>intro m r' h2;cases h2<;>simp_all
 |lost h1 h3=>intro m r' h2;cases h2<;>simp_all
 |under h1 h3 h4 h5 ih=>
  intro m r' h2;cases h2 with
  |err k1=>rw [h1] at k1;cases k1
  |full k1=>rw [h1] at k1;cases k1
  |lost k1 k2=>rfl
  |under k1 k3 k4 k5=>rfl
  |grown k1 k3 k4 k5 k6=>
   rw [h1] at k1;cases k1;cases ih k5
 |grown h1 h3 h4 h5 h6 ih=>
  intro m r' h2;cases h2 with
  |err k1=>rw [h1] at k1;cases k1
  |full k1=>rw [h1] at k1;cases k1
  |lost k1 k2=>
   rw [h1] at k1;cases k1;exact absurd h4 (k2 _ _ h3)
  |under k1 k3 k4 k5=>
   rw [h1] at k1;cases k1;cases ih k5
  |grown k1 k3 k4 k5 k6=>
   rw [h1] at k1;cases k1;cases ih k5;rw [<-h6,<-k6]
theorem pJ {b:List UInt8} {h:Hd} (e:fS b=some h):fD h/\jO b 0= .ok (h,b.length):=by
 unfold fS at e;split at e
 ·rename_i g q hq;split at e
  ·rename_i hc;cases e;exact ⟨hc.2,by rw [hq,hc.1]⟩
  ·cases e
 ·cases e
theorem uA {b:List UInt8} {h:Hd} {q:Nat} (e:cA b= .ok (h,q)):(bL b 0).2.2=0/\fS (bL b 0).1=some h/\(bL b 0).2.1=q:=by
 unfold cA at e;split at e
 ·rename_i h0;split at e
  ·rename_i g hg;cases e;exact ⟨h0,hg,rfl⟩
  ·cases e
 ·cases e
theorem mV {b body:List UInt8} {h:Hd} (e:eO b= .inc h body):∃q,cA b= .ok (h,q)/\(bL b q).2.2=0/\(bL b q).2.1=b.length/\(bL b q).1=body/\h.kind≠1:=by
 unfold eO at e;split at e
 ·cases e
 ·rename_i g q hq;split at e
  ·rename_i h1;split at e
   ·rename_i h2;split at e
    ·split at e<;>cases e
    ·rename_i h3;cases e;exact ⟨q,hq,h1,h2,rfl,h3⟩
   ·cases e
  ·cases e
theorem nK {b:List UInt8} {s:bj} (e:eO b= .full s):∃h q,cA b= .ok (h,q)/\(bL b q).2.2=0/\(bL b q).2.1=b.length/\h.kind=1/\cC (bL b q).1 0=some s:=by
 unfold eO at e;split at e
 ·cases e
 ·rename_i g q hq;split at e
  ·rename_i h1;split at e
   ·rename_i h2;split at e
    ·rename_i h3;split at e
     ·rename_i s' hs;cases e;exact ⟨g,q,hq,h1,h2,h3,hs⟩
     ·cases e
    ·cases e
   ·cases e
  ·cases e
def FI (fs:List au) (z:Int):Nat:=fs.countP λf=>match cA (f.s++f.p) with| .ok (h,_)=>decide (h.stamp<=z)| .error _=>false
theorem PW (fs:List au) (z:Int):FI fs z<=fs.length:=List.countP_le_length
theorem yA {α:Type} {p q:α->Bool}:∀{l:List α} (k:Nat) (x:α),l[k]? =some x->q x=true->p x=false->(∀y∈l,p y=true->q y=true)->l.countP p<l.countP q
 |[],k,x,h,_,_,_=>by simp at h
 |a::l,0,x,h,h1,h2,h3=>by
  cases h;rw [List.countP_cons_of_pos h1,List.countP_cons_of_neg (by simp [h2])];have:=List.countP_mono_left (l:=l) (λy hy=>h3 y (List.mem_cons_of_mem _ hy));omega
 |a::l,k+1,x,h,h1,h2,h3=>by
  have ih:=yA (l:=l) k x (by simpa using h) h1 h2 (λy hy=>h3 y (List.mem_cons_of_mem _ hy));have ha:=h3 a (List.mem_cons_self ..);rw [List.countP_cons,List.countP_cons];cases hp:p a
  ·simp only [Bool.false_eq_true,if_false];split<;>omega
  ·rw [if_pos rfl,if_pos (ha hp)];omega
theorem PV {fs:List au} {k:Int} {h:Hd} {q:Nat} (e:cA (bV fs k)= .ok (h,q)) {z:Int} (hz:z<h.stamp):FI fs z<FI fs h.stamp:=by
 unfold bV at e;have hn:cA []= .error 11:=rfl;split at e
 ·rw [hn] at e;cases e
 ·split at e
  ·rename_i f hf;refine yA k.toNat f hf ?_ ?_ ?_
   ·rw [e];simp
   ·rw [e];simp;omega
   ·intro y _ hy;revert hy;split
    ·simp;omega
    ·simp
  ·rw [hn] at e;cases e
theorem bm.ex_n (fs:List au):∀(n:Nat) (k:Int),(∀h q,cA (bV fs k)= .ok (h,q)->FI fs h.stamp<=n)->∃r,bm fs n k r
 |n,k,hc=>by
  cases ho:eO (bV fs k) with
  |err e=>exact ⟨_,.err ho⟩
  |full s=>exact ⟨_,.full ho⟩
  |inc h body=>
   obtain ⟨q,hh,_,_,_,iq⟩:=mV ho;have hgood:=(pJ (uA hh).2.1).1;by_cases hl:∃g q,cA (bV fs h.base)= .ok (g,q)/\g.stamp=h.under
   ·obtain ⟨g,q',hg,Lp⟩:=hl;have af:h.under<h.stamp:=by
     rcases hgood.2 with h1|h1
     ·exact absurd h1.1 iq
     ·exact h1.2.2.2
    have h1:=PV hh af;have h2:=hc _ _ hh;match n,h2 with
    |0,h2=>omega
    |m+1,h2=>
     obtain ⟨r,hr⟩:=bm.ex_n fs m h.base (λg' Dq hg' =>by
      rw [hg] at hg';cases hg';rw [Lp];omega)
     cases r with
     |error e=>exact ⟨_,.under ho hg Lp hr⟩
     |ok s=>exact ⟨_,.grown ho hg Lp hr rfl⟩
   ·exact ⟨_,.lost ho (λg q hg Lp=>hl ⟨g,q,hg,Lp⟩)⟩
theorem bm.ex (fs:List au) (k:Int):∃r,bm fs fs.length k r:=bm.ex_n fs _ k (λ_ _ _=>PW _ _)
theorem tC {α:Type} (b:α->List Int) (hb:∀a,1<=(b a).length) (l:List α):l.length<=(l.flatMap b).length:=by
 induction l with
 |nil=>simp
 |cons a l ih=>rw [List.flatMap_cons,List.length_append,List.length_cons];have:=hb a;omega
structure F5 (m:Nat) (s:bj):Prop where
 ok:vw s
 c:s.cells.length<=4096
 e:s.evs.length<=m
 sn:s.sent.length<=m
 o:s.outs.length<=m
theorem F5.up {m m' :Nat} {s:bj} (h:F5 m s) (hm:m<=m'):F5 m' s:=⟨h.ok,h.c,Nat.le_trans h.e hm,Nat.le_trans h.sn hm,Nat.le_trans h.o hm⟩
theorem QX {L:List UInt8} {p q:Nat} {ps:List Pg} (h:De L p q (wk ps)) (hL:L.length<=1000000):(∀x∈ps,wP x)/\ps.length<=L.length:=by
 have h1:=h.lo;have h2:=h.hi;have h3:(wk ps).length=1+(ps.flatMap Pg.l).length:=by simp [wk];omega
 have h4:=tC Pg.l (λa=>by simp [Pg.l]) ps;refine ⟨λx hx=> ?_,by omega⟩;have hz:∀z∈x.l,av z:=λz hz=>h.inr z (List.mem_append_right _ (List.mem_flatMap.2 ⟨x,hx,hz⟩))
 have h5:x.l.length<=(ps.flatMap Pg.l).length:=by
  obtain ⟨s,t,rfl⟩:=List.append_of_mem hx;simp;omega
 have h6:x.l.length=2+x.cells.length:=by simp [Pg.l];omega
 exact ⟨hz _ (by simp [Pg.l]),λz Gb=>hz z (by simp [Pg.l,Gb]),by omega⟩
theorem ST {L:List UInt8} {p q:Nat} {s:bj} (h:De L p q s.l) (hL:L.length<=4096):F5 4096 s:=by
 have h1:=h.lo;have h2:=h.hi;have h3:s.l.length=4+s.cells.length+(s.evs.flatMap Ev.l).length+(s.sent.flatMap n7.l).length+(s.outs.flatMap Ou.l).length:=by simp only [bj.l,List.length_append,List.length_cons,List.length_nil];omega
 have g1:=tC Ev.l (λa=>by simp [Ev.l]) s.evs;have g2:=tC n7.l (λa=>by simp [n7.l]) s.sent;have g3:=tC Ou.l (λa=>by simp [Ou.l]) s.outs;refine ⟨⟨λz hz=>h.inr z (by simp [bj.l,hz]),λe he z hz=>h.inr z ?_,λe he z hz=>h.inr z ?_,λe he z hz=>h.inr z ?_,by omega⟩,by omega,by omega,by omega,by omega⟩
 ·have:z∈s.evs.flatMap Ev.l:=List.mem_flatMap.2 ⟨e,he,hz⟩;exact Tzfa
 ·have:z∈s.sent.flatMap n7.l:=List.mem_flatMap.2 ⟨e,he,hz⟩;exact Tzfa
 ·have:z∈s.outs.flatMap Ou.l:=List.mem_flatMap.2 ⟨e,he,hz⟩;exact Tzfa
theorem FT {b:List UInt8} {p:Nat} {s:bj} (h:cC b p=some s):eN b p= .ok (s,b.length):=by
 unfold cC at h;split at h
 ·rename_i s' q hq;split at h
  ·rename_i he;cases h;rw [hq,he]
  ·cases h
 ·cases h
theorem jJ {b:List UInt8} {p:Nat} {s:bj} (hb:b.length<=4096) (h:cC b p=some s):F5 4096 s:=ST (KR (FT h)) hb
theorem kY (b:List UInt8) (q:Int):(bL b q).1.length<=4096:=by
 unfold bL
 repeat' split
 all_goals simp
 omega
theorem tY (a l:List Int) (o:Nat) (h:o+l.length<=a.length):(iF a o l).length=a.length:=by
 unfold iF;simp;omega
theorem MF {a l:List Int} {o:Nat} {z:Int} (h:z∈iF a o l):z∈a∨z∈l:=by
 unfold iF at h;rcases List.mem_append.1 h with h|h
 ·rcases List.mem_append.1 h with h|h
  ·exact .inl (List.mem_of_mem_take h)
  ·exact .inr h
 ·exact .inl (List.mem_of_mem_drop h)
theorem PX {a b:List Int} {p:Pg} (h:jW a p= .ok b):0<=p.num/\p.num<(bN a.length:Int)/\dD a.length p.num.toNat=p.cells.length/\b=iF a (p.num.toNat*4) p.cells/\b.length=a.length:=by
 unfold jW at h;split at h
 ·cases h
 ·rename_i h1;split at h
  ·rename_i h2;cases h;refine ⟨by omega,by omega,h2,rfl,tY _ _ _ ?_⟩;rw [<-h2];unfold dD;unfold bN at h1;omega
  ·cases h
theorem yG:∀{ps:List Pg} {a b:List Int},bO a ps= .ok b->(∀z∈a,av z)->(∀p∈ps,wP p)->b.length=a.length/\∀z∈b,av z
 |[],a,b,h,ha,_=>by
  unfold bO at h;cases h;exact ⟨rfl,ha⟩
 |p::l,a,b,h,ha,hp=>by
  unfold bO at h;split at h
  ·rename_i c hc;obtain ⟨_,_,_,h4,h5⟩:=PX hc
   have:=yG (ps:=l) h (λz hz=>by
    rw [h4] at hz;rcases MF hz with hz|hz
    ·exact ha z hz
    ·exact (hp p (List.mem_cons_self ..)).2.1 z hz) (λx hx=>hp x (List.mem_cons_of_mem _ hx))
   exact ⟨this.1.trans h5,this.2⟩
  ·cases h
theorem MK {s r:bj} {body:List UInt8} (h:eP s body= .ok r):∃ps q t cells,eF body 0= .ok (ps,q)/\cC body q=some t/\bO s.cells ps= .ok cells/\t.cells=[]/\r=⟨cells,s.evs++t.evs,s.sent++t.sent,s.outs++t.outs⟩:=by
 unfold eP at h;split at h
 ·cases h
 ·rename_i ps q hq;split at h
  ·cases h
  ·rename_i t ht;split at h
   ·cases h
   ·rename_i c hc;split at h
    ·rename_i h0;cases h;exact ⟨ps,q,t,c,hq,ht,hc,h0,rfl⟩
    ·cases h
theorem MJ {s r:bj} {body:List UInt8} {m:Nat} (hs:F5 m s) (hb:body.length<=4096) (h:eP s body= .ok r):F5 (m+4096) r:=by
 obtain ⟨ps,q,t,cells,h1,h2,h3,h4,rfl⟩:=MK h;have hp:=QX (rK h1) (by omega);have ht:=jJ hb h2;have ha:=yG h3 hs.ok.cells hp.1;have:=hs.c;have:=hs.e;have:=hs.sn;have:=hs.o;have:=ht.e;have:=ht.sn;have:=ht.o;refine ⟨⟨ha.2,λe he=> ?_,λe he=> ?_,λe he=> ?_,by show cells.length<=_;omega⟩,by show cells.length<=_;omega,by simp;omega,by simp;omega,by simp;omega⟩
 ·rcases List.mem_append.1 he with he|he
  ·exact hs.ok.evs e he
  ·exact ht.ok.evs e he
 ·rcases List.mem_append.1 he with he|he
  ·exact hs.ok.sent e he
  ·exact ht.ok.sent e he
 ·rcases List.mem_append.1 he with he|he
  ·exact hs.ok.outs e he
  ·exact ht.ok.outs e he
theorem bm.sz {fs:List au} {n:Nat} {k:Int} {s:bj} (h:bm fs n k (.ok s)):F5 ((n+1)*4096) s:=by
 suffices hh:∀r,bm fs n k r->∀s,r= .ok s->F5 ((n+1)*4096) s from hh _ h _ rfl
 clear h s;intro r hr;induction hr with
 |err=>intro s hs;cases hs
 |full h1=>
  intro s hs;cases hs;obtain ⟨_,_,_,_,_,_,hw⟩:=nK h1;exact (jJ (kY _ _) hw).up (by omega)
 |lost=>intro s hs;cases hs
 |under=>intro s hs;cases hs
 |grown h1 h2 h3 h4 h5 ih=>
  intro s hs;subst hs;obtain ⟨_,_,_,_,hb,_⟩:=mV h1;exact (MJ (ih _ rfl) (by rw [<-hb];exact kY _ _) h5).up (by omega)
theorem wV {b pre post li:List UInt8} (hb:b=pre++(dK li++post)) (hl:li.length<=4096):bL b pre.length=(li,pre.length+8+li.length,0):=by
 have d0:b.drop pre.length=dK li++post:=by rw [hb,List.drop_left]
 have e1:(b.drop pre.length).take 4=nq li.length:=by rw [d0];simp [dK,gC,nq]
 have e2:(b.drop (pre.length+4)).take 4=nq (jL li):=by rw [<-List.drop_drop,d0];simp [dK,gC,nq]
 have e3:(b.drop (pre.length+8)).take li.length=li:=by rw [<-List.drop_drop,d0];simp [dK,gC,nq]
 have n1:num ((b.drop pre.length).take 4)=li.length:=by rw [e1,wA _ (by omega)]
 have hlen:pre.length+8+li.length<=b.length:=by rw [hb,List.length_append,List.length_append,eI];omega
 have h:=tV (b:=b) (k:=pre.length) (by omega) (by rw [n1];exact hl) (by rw [n1];exact hlen) (by rw [n1,e3,e2,wA _ (vW _)]);rw [n1,e3] at h;exact h
def wu (h:Hd) (body:List UInt8):List UInt8:=dK (aI h.l)++dK body
structure we (h:Hd):Prop where
 good:fD h
 inr:∀z∈h.l,av z
theorem rY {h:Hd} (hi:∀z∈h.l,av z):(aI h.l).length<=40:=cG _ hi
theorem LE {L post:List UInt8} {p:Nat} {h:Hd} (hz:∀z∈h.l,av z) (e:L.drop p=aI h.l++post):jO L p= .ok (h,p+(aI h.l).length):=by
 obtain ⟨a,b,c,d⟩:=h;have e0:L.drop p=cP a++(cP b++(cP c++(cP d++post))):=by rw [e];simp [Hd.l,aI]
 have e1:=dF e0;have e2:=dF e1;have e3:=dF e2;unfold jO;rw [aY (cY (hz a (by simp [Hd.l])) e0),aY (cY (hz b (by simp [Hd.l])) e1),aY (cY (hz c (by simp [Hd.l])) e2),aY (cY (hz d (by simp [Hd.l])) e3)];simp [Hd.l,aI];omega
theorem EQ {h:Hd} (hi:we h):fS (aI h.l)=some h:=by
 unfold fS;rw [LE hi.inr (L:=aI h.l) (p:=0) (post:=[]) (by simp)];simp [hi.good]
theorem oF {h:Hd} {body more:List UInt8} (hi:we h):cA (dK (aI h.l)++more)= .ok (h,8+(aI h.l).length):=by
 have h1:=wV (b:=dK (aI h.l)++more) (pre:=[]) (post:=more) (li:=aI h.l) rfl (by have:=rY hi.inr;omega);unfold cA;have h2:bL (dK (aI h.l)++more) 0=(aI h.l,8+(aI h.l).length,0):=by simpa using h1
 rw [h2];simp [EQ hi]
theorem yC {h:Hd} {body:List UInt8} (hi:we h) (hb:body.length<=4096):bL (wu h body) ((8+(aI h.l).length:Nat):Int)=(body,(wu h body).length,0):=by
 have h1:=wV (b:=wu h body) (pre:=dK (aI h.l)) (post:=[]) (li:=body) (by simp [wu]) hb;rw [eI] at h1;rw [h1];simp [wu,eI];omega
theorem IB {h:Hd} {body:List UInt8} {s:bj} (hi:we h) (hb:body.length<=4096) (hk:h.kind=1) (hw:cC body 0=some s):eO (wu h body)= .full s:=by
 unfold eO;have h1:cA (wu h body)= .ok (h,8+(aI h.l).length):=oF (body:=body) hi;rw [h1];simp only [];rw [yC hi hb];simp [hk,hw]
theorem AA {h:Hd} {body:List UInt8} (hi:we h) (hb:body.length<=4096) (hk:h.kind≠1):eO (wu h body)= .inc h body:=by
 unfold eO;have h1:cA (wu h body)= .ok (h,8+(aI h.l).length):=oF (body:=body) hi;rw [h1];simp only [];rw [yC hi hb];simp [hk]
theorem vX {s:bj} (h:vw s) (h2:s.evs.length<=1000000) (h3:s.sent.length<=1000000) (h4:s.outs.length<=1000000):∀z∈s.l,av z:=by
 have h1:=h.small;have len:∀n:Nat,n<=2000000->av (n:Int):=λn hn=>⟨by omega,by omega⟩
 intro z hz;simp only [bj.l,List.mem_append,List.mem_singleton,List.mem_flatMap] at hz;rcases hz with ((((((hz|hz)|hz)|⟨e,he,hz⟩)|hz)|⟨e,he,hz⟩)|hz)|⟨e,he,hz⟩
 ·rw [hz];exact len _ (by omega)
 ·exact h.cells z hz
 ·rw [hz];exact len _ (by omega)
 ·exact h.evs e he z hz
 ·rw [hz];exact len _ (by omega)
 ·exact h.sent e he z hz
 ·rw [hz];exact len _ (by omega)
 ·exact h.outs e he z hz
theorem wR {s:bj} (h:vw s) (h1:s.cells.length<=1000000) (h2:s.evs.length<=1000000) (h3:s.sent.length<=1000000) (h4:s.outs.length<=1000000) (pre:List UInt8):cC (pre++aI s.l) pre.length=some s:=by
 have:=KS (L:=pre++aI s.l) (p:=pre.length) (post:=[]) (vX h h2 h3 h4) h1 h2 h3 h4 (by simp);unfold cC;rw [this];simp
theorem oB (a:List Int) (k:Nat):(cR a k).length=dD a.length k:=by
 unfold cR dD;rw [List.length_take,List.length_drop];omega
theorem tS (a:List Int) (k i:Nat) (hi:i<4):(cR a k)[i]? =a[k*4+i]? :=by
 unfold cR dD;rw [List.getElem?_take,List.getElem?_drop];split
 ·rfl
 ·rw [List.getElem?_eq_none (by omega)]
theorem tZ (a l:List Int) (o i:Nat) (h:o+l.length<=a.length):(iF a o l)[i]? =if o<=i/\i<o+l.length then l[i-o]? else a[i]? :=by
 unfold iF;rw [List.append_assoc,List.getElem?_append];have ht:(a.take o).length=o:=by rw [List.length_take];omega
 rw [ht];split
 ·rename_i h1;rw [if_neg (by omega),List.getElem?_take,if_pos h1]
 ·rename_i h1;rw [List.getElem?_append];split
  ·rename_i h2;rw [if_pos (by omega)]
  ·rename_i h2;rw [if_neg (by omega),List.getElem?_drop];congr 1;omega
def pK (a b:List Int) (m:Nat):List Int:=b.take (m*4)++a.drop (m*4)
theorem LU {a b:List Int} (m:Nat) (h:a.length=b.length):(pK a b m).length=a.length:=by
 unfold pK;simp;omega
theorem oD {a b:List Int} (m i:Nat) (h:a.length=b.length):(pK a b m)[i]? =if i<m*4 then b[i]? else a[i]? :=by
 unfold pK;rw [List.getElem?_append,List.length_take];by_cases h1:i<m*4
 ·rw [if_pos h1];by_cases h2:i<b.length
  ·rw [if_pos (by omega),List.getElem?_take,if_pos h1]
  ·rw [if_neg (by omega),List.getElem?_drop,List.getElem?_eq_none (by omega),List.getElem?_eq_none (by omega)]
 ·rw [if_neg h1,if_neg (by omega),List.getElem?_drop];by_cases h2:i<a.length
  ·congr 1;omega
  ·exact Tze7
theorem IJ {a b:List Int} {m:Nat} (h:a.length=b.length) (hp:cR a m=cR b m):pK a b (m+1)=pK a b m:=by
 apply List.ext_getElem?
 intro i;rw [oD _ _ h,oD _ _ h];by_cases h1:i<m*4
 ·rw [if_pos (by omega),if_pos h1]
 ·rw [if_neg h1];split
  ·have e1:=tS a m (i-m*4) (by omega);have e2:=tS b m (i-m*4) (by omega);rw [show m*4+(i-m*4)=i by omega] at e1 e2;rw [<-e1,<-e2,hp]
  ·rfl
theorem II {a b:List Int} {m:Nat} (h:a.length=b.length) (hm:m<bN b.length):jW (pK a b m) ⟨(m:Int),cR b m⟩= .ok (pK a b (m+1)):=by
 have hl:=LU (a:=a) (b:=b) m h;have hc:m*4<b.length:=by unfold bN at hm;omega
 have jd:(cR b m).length=dD b.length m:=oB b m;unfold jW;rw [if_neg (by rw [hl,h];simp;omega),if_pos (by rw [hl,h];simpa using jd.symm)];congr 1;apply List.ext_getElem?
 intro i;have e0:((m:Int)).toNat=m:=rfl;simp only [e0];rw [tZ _ _ _ _ (by rw [jd,hl,h];unfold dD;omega),oD _ _ h,oD _ _ h,jd];have hpL:dD b.length m=min (m*4+4) b.length-m*4:=rfl;by_cases h1:i<m*4
 ·rw [if_neg (by omega),if_pos h1,if_pos (by omega)]
 ·by_cases h2:i<(m+1)*4
  ·rw [if_pos h2];by_cases h3:i<b.length
   ·rw [if_pos (by omega),tS b m _ (by omega)];congr 1;omega
   ·rw [if_neg (by omega),if_neg h1,List.getElem?_eq_none (by omega),List.getElem?_eq_none (by omega)]
  ·rw [if_neg (by omega),if_neg h1,if_neg h2]
theorem vU (a:List Int):∀(l m:List Pg),bO a (l++m)=(match bO a l with| .ok b=>bO b m| .error e=> .error e)
 |[],m=>by simp [bO]
 |p::l,m=>by
  rw [List.cons_append,bO,bO];cases jW a p with
  |ok b=>exact vU b l m
  |error e=>rfl
theorem FN {a b:List Int} (h:a.length=b.length):bO a (dJ a b)= .ok b:=by
 have key:∀m,m<=bN b.length->bO a ((List.range m).filterMap λk=>if a.length=b.length/\cR a k=cR b k then none else some (⟨(k:Int),cR b k⟩:Pg))= .ok (pK a b m):=by
  intro m;induction m with
  |zero=>intro _;simp [bO,pK]
  |succ m ih=>
   intro hm;rw [List.range_succ,List.filterMap_append,vU,ih (by omega)];by_cases hp:cR a m=cR b m
   ·simp [h,hp,bO,IJ h hp]
   ·have:=II h (show m<bN b.length by omega);simp [h,hp,bO,this]
 have:=key _ (Nat.le_refl _);unfold dJ;rw [this];congr 1;apply List.ext_getElem?
 intro i;rw [oD _ _ h];split
 ·rfl
 ·rename_i h1;unfold bN at h1;exact Tze7
def eW (s u:bj):bj:=⟨[],s.evs.drop u.evs.length,s.sent.drop u.sent.length,s.outs.drop u.outs.length⟩
def dY (s u:bj):List UInt8:=aI (wk (dJ u.cells s.cells))++aI (eW s u).l
structure tn (s u:bj):Prop where
 c:s.cells.length=u.cells.length
 e:u.evs<+:s.evs
 sn:u.sent<+:s.sent
 o:u.outs<+:s.outs
theorem tR {α:Type} {a b:List α} (h:a<+:b):a++b.drop a.length=b:=by
 obtain ⟨t,rfl⟩:=h;simp
theorem sH {a b:List Int} {p:Pg} (h:p∈dJ a b):∃k,k<bN b.length/\p=⟨(k:Int),cR b k⟩:=by
 unfold dJ at h;obtain ⟨k,hk,he⟩:=List.mem_filterMap.1 h;split at he
 ·cases he
 ·cases he;exact ⟨k,by simpa using hk,rfl⟩
theorem pD (a b:List Int):(dJ a b).length<=bN b.length:=by
 unfold dJ;have:=List.length_filterMap_le (λk=>if a.length=b.length/\cR a k=cR b k then none else some (⟨(k:Int),cR b k⟩:Pg)) (List.range (bN b.length));simpa using this
theorem qP {a b:List Int} (hb:∀z∈b,av z) (hl:b.length<=1000000):∀p∈dJ a b,wP p:=by
 intro p hp;obtain ⟨k,hk,rfl⟩:=sH hp;unfold bN at hk;refine ⟨⟨by show _<=(k:Int);omega,by show (k:Int)<=_;omega⟩,λz hz=> ?_,?_⟩
 ·exact hb z (List.mem_of_mem_drop (List.mem_of_mem_take hz))
 ·show (cR b k).length<=_;rw [oB];unfold dD;omega
theorem GZ {p:Pg} (h:wP p):∀z∈p.l,av z:=by
 intro z hz;have h3:=h.2.2;simp only [Pg.l,List.mem_append,List.mem_cons,List.not_mem_nil,or_false] at hz;rcases hz with (hz|hz)|hz
 ·rw [hz];exact h.1
 ·rw [hz];exact ⟨by omega,by omega⟩
 ·exact h.2.1 z hz
theorem JF {s u:bj} (h:tn s u) (hs:vw s) (h1:s.cells.length<=1000000) (h2:s.evs.length<=1000000) (h3:s.sent.length<=1000000) (h4:s.outs.length<=1000000):eP u (dY s u)= .ok s:=by
 have hd:=qP (a:=u.cells) hs.cells h1;have hdl:=pD u.cells s.cells
 have hr:=GS (L:=dY s u) (p:=0) (post:=aI (eW s u).l) (ps:=dJ u.cells s.cells) (λe he=>⟨GZ (hd e he),by
  obtain ⟨k,hk,rfl⟩:=sH he;show (cR s.cells k).length<=_;rw [oB];unfold dD;omega⟩) (by unfold bN at hdl;omega) (by simp [dY])
 have hw:=wR (s:=eW s u) ⟨by simp [eW],λe he=>hs.evs e (List.mem_of_mem_drop he),λe he=>hs.sent e (List.mem_of_mem_drop he),λe he=>hs.outs e (List.mem_of_mem_drop he),by simp [eW]⟩ (by simp [eW]) (by simp [eW];omega) (by simp [eW];omega) (by simp [eW];omega) (aI (wk (dJ u.cells s.cells)));unfold eP;rw [hr];simp only [Nat.zero_add];rw [show dY s u=aI (wk (dJ u.cells s.cells))++aI (eW s u).l from rfl,hw];simp only [];rw [FN h.c.symm];simp only [];rw [if_pos (by rfl)];congr 1;obtain ⟨sc,se,ss,so⟩:=s;simp only [eW,bj.mk.injEq,true_and];exact ⟨tR h.e,tR h.sn,tR h.o⟩
def AP (f:au):Except Nat (Hd×Nat):=cA (f.s++f.p)
def bM:List au->Int
 |[]=>0
 |f::l=>max (match AP f with| .ok (h,_)=>h.stamp| .error _=>0) (bM l)
def nD:Int:=9223372036854775807
def gN (fs:List au) (slot:Nat) (h:Hd) (body:List UInt8):Except Nat (List au):=if bM fs=nD then .error 3 else if 4096<body.length then .error 5 else .ok (fs.set slot ⟨[],wu {h with stamp:=bM fs+1} body⟩)
inductive gh (fs:List au) (s:bj):Int->Int->Except Nat (List au)->Prop
 |none {k base:Int}:k<0∨(fs.length:Int)<=k->gh fs s k base (.error 11)
 |full {k:Nat}:k<fs.length->gh fs s (k:Int) (-1) (gN fs k ⟨1,0,-1,0⟩ (aI s.l))
 |miss {k:Nat} {base:Int} {n e:Nat}:k<fs.length->base≠-1->bm fs n base (.error e)->gh fs s (k:Int) base (.error 11)
 |shape {k:Nat} {base:Int} {n:Nat} {u:bj}:k<fs.length->base≠-1->bm fs n base (.ok u)->(base=(k:Int)∨¬tn s u)->gh fs s (k:Int) base (.error 7)
 |inc {k:Nat} {base:Int} {n q:Nat} {u:bj} {g:Hd}:k<fs.length->base≠-1->bm fs n base (.ok u)->base≠(k:Int)->tn s u->cA (bV fs base)= .ok (g,q)->gh fs s (k:Int) base (gN fs k ⟨2,0,base,g.stamp⟩ (dY s u))
theorem QF (n:Nat) (h0:0<n) (hb:n*56<=140737488355328) (w:World):∃cap W,(Builtin.append_ #[30,3] 30 #[.slice none 0 0,.int .i64 (n:Int)]).run Tryz.prog w= .ok (.slice (some ⟨w.heap.size,0,none⟩) n cap) W/\
 a8 cH 7 W w.heap.size 78 (.slice (some ⟨w.heap.size,0,none⟩) 0 cap) []/\n<=cap/\cap<=9223372036854775807/\Below w.heap.size w W:=by
 obtain ⟨i,hi,hz,hs,dy⟩:=info_parts rX;have hn:n<=140737488355328:=by omega
 have h:=Lib.run_append_nil_zeros (P:=Tryz.prog) w 30 3 30 78 i (.agg #[.int .i64 0,.int .i64 0,.int .i64 0,.int .i64 0,.int .i64 0,.int .i64 0,.int .i64 0]) .i64 .i64 underlying30 underlying3 hi hz n h0 (by rw [hs];omega) (by omega) (by rw [dy];omega);have hg:=grownCap_ge w n 0 78;have hm:=grownCap_le_maxLen w n 0 78 (by unfold maxLen;omega);refine ⟨_,_,h,?_,hg,by unfold maxLen at hm;exact hm,((Below.refl _ w).drew).alloc (Nat.le_refl _) _⟩;refine ⟨rfl,.inr ⟨w.heap.size,_,_,rfl,Nat.le_refl _,heap_alloc_new w.drew _,by simp,hm,?_,by simp⟩⟩;rw [Array.size_append,size_zeroCells,size_zeroCells,show (Value.cells (.agg #[.int .i64 0,.int .i64 0,.int .i64 0,.int .i64 0,.int .i64 0,.int .i64 0,.int .i64 0])).size=7 from rfl,<-Nat.add_mul];congr 1;omega
theorem TF (n:Nat) (hb:n*56<=140737488355328) (w:World):
 Calls Tryz.prog 167 #[.slice none 0 0,.int .i64 (n:Int)] w λe w' =>∃A c,e= .returned (.slice A 0 c)/\a8 cH 7 w' w.heap.size 78 (.slice A 0 c) []/\Below w.heap.size w w' :=by
 have hn:n<=140737488355328:=by omega
 by_cases h0:0<n
 ·obtain ⟨cap,W,im,aj,h1,h2,qy⟩:=QF n h0 hb w;have Mm:=aA im;clear im;have d1:decide (0<n)=true:=by simpa using h0
  go_enter func167,ntmps167;exact Tzcg
 ·obtain rfl:n=0:=by omega
  go_enter func167,ntmps167;exact Tzct
theorem PU (g:Nat) (A1 A2:Option Addr) (n1 c1 n2 c2:Nat) (l1 l2:List Ev) (S1 S2:Nat->Prop) (w:World) (h0:w.cell? ⟨g,0,none⟩=some (.slice A1 n1 c1)) (h1:w.cell? ⟨g,1,none⟩=some (.slice A2 n2 c2))
 (r1:a7 cH S1 w (.slice A1 n1 c1) l1) (r2:a7 cH S2 w (.slice A2 n2 c2) l2) (hb:(n1+n2)*56<=140737488355328):
 Calls Tryz.prog 134 #[.slice (some ⟨g,0,none⟩) 2 2] w λe w' =>∃A c,e= .returned (.slice A (n1+n2) c)/\a8 cH 7 w' w.heap.size 78 (.slice A (n1+n2) c) (l1++l2)/\Below w.heap.size w w' :=by
 have hn:n1+n2<=140737488355328:=by omega
 have sm:g<w.heap.size:=block_lt_of_cell h0;obtain ⟨dv,dd,Ak⟩:=r1.len;obtain ⟨jh,pg,Iq⟩:=r2.len;have yx:=aA dv;have Hm1:=aA jh;clear dv jh;go_enter func134,ntmps134;go_wp2;go_loop [3,11] (λs i=>∃j:Nat,j<=2/\i= .int .i64 j/\s= .int .i64 ((if j=0 then 0 else if j=1 then n1 else n1+n2:Nat):Int)) (λ_ i=>2-(intOf i).toNat);case atStart=>exact ⟨0,by omega,rfl,rfl⟩
 case round=>
  obtain ⟨j,hj,rfl,rfl⟩:=hrel;obtain rfl|rfl|rfl:j=0∨j=1∨j=2:=by omega
  ·exact Tzcz
  ·exact Tzco
  ·refine Tybf ?_;go_wp2_with fail;rw [<-Int.natCast_add];refine (TF (n1+n2) hb w).mono ?_;rintro e w1 ⟨A,c,rfl,aj,al⟩;have Pn :=(al.cell (p:=⟨g,0,none⟩) sm).trans h0;have Pm :=(al.cell (p:=⟨g,1,none⟩) sm).trans h1;clear h0 h1;have Gl:=al.size;go_wp2;go_loopw [6,27] (λv i wr=>∃(j n' :Nat) (A' :Option Addr) (c' :Nat),j<=2/\i= .int .i64 j/\v= .slice A' n' c'/\n'<=n1+n2/\a8 cH 7 wr w.heap.size 78 (.slice A' n' c') (if j=0 then [] else if j=1 then l1 else l1++l2)/\Below w.heap.size w wr) (λ_ i _=>2-(intOf i).toNat);case atStart=>exact ⟨0,0,A,c,by omega,rfl,rfl,by omega,aj,al⟩
   case round=>
    obtain ⟨j,n',A',c',hj,rfl,rfl,Du,du,ag⟩:=hrel;have q0:=(ag.cell (p:=⟨g,0,none⟩) sm).trans ((al.cell (p:=⟨g,0,none⟩) sm).symm.trans Pn);have q1:=(ag.cell (p:=⟨g,1,none⟩) sm).trans ((al.cell (p:=⟨g,1,none⟩) sm).symm.trans Pm);have xa:=ag.size;clear Pn Pm;obtain rfl|rfl|rfl:j=0∨j=1∨j=2:=by omega
    ·simp only [if_true] at du;have hlen:=du.len.1;simp at hlen;subst hlen;go_wp2_with (refine aJ (o:=⟨some 33,_,_,_,_,_⟩) cN iA (.agg #[.int .i64 0,.int .i64 0,.int .i64 0,.int .i64 0,.int .i64 0,.int .i64 0,.int .i64 0]) 56 _ _ 30 78 w.heap.size [] l1 A1 n1 c1 (.slice A' 0 c') n1 rfl rfl underlying30 rX rfl (by omega) rfl rfl du (r1.ext ag) (by simp) (by simp;omega) (by simp;omega) xa ?_;intro A9 c9 w9 ao ai ck gq gp)
     exact Tzbu
    ·simp only [if_true,Nat.one_ne_zero,if_false] at du;have hlen:=du.len.1;rw [yx.out] at hlen;subst hlen;go_wp2_with (refine aJ (o:=⟨some 33,_,_,_,_,_⟩) cN iA (.agg #[.int .i64 0,.int .i64 0,.int .i64 0,.int .i64 0,.int .i64 0,.int .i64 0,.int .i64 0]) 56 _ _ 30 78 w.heap.size l1 l2 A2 n2 c2 (.slice A' n1 c') (n1+n2) rfl rfl underlying30 rX rfl (by omega) rfl rfl du (r2.ext ag) (by rw [yx.out]) (by rw [yx.out];exact hb) (by rw [yx.out];omega) xa ?_;intro A9 c9 w9 ao ai ck gq gp)
     exact Tzbs
    ·exact Tzbk
end Go.Proofs.YtiblijmngokcgaaGreatDoor
