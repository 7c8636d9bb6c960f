import Derived.Test.YtiblijmngokcgaaGreatDoorFloatZs
set_option linter.unusedVariables false
namespace Go.Proofs.YtiblijmngokcgaaGreatDoor
open Go.RowKit
def fk (ds:List Nat) (o:Oper):Option Nat:=o.dst.bind λd=>bif ds.contains d then some d else none
theorem oL {ds:List Nat} {o:Oper} {d:Nat} (h:fk ds o=some d):d∈ds/\o.dst=some d:=by
 unfold fk at h;cases hd:o.dst with
 |none=>rw [hd] at h;cases h
 |some e=>
  rw [hd] at h;simp only [Option.bind_some] at h;cases hc:ds.contains e with
  |false=>rw [hc] at h;cases h
  |true=>
   rw [hc] at h;cases h;exact ⟨by simpa using hc,rfl⟩
def lH (m:Nat->Option Nat) (d X:Nat):Nat->Option Nat:=λi=>if i=d then some X else m i
inductive xy (ds:List Nat) (Z:Nat->Obj):(Nat->Option Nat)->World->(Nat->Option Nat)->World->Prop
 |refl (m:Nat->Option Nat) (w:World):xy ds Z m w m w
 |step {m:Nat->Option Nat} {w:World} {m1:Nat->Option Nat} {w1:World} (d:Nat) (hd:d∈ds) (h0:m1 d=none) (h:xy ds Z m w m1 w1):xy ds Z m w (lH m1 d w1.heap.size) (w1.alloc (Z d))
theorem xy.trans {ds:List Nat} {Z:Nat->Obj} {m m1 m2:Nat->Option Nat} {w w1 w2:World} (h:xy ds Z m w m1 w1) (k:xy ds Z m1 w1 m2 w2):xy ds Z m w m2 w2:=by
 induction k with
 |refl=>exact h
 |step d hd h0 _ ih=>exact .step d hd h0 ih
theorem xy.front {ds:List Nat} {Z:Nat->Obj} {m m1:Nat->Option Nat} {w w1:World} {d:Nat} (hd:d∈ds) (h0:m d=none) (h:xy ds Z (lH m d w.heap.size) (w.alloc (Z d)) m1 w1):xy ds Z m w m1 w1:=
 xy.trans (.step d hd h0 (.refl m w)) h
theorem xy.keeps {ds:List Nat} {Z:Nat->Obj} {m m1:Nat->Option Nat} {w w1:World} (h:xy ds Z m w m1 w1) {d X:Nat} (hm:m d=some X):m1 d=some X:=by
 induction h with
 |refl=>exact hm
 |step e he h0 _ ih=>
  have:=ih;unfold lH;by_cases hde:d=e
  ·subst hde;rw [h0] at this;cases this
  ·rw [if_neg hde];exact this
theorem xy.class_ {ds:List Nat} {Z:Nat->Obj} {S:World->Prop} (Kp:∀d∈ds,∀w,S w->S (w.alloc (Z d))) {m m1:Nat->Option Nat} {w w1:World} (h:xy ds Z m w m1 w1) (hS:S w):S w1:=by
 induction h with
 |refl=>exact hS
 |step e he h0 _ ih=>exact Kp e he _ ih
section
variable {rx : Bool} {P : Program} {ops : Array Oper} {K0 : Act -> World -> Prop} {S : World -> Prop} {kd : Oper -> Nat} {ds : List Nat} {Z : Nat -> Obj} {res : Nat -> Nat -> Value}
def xt (P:Program) (ops:Array Oper) (res:Nat->Nat->Value) (Z:Nat->Obj) (d:Nat) (a:Act) (o:Oper):Prop:=
 Region.wanted o (yielded ops a.tmps)=true/\∀w',(execOp a.eval o).run P w' = .ok (.value (res d w'.heap.size)) (w'.alloc (Z d))
theorem xt.same {d:Nat} {a a' :Act} {o:Oper} (h:xt P ops res Z d a o) (he:execOp a'.eval o=execOp a.eval o) (hw:Region.wanted o (yielded ops a'.tmps)=Region.wanted o (yielded ops a.tmps)):xt P ops res Z d a' o:=by
 unfold xt at*;rw [he,hw];exact h
def Nd (rx:Bool) (rest:List Oper) (S:World->Prop) (w:World):Prop:=(rx && rest.isEmpty)=true∨S w
theorem Nd.ne {rx:Bool} {rest:List Oper} {S:World->Prop} {w:World} (h:Nd rx rest S w) (hl:rest≠ []):S w:=by
 rcases h with h|h
 ·cases rest with
  |nil=>exact absurd rfl hl
  |cons o r=>simp at h
 ·exact h
theorem Nd.mid {rx:Bool} {pre post:List Oper} {x:Oper} {S:World->Prop} {w:World} (h:Nd rx (pre++x::post) S w):S w:=h.ne (by simp)
theorem Nd.far {rx:Bool} {pre post:List Oper} {S:World->Prop} {w:World} (h:Nd rx (pre++post) S w) (hn:rx=false∨post≠ []):S w:=by
 rcases hn with hn|hn
 ·rcases h with h|h
  ·rw [hn] at h;cases h
  ·exact h
 ·exact h.ne (by simp [hn])
def cM (rx:Bool) (P:Program) (ops:Array Oper) (S:World->Prop) (kd:Oper->Nat) (ds:List Nat) (Z:Nat->Obj) (res:Nat->Nat->Value) (K0:Act->World->Prop):List Oper->(Nat->Option Nat)->Act->World->Prop
 |[],_,a,w=>K0 a w
 |o::rest,m,a,w=>
  match fk ds o with
  |some d=>xt P ops res Z d a o/\∀m1 w1 X,xy ds Z m w m1 w1->m1 d=some X->cM rx P ops S kd ds Z res K0 rest m1 (a.put o.dst (res d X)) w1
  |none=>
   if kd o=0 then∃v,YieldsIf P ops S o v a/\cM rx P ops S kd ds Z res K0 rest m (a.put o.dst v) w
   else∀m1 w1,xy ds Z m w m1 w1->wpList P ops (cj (λa' w' =>Nd rx rest S w'/\cM rx P ops S kd ds Z res K0 rest m1 a' w')) [o] a w1
theorem Rl {o:Oper} {rest:List Oper} {m:Nat->Option Nat} {a:Act} {w:World} {d:Nat} (hx:fk ds o=some d):cM rx P ops S kd ds Z res K0 (o::rest) m a w↔(xt P ops res Z d a o/\∀m1 w1 X,xy ds Z m w m1 w1->m1 d=some X->cM rx P ops S kd ds Z res K0 rest m1 (a.put o.dst (res d X)) w1):=by
 rw [cM];simp only [hx]
theorem Ms {o:Oper} {rest:List Oper} {m:Nat->Option Nat} {a:Act} {w:World} (hx:fk ds o=none) (hk:kd o=0):cM rx P ops S kd ds Z res K0 (o::rest) m a w↔∃v,YieldsIf P ops S o v a/\cM rx P ops S kd ds Z res K0 rest m (a.put o.dst v) w:=by
 rw [cM];simp only [hx];rw [if_pos hk]
theorem Tu {o:Oper} {rest:List Oper} {m:Nat->Option Nat} {a:Act} {w:World} (hx:fk ds o=none) (hk:kd o≠0):cM rx P ops S kd ds Z res K0 (o::rest) m a w↔∀m1 w1,xy ds Z m w m1 w1->(if Region.wanted o (yielded ops a.tmps)=true then o.wp P a w1 (λa' w' =>Nd rx rest S w'/\cM rx P ops S kd ds Z res K0 rest m1 a' w') (cj K0) else (Nd rx rest S w1/\cM rx P ops S kd ds Z res K0 rest m1 (a.put o.dst undef) w1)):=by
 rw [cM];simp only [hx];rw [if_neg hk];exact Tzfc
theorem AD {x:Oper} {d:Nat} (hx:fk ds x=some d) {post:List Oper}:∀(pre:List Oper) (m:Nat->Option Nat) (a:Act) (w:World),m d=none->cM rx P ops S kd ds Z res K0 (pre++x::post) m a w->cM rx P ops S kd ds Z res K0 (pre++x::post) (lH m d w.heap.size) a (w.alloc (Z d))
 |[],m,a,w,hm,h=>by
  have h:=(Rl hx).1 h;exact (Rl hx).2 ⟨h.1,λm1 w1 X hF hX=>h.2 m1 w1 X (hF.front (oL hx).1 hm) hX⟩
 |k::pre,m,a,w,hm,h=>by
  have h' :cM rx P ops S kd ds Z res K0 (k::(pre++x::post)) m a w:=h;show cM rx P ops S kd ds Z res K0 (k::(pre++x::post)) _ _ _;cases hf:fk ds k with
  |some e=>
   have h1:=(Rl hf).1 h';exact (Rl hf).2 ⟨h1.1,λm1 w1 X hF hX=>h1.2 m1 w1 X (hF.front (oL hx).1 hm) hX⟩
  |none=>
   by_cases hk:kd k=0
   ·obtain ⟨u,hu,h1⟩:=(Ms hf hk).1 h';exact (Ms hf hk).2 ⟨u,hu,AD hx pre _ _ _ hm h1⟩
   ·exact (Tu hf hk).2 λm1 w1 hF=>(Tu hf hk).1 h' m1 w1 (hF.front (oL hx).1 hm)
theorem AC {x:Oper} {d:Nat} (hx:fk ds x=some d) (hsx:∀cs b,x.op≠ .select cs b) {post:List Oper} (X:Nat):
 ∀(pre:List Oper) (m:Nat->Option Nat) (a:Act) (w:World),m d=some X->(∀k∈pre,x.apart ops k=true/\(∀cs b,k.op≠ .select cs b)/\∀e,fk ds k=some e->e≠d)->cM rx P ops S kd ds Z res K0 (pre++x::post) m a w->xt P ops res Z d a x/\cM rx P ops S kd ds Z res K0 (pre++post) m (a.put x.dst (res d X)) w
 |[],m,a,w,hm,_,h=>by
  have h:=(Rl hx).1 h;exact ⟨h.1,h.2 m w X (.refl m w) hm⟩
 |k::pre,m,a,w,hm,hp,h=>by
  obtain ⟨fm,tq,fb⟩:=hp k (by simp);have ih:=λm a w hm=>AC hx hsx X (post:=post) pre m a w hm (λy hy=>hp y (by simp [hy]))
  have back:∀u,xt P ops res Z d (a.put k.dst u) x->xt P ops res Z d a x:=λu hy=>hy.same (bQ hsx fm a u).1.symm (bQ hsx fm a u).2.symm
  have yq:∀q u,xt P ops res Z d ({a with defers:=q::a.defers}.put k.dst u) x->xt P ops res Z d a x:=λq u hy=>by
   have:=hy.same (bQ hsx fm {a with defers:=q::a.defers} u).1.symm (bQ hsx fm {a with defers:=q::a.defers} u).2.symm;exact this
  have h' :cM rx P ops S kd ds Z res K0 (k::(pre++x::post)) m a w:=h;obtain ⟨e3,e4⟩:=cO tq fm a (res d X);cases hf:fk ds k with
  |some e=>
   have h1:=(Rl hf).1 h';have hR:xt P ops res Z d a x:=by
    cases hme:m e with
    |some Y=>exact back _ (ih m _ w hm (h1.2 m w Y (.refl m w) hme)).1
    |none=>
     have hs:lH m e w.heap.size d=some X:=by unfold lH;rw [if_neg (Ne.symm (fb e hf))];exact hm
     exact back _ (ih _ _ _ hs (h1.2 (lH m e w.heap.size) (w.alloc (Z e)) w.heap.size (.step e (oL hf).1 hme (.refl m w)) (by unfold lH;rw [if_pos rfl]))).1
   refine ⟨hR,?_⟩;show cM rx P ops S kd ds Z res K0 (k::(pre++post)) _ _ _;refine (Rl hf).2 ⟨h1.1.same e3 e4,λm1 w1 Y hF hY=> ?_⟩;rw [Act.put_comm a (res d X) (res e Y) (Oper.apart_spec fm).2.1];exact (ih m1 _ w1 (hF.keeps hm) (h1.2 m1 w1 Y hF hY)).2
  |none=>
   by_cases hk:kd k=0
   ·obtain ⟨u,hu,h1⟩:=(Ms hf hk).1 h';have h2:=ih m _ w hm h1;refine ⟨back _ h2.1,?_⟩;show cM rx P ops S kd ds Z res K0 (k::(pre++post)) _ _ _;refine (Ms hf hk).2 ⟨u,hu.of_same e3 e4,?_⟩;rw [Act.put_comm a (res d X) u (Oper.apart_spec fm).2.1];exact h2.2
   ·have fg:=(Tu hf hk).1 h';have h0:=fg m w (.refl m w);by_cases hw:Region.wanted k (yielded ops a.tmps)=true
    ·simp only [hw,if_true] at h0 fg;refine ⟨?_,?_⟩
     ·obtain ⟨u,w',h1|⟨q,h1⟩⟩:=sU h0
      ·exact back u (ih m _ _ hm h1.2).1
      ·exact yq q u (ih m _ _ hm h1.2).1
     ·show cM rx P ops S kd ds Z res K0 (k::(pre++post)) _ _ _;refine (Tu hf hk).2 λm1 w1 hF=> ?_
      rw [e4];simp only [hw,if_true];refine lF fm tq ?_;exact Oper.wp_mono (λa' w' h2=>⟨.inr h2.1.mid,(ih m1 _ _ (hF.keeps hm) h2.2).2⟩) (fg m1 w1 hF)
    ·simp only [hw] at h0 fg;refine ⟨back _ (ih m _ _ hm h0.2).1,?_⟩;show cM rx P ops S kd ds Z res K0 (k::(pre++post)) _ _ _;refine (Tu hf hk).2 λm1 w1 hF=> ?_
     rw [e4];simp only [hw];rw [Act.put_comm a (res d X) undef (Oper.apart_spec fm).2.1];have h1:=fg m1 w1 hF;exact ⟨.inr h1.1.mid,(ih m1 _ _ (hF.keeps hm) h1.2).2⟩
theorem NI (Kp:∀d∈ds,∀w,S w->S (w.alloc (Z d))) {oj:Oper} (hj:kd oj=0) (Gw:fk ds oj=none) (zg:∀cs b,oj.op≠ .select cs b) {post:List Oper}:
 ∀(pre:List Oper) (m:Nat->Option Nat) (a:Act) (w:World),S w->(∀k∈pre,oj.apart ops k=true/\∀cs b,k.op≠ .select cs b)->cM rx P ops S kd ds Z res K0 (pre++oj::post) m a w->
  ∃v,YieldsIf P ops S oj v a/\cM rx P ops S kd ds Z res K0 (pre++post) m (a.put oj.dst v) w
 |[],m,a,w,hS,_,h=>(Ms Gw hj).1 h
 |k::pre,m,a,w,hS,hp,h=>by
  obtain ⟨fm,tq⟩:=hp k (by simp);have ih:=λm a w hS=>NI Kp hj Gw zg (post:=post) pre m a w hS (λx hx=>hp x (by simp [hx]))
  have back:∀u v,YieldsIf P ops S oj v (a.put k.dst u)->YieldsIf P ops S oj v a:=λu v hy=>
   hy.of_same (bQ zg fm a u).1.symm (bQ zg fm a u).2.symm
  have yq:∀d u v,YieldsIf P ops S oj v ({a with defers:=d::a.defers}.put k.dst u)->YieldsIf P ops S oj v a:=λd u v hy=>by
   exact Tzdo
  have h' :cM rx P ops S kd ds Z res K0 (k::(pre++oj::post)) m a w:=h;cases hf:fk ds k with
  |some e=>
   have h1:=(Rl hf).1 h';obtain ⟨v,hv⟩:∃v,YieldsIf P ops S oj v a:=by
    cases hme:m e with
    |some Y=>
     obtain ⟨v,hv,_⟩:=ih m _ w hS (h1.2 m w Y (.refl m w) hme);exact ⟨v,back _ v hv⟩
    |none=>
     obtain ⟨v,hv,_⟩:=ih _ _ _ (Kp e (oL hf).1 w hS) (h1.2 (lH m e w.heap.size) (w.alloc (Z e)) w.heap.size (.step e (oL hf).1 hme (.refl m w)) (by unfold lH;rw [if_pos rfl]));exact ⟨v,back _ v hv⟩
   obtain ⟨e3,e4⟩:=cO tq fm a v;refine ⟨v,hv,?_⟩;show cM rx P ops S kd ds Z res K0 (k::(pre++post)) _ _ _;refine (Rl hf).2 ⟨h1.1.same e3 e4,λm1 w1 Y hF hY=> ?_⟩;rw [Act.put_comm a v (res e Y) (Oper.apart_spec fm).2.1];obtain ⟨v',Rw,h2⟩:=ih m1 _ w1 (hF.class_ Kp hS) (h1.2 m1 w1 Y hF hY);have:v=v' :=fJ hS hv (back _ v' Rw);subst this;exact h2
  |none=>
   by_cases hk:kd k=0
   ·obtain ⟨u,J5,h1⟩:=(Ms hf hk).1 h';obtain ⟨v,hv,h2⟩:=ih m _ w hS h1;obtain ⟨e3,e4⟩:=cO tq fm a v;refine ⟨v,back u v hv,(Ms hf hk).2 ⟨u,J5.of_same e3 e4,?_⟩⟩;exact Tzek
   ·have fg:=(Tu hf hk).1 h';have h0:=fg m w (.refl m w);by_cases hw:Region.wanted k (yielded ops a.tmps)=true
    ·simp only [hw,if_true] at h0 fg;obtain ⟨v,hv⟩:∃v,YieldsIf P ops S oj v a:=by
      obtain ⟨u,w',h1|⟨d,h1⟩⟩:=sU h0
      ·obtain ⟨v,hv,_⟩:=ih m _ _ h1.1.mid h1.2;exact ⟨v,back u v hv⟩
      ·obtain ⟨v,hv,_⟩:=ih m _ _ h1.1.mid h1.2;exact ⟨v,yq d u v hv⟩
     refine ⟨v,hv,?_⟩;show cM rx P ops S kd ds Z res K0 (k::(pre++post)) m (a.put oj.dst v) w;refine (Tu hf hk).2 λm1 w1 hE=> ?_
     rw [(cO tq fm a v).2];simp only [hw,if_true];refine lF fm tq ?_;refine Oper.wp_mono (λa' w' h1=> ?_) (rA (fg m1 w1 hE));obtain ⟨⟨hS0',h1⟩,hsh⟩:=h1;have yn :=hS0'.mid;obtain ⟨v',Rw,h2⟩:=ih m1 _ _ yn h1;have:v=v' :=by
      exact Tzdu
     subst this;exact ⟨.inr yn,h2⟩
    ·simp only [hw] at h0 fg;obtain ⟨v,hv,_⟩:=ih m _ _ h0.1.mid h0.2;refine ⟨v,back _ v hv,?_⟩;show cM rx P ops S kd ds Z res K0 (k::(pre++post)) m (a.put oj.dst v) w;refine (Tu hf hk).2 λm1 w1 hE=> ?_
     rw [(cO tq fm a v).2];simp only [hw];rw [Act.put_comm a v undef (Oper.apart_spec fm).2.1];have h1:=fg m1 w1 hE;obtain ⟨v',Rw,h2⟩:=ih m1 _ _ h1.1.mid h1.2;have:v=v' :=fJ hS (back _ v hv) (back _ v' Rw);subst this;exact ⟨.inr h1.1.mid,h2⟩
theorem IG {j:Nat} {oj:Oper} (hj:ops[j]? =some oj) (Gw:fk ds oj=none) (VN:kd oj≠0) (zg:∀cs b,oj.op≠ .select cs b) {post:List Oper} (m:Nat->Option Nat):
 ∀(pre:List Oper) (a:Act) (w:World),(rx=false∨pre=[]∨post≠ [])->(∀k∈pre,fk ds k=none/\kd k=0/\k.apart ops oj=true/\∀cs b,k.op≠ .select cs b)->cM rx P ops S kd ds Z res K0 (pre++oj::post) m a w->
  wpOp P ops (cj K0) j (λa' w' =>Nd rx (pre++post) S w'/\cM rx P ops S kd ds Z res K0 (pre++post) m a' w') a w
 |[],a,w,_,_,h=>by
  have h1:=(Tu Gw VN).1 h m w (.refl m w);exact Tzep
 |k::pre,a,w,fb,hp,h=>by
  have Ch:rx=false∨post≠ []:=by rcases fb with h|h|h;exact .inl h;cases h;exact .inr h
  obtain ⟨hf,hk,fm,tq⟩:=hp k (by simp);have h' :cM rx P ops S kd ds Z res K0 (k::(pre++oj::post)) m a w:=h;obtain ⟨u,hu,h1⟩:=(Ms hf hk).1 h';have h2:=IG hj Gw VN zg (post:=post) m pre (a.put k.dst u) w (Ch.imp id .inr) (λx hx=>hp x (by simp [hx])) h1;have h3:=wpOp_putIf hj fm tq zg (λc a w h=>h) hu h2;refine wpOp_mono (λa' w' h4=> ?_) h3;obtain ⟨hy,yn,h5⟩:=h4;exact ⟨.inr (yn.far Ch),(Ms hf hk).2 ⟨u,hy,h5⟩⟩
end
section
variable {rx : Bool} {P : Program} {K0 : Act -> World -> Prop}
theorem OR (kd:Oper->Nat) (S:World->Prop) (ds:List Nat) (Z:Nat->Obj) (res:Nat->Nat->Value) (l:List Oper) (Fo:Region.noSelect l.toArray=true) (Kp:∀d∈ds,∀w,S w->S (w.alloc (Z d)))
 (jx:∀(j:Nat) (o:Oper),l[j]? =some o->(∀e∈o.after,Region.binds .any e=true->e.on<l.length/\e.on<j)/\(fk ds o=none->kd o≠1)/\∀(i:Nat) (u:Oper),i<j->l[i]? =some u->((qm l).getD j 0).testBit i=true∨(∃d,fk ds o=some d/\o.apart l.toArray u=true)∨(fk ds o=none/\((fk ds u=none/\cJ kd l.toArray u o=true)∨(kd o=0/\o.apart l.toArray u=true))))
 (VL:rx=true->∀i,i+1<l.length->((qm l).getD (l.length-1) 0).testBit i=true)
 (Cw:∀(i j:Nat) (u o:Oper) (d:Nat),l[i]? =some u->l[j]? =some o->fk ds u=some d->fk ds o=some d->i=j):
 ∀(n:Nat) (rem:List Nat) (listed:Array Bool) (m:Nat->Option Nat) (a:Act) (w:World),(rem=[]∨S w)->rem.length=n->(∀j,j∈rem↔listed.getD j true=false)->rem.Pairwise (λi j=>i<j)->(∀i∈rem,∀o d,l[i]? =some o->fk ds o=some d->m d=none)->listed.size=l.length->
  (∀k o,l[k]? =some o->listed.getD k false=true->∀e∈o.after,Region.binds .any e=true->listed.getD e.on false=true)->
  cM rx P l.toArray S kd ds Z res K0 (bK l rem) m a w->wpAny P .any l.toArray (cj K0) n listed a w:=by
 have jf:∀(j:Nat) (o:Oper),l[j]? =some o->∀cs b,o.op≠ .select cs b:=λj o ho cs b=>Region.noSelect_spec Fo j o cs b (by simpa using ho)
 intro n;induction n with
 |zero=>
  intro rem listed m a w _ hn et _ _ _ _ h;exact Tzcc
 |succ n ih=>
  intro rem listed m a w hS0 hn et Cg hmn ef gy h;have hS:S w:=by
   rcases hS0 with e|e
   ·rw [e] at hn;cases hn
   ·exact e
  have inr:∀j,j∈rem->j<l.length:=λj hj=>by
   have:=(et j).1 hj;exact Tzb6
  have L8:∀j,j<l.length->j∉rem->listed.getD j false=true:=λj hj hm=>by
   exact Tzcf
  refine ⟨λh0=> ?_,λj hj=> ?_⟩
  ·exfalso;match rem,hn with
   |r::rem',_=>
    have hm:r∈r::rem' :=by simp
    have Ei:=inr r hm;have ho:l[r]? =some l[r]:=List.getElem?_eq_getElem Ei
    have:r∈Region.ready .any l.toArray listed:=mem_ready.2 ⟨(et r).1 hm,l[r],by simp,λe he hb=>by
     obtain ⟨Ja,af⟩:=(jx r _ ho).1 e he hb;refine L8 e.on Ja (λeg=> ?_);rcases List.mem_cons.1 eg with eg|eg
     ·omega
     ·have:=(List.pairwise_cons.1 Cg).1 _ eg;omega⟩
    rw [h0] at this;cases this
  ·obtain ⟨Gj,o,ho,j8⟩:=mem_ready.1 hj;have j5 :l[j]? =some o:=by simpa using ho
   have eg:j∈rem:=(et j).2 Gj;obtain ⟨pre,post,rfl⟩:=List.append_of_mem eg;rw [List.pairwise_append] at Cg;obtain ⟨Ki,Nx,Eh⟩:=Cg;have N3:=inr j eg;have rn:∀i,i∈pre++j::post->¬((qm l).getD j 0).testBit i=true:=λi hi hb=>by
    exact Tzdi
   have J8:j∉pre++post:=by
    exact Tzbr
   have q1:(pre++post).length=n:=by simp at hn ⊢;omega
   have q2:∀i,i∈pre++post↔(listed.setIfInBounds j true).getD i true=false:=by
    intro i;exact Tzbg
   have q3:(pre++post).Pairwise (λi j=>i<j):=by
    exact Tzca
   have q4:∀k o',l[k]? =some o'->(listed.setIfInBounds j true).getD k false=true->∀e∈o'.after,Region.binds .any e=true->(listed.setIfInBounds j true).getD e.on false=true:=by
    exact Tzba
   rw [bR,fM j5] at h;have VG:∀u∈bK l pre,(∀cs b,u.op≠ .select cs b)/\((∃d,fk ds o=some d/\o.apart l.toArray u=true/\∀e,fk ds u=some e->e≠d)∨(fk ds o=none/\((fk ds u=none/\cJ kd l.toArray u o=true)∨(kd o=0/\o.apart l.toArray u=true)))):=λu hu=>by
    obtain ⟨i,hi,Fl⟩:=fT hu;have uq:i<j:=Eh i hi j (by simp);refine ⟨jf i u Fl,?_⟩;rcases (jx j o j5).2.2 i u uq Fl with hb|⟨d,hd,hb⟩|hb
    ·exact absurd hb (rn i (by simp [hi]))
    ·exact .inl ⟨d,hd,hb,λe he hed=>by subst hed;have:=Cw i j u o e Fl j5 he hd;omega⟩
    ·exact .inr hb
   cases hf:fk ds o with
   |some d=>
    have hmd:=hmn j eg o d j5 hf;have XM:=(oL hf).1
    have Oe:=AC hf (jf j o j5) w.heap.size (bK l pre) (lH m d w.heap.size) a (w.alloc (Z d)) (by unfold lH;rw [if_pos rfl]) (λu hu=>by
     obtain ⟨h1,h2|h2⟩:=VG u hu
     ·obtain ⟨e,he,h3,h4⟩:=h2;rw [hf] at he;cases he;exact ⟨h3,h1,h4⟩
     ·rw [hf] at h2;cases h2.1) (AD hf _ _ _ _ hmd h)
    obtain ⟨hR,h1⟩:=Oe;rw [<-bR] at h1
    have h2:=ih (pre++post) (listed.setIfInBounds j true) _ _ _ (.inr (Kp d XM w hS)) q1 q2 q3 (λi hi u e hu he=>by
     have hie:e≠d:=λhed=>by
      subst hed;have:=Cw i j u o e hu j5 he hf;subst this;exact J8 hi
     unfold lH;rw [if_neg hie];refine hmn i ?_ u e hu he;rcases List.mem_append.1 hi with h|h
     ·simp [h]
     ·simp [h]) (by simpa using ef) q4 h1
    unfold wpOp;simp only [ho];simp only [hR.1,if_true];refine .inl ?_;unfold Oper.wp;rw [hR.2];exact h2
   |none=>
    have Lh:∀u∈bK l pre,((fk ds u=none/\cJ kd l.toArray u o=true)∨(kd o=0/\o.apart l.toArray u=true))/\(∀cs b,u.op≠ .select cs b):=λu hu=>by
     obtain ⟨h1,h2|h2⟩:=VG u hu
     ·obtain ⟨e,he,_⟩:=h2;rw [hf] at he;cases he
     ·exact ⟨h2.2,h1⟩
    have hK:∀a' w',Nd rx (bK l pre++bK l post) S w'->cM rx P l.toArray S kd ds Z res K0 (bK l pre++bK l post) m a' w'->wpAny P .any l.toArray (cj K0) n (listed.setIfInBounds j true) a' w' :=by
     intro a' w' yn h';rw [<-bR] at h';have M0:pre++post=[]∨S w' :=by
      by_cases he:pre++post=[]
      ·exact .inl he
      ·refine .inr (yn.ne (λe2=>he ?_));rw [<-bR] at e2;have fg:∀i∈pre++post,∃u,l[i]? =some u:=λi hi=>⟨_,List.getElem?_eq_getElem (inr i (by simp at hi ⊢;rcases hi with h|h;exact .inl h;exact .inr (.inr h)))⟩
       cases hpp:pre++post with
       |nil=>rfl
       |cons i rest=>
        rw [hpp] at e2 fg;obtain ⟨u,hu⟩:=fg i (by simp);rw [fM hu] at e2;cases e2
     exact ih (pre++post) _ m a' w' M0 q1 q2 q3 (λi hi u e hu he=>hmn i (by
      rcases List.mem_append.1 hi with h|h
      ·simp [h]
      ·simp [h]) u e hu he) (by simpa using ef) q4 h'
    by_cases k0:kd o=0
    ·obtain ⟨v,hv,h1⟩:=NI Kp k0 hf (jf j o j5) (bK l pre) m a w hS (λu hu=>by
      obtain ⟨⟨hf,hb⟩|hb,hs⟩:=Lh u hu
      ·simp only [cJ,Bool.and_eq_true] at hb;exact ⟨hb.1.2,hs⟩
      ·exact ⟨hb.2,hs⟩) h
     exact (mM hv hS).wpOp ho (hK _ _ (.inr hS) h1)
    ·have hends:rx=false∨bK l pre=[]∨bK l post≠ []:=by
      cases hrx:rx with
      |false=>exact .inl rfl
      |true=>
       refine .inr ?_;by_cases Ch:post=[]
       ·refine .inl ?_;have hjl1:j+1=l.length:=by
         by_cases hjl1:j+1=l.length
         ·exact hjl1
         ·exfalso;have hlm:l.length-1∉pre++j::post:=λhm=>by
           rw [Ch] at hm;rcases List.mem_append.1 hm with hm|hm
           ·have:=Eh _ hm j (by simp);omega
           ·simp at hm;omega
          have hlL:=L8 (l.length-1) (by omega) hlm;have:=iI (λk=>listed.getD k false=true) l (λk o hk hL=>gy k o hk hL) (l.length-1) _ (List.getElem?_eq_getElem (by omega)) (λe he hb=>gy (l.length-1) _ (List.getElem?_eq_getElem (by omega)) hlL e he hb) j (VL hrx j (by omega));have h2:=(et j).1 (by simp);have af:j<listed.size:=by omega
          simp [af] at this h2;rw [this] at h2;cases h2
        cases hpp:pre with
        |nil=>rfl
        |cons i rest=>
         exfalso;have uq:i<j:=Eh i (by rw [hpp];simp) j (by simp);have:=VL hrx i (by omega);rw [show l.length-1=j by omega] at this;exact rn i (by rw [hpp];simp) this
       ·refine .inr ?_;cases hpp:post with
        |nil=>exact absurd hpp Ch
        |cons i rest=>
         rw [fM (List.getElem?_eq_getElem (inr i (by rw [hpp];simp)))];simp
     have h1:=IG ho hf k0 (jf j o j5) m (bK l pre) a w hends (λu hu=>by
      obtain ⟨⟨hf2,hb⟩|hb,hs⟩:=Lh u hu;case inr=>exact absurd hb.1 k0
      simp only [cJ,Bool.and_eq_true,Bool.or_eq_true,beq_iff_eq] at hb;refine ⟨hf2,?_,hb.1.1,hs⟩;rcases hb.2 with (fa|fa)|fa
      ·exact fa
      ·exact absurd fa k0
      ·exact absurd fa.2 ((jx j o j5).2.1 hf)) h
     exact wpOp_mono (λa' w' h2=>hK a' w' h2.1 h2.2) h1
def uE (ds:List Nat) (l:List Oper) (b:Array Nat) (j:Nat):Bool:=
 match l[j]? with
 |none=>true
 |some o=>(o.after.all λe=> !Region.binds .any e || decide (e.on<j)) && ((fk ds o).isSome || !(bA o==1)) &&
  (List.range j).all λi=>match l[i]? with
   |none=>true
   |some u=>((b.getD j 0).testBit i || (match fk ds o with|some _=>o.apart l.toArray u|none=>((fk ds u).isNone && cJ bA l.toArray u o) || (bA o==0 && o.apart l.toArray u))) && !((fk ds o).isSome && fk ds o==fk ds u)
def DM (rx:Bool) (ds:List Nat) (l:List Oper):Bool:=Region.noSelect l.toArray && ((List.range l.length).all (uE ds l (qm l)) && (!rx || (List.range (l.length-1)).all λi=>((qm l).getD (l.length-1) 0).testBit i))
theorem nW (rx:Bool) (S:World->Prop) (ds:List Nat) (Z:Nat->Obj) (res:Nat->Nat->Value) {id:Nat} {l:List Oper} {Q:Exit->Act->World->Prop} {a:Act} {w:World}
 (hm:P.follows .mixedOrders=true) (hB:DM rx ds l=true) (Kp:∀d∈ds,∀w,S w->S (w.alloc (Z d))) (hS:S w.drew)
 (h:cM rx P l.toArray S bA ds Z res (Q .normal) l (λ_=>none) a w.drew):(Code.region id l.toArray true).wp P Q a w:=by
 refine Code.wp_mono cj.to (wp_region_any hm ?_);simp only [DM,Bool.and_eq_true,List.all_eq_true,List.mem_range] at hB;obtain ⟨b1,b3,b4⟩:=hB;have yf:∀(i j:Nat) (u o:Oper),i<j->l[i]? =some u->l[j]? =some o->¬((fk ds o).isSome=true/\fk ds o=fk ds u):=λi j u o uq hu ho=>by
  have h3:=b3 j (List.getElem?_eq_some_iff.1 ho).1;simp only [uE,ho,Bool.and_eq_true,List.all_eq_true,List.mem_range] at h3;have h:=h3.2 i uq;simp only [hu,Bool.and_eq_true,Bool.not_eq_true',Bool.and_eq_false_iff] at h;rintro ⟨e1,e2⟩;rcases h.2 with h|h
  ·rw [h] at e1;cases e1
  ·rw [e2] at h;simp at h
 have:=OR (rx:=rx) (P:=P) (K0:=Q .normal) bA S ds Z res l b1 Kp (λj o ho=>by
  have h3:=b3 j (List.getElem?_eq_some_iff.1 ho).1;simp only [uE,ho,Bool.and_eq_true,Array.all_eq_true_iff_forall_mem,List.all_eq_true,List.mem_range] at h3;have N3:=(List.getElem?_eq_some_iff.1 ho).1;refine ⟨λe he hb=> ?_,λhn hk=> ?_,λi u hi hu=> ?_⟩
  ·have h:=h3.1.1 e he;have:e.on<j:=by simpa [hb] using h
   exact ⟨by omega,this⟩
  ·have:=h3.1.2;simp [hn,hk] at this
  ·have h:=h3.2 i hi;simp only [hu,Bool.and_eq_true,Bool.or_eq_true] at h;rcases h.1 with h|h
   ·exact .inl h
   ·cases hf:fk ds o with
    |some d=>
     rw [hf] at h;exact .inr (.inl ⟨d,rfl,h⟩)
    |none=>
     rw [hf] at h;simp only [Bool.and_eq_true,Bool.or_eq_true,beq_iff_eq,Option.isNone_iff_eq_none] at h;exact .inr (.inr ⟨rfl,h⟩)) (λhrx i hi=>by
  rw [hrx] at b4;simp only [Bool.not_true,Bool.false_or,List.all_eq_true,List.mem_range] at b4;exact b4 i (by omega)) (λi j u o d hu ho hfu yj=>by
  rcases Nat.lt_trichotomy i j with h|h|h
  ·exact absurd ⟨by rw [yj];rfl,yj.trans hfu.symm⟩ (yf i j u o h hu ho)
  ·exact h
  ·exact absurd ⟨by rw [hfu];rfl,hfu.trans yj.symm⟩ (yf j i o u h ho hu)) l.length (List.range l.length) (Array.replicate l.length false) (λ_=>none) a w.drew (.inr hS) (by simp) (λj=>by
   by_cases hj:j<l.length
   ·simp [hj]
   ·simp [hj]) List.pairwise_lt_range (λ_ _ _ _ _ _=>rfl) (by simp) (λk o hk hL=>by
   have af:=(List.getElem?_eq_some_iff.1 hk).1;simp [af] at hL) (by rw [kI];exact h)
 simpa using this
section
variable {ops : Array Oper} {S : World -> Prop} {ds : List Nat} {Z : Nat -> Obj} {res : Nat -> Nat -> Value} {m : Nat -> Option Nat}
theorem RG {o:Oper} {a:Act} {w:World} {rest:List Oper} (hf:fk ds o=none) (hk:dC o=0) (h:wpQuiet P ops (λ_=>True) (λa' =>cM rx P ops S bA ds Z res K0 rest m a' w) [o] a):cM rx P ops S bA ds Z res K0 (o::rest) m a w:=by
 have N2 :bA o=0:=by
  unfold bA;split
  ·rfl
  ·exact hk
 simp only [wpQuiet] at h;by_cases hw:Region.wanted o (yielded ops a.tmps)=true
 ·simp only [hw,if_true] at h;obtain ⟨v,hv,h⟩:=h;refine (Ms hf N2).2 ⟨v,.inl ⟨hw,λw' ah => ?_⟩,h⟩;have:=hv w' trivial;exact Tzbe
 ·simp only [hw] at h;exact (Ms hf N2).2 ⟨undef,.inr ⟨by simpa using hw,rfl⟩,h⟩
theorem RE {o:Oper} {a:Act} {w:World} {rest:List Oper} (hf:fk ds o=none) (hk:nQ o=true) (h:wpQuiet P ops (λ_=>True) (λa' =>cM rx P ops S bA ds Z res K0 rest m a' w) [o] a):cM rx P ops S bA ds Z res K0 (o::rest) m a w:=
 RG hf (by
  unfold nQ at hk;split at hk
  ·cases hk
  ·simpa using hk) h
theorem mW {o:Oper} {a:Act} {w:World} {rest:List Oper} {t:TypeId} {x:Operand} (A:Addr) (v:Value) (hf:fk ds o=none) (ho:o.op= .load t x) (hw:Region.wanted o (yielded ops a.tmps)=true) (hx:a.eval x= .pointer (some A))
 (hv:∀w',S w'->(loadVar t A).run P w' = .ok v w') (h:cM rx P ops S bA ds Z res K0 rest m (a.put o.dst v) w):cM rx P ops S bA ds Z res K0 (o::rest) m a w:=by
 refine (Ms hf (by unfold bA;rw [ho])).2 ⟨v,.inl ⟨hw,λw' ah => ?_⟩,h⟩;exact Tzd4
theorem sV {o:Oper} {a:Act} {w:World} {rest:List Oper} (hf:fk ds o=none) (hk:(bA o==0)=false) (h:∀m1 w1,xy ds Z m w m1 w1->wpList P ops (cj (λa' w' =>Nd rx rest S w'/\cM rx P ops S bA ds Z res K0 rest m1 a' w')) [o] a w1):cM rx P ops S bA ds Z res K0 (o::rest) m a w:=by
 rw [cM];simp only [hf];rw [if_neg (by simpa using hk)];exact h
theorem xy.done {m m1:Nat->Option Nat} {w w1:World} (h:xy ds Z m w m1 w1) (fg:ds.all (λd=>(m d).isSome)=true):m1=m/\w1=w:=by
 induction h with
 |refl=>exact ⟨rfl,rfl⟩
 |step e he h0 _ ih=>
  obtain ⟨rfl,rfl⟩:=ih;have:=List.all_eq_true.1 fg e he;rw [h0] at this;cases this
theorem EV {o:Oper} {a:Act} {w:World} {rest:List Oper} (hf:fk ds o=none) (hk:(bA o==0)=false) (fg:ds.all (λd=>(m d).isSome)=true) (h:wpList P ops (cj (λa' w' =>Nd rx rest S w'/\cM rx P ops S bA ds Z res K0 rest m a' w')) [o] a w):cM rx P ops S bA ds Z res K0 (o::rest) m a w:=
 sV hf hk λm1 w1 hE=>by
  obtain ⟨rfl,rfl⟩:=hE.done fg;exact h
theorem yO {o:Oper} {a:Act} {w:World} {rest:List Oper} (d:Nat) (hf:fk ds o=some d) (hR:xt P ops res Z d a o) (h:∀m1 w1 X,xy ds Z m w m1 w1->m1 d=some X->cM rx P ops S bA ds Z res K0 rest m1 (a.put o.dst (res d X)) w1):cM rx P ops S bA ds Z res K0 (o::rest) m a w:=(Rl hf).2 ⟨hR,h⟩
theorem oC {a:Act} {w:World} {rest:List Oper} (hS:S w) (h:cM rx P ops S bA ds Z res K0 rest m a w):cj (λa' w' =>Nd rx rest S w'/\cM rx P ops S bA ds Z res K0 rest m a' w') .normal a w:=⟨.inr hS,h⟩
theorem LO {a:Act} {w:World} (h:K0 a w):cj (λa' w' =>Nd true [] S w'/\cM true P ops S bA ds Z res K0 [] m a' w') .normal a w:=⟨.inl rfl,h⟩
theorem OS {a:Act} {w:World} (h:K0 a w):cM rx P ops S bA ds Z res K0 [] m a w:=h
end
end
def Rj (B:Nat) (Z:Nat->Obj) (m:Nat->Option Nat) (w:World):Prop:=∀d X,m d=some X->B<=X/\w.heap[X]? =some (Z d)
theorem Rj.none_ (B:Nat) (Z:Nat->Obj) (w:World):Rj B Z (λ_=>none) w:=λd X h=>by cases h
section
variable {ds : List Nat} {Z : Nat -> Obj} {m m1 : Nat -> Option Nat} {w w1 : World}
theorem xy.bel (h:xy ds Z m w m1 w1):Below w.heap.size w w1:=by
 induction h with
 |refl=>exact Below.refl _ _
 |step d hd h0 _ ih=>exact ih.alloc ih.size _
theorem xy.bxs {B:Nat} (h:xy ds Z m w m1 w1) (hb:Rj B Z m w) (hB:B<=w.heap.size):Rj B Z m1 w1:=by
 induction h with
 |refl=>exact hb
 |step e he h0 hF ih=>
  intro d X hX;have hs:=hF.bel.size;unfold lH at hX;by_cases hde:d=e
  ·subst hde;rw [if_pos rfl] at hX;cases hX;exact ⟨by omega,heap_alloc_new _ _⟩
  ·rw [if_neg hde] at hX;have:=ih d X hX;exact ⟨this.1,(((Below.refl _ _).alloc (Nat.le_refl _) _).block X (Array.getElem?_eq_some_iff.1 this.2).1).trans this.2⟩
theorem Rj.lt {B:Nat} (h:Rj B Z m w) {b d:Nat} (hb:w.heap.size<=b):m d≠some b:=λe=>by
 have:=(Array.getElem?_eq_some_iff.1 (h d b e).2).1;omega
theorem Rj.ext {B:Nat} (h:Rj B Z m w) (hb:Below w.heap.size w w1):Rj B Z m w1:=λd X e=>⟨(h d X e).1,(hb.block X (Array.getElem?_eq_some_iff.1 (h d X e).2).1).trans (h d X e).2⟩
end
end Go.Proofs.YtiblijmngokcgaaGreatDoor
