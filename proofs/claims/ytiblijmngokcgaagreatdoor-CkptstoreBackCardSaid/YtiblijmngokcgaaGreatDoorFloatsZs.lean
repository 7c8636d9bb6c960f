import Derived.Test.YtiblijmngokcgaaGreatDoorMacZs
import Derived.Test.YtiblijmngokcgaaGreatDoorG20Zs
namespace Go.Proofs.YtiblijmngokcgaaGreatDoor
open Go.RowKit
set_option linter.unusedVariables false
def fk (ds:List Nat) (o:Oper):Option Nat:=o.dst.bind fun d=>bif ds.contains d then some d else none
theorem lE {ds:List Nat} {o:Oper} {d:Nat} (h:fk ds o=some d):d∈ds∧o.dst=some d:=by
 unfold fk at h
 cases hd:o.dst with
 |none=>rw [hd] at h;cases h
 |some e=>
  rw [hd] at h
  simp only [Option.bind_some] at h
  cases hc:ds.contains e with
  |false=>rw [hc] at h;cases h
  |true=>
   rw [hc] at h
   cases h
   exact ⟨by simpa using hc,rfl⟩
def iB (m:Nat→Option Nat) (d X:Nat):Nat→Option Nat:=fun i=>if i=d then some X else m i
inductive Flo (ds:List Nat) (Z:Nat→Obj):(Nat→Option Nat)→World→(Nat→Option Nat)→World→Prop
 |refl (m:Nat→Option Nat) (w:World):Flo ds Z m w m w
 |step {m:Nat→Option Nat} {w:World} {m1:Nat→Option Nat} {w1:World} (d:Nat) (hd:d∈ds) (h0:m1 d=none) (h:Flo ds Z m w m1 w1):Flo ds Z m w (iB m1 d w1.heap.size) (w1.alloc (Z d))
theorem Flo.trans {ds:List Nat} {Z:Nat→Obj} {m m1 m2:Nat→Option Nat} {w w1 w2:World} (h:Flo ds Z m w m1 w1) (k:Flo ds Z m1 w1 m2 w2):Flo ds Z m w m2 w2:=by
 induction k with
 |refl=>exact h
 |step d hd h0 _ ih=>exact .step d hd h0 ih
theorem Flo.front {ds:List Nat} {Z:Nat→Obj} {m m1:Nat→Option Nat} {w w1:World} {d:Nat} (hd:d∈ds) (h0:m d=none) (h:Flo ds Z (iB m d w.heap.size) (w.alloc (Z d)) m1 w1):Flo ds Z m w m1 w1:=
 Flo.trans (.step d hd h0 (.refl m w)) h
theorem Flo.keeps {ds:List Nat} {Z:Nat→Obj} {m m1:Nat→Option Nat} {w w1:World} (h:Flo ds Z m w m1 w1) {d X:Nat} (hm:m d=some X):m1 d=some X:=by
 induction h with
 |refl=>exact hm
 |step e he h0 _ ih=>
  have:=ih
  unfold iB
  by_cases hde:d=e
  ·subst hde
   rw [h0] at this
   cases this
  ·rw [if_neg hde]
   exact this
theorem Flo.class_ {ds:List Nat} {Z:Nat→Obj} {S:World→Prop} (hSZ:∀d∈ds,∀w,S w→S (w.alloc (Z d))) {m m1:Nat→Option Nat} {w w1:World} (h:Flo ds Z m w m1 w1) (hS:S w):S w1:=by
 induction h with
 |refl=>exact hS
 |step e he h0 _ ih=>exact hSZ e he _ ih
section
variable {rx : Bool} {P : Program} {ops : Array Oper} {K0 : Act → World → Prop} {S : World → Prop} {kd : Oper → Nat} {ds : List Nat} {Z : Nat → Obj} {res : Nat → Nat → Value}
def Runs (P:Program) (ops:Array Oper) (res:Nat→Nat→Value) (Z:Nat→Obj) (d:Nat) (a:Act) (o:Oper):Prop:=
 Region.wanted o (yielded ops a.tmps)=true∧∀w',(execOp a.eval o).run P w' = .ok (.value (res d w'.heap.size)) (w'.alloc (Z d))
theorem Runs.same {d:Nat} {a a' :Act} {o:Oper} (h:Runs P ops res Z d a o) (he:execOp a'.eval o=execOp a.eval o) (hw:Region.wanted o (yielded ops a'.tmps)=Region.wanted o (yielded ops a.tmps)):Runs P ops res Z d a' o:=by
 unfold Runs at*
 rw [he,hw]
 exact h
def Nd (rx:Bool) (rest:List Oper) (S:World→Prop) (w:World):Prop:=(rx && rest.isEmpty)=true∨S w
theorem Nd.ne {rx:Bool} {rest:List Oper} {S:World→Prop} {w:World} (h:Nd rx rest S w) (hl:rest≠ []):S w:=by
 rcases h with h|h
 ·cases rest with
  |nil=>exact absurd rfl hl
  |cons o r=>simp at h
 ·exact h
theorem Nd.mid {rx:Bool} {pre post:List Oper} {x:Oper} {S:World→Prop} {w:World} (h:Nd rx (pre++x::post) S w):S w:=h.ne (by simp)
theorem Nd.far {rx:Bool} {pre post:List Oper} {S:World→Prop} {w:World} (h:Nd rx (pre++post) S w) (hn:rx=false∨post≠ []):S w:=by
 rcases hn with hn|hn
 ·rcases h with h|h
  ·rw [hn] at h;cases h
  ·exact h
 ·exact h.ne (by simp [hn])
def bZ (rx:Bool) (P:Program) (ops:Array Oper) (S:World→Prop) (kd:Oper→Nat) (ds:List Nat) (Z:Nat→Obj) (res:Nat→Nat→Value) (K0:Act→World→Prop):List Oper→(Nat→Option Nat)→Act→World→Prop
 |[],_,a,w=>K0 a w
 |o::rest,m,a,w=>
  match fk ds o with
  |some d=>Runs P ops res Z d a o∧∀m1 w1 X,Flo ds Z m w m1 w1→m1 d=some X→bZ rx P ops S kd ds Z res K0 rest m1 (a.put o.dst (res d X)) w1
  |none=>
   if kd o=0 then∃v,YieldsIf P ops S o v a∧bZ rx P ops S kd ds Z res K0 rest m (a.put o.dst v) w
   else∀m1 w1,Flo ds Z m w m1 w1→wpList P ops (Only (fun a' w' =>Nd rx rest S w'∧bZ rx P ops S kd ds Z res K0 rest m1 a' w')) [o] a w1
theorem msX {o:Oper} {rest:List Oper} {m:Nat→Option Nat} {a:Act} {w:World} {d:Nat} (hx:fk ds o=some d):bZ rx P ops S kd ds Z res K0 (o::rest) m a w↔(Runs P ops res Z d a o∧∀m1 w1 X,Flo ds Z m w m1 w1→m1 d=some X→bZ rx P ops S kd ds Z res K0 rest m1 (a.put o.dst (res d X)) w1):=by
 rw [bZ]
 simp only [hx]
theorem ms0 {o:Oper} {rest:List Oper} {m:Nat→Option Nat} {a:Act} {w:World} (hx:fk ds o=none) (hk:kd o=0):bZ rx P ops S kd ds Z res K0 (o::rest) m a w↔∃v,YieldsIf P ops S o v a∧bZ rx P ops S kd ds Z res K0 rest m (a.put o.dst v) w:=by
 rw [bZ]
 simp only [hx]
 rw [if_pos hk]
theorem msE {o:Oper} {rest:List Oper} {m:Nat→Option Nat} {a:Act} {w:World} (hx:fk ds o=none) (hk:kd o≠0):bZ rx P ops S kd ds Z res K0 (o::rest) m a w↔∀m1 w1,Flo ds Z m w m1 w1→(if Region.wanted o (yielded ops a.tmps)=true then o.wp P a w1 (fun a' w' =>Nd rx rest S w'∧bZ rx P ops S kd ds Z res K0 rest m1 a' w') (Only K0) else (Nd rx rest S w1∧bZ rx P ops S kd ds Z res K0 rest m1 (a.put o.dst undef) w1)):=by
 rw [bZ]
 simp only [hx]
 rw [if_neg hk]
 exact Tzdj
theorem uR {x:Oper} {d:Nat} (hx:fk ds x=some d) {post:List Oper}:∀(pre:List Oper) (m:Nat→Option Nat) (a:Act) (w:World),m d=none→bZ rx P ops S kd ds Z res K0 (pre++x::post) m a w→bZ rx P ops S kd ds Z res K0 (pre++x::post) (iB m d w.heap.size) a (w.alloc (Z d))
 |[],m,a,w,hm,h=>by
  have h:=(msX hx).1 h
  exact (msX hx).2 ⟨h.1,fun m1 w1 X hF hX=>h.2 m1 w1 X (hF.front (lE hx).1 hm) hX⟩
 |k::pre,m,a,w,hm,h=>by
  have h' :bZ rx P ops S kd ds Z res K0 (k::(pre++x::post)) m a w:=h
  show bZ rx P ops S kd ds Z res K0 (k::(pre++x::post)) _ _ _
  cases hf:fk ds k with
  |some e=>
   have h1:=(msX hf).1 h'
   exact (msX hf).2 ⟨h1.1,fun m1 w1 X hF hX=>h1.2 m1 w1 X (hF.front (lE hx).1 hm) hX⟩
  |none=>
   by_cases hk:kd k=0
   ·obtain ⟨u,hu,h1⟩:=(ms0 hf hk).1 h'
    exact (ms0 hf hk).2 ⟨u,hu,uR hx pre _ _ _ hm h1⟩
   ·exact (msE hf hk).2 fun m1 w1 hF=>(msE hf hk).1 h' m1 w1 (hF.front (lE hx).1 hm)
theorem uQ {x:Oper} {d:Nat} (hx:fk ds x=some d) (hsx:∀cs b,x.op≠ .select cs b) {post:List Oper} (X:Nat):
 ∀(pre:List Oper) (m:Nat→Option Nat) (a:Act) (w:World),m d=some X→(∀k∈pre,x.apart ops k=true∧(∀cs b,k.op≠ .select cs b)∧∀e,fk ds k=some e→e≠d)→bZ rx P ops S kd ds Z res K0 (pre++x::post) m a w→Runs P ops res Z d a x∧bZ rx P ops S kd ds Z res K0 (pre++post) m (a.put x.dst (res d X)) w
 |[],m,a,w,hm,_,h=>by
  have h:=(msX hx).1 h
  exact ⟨h.1,h.2 m w X (.refl m w) hm⟩
 |k::pre,m,a,w,hm,hp,h=>by
  obtain ⟨hap,hsk,hne⟩:=hp k (by simp)
  have ih:=fun m a w hm=>uQ hx hsx X (post:=post) pre m a w hm (fun y hy=>hp y (by simp [hy]))
  have back:∀u,Runs P ops res Z d (a.put k.dst u) x→Runs P ops res Z d a x:=fun u hy=>hy.same (bR hsx hap a u).1.symm (bR hsx hap a u).2.symm
  have backD:∀q u,Runs P ops res Z d ({a with defers:=q::a.defers}.put k.dst u) x→Runs P ops res Z d a x:=fun q u hy=>by
   have:=hy.same (bR hsx hap {a with defers:=q::a.defers} u).1.symm (bR hsx hap {a with defers:=q::a.defers} u).2.symm
   exact this
  have h' :bZ rx P ops S kd ds Z res K0 (k::(pre++x::post)) m a w:=h
  obtain ⟨e3,e4⟩:=cG hsk hap a (res d X)
  cases hf:fk ds k with
  |some e=>
   have h1:=(msX hf).1 h'
   have hR:Runs P ops res Z d a x:=by
    cases hme:m e with
    |some Y=>exact back _ (ih m _ w hm (h1.2 m w Y (.refl m w) hme)).1
    |none=>
     have hs:iB m e w.heap.size d=some X:=by unfold iB;rw [if_neg (Ne.symm (hne e hf))];exact hm
     exact back _ (ih _ _ _ hs (h1.2 (iB m e w.heap.size) (w.alloc (Z e)) w.heap.size (.step e (lE hf).1 hme (.refl m w)) (by unfold iB;rw [if_pos rfl]))).1
   refine ⟨hR,?_⟩
   show bZ rx P ops S kd ds Z res K0 (k::(pre++post)) _ _ _
   refine (msX hf).2 ⟨h1.1.same e3 e4,fun m1 w1 Y hF hY=> ?_⟩
   rw [Act.put_comm a (res d X) (res e Y) (Oper.apart_spec hap).2.1]
   exact (ih m1 _ w1 (hF.keeps hm) (h1.2 m1 w1 Y hF hY)).2
  |none=>
   by_cases hk:kd k=0
   ·obtain ⟨u,hu,h1⟩:=(ms0 hf hk).1 h'
    have h2:=ih m _ w hm h1
    refine ⟨back _ h2.1,?_⟩
    show bZ rx P ops S kd ds Z res K0 (k::(pre++post)) _ _ _
    refine (ms0 hf hk).2 ⟨u,hu.of_same e3 e4,?_⟩
    rw [Act.put_comm a (res d X) u (Oper.apart_spec hap).2.1]
    exact h2.2
   ·have hall:=(msE hf hk).1 h'
    have h0:=hall m w (.refl m w)
    by_cases hw:Region.wanted k (yielded ops a.tmps)=true
    ·simp only [hw,if_true] at h0 hall
     refine ⟨?_,?_⟩
     ·obtain ⟨u,w',h1|⟨q,h1⟩⟩:=oW h0
      ·exact back u (ih m _ _ hm h1.2).1
      ·exact backD q u (ih m _ _ hm h1.2).1
     ·show bZ rx P ops S kd ds Z res K0 (k::(pre++post)) _ _ _
      refine (msE hf hk).2 fun m1 w1 hF=> ?_
      rw [e4]
      simp only [hw,if_true]
      refine iJ hap hsk ?_
      exact Oper.wp_mono (fun a' w' h2=>⟨.inr h2.1.mid,(ih m1 _ _ (hF.keeps hm) h2.2).2⟩) (hall m1 w1 hF)
    ·simp only [hw] at h0 hall
     refine ⟨back _ (ih m _ _ hm h0.2).1,?_⟩
     show bZ rx P ops S kd ds Z res K0 (k::(pre++post)) _ _ _
     refine (msE hf hk).2 fun m1 w1 hF=> ?_
     rw [e4]
     simp only [hw]
     rw [Act.put_comm a (res d X) undef (Oper.apart_spec hap).2.1]
     have h1:=hall m1 w1 hF
     exact ⟨.inr h1.1.mid,(ih m1 _ _ (hF.keeps hm) h1.2).2⟩
theorem GW (hSZ:∀d∈ds,∀w,S w→S (w.alloc (Z d))) {oj:Oper} (hj:kd oj=0) (hfj:fk ds oj=none) (hsj:∀cs b,oj.op≠ .select cs b) {post:List Oper}:
 ∀(pre:List Oper) (m:Nat→Option Nat) (a:Act) (w:World),S w→(∀k∈pre,oj.apart ops k=true∧∀cs b,k.op≠ .select cs b)→bZ rx P ops S kd ds Z res K0 (pre++oj::post) m a w→
  ∃v,YieldsIf P ops S oj v a∧bZ rx P ops S kd ds Z res K0 (pre++post) m (a.put oj.dst v) w
 |[],m,a,w,hS,_,h=>(ms0 hfj hj).1 h
 |k::pre,m,a,w,hS,hp,h=>by
  obtain ⟨hap,hsk⟩:=hp k (by simp)
  have ih:=fun m a w hS=>GW hSZ hj hfj hsj (post:=post) pre m a w hS (fun x hx=>hp x (by simp [hx]))
  have back:∀u v,YieldsIf P ops S oj v (a.put k.dst u)→YieldsIf P ops S oj v a:=fun u v hy=>
   hy.of_same (bR hsj hap a u).1.symm (bR hsj hap a u).2.symm
  have backD:∀d u v,YieldsIf P ops S oj v ({a with defers:=d::a.defers}.put k.dst u)→YieldsIf P ops S oj v a:=fun d u v hy=>by
   exact Tzco
  have h' :bZ rx P ops S kd ds Z res K0 (k::(pre++oj::post)) m a w:=h
  cases hf:fk ds k with
  |some e=>
   have h1:=(msX hf).1 h'
   obtain ⟨v,hv⟩:∃v,YieldsIf P ops S oj v a:=by
    cases hme:m e with
    |some Y=>
     obtain ⟨v,hv,_⟩:=ih m _ w hS (h1.2 m w Y (.refl m w) hme)
     exact ⟨v,back _ v hv⟩
    |none=>
     obtain ⟨v,hv,_⟩:=ih _ _ _ (hSZ e (lE hf).1 w hS) (h1.2 (iB m e w.heap.size) (w.alloc (Z e)) w.heap.size (.step e (lE hf).1 hme (.refl m w)) (by unfold iB;rw [if_pos rfl]))
     exact ⟨v,back _ v hv⟩
   obtain ⟨e3,e4⟩:=cG hsk hap a v
   refine ⟨v,hv,?_⟩
   show bZ rx P ops S kd ds Z res K0 (k::(pre++post)) _ _ _
   refine (msX hf).2 ⟨h1.1.same e3 e4,fun m1 w1 Y hF hY=> ?_⟩
   rw [Act.put_comm a v (res e Y) (Oper.apart_spec hap).2.1]
   obtain ⟨v',hv',h2⟩:=ih m1 _ w1 (hF.class_ hSZ hS) (h1.2 m1 w1 Y hF hY)
   have:v=v' :=eN hS hv (back _ v' hv')
   subst this
   exact h2
  |none=>
   by_cases hk:kd k=0
   ·obtain ⟨u,hu0,h1⟩:=(ms0 hf hk).1 h'
    obtain ⟨v,hv,h2⟩:=ih m _ w hS h1
    obtain ⟨e3,e4⟩:=cG hsk hap a v
    refine ⟨v,back u v hv,(ms0 hf hk).2 ⟨u,hu0.of_same e3 e4,?_⟩⟩
    rw [Act.put_comm a v u (Oper.apart_spec hap).2.1]
    exact h2
   ·have hall:=(msE hf hk).1 h'
    have h0:=hall m w (.refl m w)
    by_cases hw:Region.wanted k (yielded ops a.tmps)=true
    ·simp only [hw,if_true] at h0 hall
     obtain ⟨v,hv⟩:∃v,YieldsIf P ops S oj v a:=by
      obtain ⟨u,w',h1|⟨d,h1⟩⟩:=oW h0
      ·obtain ⟨v,hv,_⟩:=ih m _ _ h1.1.mid h1.2
       exact ⟨v,back u v hv⟩
      ·obtain ⟨v,hv,_⟩:=ih m _ _ h1.1.mid h1.2
       exact ⟨v,backD d u v hv⟩
     refine ⟨v,hv,?_⟩
     show bZ rx P ops S kd ds Z res K0 (k::(pre++post)) m (a.put oj.dst v) w
     refine (msE hf hk).2 fun m1 w1 hE=> ?_
     rw [(cG hsk hap a v).2]
     simp only [hw,if_true]
     refine iJ hap hsk ?_
     refine Oper.wp_mono (fun a' w' h1=> ?_) (nN (hall m1 w1 hE))
     obtain ⟨⟨hS0',h1⟩,hsh⟩:=h1
     have hS' :=hS0'.mid
     obtain ⟨v',hv',h2⟩:=ih m1 _ _ hS' h1
     have:v=v' :=by
      exact Tzcq
     subst this
     exact ⟨.inr hS',h2⟩
    ·simp only [hw] at h0 hall
     obtain ⟨v,hv,_⟩:=ih m _ _ h0.1.mid h0.2
     refine ⟨v,back _ v hv,?_⟩
     show bZ rx P ops S kd ds Z res K0 (k::(pre++post)) m (a.put oj.dst v) w
     refine (msE hf hk).2 fun m1 w1 hE=> ?_
     rw [(cG hsk hap a v).2]
     simp only [hw]
     rw [Act.put_comm a v undef (Oper.apart_spec hap).2.1]
     have h1:=hall m1 w1 hE
     obtain ⟨v',hv',h2⟩:=ih m1 _ _ h1.1.mid h1.2
     have:v=v' :=eN hS (back _ v hv) (back _ v' hv')
     subst this
     exact ⟨.inr h1.1.mid,h2⟩
theorem BE {j:Nat} {oj:Oper} (hj:ops[j]? =some oj) (hfj:fk ds oj=none) (hkj:kd oj≠0) (hsj:∀cs b,oj.op≠ .select cs b) {post:List Oper} (m:Nat→Option Nat):
 ∀(pre:List Oper) (a:Act) (w:World),(rx=false∨pre=[]∨post≠ [])→(∀k∈pre,fk ds k=none∧kd k=0∧k.apart ops oj=true∧∀cs b,k.op≠ .select cs b)→bZ rx P ops S kd ds Z res K0 (pre++oj::post) m a w→
  wpOp P ops (Only K0) j (fun a' w' =>Nd rx (pre++post) S w'∧bZ rx P ops S kd ds Z res K0 (pre++post) m a' w') a w
 |[],a,w,_,_,h=>by
  have h1:=(msE hfj hkj).1 h m w (.refl m w)
  exact Tzc6
 |k::pre,a,w,hne,hp,h=>by
  have hpo:rx=false∨post≠ []:=by rcases hne with h|h|h;exact .inl h;cases h;exact .inr h
  obtain ⟨hf,hk,hap,hsk⟩:=hp k (by simp)
  have h' :bZ rx P ops S kd ds Z res K0 (k::(pre++oj::post)) m a w:=h
  obtain ⟨u,hu,h1⟩:=(ms0 hf hk).1 h'
  have h2:=BE hj hfj hkj hsj (post:=post) m pre (a.put k.dst u) w (hpo.imp id .inr) (fun x hx=>hp x (by simp [hx])) h1
  have h3:=wpOp_putIf hj hap hsk hsj (fun c a w h=>h) hu h2
  refine wpOp_mono (fun a' w' h4=> ?_) h3
  obtain ⟨hy,hS',h5⟩:=h4
  exact ⟨.inr (hS'.far hpo),(ms0 hf hk).2 ⟨u,hy,h5⟩⟩
end
section
variable {rx : Bool} {P : Program} {K0 : Act → World → Prop}
theorem JA (kd:Oper→Nat) (S:World→Prop) (ds:List Nat) (Z:Nat→Obj) (res:Nat→Nat→Value) (l:List Oper) (hns:Region.noSelect l.toArray=true) (hSZ:∀d∈ds,∀w,S w→S (w.alloc (Z d)))
 (hat:∀(j:Nat) (o:Oper),l[j]? =some o→(∀e∈o.after,Region.binds .any e=true→e.on<l.length∧e.on<j)∧(fk ds o=none→kd o≠1)∧∀(i:Nat) (u:Oper),i<j→l[i]? =some u→((bef l).getD j 0).testBit i=true∨(∃d,fk ds o=some d∧o.apart l.toArray u=true)∨(fk ds o=none∧((fk ds u=none∧bY kd l.toArray u o=true)∨(kd o=0∧o.apart l.toArray u=true))))
 (hlast:rx=true→∀i,i+1<l.length→((bef l).getD (l.length-1) 0).testBit i=true)
 (hdis:∀(i j:Nat) (u o:Oper) (d:Nat),l[i]? =some u→l[j]? =some o→fk ds u=some d→fk ds o=some d→i=j):
 ∀(n:Nat) (rem:List Nat) (listed:Array Bool) (m:Nat→Option Nat) (a:Act) (w:World),(rem=[]∨S w)→rem.length=n→(∀j,j∈rem↔listed.getD j true=false)→rem.Pairwise (fun i j=>i<j)→(∀i∈rem,∀o d,l[i]? =some o→fk ds o=some d→m d=none)→listed.size=l.length→
  (∀k o,l[k]? =some o→listed.getD k false=true→∀e∈o.after,Region.binds .any e=true→listed.getD e.on false=true)→
  bZ rx P l.toArray S kd ds Z res K0 (bL l rem) m a w→wpAny P .any l.toArray (Only K0) n listed a w:=by
 have hsel:∀(j:Nat) (o:Oper),l[j]? =some o→∀cs b,o.op≠ .select cs b:=fun j o ho cs b=>Region.noSelect_spec hns j o cs b (by simpa using ho)
 intro n
 induction n with
 |zero=>
  intro rem listed m a w _ hn hmem _ _ _ _ h
  exact Tzbu
 |succ n ih=>
  intro rem listed m a w hS0 hn hmem hpw hmn hsz hcl h
  have hS:S w:=by
   rcases hS0 with e|e
   ·rw [e] at hn;cases hn
   ·exact e
  have inr:∀j,j∈rem→j<l.length:=fun j hj=>by
   have:=(hmem j).1 hj
   exact Tzbr
  have unl:∀j,j<l.length→j∉rem→listed.getD j false=true:=fun j hj hm=>by
   exact Tzbv
  refine ⟨fun h0=> ?_,fun j hj=> ?_⟩
  ·exfalso
   match rem,hn with
   |r::rem',_=>
    have hm:r∈r::rem' :=by simp
    have hml:=inr r hm
    have ho:l[r]? =some l[r]:=List.getElem?_eq_getElem hml
    have:r∈Region.ready .any l.toArray listed:=mem_ready.2 ⟨(hmem r).1 hm,l[r],by simp,fun e he hb=>by
     obtain ⟨hlt0,hlt⟩:=(hat r _ ho).1 e he hb
     refine unl e.on hlt0 (fun hin=> ?_)
     rcases List.mem_cons.1 hin with hin|hin
     ·omega
     ·have:=(List.pairwise_cons.1 hpw).1 _ hin
      omega⟩
    rw [h0] at this
    cases this
  ·obtain ⟨hun,o,ho,hpre⟩:=mem_ready.1 hj
   have ho' :l[j]? =some o:=by simpa using ho
   have hin:j∈rem:=(hmem j).2 hun
   obtain ⟨pre,post,rfl⟩:=List.append_of_mem hin
   rw [List.pairwise_append] at hpw
   obtain ⟨hp1,hp2,hp3⟩:=hpw
   have hjl:=inr j hin
   have nobef:∀i,i∈pre++j::post→¬((bef l).getD j 0).testBit i=true:=fun i hi hb=>by
    exact Tzcl
   have hnj:j∉pre++post:=by
    exact Tzbi
   have q1:(pre++post).length=n:=by simp at hn ⊢;omega
   have q2:∀i,i∈pre++post↔(listed.setIfInBounds j true).getD i true=false:=by
    intro i
    exact Tza3
   have q3:(pre++post).Pairwise (fun i j=>i<j):=by
    exact Tzbt
   have q4:∀k o',l[k]? =some o'→(listed.setIfInBounds j true).getD k false=true→∀e∈o'.after,Region.binds .any e=true→(listed.setIfInBounds j true).getD e.on false=true:=by
    exact Tza2
   rw [bT,eP ho'] at h
   have hpre3:∀u∈bL l pre,(∀cs b,u.op≠ .select cs b)∧((∃d,fk ds o=some d∧o.apart l.toArray u=true∧∀e,fk ds u=some e→e≠d)∨(fk ds o=none∧((fk ds u=none∧bY kd l.toArray u o=true)∨(kd o=0∧o.apart l.toArray u=true)))):=fun u hu=>by
    obtain ⟨i,hi,hu'⟩:=eS hu
    have hij:i<j:=hp3 i hi j (by simp)
    refine ⟨hsel i u hu',?_⟩
    rcases (hat j o ho').2.2 i u hij hu' with hb|⟨d,hd,hb⟩|hb
    ·exact absurd hb (nobef i (by simp [hi]))
    ·exact .inl ⟨d,hd,hb,fun e he hed=>by subst hed;have:=hdis i j u o e hu' ho' he hd;omega⟩
    ·exact .inr hb
   cases hf:fk ds o with
   |some d=>
    have hmd:=hmn j hin o d ho' hf
    have hdm:=(lE hf).1
    have hfr:=uQ hf (hsel j o ho') w.heap.size (bL l pre) (iB m d w.heap.size) a (w.alloc (Z d)) (by unfold iB;rw [if_pos rfl]) (fun u hu=>by
     obtain ⟨h1,h2|h2⟩:=hpre3 u hu
     ·obtain ⟨e,he,h3,h4⟩:=h2
      rw [hf] at he
      cases he
      exact ⟨h3,h1,h4⟩
     ·rw [hf] at h2
      cases h2.1) (uR hf _ _ _ _ hmd h)
    obtain ⟨hR,h1⟩:=hfr
    rw [←bT] at h1
    have h2:=ih (pre++post) (listed.setIfInBounds j true) _ _ _ (.inr (hSZ d hdm w hS)) q1 q2 q3 (fun i hi u e hu he=>by
     have hie:e≠d:=fun hed=>by
      subst hed
      have:=hdis i j u o e hu ho' he hf
      subst this
      exact hnj hi
     unfold iB
     rw [if_neg hie]
     refine hmn i ?_ u e hu he
     rcases List.mem_append.1 hi with h|h
     ·simp [h]
     ·simp [h]) (by simpa using hsz) q4 h1
    unfold wpOp
    simp only [ho]
    simp only [hR.1,if_true]
    refine .inl ?_
    unfold Oper.wp
    rw [hR.2]
    exact h2
   |none=>
    have hpx:∀u∈bL l pre,((fk ds u=none∧bY kd l.toArray u o=true)∨(kd o=0∧o.apart l.toArray u=true))∧(∀cs b,u.op≠ .select cs b):=fun u hu=>by
     obtain ⟨h1,h2|h2⟩:=hpre3 u hu
     ·obtain ⟨e,he,_⟩:=h2
      rw [hf] at he
      cases he
     ·exact ⟨h2.2,h1⟩
    have hK:∀a' w',Nd rx (bL l pre++bL l post) S w'→bZ rx P l.toArray S kd ds Z res K0 (bL l pre++bL l post) m a' w'→wpAny P .any l.toArray (Only K0) n (listed.setIfInBounds j true) a' w' :=by
     intro a' w' hS' h'
     rw [←bT] at h'
     have hS2:pre++post=[]∨S w' :=by
      by_cases he:pre++post=[]
      ·exact .inl he
      ·refine .inr (hS'.ne (fun e2=>he ?_))
       rw [←bT] at e2
       have hall:∀i∈pre++post,∃u,l[i]? =some u:=fun i hi=>⟨_,List.getElem?_eq_getElem (inr i (by simp at hi ⊢;rcases hi with h|h;exact .inl h;exact .inr (.inr h)))⟩
       cases hpp:pre++post with
       |nil=>rfl
       |cons i rest=>
        rw [hpp] at e2 hall
        obtain ⟨u,hu⟩:=hall i (by simp)
        rw [eP hu] at e2
        cases e2
     exact ih (pre++post) _ m a' w' hS2 q1 q2 q3 (fun i hi u e hu he=>hmn i (by
      rcases List.mem_append.1 hi with h|h
      ·simp [h]
      ·simp [h]) u e hu he) (by simpa using hsz) q4 h'
    by_cases k0:kd o=0
    ·obtain ⟨v,hv,h1⟩:=GW hSZ k0 hf (hsel j o ho') (bL l pre) m a w hS (fun u hu=>by
      obtain ⟨⟨hf,hb⟩|hb,hs⟩:=hpx u hu
      ·simp only [bY,Bool.and_eq_true] at hb
       exact ⟨hb.1.2,hs⟩
      ·exact ⟨hb.2,hs⟩) h
     exact (jN hv hS).wpOp ho (hK _ _ (.inr hS) h1)
    ·have hends:rx=false∨bL l pre=[]∨bL l post≠ []:=by
      cases hrx:rx with
      |false=>exact .inl rfl
      |true=>
       refine .inr ?_
       by_cases hpo:post=[]
       ·refine .inl ?_
        have hjl1:j+1=l.length:=by
         by_cases hjl1:j+1=l.length
         ·exact hjl1
         ·exfalso
          have hlm:l.length-1∉pre++j::post:=fun hm=>by
           rw [hpo] at hm
           rcases List.mem_append.1 hm with hm|hm
           ·have:=hp3 _ hm j (by simp);omega
           ·simp at hm;omega
          have hlL:=unl (l.length-1) (by omega) hlm
          have:=fQ (fun k=>listed.getD k false=true) l (fun k o hk hL=>hcl k o hk hL) (l.length-1) _ (List.getElem?_eq_getElem (by omega)) (fun e he hb=>hcl (l.length-1) _ (List.getElem?_eq_getElem (by omega)) hlL e he hb) j (hlast hrx j (by omega))
          have h2:=(hmem j).1 (by simp)
          have hlt:j<listed.size:=by omega
          simp [hlt] at this h2
          rw [this] at h2
          cases h2
        cases hpp:pre with
        |nil=>rfl
        |cons i rest=>
         exfalso
         have hij:i<j:=hp3 i (by rw [hpp];simp) j (by simp)
         have:=hlast hrx i (by omega)
         rw [show l.length-1=j by omega] at this
         exact nobef i (by rw [hpp];simp) this
       ·refine .inr ?_
        cases hpp:post with
        |nil=>exact absurd hpp hpo
        |cons i rest=>
         rw [eP (List.getElem?_eq_getElem (inr i (by rw [hpp];simp)))]
         simp
     have h1:=BE ho hf k0 (hsel j o ho') m (bL l pre) a w hends (fun u hu=>by
      obtain ⟨⟨hf2,hb⟩|hb,hs⟩:=hpx u hu
      case inr=>exact absurd hb.1 k0
      simp only [bY,Bool.and_eq_true,Bool.or_eq_true,beq_iff_eq] at hb
      refine ⟨hf2,?_,hb.1.1,hs⟩
      rcases hb.2 with (hx0|hx0)|hx0
      ·exact hx0
      ·exact absurd hx0 k0
      ·exact absurd hx0.2 ((hat j o ho').2.1 hf)) h
     exact wpOp_mono (fun a' w' h2=>hK a' w' h2.1 h2.2) h1
def qF (ds:List Nat) (l:List Oper) (b:Array Nat) (j:Nat):Bool:=
 match l[j]? with
 |none=>true
 |some o=>(o.after.all fun e=> !Region.binds .any e || decide (e.on<j)) && ((fk ds o).isSome || !(aY o==1)) &&
  (List.range j).all fun i=>match l[i]? with
   |none=>true
   |some u=>((b.getD j 0).testBit i || (match fk ds o with|some _=>o.apart l.toArray u|none=>((fk ds u).isNone && bY aY l.toArray u o) || (aY o==0 && o.apart l.toArray u))) && !((fk ds o).isSome && fk ds o==fk ds u)
def xQ (rx:Bool) (ds:List Nat) (l:List Oper):Bool:=Region.noSelect l.toArray && ((List.range l.length).all (qF ds l (bef l)) && (!rx || (List.range (l.length-1)).all fun i=>((bef l).getD (l.length-1) 0).testBit i))
theorem kQ (rx:Bool) (S:World→Prop) (ds:List Nat) (Z:Nat→Obj) (res:Nat→Nat→Value) {id:Nat} {l:List Oper} {Q:Exit→Act→World→Prop} {a:Act} {w:World}
 (hm:P.follows .mixedOrders=true) (hB:xQ rx ds l=true) (hSZ:∀d∈ds,∀w,S w→S (w.alloc (Z d))) (hS:S w.drew)
 (h:bZ rx P l.toArray S aY ds Z res (Q .normal) l (fun _=>none) a w.drew):(Code.region id l.toArray true).wp P Q a w:=by
 refine Code.wp_mono Only.to (wp_region_any hm ?_)
 simp only [xQ,Bool.and_eq_true,List.all_eq_true,List.mem_range] at hB
 obtain ⟨b1,b3,b4⟩:=hB
 have hpair:∀(i j:Nat) (u o:Oper),i<j→l[i]? =some u→l[j]? =some o→¬((fk ds o).isSome=true∧fk ds o=fk ds u):=fun i j u o hij hu ho=>by
  have h3:=b3 j (List.getElem?_eq_some_iff.1 ho).1
  simp only [qF,ho,Bool.and_eq_true,List.all_eq_true,List.mem_range] at h3
  have h:=h3.2 i hij
  simp only [hu,Bool.and_eq_true,Bool.not_eq_true',Bool.and_eq_false_iff] at h
  rintro ⟨e1,e2⟩
  rcases h.2 with h|h
  ·rw [h] at e1;cases e1
  ·rw [e2] at h;simp at h
 have:=JA (rx:=rx) (P:=P) (K0:=Q .normal) aY S ds Z res l b1 hSZ (fun j o ho=>by
  have h3:=b3 j (List.getElem?_eq_some_iff.1 ho).1
  simp only [qF,ho,Bool.and_eq_true,Array.all_eq_true_iff_forall_mem,List.all_eq_true,List.mem_range] at h3
  have hjl:=(List.getElem?_eq_some_iff.1 ho).1
  refine ⟨fun e he hb=> ?_,fun hn hk=> ?_,fun i u hi hu=> ?_⟩
  ·have h:=h3.1.1 e he
   have:e.on<j:=by simpa [hb] using h
   exact ⟨by omega,this⟩
  ·have:=h3.1.2
   simp [hn,hk] at this
  ·have h:=h3.2 i hi
   simp only [hu,Bool.and_eq_true,Bool.or_eq_true] at h
   rcases h.1 with h|h
   ·exact .inl h
   ·cases hf:fk ds o with
    |some d=>
     rw [hf] at h
     exact .inr (.inl ⟨d,rfl,h⟩)
    |none=>
     rw [hf] at h
     simp only [Bool.and_eq_true,Bool.or_eq_true,beq_iff_eq,Option.isNone_iff_eq_none] at h
     exact .inr (.inr ⟨rfl,h⟩)) (fun hrx i hi=>by
  rw [hrx] at b4
  simp only [Bool.not_true,Bool.false_or,List.all_eq_true,List.mem_range] at b4
  exact b4 i (by omega)) (fun i j u o d hu ho hfu hfo=>by
  rcases Nat.lt_trichotomy i j with h|h|h
  ·exact absurd ⟨by rw [hfo];rfl,hfo.trans hfu.symm⟩ (hpair i j u o h hu ho)
  ·exact h
  ·exact absurd ⟨by rw [hfu];rfl,hfu.trans hfo.symm⟩ (hpair j i o u h ho hu)) l.length (List.range l.length) (Array.replicate l.length false) (fun _=>none) a w.drew (.inr hS) (by simp) (fun j=>by
   by_cases hj:j<l.length
   ·simp [hj]
   ·simp [hj]) List.pairwise_lt_range (fun _ _ _ _ _ _=>rfl) (by simp) (fun k o hk hL=>by
   have hlt:=(List.getElem?_eq_some_iff.1 hk).1
   simp [hlt] at hL) (by rw [jH];exact h)
 simpa using this
section
variable {ops : Array Oper} {S : World → Prop} {ds : List Nat} {Z : Nat → Obj} {res : Nat → Nat → Value} {m : Nat → Option Nat}
theorem LA {o:Oper} {a:Act} {w:World} {rest:List Oper} (hf:fk ds o=none) (hk:cY o=0) (h:wpQuiet P ops (fun _=>True) (fun a' =>bZ rx P ops S aY ds Z res K0 rest m a' w) [o] a):bZ rx P ops S aY ds Z res K0 (o::rest) m a w:=by
 have hk' :aY o=0:=by
  unfold aY
  split
  ·rfl
  ·exact hk
 simp only [wpQuiet] at h
 by_cases hw:Region.wanted o (yielded ops a.tmps)=true
 ·simp only [hw,if_true] at h
  obtain ⟨v,hv,h⟩:=h
  refine (ms0 hf hk').2 ⟨v,.inl ⟨hw,fun w' hw' => ?_⟩,h⟩
  have:=hv w' trivial
  exact Tzbh
 ·simp only [hw] at h
  exact (ms0 hf hk').2 ⟨undef,.inr ⟨by simpa using hw,rfl⟩,h⟩
theorem KY {o:Oper} {a:Act} {w:World} {rest:List Oper} (hf:fk ds o=none) (hk:oV o=true) (h:wpQuiet P ops (fun _=>True) (fun a' =>bZ rx P ops S aY ds Z res K0 rest m a' w) [o] a):bZ rx P ops S aY ds Z res K0 (o::rest) m a w:=
 LA hf (by
  unfold oV at hk
  split at hk
  ·cases hk
  ·simpa using hk) h
theorem jT {o:Oper} {a:Act} {w:World} {rest:List Oper} {t:TypeId} {x:Operand} (A:Addr) (v:Value) (hf:fk ds o=none) (ho:o.op= .load t x) (hw:Region.wanted o (yielded ops a.tmps)=true) (hx:a.eval x= .pointer (some A))
 (hv:∀w',S w'→(loadVar t A).run P w' = .ok v w') (h:bZ rx P ops S aY ds Z res K0 rest m (a.put o.dst v) w):bZ rx P ops S aY ds Z res K0 (o::rest) m a w:=by
 refine (ms0 hf (by unfold aY;rw [ho])).2 ⟨v,.inl ⟨hw,fun w' hw' => ?_⟩,h⟩
 exact Tzcv
theorem BF {o:Oper} {a:Act} {w:World} {rest:List Oper} (hf:fk ds o=none) (hk:aY o=0) (hw:Region.wanted o (yielded ops a.tmps)=false) (h:bZ rx P ops S aY ds Z res K0 rest m (a.put o.dst undef) w):bZ rx P ops S aY ds Z res K0 (o::rest) m a w:=
 (ms0 hf hk).2 ⟨undef,.inr ⟨hw,rfl⟩,h⟩
theorem oX {o:Oper} {a:Act} {w:World} {rest:List Oper} (hf:fk ds o=none) (hk:(aY o==0)=false) (h:∀m1 w1,Flo ds Z m w m1 w1→wpList P ops (Only (fun a' w' =>Nd rx rest S w'∧bZ rx P ops S aY ds Z res K0 rest m1 a' w')) [o] a w1):bZ rx P ops S aY ds Z res K0 (o::rest) m a w:=by
 rw [bZ]
 simp only [hf]
 rw [if_neg (by simpa using hk)]
 exact h
theorem Flo.done {m m1:Nat→Option Nat} {w w1:World} (h:Flo ds Z m w m1 w1) (hall:ds.all (fun d=>(m d).isSome)=true):m1=m∧w1=w:=by
 induction h with
 |refl=>exact ⟨rfl,rfl⟩
 |step e he h0 _ ih=>
  obtain ⟨rfl,rfl⟩:=ih
  have:=List.all_eq_true.1 hall e he
  rw [h0] at this
  cases this
theorem yT {o:Oper} {a:Act} {w:World} {rest:List Oper} (hf:fk ds o=none) (hk:(aY o==0)=false) (hall:ds.all (fun d=>(m d).isSome)=true) (h:wpList P ops (Only (fun a' w' =>Nd rx rest S w'∧bZ rx P ops S aY ds Z res K0 rest m a' w')) [o] a w):bZ rx P ops S aY ds Z res K0 (o::rest) m a w:=
 oX hf hk fun m1 w1 hE=>by
  obtain ⟨rfl,rfl⟩:=hE.done hall
  exact h
theorem tX {o:Oper} {a:Act} {w:World} {rest:List Oper} (d:Nat) (hf:fk ds o=some d) (hR:Runs P ops res Z d a o) (h:∀m1 w1 X,Flo ds Z m w m1 w1→m1 d=some X→bZ rx P ops S aY ds Z res K0 rest m1 (a.put o.dst (res d X)) w1):bZ rx P ops S aY ds Z res K0 (o::rest) m a w:=(msX hf).2 ⟨hR,h⟩
theorem kV {a:Act} {w:World} {rest:List Oper} (hS:S w) (h:bZ rx P ops S aY ds Z res K0 rest m a w):Only (fun a' w' =>Nd rx rest S w'∧bZ rx P ops S aY ds Z res K0 rest m a' w') .normal a w:=⟨.inr hS,h⟩
theorem EV {a:Act} {w:World} (h:K0 a w):Only (fun a' w' =>Nd true [] S w'∧bZ true P ops S aY ds Z res K0 [] m a' w') .normal a w:=⟨.inl rfl,h⟩
theorem JB {a:Act} {w:World} (h:K0 a w):bZ rx P ops S aY ds Z res K0 [] m a w:=h
end
end
def Bxs (B:Nat) (Z:Nat→Obj) (m:Nat→Option Nat) (w:World):Prop:=∀d X,m d=some X→B≤X∧w.heap[X]? =some (Z d)
theorem Bxs.none_ (B:Nat) (Z:Nat→Obj) (w:World):Bxs B Z (fun _=>none) w:=fun d X h=>by cases h
section
variable {ds : List Nat} {Z : Nat → Obj} {m m1 : Nat → Option Nat} {w w1 : World}
theorem Flo.bel (h:Flo ds Z m w m1 w1):Below w.heap.size w w1:=by
 induction h with
 |refl=>exact Below.refl _ _
 |step d hd h0 _ ih=>exact ih.alloc ih.size _
theorem Flo.bxs {B:Nat} (h:Flo ds Z m w m1 w1) (hb:Bxs B Z m w) (hB:B≤w.heap.size):Bxs B Z m1 w1:=by
 induction h with
 |refl=>exact hb
 |step e he h0 hF ih=>
  intro d X hX
  have hs:=hF.bel.size
  unfold iB at hX
  by_cases hde:d=e
  ·subst hde
   rw [if_pos rfl] at hX
   cases hX
   exact ⟨by omega,heap_alloc_new _ _⟩
  ·rw [if_neg hde] at hX
   have:=ih d X hX
   exact ⟨this.1,(((Below.refl _ _).alloc (Nat.le_refl _) _).block X (Array.getElem?_eq_some_iff.1 this.2).1).trans this.2⟩
theorem Flo.ne (h:Flo ds Z m w m1 w1) {b d:Nat} (hb:b<w.heap.size) (hne:m d≠some b):m1 d≠some b:=by
 induction h with
 |refl=>exact hne
 |step e he h0 hF ih=>
  have hs:=hF.bel.size
  unfold iB
  by_cases hde:d=e
  ·rw [if_pos hde]
   intro e2
   cases e2
   omega
  ·rw [if_neg hde]
   exact ih
theorem Bxs.lt {B:Nat} (h:Bxs B Z m w) {b d:Nat} (hb:w.heap.size≤b):m d≠some b:=fun e=>by
 have:=(Array.getElem?_eq_some_iff.1 (h d b e).2).1
 omega
theorem Bxs.ext {B:Nat} (h:Bxs B Z m w) (hb:Below w.heap.size w w1):Bxs B Z m w1:=fun d X e=>⟨(h d X e).1,(hb.block X (Array.getElem?_eq_some_iff.1 (h d X e).2).1).trans (h d X e).2⟩
end
end Go.Proofs.YtiblijmngokcgaaGreatDoor
