import Derived.Test.YtiblijmngokcgaaGreatDoorMacZs
import Derived.Test.YtiblijmngokcgaaGreatDoorKitZs
import Derived.Test.YtiblijmngokcgaaGreatDoorDiskAZs
import Derived.Test.YtiblijmngokcgaaGreatDoorG19Zs
namespace Go.Proofs.YtiblijmngokcgaaGreatDoor
set_option linter.unusedVariables false
section
variable {P : Program} {K0 : Act → World → Prop}
theorem BW (kd:Oper→Nat) (S:World→Prop) (hk1:∀o,kd o=1→Qu P o) (l:List Oper) (hns:Region.noSelect l.toArray=true) (rk:Nat→Nat) (ex:Nat→Nat→Prop)
 (hat:∀j o,l[j]? =some o→(∀e∈o.after,Region.binds .any e=true→e.on<l.length∧rk e.on<rk j)∧∀i u,rk i<rk j→l[i]? =some u→((bef l).getD j 0).testBit i=true∨bY kd l.toArray u o=true∨ex i j):
 ∀(n:Nat) (rem:List Nat) (listed:Array Bool) (a:Act) (w:World),S w→rem.length=n→(∀j,j∈rem↔listed.getD j true=false)→rem.Pairwise (fun i j=>rk i<rk j)→(∀i∈rem,∀j∈rem,¬ex i j)→listed.size=l.length→
  (∀k o,l[k]? =some o→listed.getD k false=true→∀e∈o.after,Region.binds .any e=true→listed.getD e.on false=true)→
  bK P l.toArray S kd K0 (bL l rem) a w→wpAny P .any l.toArray (Only K0) n listed a w:=by
 have hsel:∀(j:Nat) (o:Oper),l[j]? =some o→∀cs b,o.op≠ .select cs b:=fun j o ho cs b=>Region.noSelect_spec hns j o cs b (by simpa using ho)
 intro n
 induction n with
 |zero=>
  intro rem listed a w _ hn hmem _ _ _ _ h
  exact Tzbu
 |succ n ih=>
  intro rem listed a w hS hn hmem hpw hxy hsz hcl h
  have inr:∀j,j∈rem→j<l.length:=fun j hj=>by
   have:=(hmem j).1 hj
   exact Tzbr
  have unl:∀j,j<l.length→j∉rem→listed.getD j false=true:=fun j hj hm=>by
   exact Tzbv
  refine ⟨fun h0=> ?_,fun j hj=> ?_⟩
  ·exact Tzbs
  ·obtain ⟨hun,o,ho,hpre⟩:=mem_ready.1 hj
   have ho' :l[j]? =some o:=by simpa using ho
   have hin:j∈rem:=(hmem j).2 hun
   obtain ⟨pre,post,rfl⟩:=List.append_of_mem hin
   rw [List.pairwise_append] at hpw
   obtain ⟨hp1,hp2,hp3⟩:=hpw
   have hjl:=inr j hin
   -- none of those before it is waited for
   have hpair:∀i u,i∈pre→l[i]? =some u→bY kd l.toArray u o=true:=fun i u hi hx=>by
    have hij:rk i<rk j:=hp3 i hi j (by simp)
    rcases (hat j o ho').2 i u hij hx with hb|hb|hb
    ·exact Tzcg
    ·exact hb
    ·exfalso
     exact hxy i (by simp [hi]) j (by simp) hb
   have hnj:j∉pre++post:=by
    exact Tzbi
   have hK:∀a' w',S w'→bK P l.toArray S kd K0 (bL l (pre++post)) a' w'→wpAny P .any l.toArray (Only K0) n (listed.setIfInBounds j true) a' w' :=by
    intro a' w' hS' h'
    refine ih (pre++post) _ a' w' hS' (by simp at hn ⊢;omega) (fun i=> ?_) ?_ (fun i hi j' hj' =>hxy i (by simp at hi ⊢;rcases hi with hi|hi<;>simp [hi]) j' (by simp at hj' ⊢;rcases hj' with hj' |hj' <;>simp [hj'])) (by simpa using hsz) ?_ h'
    ·exact Tza3
    ·exact Tzbt
    ·exact Tza2
   exact Tzag
end
end Go.Proofs.YtiblijmngokcgaaGreatDoor
namespace Go.Proofs.YtiblijmngokcgaaGreatDoor
open Go.RowKit
set_option linter.unusedVariables false
def FExt (Z:Obj) (m:Option Nat) (w:World) (m1:Option Nat) (w1:World):Prop:=(m1=m∧w1=w)∨(m=none∧m1=some w.heap.size∧w1=w.alloc Z)
section
variable {P : Program} {ops : Array Oper} {K0 : Act → World → Prop} {S : World → Prop} {kd : Oper → Nat} {fx : Oper → Bool} {Z : Obj}
def cU (P:Program) (ops:Array Oper) (S:World→Prop) (kd:Oper→Nat) (fx:Oper→Bool) (Z:Obj) (K0:Act→World→Prop):List Oper→Option Nat→Act→World→Prop
 |[],_,a,w=>K0 a w
 |o::rest,m,a,w=>
  if fx o=true then∀X w1,FExt Z m w (some X) w1→cU P ops S kd fx Z K0 rest (some X) (a.put o.dst (.pointer (some ⟨X,0,none⟩))) w1
  else if kd o=0 then∃v,YieldsIf P ops S o v a∧cU P ops S kd fx Z K0 rest m (a.put o.dst v) w
  else∀m1 w1,FExt Z m w m1 w1→wpList P ops (Only (fun a' w' =>S w'∧cU P ops S kd fx Z K0 rest m1 a' w')) [o] a w1
theorem mgX {o:Oper} {rest:List Oper} {m:Option Nat} {a:Act} {w:World} (hx:fx o=true):cU P ops S kd fx Z K0 (o::rest) m a w↔∀X w1,FExt Z m w (some X) w1→cU P ops S kd fx Z K0 rest (some X) (a.put o.dst (.pointer (some ⟨X,0,none⟩))) w1:=by
 show (if fx o=true then _ else _)↔_
 rw [if_pos hx]
theorem mg0 {o:Oper} {rest:List Oper} {m:Option Nat} {a:Act} {w:World} (hx:fx o=false) (hk:kd o=0):cU P ops S kd fx Z K0 (o::rest) m a w↔∃v,YieldsIf P ops S o v a∧cU P ops S kd fx Z K0 rest m (a.put o.dst v) w:=by
 show (if fx o=true then _ else _)↔_
 rw [if_neg (by simp [hx]),if_pos hk]
theorem mgE {o:Oper} {rest:List Oper} {m:Option Nat} {a:Act} {w:World} (hx:fx o=false) (hk:kd o≠0):cU P ops S kd fx Z K0 (o::rest) m a w↔∀m1 w1,FExt Z m w m1 w1→(if Region.wanted o (yielded ops a.tmps)=true then o.wp P a w1 (fun a' w' =>S w'∧cU P ops S kd fx Z K0 rest m1 a' w') (Only K0) else (S w1∧cU P ops S kd fx Z K0 rest m1 (a.put o.dst undef) w1)):=by
 show (if fx o=true then _ else if kd o=0 then _ else _)↔_
 rw [if_neg (by simp [hx]),if_neg hk]
 exact Tzdj
theorem BI:∀(l:List Oper) (X:Nat) (a:Act) (w:World),(∀o∈l,fx o=false)→cU P ops S kd fx Z K0 l (some X) a w→bK P ops S kd K0 l a w
 |[],_,_,_,_,h=>h
 |o::rest,X,a,w,hf,h=>by
  have hx:=hf o (by simp)
  have ih:=fun a w=>BI rest X a w (fun o ho=>hf o (by simp [ho]))
  by_cases hk:kd o=0
  ·obtain ⟨v,hv,h1⟩:=(mg0 hx hk).1 h
   exact eL hk hv (ih _ _ h1)
  ·have h1:=(mgE hx hk).1 h (some X) w (.inl ⟨rfl,rfl⟩)
   rw [gF hk]
   by_cases hw:Region.wanted o (yielded ops a.tmps)=true
   ·simp only [hw,if_true] at h1 ⊢
    exact Oper.wp_mono (fun a' w' h2=>⟨h2.1,ih _ _ h2.2⟩) h1
   ·simp only [hw] at h1 ⊢
    exact ⟨h1.1,ih _ _ h1.2⟩
theorem uS {x:Oper} (hx:fx x=true) {post:List Oper} (hpost:∀o∈post,fx o=false) (X:Nat):
 ∀(pre:List Oper) (a:Act) (w:World),(∀k∈pre,fx k=false∧x.apart ops k=true∧∀cs b,k.op≠ .select cs b)→cU P ops S kd fx Z K0 (pre++x::post) (some X) a w→bK P ops S kd K0 (pre++post) (a.put x.dst (.pointer (some ⟨X,0,none⟩))) w
 |[],a,w,_,h=>BI _ X _ _ hpost ((mgX hx).1 h X w (.inl ⟨rfl,rfl⟩))
 |k::pre,a,w,hp,h=>by
  obtain ⟨hf,hap,hsk⟩:=hp k (by simp)
  have ih:=fun a w=>uS hx hpost X pre a w (fun x hx=>hp x (by simp [hx]))
  have h' :cU P ops S kd fx Z K0 (k::(pre++x::post)) (some X) a w:=h
  by_cases hk:kd k=0
  ·obtain ⟨u,hu,h1⟩:=(mg0 hf hk).1 h'
   obtain ⟨e3,e4⟩:=cG hsk hap a (.pointer (some ⟨X,0,none⟩))
   refine eL hk (hu.of_same e3 e4) ?_
   rw [Act.put_comm a (.pointer (some ⟨X,0,none⟩)) u (Oper.apart_spec hap).2.1]
   exact ih _ _ h1
  ·have h1:=(mgE hf hk).1 h' (some X) w (.inl ⟨rfl,rfl⟩)
   show bK P ops S kd K0 (k::(pre++post)) _ _
   rw [gF hk,(cG hsk hap a (.pointer (some ⟨X,0,none⟩))).2]
   by_cases hw:Region.wanted k (yielded ops a.tmps)=true
   ·simp only [hw,if_true] at h1 ⊢
    refine iJ hap hsk ?_
    exact Oper.wp_mono (fun a' w' h2=>⟨h2.1,ih _ _ h2.2⟩) h1
   ·simp only [hw] at h1 ⊢
    rw [Act.put_comm a (.pointer (some ⟨X,0,none⟩)) undef (Oper.apart_spec hap).2.1]
    exact ⟨h1.1,ih _ _ h1.2⟩
theorem uT {x:Oper} (hx:fx x=true) {post:List Oper}:∀(pre:List Oper) (a:Act) (w:World),(∀k∈pre,fx k=false)→cU P ops S kd fx Z K0 (pre++x::post) none a w→cU P ops S kd fx Z K0 (pre++x::post) (some w.heap.size) a (w.alloc Z)
 |[],a,w,_,h=>by
  refine (mgX hx).2 fun X w1 hE=> ?_
  rcases hE with ⟨e1,e2⟩|⟨e1,_⟩
  ·cases e1
   subst e2
   exact (mgX hx).1 h _ _ (.inr ⟨rfl,rfl,rfl⟩)
  ·cases e1
 |k::pre,a,w,hp,h=>by
  have hf:=hp k (by simp)
  have h' :cU P ops S kd fx Z K0 (k::(pre++x::post)) none a w:=h
  show cU P ops S kd fx Z K0 (k::(pre++x::post)) _ _ _
  by_cases hk:kd k=0
  ·obtain ⟨u,hu,h1⟩:=(mg0 hf hk).1 h'
   exact (mg0 hf hk).2 ⟨u,hu,uT hx pre _ _ (fun x hx=>hp x (by simp [hx])) h1⟩
  ·refine (mgE hf hk).2 fun m1 w1 hE=> ?_
   rcases hE with ⟨e1,e2⟩|⟨e1,_⟩
   ·subst e1 e2
    exact (mgE hf hk).1 h' _ _ (.inr ⟨rfl,rfl,rfl⟩)
   ·cases e1
theorem GY {oj:Oper} (hj:kd oj=0) (hfj:fx oj=false) (hsj:∀cs b,oj.op≠ .select cs b) {post:List Oper}:
 ∀(pre:List Oper) (m:Option Nat) (a:Act) (w:World),S w→(∀k∈pre,fx k=false∧oj.apart ops k=true∧∀cs b,k.op≠ .select cs b)→cU P ops S kd fx Z K0 (pre++oj::post) m a w→
  ∃v,YieldsIf P ops S oj v a∧cU P ops S kd fx Z K0 (pre++post) m (a.put oj.dst v) w
 |[],m,a,w,hS,_,h=>(mg0 hfj hj).1 h
 |k::pre,m,a,w,hS,hp,h=>by
  obtain ⟨hf,hap,hsk⟩:=hp k (by simp)
  have ih:=fun m a w hS=>GY hj hfj hsj (post:=post) pre m a w hS (fun x hx=>hp x (by simp [hx]))
  have back:∀u v,YieldsIf P ops S oj v (a.put k.dst u)→YieldsIf P ops S oj v a:=fun u v hy=>
   hy.of_same (bR hsj hap a u).1.symm (bR hsj hap a u).2.symm
  have backD:∀d u v,YieldsIf P ops S oj v ({a with defers:=d::a.defers}.put k.dst u)→YieldsIf P ops S oj v a:=fun d u v hy=>by
   exact Tzco
  have h' :cU P ops S kd fx Z K0 (k::(pre++oj::post)) m a w:=h
  by_cases hk:kd k=0
  ·obtain ⟨u,hu0,h1⟩:=(mg0 hf hk).1 h'
   obtain ⟨v,hv,h2⟩:=ih m _ w hS h1
   obtain ⟨e3,e4⟩:=cG hsk hap a v
   refine ⟨v,back u v hv,(mg0 hf hk).2 ⟨u,hu0.of_same e3 e4,?_⟩⟩
   rw [Act.put_comm a v u (Oper.apart_spec hap).2.1]
   exact h2
  ·have hall:=(mgE hf hk).1 h'
   have h0:=hall m w (.inl ⟨rfl,rfl⟩)
   by_cases hw:Region.wanted k (yielded ops a.tmps)=true
   ·simp only [hw,if_true] at h0 hall
    obtain ⟨v,hv⟩:∃v,YieldsIf P ops S oj v a:=by
     obtain ⟨u,w',h1|⟨d,h1⟩⟩:=oW h0
     ·obtain ⟨v,hv,_⟩:=ih m _ _ h1.1 h1.2
      exact ⟨v,back u v hv⟩
     ·obtain ⟨v,hv,_⟩:=ih m _ _ h1.1 h1.2
      exact ⟨v,backD d u v hv⟩
    refine ⟨v,hv,?_⟩
    show cU P ops S kd fx Z K0 (k::(pre++post)) m (a.put oj.dst v) w
    refine (mgE hf hk).2 fun m1 w1 hE=> ?_
    rw [(cG hsk hap a v).2]
    simp only [hw,if_true]
    refine iJ hap hsk ?_
    refine Oper.wp_mono (fun a' w' h1=> ?_) (nN (hall m1 w1 hE))
    obtain ⟨⟨hS',h1⟩,hsh⟩:=h1
    obtain ⟨v',hv',h2⟩:=ih m1 _ _ hS' h1
    have:v=v' :=by
     exact Tzcq
    subst this
    exact ⟨hS',h2⟩
   ·simp only [hw] at h0 hall
    obtain ⟨v,hv,_⟩:=ih m _ _ h0.1 h0.2
    refine ⟨v,back _ v hv,?_⟩
    show cU P ops S kd fx Z K0 (k::(pre++post)) m (a.put oj.dst v) w
    refine (mgE hf hk).2 fun m1 w1 hE=> ?_
    rw [(cG hsk hap a v).2]
    simp only [hw]
    rw [Act.put_comm a v undef (Oper.apart_spec hap).2.1]
    have h1:=hall m1 w1 hE
    obtain ⟨v',hv',h2⟩:=ih m1 _ _ h1.1 h1.2
    have:v=v' :=eN hS (back _ v hv) (back _ v' hv')
    subst this
    exact ⟨h1.1,h2⟩
theorem BJ {j:Nat} {oj:Oper} (hj:ops[j]? =some oj) (hfj:fx oj=false) (hkj:kd oj≠0) (hsj:∀cs b,oj.op≠ .select cs b) {post:List Oper} (m:Option Nat):
 ∀(pre:List Oper) (a:Act) (w:World),(∀k∈pre,fx k=false∧kd k=0∧k.apart ops oj=true∧∀cs b,k.op≠ .select cs b)→cU P ops S kd fx Z K0 (pre++oj::post) m a w→
  wpOp P ops (Only K0) j (fun a' w' =>S w'∧cU P ops S kd fx Z K0 (pre++post) m a' w') a w
 |[],a,w,_,h=>by
  have h1:=(mgE hfj hkj).1 h m w (.inl ⟨rfl,rfl⟩)
  exact Tzc6
 |k::pre,a,w,hp,h=>by
  obtain ⟨hf,hk,hap,hsk⟩:=hp k (by simp)
  have h' :cU P ops S kd fx Z K0 (k::(pre++oj::post)) m a w:=h
  obtain ⟨u,hu,h1⟩:=(mg0 hf hk).1 h'
  have h2:=BJ hj hfj hkj hsj (post:=post) m pre (a.put k.dst u) w (fun x hx=>hp x (by simp [hx])) h1
  have h3:=wpOp_putIf hj hap hsk hsj (fun c a w h=>h) hu h2
  refine wpOp_mono (fun a' w' h4=> ?_) h3
  obtain ⟨hy,hS',h5⟩:=h4
  exact ⟨hS',(mg0 hf hk).2 ⟨u,hy,h5⟩⟩
end
section
variable {P : Program} {K0 : Act → World → Prop}
theorem JD (kd:Oper→Nat) (S:World→Prop) (fx:Oper→Bool) (Z:Obj) (hk1:∀o,kd o=1→Qu P o) (l:List Oper) (hns:Region.noSelect l.toArray=true) (x:Nat) (ox:Oper) (hox:l[x]? =some ox) (hfx:∀i u,l[i]? =some u→(fx u=true↔i=x)) (hgx:ox.guard=none)
 (hrun:∀(a:Act) (w:World),(execOp a.eval ox).run P w= .ok (.value (.pointer (some ⟨w.heap.size,0,none⟩))) (w.alloc Z)) (hSZ:∀w,S w→S (w.alloc Z))
 (hat:∀j o,l[j]? =some o→(∀e∈o.after,Region.binds .any e=true→e.on<l.length∧e.on<j)∧∀i u,i<j→l[i]? =some u→((bef l).getD j 0).testBit i=true∨bY kd l.toArray u o=true∨(i=x∨j=x))
 (hxa:∀i u,i<x→l[i]? =some u→((bef l).getD x 0).testBit i=true∨ox.apart l.toArray u=true) (hxb:∀j o,x<j→l[j]? =some o→((bef l).getD j 0).testBit x=true) (hkk:∀i u,l[i]? =some u→i≠x→kd u≠1):
 ∀(n:Nat) (rem:List Nat) (listed:Array Bool) (a:Act) (w:World),S w→rem.length=n→(∀j,j∈rem↔listed.getD j true=false)→rem.Pairwise (fun i j=>i<j)→x∈rem→listed.size=l.length→
  (∀k o,l[k]? =some o→listed.getD k false=true→∀e∈o.after,Region.binds .any e=true→listed.getD e.on false=true)→
  cU P l.toArray S kd fx Z K0 (bL l rem) none a w→wpAny P .any l.toArray (Only K0) n listed a w:=by
 have hsel:∀(j:Nat) (o:Oper),l[j]? =some o→∀cs b,o.op≠ .select cs b:=fun j o ho cs b=>Region.noSelect_spec hns j o cs b (by simpa using ho)
 intro n
 induction n with
 |zero=>
  intro rem listed a w _ hn hmem _ hx _ _ h
  rw [List.eq_nil_of_length_eq_zero hn] at hx
  cases hx
 |succ n ih=>
  intro rem listed a w hS hn hmem hpw hxr hsz hcl h
  have inr:∀j,j∈rem→j<l.length:=fun j hj=>by
   have:=(hmem j).1 hj
   exact Tzbr
  have unl:∀j,j<l.length→j∉rem→listed.getD j false=true:=fun j hj hm=>by
   exact Tzbv
  refine ⟨fun h0=> ?_,fun j hj=> ?_⟩
  ·exfalso
   match rem,hn with
   |m::rem',_=>
    have hm:m∈m::rem' :=by simp
    have hml:=inr m hm
    have ho:l[m]? =some l[m]:=List.getElem?_eq_getElem hml
    have:m∈Region.ready .any l.toArray listed:=mem_ready.2 ⟨(hmem m).1 hm,l[m],by simp,fun e he hb=>by
     obtain ⟨hlt0,hlt⟩:=(hat m _ ho).1 e he hb
     refine unl e.on hlt0 (fun hin=> ?_)
     rcases List.mem_cons.1 hin with hin|hin
     ·omega
     ·have:=(List.pairwise_cons.1 hpw).1 _ hin
      omega⟩
    rw [h0] at this
    cases this
  ·obtain ⟨hun,o,ho,hpre⟩:=mem_ready.1 hj
   have ho' :l[j]? =some o:=by simpa using ho
   have hin:j∈rem:=(hmem j).2 hun
   obtain ⟨pre,post,rfl⟩:=List.append_of_mem hin
   rw [List.pairwise_append] at hpw
   obtain ⟨hp1,hp2,hp3⟩:=hpw
   have hjl:=inr j hin
   have nobef:∀i,i∈pre++j::post→¬((bef l).getD j 0).testBit i=true:=fun i hi hb=>by
    exact Tzcl
   have hnj:j∉pre++post:=by
    exact Tzbi
   have q1:(pre++post).length=n:=by simp at hn ⊢;omega
   have q2:∀i,i∈pre++post↔(listed.setIfInBounds j true).getD i true=false:=by
    intro i
    exact Tza3
   have q3:(pre++post).Pairwise (fun i j=>i<j):=by
    exact Tzbt
   have q4:∀k o',l[k]? =some o'→(listed.setIfInBounds j true).getD k false=true→∀e∈o'.after,Region.binds .any e=true→(listed.setIfInBounds j true).getD e.on false=true:=by
    exact Tza2
   rw [bT,eP ho'] at h
   by_cases hjx:j=x
   ·subst hjx
    obtain rfl:o=ox:=by rw [hox] at ho';cases ho';rfl
    have hxo:fx o=true:=(hfx j o ho').2 rfl
    have noX:∀r:List Nat,j∉r→∀u∈bL l r,fx u=false:=fun r hr u hu=>by
     obtain ⟨i,hi,hu'⟩:=eS hu
     cases hf:fx u
     ·rfl
     ·exact absurd ((hfx i u hu').1 hf▸hi) hr
    have hpreX:j∉pre:=fun hm=>hnj (by simp [hm])
    have hpostX:j∉post:=fun hm=>hnj (by simp [hm])
    have hapx:∀k∈bL l pre,fx k=false∧o.apart l.toArray k=true∧∀cs b,k.op≠ .select cs b:=fun k hk=>by
     obtain ⟨i,hi,hk'⟩:=eS hk
     refine ⟨noX pre hpreX k hk,?_,hsel i k hk'⟩
     rcases hxa i k (hp3 i hi j (by simp)) hk' with hb|hb
     ·exact absurd hb (nobef i (by simp [hi]))
     ·exact hb
    have h1:=uS hxo (noX post hpostX) _ _ _ _ hapx (uT hxo _ _ _ (fun k hk=>(hapx k hk).1) h)
    rw [←bT] at h1
    have h2:=BW kd S hk1 l hns (fun j=>j) (fun i k=>i=j∨k=j) hat n (pre++post) (listed.setIfInBounds j true) _ _ (hSZ w hS) q1 q2 q3 (fun i hi k hk h=>by rcases h with q|q;exact hnj (q▸hi);exact hnj (q▸hk)) (by simpa using hsz) q4 h1
    unfold wpOp
    simp only [ho]
    have hw:Region.wanted o (yielded l.toArray a.tmps)=true:=by unfold Region.wanted;rw [hgx]
    simp only [hw,if_true]
    refine .inl ?_
    unfold Oper.wp
    rw [hrun]
    exact h2
   ·have hfo:fx o=false:=by
     cases hf:fx o
     ·rfl
     ·exact absurd ((hfx j o ho').1 hf) hjx
    have hjlt:j<x:=by
     rcases Nat.lt_trichotomy j x with h' |h' |h'
     ·exact h'
     ·exact absurd h' hjx
     ·exact absurd (hxb j o h' ho') (nobef x hxr)
    have hxpre:x∉pre:=fun hm=>by have:=hp3 x hm j (by simp);omega
    have hpx:∀u∈bL l pre,fx u=false∧bY kd l.toArray u o=true∧(∀cs b,u.op≠ .select cs b):=fun u hu=>by
     obtain ⟨i,hi,hu'⟩:=eS hu
     have hix:i≠x:=fun e=>hxpre (e▸hi)
     refine ⟨?_,?_,hsel i u hu'⟩
     ·cases hf:fx u
      ·rfl
      ·exact absurd ((hfx i u hu').1 hf) hix
     ·rcases (hat j o ho').2 i u (hp3 i hi j (by simp)) hu' with hb|hb|hb|hb
      ·exact absurd hb (nobef i (by simp [hi]))
      ·exact hb
      ·exact absurd hb hix
      ·exact absurd hb hjx
    have hxin:x∈pre++post:=by
     simp at hxr ⊢
     rcases hxr with q|q|q
     ·exact .inl q
     ·exact absurd q.symm hjx
     ·exact .inr q
    have hK:∀a' w',S w'→cU P l.toArray S kd fx Z K0 (bL l pre++bL l post) none a' w'→wpAny P .any l.toArray (Only K0) n (listed.setIfInBounds j true) a' w' :=by
     intro a' w' hS' h'
     rw [←bT] at h'
     exact ih (pre++post) _ a' w' hS' q1 q2 q3 hxin (by simpa using hsz) q4 h'
    by_cases k0:kd o=0
    ·obtain ⟨v,hv,h1⟩:=GY k0 hfo (hsel j o ho') (bL l pre) none a w hS (fun u hu=>by
      obtain ⟨hf,hb,hs⟩:=hpx u hu
      simp only [bY,Bool.and_eq_true] at hb
      exact ⟨hf,hb.1.2,hs⟩) h
     exact (jN hv hS).wpOp ho (hK _ _ hS h1)
    ·have h1:=BJ ho hfo k0 (hsel j o ho') none (bL l pre) a w (fun u hu=>by
      obtain ⟨hf,hb,hs⟩:=hpx u hu
      simp only [bY,Bool.and_eq_true,Bool.or_eq_true,beq_iff_eq] at hb
      refine ⟨hf,?_,hb.1.1,hs⟩
      rcases hb.2 with (hx0|hx0)|hx0
      ·exact hx0
      ·exact absurd hx0 k0
      ·exact absurd hx0.2 (hkk j o ho' hjx)) h
     exact wpOp_mono (fun a' w' h2=>hK a' w' h2.1 h2.2) h1
def eY (d:Nat) (o:Oper):Bool:=o.dst==some d
def xR (l:List Oper) (b:Array Nat) (x j:Nat):Bool:=
 match l[j]? with
 |none=>true
 |some o=>(o.after.all fun e=> !Region.binds .any e || decide (e.on<j)) &&
  (List.range j).all fun i=>match l[i]? with
   |none=>true
   |some u=>(b.getD j 0).testBit i || bY aY l.toArray u o || i==x || j==x
def CN (l:List Oper) (x d:Nat) (t:TypeId):Bool:=
 Region.noSelect l.toArray && (match l[x]? with|none=>false|some o=>o.guard.isNone && (match o.op with| .alloc t' =>t' ==t|_=>false) && (List.range x).all fun i=>match l[i]? with|none=>true|some u=>((bef l).getD x 0).testBit i || o.apart l.toArray u) &&
 (List.range l.length).all fun j=>xR l (bef l) x j && (decide (j≤x) || ((bef l).getD j 0).testBit x) && (match l[j]? with|none=>true|some o=>(eY d o==(j==x)) && (j==x || !(aY o==1)))
theorem qL (S:World→Prop) (x d:Nat) (t:TypeId) (Z:Obj) {id:Nat} {l:List Oper} {Q:Exit→Act→World→Prop} {a:Act} {w:World}
 (hm:P.follows .mixedOrders=true) (hB:CN l x d t=true) (hrun:∀(ρ:Operand→Value) (o:Oper) (w:World),o.op= .alloc t→(execOp ρ o).run P w= .ok (.value (.pointer (some ⟨w.heap.size,0,none⟩))) (w.alloc Z)) (hSZ:∀w,S w→S (w.alloc Z)) (hS:S w.drew)
 (h:cU P l.toArray S aY (eY d) Z (Q .normal) l none a w.drew):(Code.region id l.toArray true).wp P Q a w:=by
 refine Code.wp_mono Only.to (wp_region_any hm ?_)
 simp only [CN,Bool.and_eq_true,List.all_eq_true,List.mem_range] at hB
 obtain ⟨⟨b1,b2⟩,b3⟩:=hB
 match hox:l[x]?,b2 with
 |some ox,b2=>
  simp only [Bool.and_eq_true,List.all_eq_true,List.mem_range] at b2
  obtain ⟨⟨g1,g2⟩,g3⟩:=b2
  have hop:ox.op= .alloc t:=by
   split at g2
   ·rename_i t' ht'
    rw [ht',beq_iff_eq.1 g2]
   ·cases g2
  have hx:=(List.getElem?_eq_some_iff.1 hox).1
  have:=JD (P:=P) (K0:=Q .normal) aY S (eY d) Z (fun o=>lO) l b1 x ox hox (fun i u hu=>by
   have h3:=(b3 i (List.getElem?_eq_some_iff.1 hu).1).2
   simp only [hu,Bool.and_eq_true,beq_iff_eq] at h3
   rw [h3.1]
   simp) (by simpa using g1) (fun a w=>hrun a.eval ox w hop) hSZ (fun j o ho=>by
   have h3:=(b3 j (List.getElem?_eq_some_iff.1 ho).1).1.1
   simp only [xR,ho,Bool.and_eq_true,Array.all_eq_true_iff_forall_mem,List.all_eq_true,List.mem_range] at h3
   have hjl:=(List.getElem?_eq_some_iff.1 ho).1
   refine ⟨fun e he hb=> ?_,fun i u hi hu=> ?_⟩
   ·have h:=h3.1 e he
    have:e.on<j:=by simpa [hb] using h
    exact ⟨by omega,this⟩
   ·have h:=h3.2 i hi
    simp only [hu,Bool.or_eq_true,beq_iff_eq] at h
    rcases h with ((h|h)|h)|h
    ·exact .inl h
    ·exact .inr (.inl h)
    ·exact .inr (.inr (.inl h))
    ·exact .inr (.inr (.inr h))) (fun i u hi hu=>by
   have h:=g3 i hi
   simp only [hu,Bool.or_eq_true] at h
   exact h) (fun j o hj ho=>by
   have h3:=(b3 j (List.getElem?_eq_some_iff.1 ho).1).1.2
   simp only [Bool.or_eq_true,decide_eq_true_eq] at h3
   rcases h3 with h3|h3
   ·omega
   ·exact h3) (fun i u hu hix=>by
   have h3:=(b3 i (List.getElem?_eq_some_iff.1 hu).1).2
   simp only [hu,Bool.and_eq_true,Bool.or_eq_true,beq_iff_eq,Bool.not_eq_true',beq_eq_false_iff_ne] at h3
   rcases h3.2 with q|q
   ·exact absurd q hix
   ·exact q) l.length (List.range l.length) (Array.replicate l.length false) a w.drew hS (by simp) (fun j=>by
   by_cases hj:j<l.length
   ·simp [hj]
   ·simp [hj]) List.pairwise_lt_range (by simpa using hx) (by simp) (fun k o hk hL=>by
   have hlt:=(List.getElem?_eq_some_iff.1 hk).1
   simp [hlt] at hL) (by rw [jH];exact h)
  simpa using this
section
variable {ops : Array Oper} {S : World → Prop} {d : Nat} {Z : Obj}
theorem LB {o:Oper} {m:Option Nat} {a:Act} {w:World} {rest:List Oper} (hf:eY d o=false) (hk:cY o=0) (h:wpQuiet P ops (fun _=>True) (fun a' =>cU P ops S aY (eY d) Z K0 rest m a' w) [o] a):cU P ops S aY (eY d) Z K0 (o::rest) m a w:=by
 have hk' :aY o=0:=by
  unfold aY
  split
  ·rfl
  ·exact hk
 simp only [wpQuiet] at h
 by_cases hw:Region.wanted o (yielded ops a.tmps)=true
 ·simp only [hw,if_true] at h
  obtain ⟨v,hv,h⟩:=h
  refine (mg0 hf hk').2 ⟨v,.inl ⟨hw,fun w' hw' => ?_⟩,h⟩
  have:=hv w' trivial
  exact Tzbh
 ·simp only [hw] at h
  exact (mg0 hf hk').2 ⟨undef,.inr ⟨by simpa using hw,rfl⟩,h⟩
theorem LC {o:Oper} {m:Option Nat} {a:Act} {w:World} {rest:List Oper} {t:TypeId} {x:Operand} (A:Addr) (v:Value) (hf:eY d o=false) (ho:o.op= .load t x) (hw:Region.wanted o (yielded ops a.tmps)=true) (hx:a.eval x= .pointer (some A))
 (hv:∀w',S w'→(loadVar t A).run P w' = .ok v w') (h:cU P ops S aY (eY d) Z K0 rest m (a.put o.dst v) w):cU P ops S aY (eY d) Z K0 (o::rest) m a w:=by
 refine (mg0 hf (by unfold aY;rw [ho])).2 ⟨v,.inl ⟨hw,fun w' hw' => ?_⟩,h⟩
 exact Tzcv
theorem BK {o:Oper} {m:Option Nat} {a:Act} {w:World} {rest:List Oper} (hf:eY d o=false) (hk:aY o=0) (hw:Region.wanted o (yielded ops a.tmps)=false) (h:cU P ops S aY (eY d) Z K0 rest m (a.put o.dst undef) w):cU P ops S aY (eY d) Z K0 (o::rest) m a w:=
 (mg0 hf hk).2 ⟨undef,.inr ⟨hw,rfl⟩,h⟩
theorem yY {o:Oper} {m:Option Nat} {a:Act} {w:World} {rest:List Oper} (hf:eY d o=false) (hk:(aY o==0)=false) (h:∀m1 w1,FExt Z m w m1 w1→wpList P ops (Only (fun a' w' =>S w'∧cU P ops S aY (eY d) Z K0 rest m1 a' w')) [o] a w1):cU P ops S aY (eY d) Z K0 (o::rest) m a w:=by
 show (if eY d o=true then _ else if aY o=0 then _ else _)
 rw [if_neg (by simp [hf]),if_neg (by simpa using hk)]
 exact h
theorem MG {o:Oper} {X:Nat} {a:Act} {w:World} {rest:List Oper} (hf:eY d o=false) (hk:(aY o==0)=false) (h:wpList P ops (Only (fun a' w' =>S w'∧cU P ops S aY (eY d) Z K0 rest (some X) a' w')) [o] a w):cU P ops S aY (eY d) Z K0 (o::rest) (some X) a w:=
 yY hf hk fun m1 w1 hE=>by
  rcases hE with ⟨rfl,rfl⟩|⟨e,_⟩
  ·exact h
  ·cases e
theorem MF {o:Oper} {m:Option Nat} {a:Act} {w:World} {rest:List Oper} (hf:eY d o=true) (h:∀X w1,FExt Z m w (some X) w1→cU P ops S aY (eY d) Z K0 rest (some X) (a.put o.dst (.pointer (some ⟨X,0,none⟩))) w1):cU P ops S aY (eY d) Z K0 (o::rest) m a w:=(mgX hf).2 h
theorem uU {m:Option Nat} {a:Act} {w:World} {rest:List Oper} (hS:S w) (h:cU P ops S aY (eY d) Z K0 rest m a w):Only (fun a' w' =>S w'∧cU P ops S aY (eY d) Z K0 rest m a' w') .normal a w:=⟨hS,h⟩
theorem JE {m:Option Nat} {a:Act} {w:World} (h:K0 a w):cU P ops S aY (eY d) Z K0 [] m a w:=h
end
end
def Bx (B:Nat) (Z:Obj) (m:Option Nat) (w:World):Prop:=∀X,m=some X→B≤X∧w.heap[X]? =some Z
theorem Bx.none_ (B:Nat) (Z:Obj) (w:World):Bx B Z none w:=fun X h=>by cases h
theorem FExt.below {Z:Obj} {m m1:Option Nat} {w w1:World} (h:FExt Z m w m1 w1):Below w.heap.size w w1:=by
 rcases h with ⟨_,rfl⟩|⟨_,_,rfl⟩
 ·exact Below.refl _ _
 ·exact (Below.refl _ _).alloc (Nat.le_refl _) _
theorem FExt.bx {B:Nat} {Z:Obj} {m m1:Option Nat} {w w1:World} (h:FExt Z m w m1 w1) (hb:Bx B Z m w) (hB:B≤w.heap.size):Bx B Z m1 w1:=by
 rcases h with ⟨rfl,rfl⟩|⟨_,rfl,rfl⟩
 ·exact hb
 ·intro X e
  cases e
  exact ⟨hB,heap_alloc_new _ _⟩
theorem FExt.ne {Z:Obj} {m m1:Option Nat} {w w1:World} (h:FExt Z m w m1 w1) {b:Nat} (hb:b<w.heap.size) (hne:m≠some b):m1≠some b:=by
 rcases h with ⟨rfl,rfl⟩|⟨_,rfl,rfl⟩
 ·exact hne
 ·intro e
  cases e
  exact Nat.lt_irrefl _ hb
theorem Bx.lt {B:Nat} {Z:Obj} {m:Option Nat} {w:World} (h:Bx B Z m w) {b:Nat} (hb:w.heap.size≤b):m≠some b:=fun e=>by
 have:=(Array.getElem?_eq_some_iff.1 (h b e).2).1
 omega
theorem Bx.ext {B:Nat} {Z:Obj} {m:Option Nat} {w w' :World} (h:Bx B Z m w) (hb:Below w.heap.size w w'):Bx B Z m w' :=fun X e=>⟨(h X e).1,(hb.block X (Array.getElem?_eq_some_iff.1 (h X e).2).1).trans (h X e).2⟩
theorem Bx.grown {B g:Nat} {Z:Obj} {m:Option Nat} {w w' :World} (h:Bx B Z m w) (hg:w.grownBy w' (some g)) (hlt:g<B):Bx B Z m w' :=fun X e=>⟨(h X e).1,(hg.block X (Array.getElem?_eq_some_iff.1 (h X e).2).1 (fun e' =>by cases e';have:=(h _ e).1;omega)).trans (h X e).2⟩
theorem jR {w:World} {g:Nat} {o:Obj} (h:w.heap[g]? =some o) (Z:Obj):(w.alloc Z).heap[g]? =some o:=(((Below.refl _ w).alloc (Nat.le_refl _) Z).block g (Array.getElem?_eq_some_iff.1 h).1).trans h
theorem uJ {P:Program} {t:TypeId} {i:TypeInfo} {z:Value} (hi:P.info? t=some i) (hz:i.zero=some z) (ρ:Operand→Value) (o:Oper) (w:World) (ho:o.op= .alloc t):(execOp ρ o).run P w= .ok (.value (.pointer (some ⟨w.heap.size,0,none⟩))) (w.alloc (.cells z.cells t)):=by
 unfold execOp
 simp only [ho]
 simp [Instr.alloc,zeroValue,typeInfo,hi,hz,newVar,newRow]
end Go.Proofs.YtiblijmngokcgaaGreatDoor
namespace Go.Proofs.YtiblijmngokcgaaGreatDoor
open Go.RowKit
set_option linter.unusedVariables false
end Go.Proofs.YtiblijmngokcgaaGreatDoor
namespace Go.Proofs.YtiblijmngokcgaaGreatDoor
open Go.RowKit
set_option maxRecDepth 100000
set_option linter.unusedVariables false
set_option linter.unusedSimpArgs false
theorem LF:(Tryz.prog.info? 262).map (fun i=>(i.zero,i.size,i.bytes))=some (some (.agg #[.slice none 0 0,.slice none 0 0,.int .i64 0,.int .i64 0,.int .i64 0,.int .i64 0,.int .i64 0]),7,88):=by kernel_rfl
theorem DI (ρ:Operand→Value) (o:Oper) (w:World) (ho:o.op= .alloc 262):(execOp ρ o).run Tryz.prog w= .ok (.value (.pointer (some ⟨w.heap.size,0,none⟩))) (w.alloc (.cells #[.slice none 0 0,.slice none 0 0,.int .i64 0,.int .i64 0,.int .i64 0,.int .i64 0,.int .i64 0] 262)):=by
 obtain ⟨i,hi,hz,_⟩:=info_parts LF
 exact uJ hi hz ρ o w ho
theorem oZ:(Tryz.prog.info? 3).map (fun i=>(i.zero,i.size,i.bytes))=some (some (.int .i64 0),1,8):=by kernel_rfl
set_option maxHeartbeats 4000000 in
theorem IL (n:Nat) (w:World) (A:Option Addr) (m c:Nat) (ts:List Sm) (Ac:Option Addr) (nc cc:Nat) (cells:List Int) (Sc:Nat→Prop) (v:Env) (hL:LsOk bM (SmOk n (·<w.heap.size) w) (·<w.heap.size) w (.slice A m c) ts) (hrs:∀s∈ts,RsS n s) (hc:Recs bJ Sc w (.slice Ac nc cc) cells) (hnc:nc≤1000) (hci:∀z∈cells,InR z) (hv:EnvIn v):
 Calls Tryz.prog 191 #[.slice A m c,.slice Ac nc cc,.agg #[.int .i64 v.self,.int .i64 v.procs,.int .i64 v.frm,.int .i64 v.value]] w fun e w' =>∃A1 n1 c1 A2 n2 c2 r' ok,e= .returned (.tuple #[.slice A1 n1 c1,.slice A2 n2 c2,.int .i64 (r'.used:Int)])∧RunL v ts ⟨cells,[],0⟩ r' ok∧Recs bJ (w.heap.size≤·) w' (.slice A1 n1 c1) r'.cells∧Recs pI (w.heap.size≤·) w' (.slice A2 n2 c2) r'.l∧n1≤1000∧n2≤8∧(∀z∈r'.cells,InR z)∧(∀e∈r'.l,(e.kind=1∨e.kind=2)∧InR e.to∧InR e.value)∧Below w.heap.size w w' :=by
 obtain ⟨W,hW,bW,kW,SW,R0⟩:=bP w w #[.int .i64 v.self,.int .i64 v.procs,.int .i64 v.frm,.int .i64 v.value] 208 (Below.refl _ _)
 have hbE:w.heap.size<W.heap.size:=by have:=SW.out;omega
 have hcl:=hc.len
 have HCL:=Lib.hid hcl.1
 have hcc:=hcl.2
 obtain ⟨base,hbs⟩:∃b,b=W.heap.size:=⟨_,rfl⟩
 have HBS:=Lib.hid hbs
 have HLW:=Lib.hid (hL.keep (w' :=W) (nC bW) (fun y u h=>SmOk.keep (nC bW) n y u h))
 have hcW:=hc.ext bW
 clear hcl hbs hL hc
 go_enter Tryz.func191,Tryz.ntmps191
 go_upto_region 1 with fail
 try rw [←hW]
 clear hW
 try (go_wp2_with fail)
 refine qL (fun w' =>w'.heap[w.heap.size]? =some (.cells #[.int .i64 v.self,.int .i64 v.procs,.int .i64 v.frm,.int .i64 v.value] 208 (0,0))) 4 9 262 (.cells #[.slice none 0 0,.slice none 0 0,.int .i64 0,.int .i64 0,.int .i64 0,.int .i64 0,.int .i64 0] 262) (by kernel_rfl) (by kernel_rfl) (DI) (fun w' h=>jR h _) (R0.out) ?_
 refine TkC ?_
 refine yY rfl rfl (fun m1 v1 hE1=> ?_)
 have x1:=hE1.bx (Bx.none_ W.heap.size _ _) (Nat.le_refl _)
 have y1:Below W.heap.size W v1:=Below.ext (Below.refl _ W).drew hE1.below
 have s1:=y1.size
 go_wp2_with (refine aV (o:=⟨some 11,_,_,_,_,_⟩) dH jG (.int .i64 0) 8 _ _ 23 3 base ([]:List Int) cells Ac nc cc (.slice none 0 0) nc rfl rfl Tryz.underlying23 oZ rfl (by omega) rfl rfl (OwnR.nil_ _ _ _) (hcW.ext y1) (by simp) (by simp;omega) (by simp;omega) (by have:=HBS.out;omega) ?_;intro A1 c1 v2 hO2 hgr2 hat2 hc11 hc12)
 rw [List.nil_append] at hO2
 have b12:Below v1.heap.size v1 v2:=(Below.refl v1.heap.size v1).grown hgr2 (Nat.le_refl _) (fun k hk=>by cases hk)
 have x2:=x1.ext b12
 have y2:=Below.ext y1 b12
 have KR2:=Lib.hid ((y2.block w.heap.size hbE).trans R0.out)
 have hown2:∀b,(Value.slice A1 nc c1).ownBlock=some b→v1.heap.size≤b∧b<v2.heap.size:=fun b e=>⟨by
  rcases hat2 with h|h
  ·rw [h] at e;cases e
  ·rw [h] at e;cases e;exact Nat.le_refl _,(World.ownsRow.lt hO2 b e).2⟩
 go_wp2_with fail
 refine uU (KR2.out) ?_
 refine TkC ?_
 refine LC (⟨w.heap.size,0,none⟩) (.agg #[.int .i64 v.self,.int .i64 v.procs,.int .i64 v.frm,.int .i64 v.value]) rfl rfl rfl rfl (fun w' hw' =>aB hw' Tryz.underlying208 rfl (by kernel_rfl)) ?_
 refine TkI ?_
 refine TkC ?_
 refine yY rfl rfl (fun m3 v3 hE3=> ?_)
 go_wp2_with fail
 have x3:=hE3.bx x2 y2.size
 have y3:=Below.ext y2 hE3.below
 have KR3:=Lib.hid ((y3.block w.heap.size hbE).trans R0.out)
 have hO3:=hO2.ext hE3.below
 have s3:=hE3.below.size
 go_wp2_with fail
 refine uU (KR3.out) ?_
 refine TkC ?_
 refine MF rfl (fun X v9 hE9=> ?_)
 refine TkI ?_
 refine TkC ?_
 have x9:=hE9.bx x3 y3.size
 have y9:=Below.ext y3 hE9.below
 have rowX:=(x9 X rfl).2
 have hWX:=(x9 X rfl).1
 have hO9:=hO3.ext hE9.below
 have hneX:(Value.slice A1 nc c1).ownBlock≠some X:=fun e=>by
  obtain ⟨h1,h2⟩:=hown2 X e
  exact hE9.ne (by omega) (hE3.ne h2 (x1.lt h1)) rfl
 refine MG rfl rfl ?_
 refine aC rfl 262 _ _ rfl X 262 _ _ rfl rfl rowX (by kernel_rfl) rfl (by simp [Value.oneCell']) ?_
 obtain ⟨V,hV⟩:∃V,V=v9.setRow X #[.slice A1 nc c1,.slice none 0 0,.int .i64 v.self,.int .i64 v.procs,.int .i64 v.frm,.int .i64 v.value,.int .i64 0]:=⟨_,rfl⟩
 have gV:v9.grownBy V (some X):=by rw [hV];exact aJ _ _ _
 have yV:Below W.heap.size W V:=by rw [hV];exact Below.setRow y9 hWX _
 have KRV:=Lib.hid ((yV.block w.heap.size hbE).trans R0.out)
 have hrowV:V.heap[X]? =some (.cells #[.slice A1 nc c1,.slice none 0 0,.int .i64 v.self,.int .i64 v.procs,.int .i64 v.frm,.int .i64 v.value,.int .i64 0] 262 (0,0)):=by rw [hV];exact setRow_heap _ _ _ _ _ _ rowX
 have hsV:=yV.size
 have hMV:RunM V X base v ⟨cells,[],0⟩ A1 nc c1 none 0 0:=⟨hrowV,hO9.kept gV (.inr hneX),OwnR.nil_ _ _ _,by have:=HBS.out;omega,hneX,(by intro e;cases e),(fun o ho e=>by cases e),hnc,by omega,by show 0≤400;omega,hci,(by intro e he;cases he),by have:=HBS.out;omega⟩
 have hbaseW:∀b,b<w.heap.size→b<base:=fun b h=>by have:=HBS.out;omega
 have hLV:=(HLW.out.keep (w' :=V) (S:=(·<w.heap.size)) (fun q hq h=>yV.block q hq) (fun y u h=>SmOk.keep (fun q hq h=>yV.block q hq) n y u h)).mono (S' :=(·<base)) (fun b _ h=>hbaseW b h) (fun y u h=>SmOk.mono (fun b _ h=>hbaseW b h) n y u h)
 have hlist:=FH n V X base v ⟨cells,[],0⟩ (fun _=>False) A m c ts ⟨_,_,_,_,_,_,hMV,fun q hq=>hq.elim⟩ hv hLV hrs
 have Hlist:=Lib.hid hlist
 rw [←hV]
 clear hV gV rowX hMV hrowV hlist hLV hO2 hO3 hO9 x1 x2 x3 x9 hE1 hE3 hE9 hneX hown2 hat2 y1 y2 y3 y9 KR2 KR3 b12 hgr2
 refine uU KRV.out ?_
 simp only [Act.put]
 refine TkC ?_
 refine JE ?_
 go_upto_region 2 with fail
 go_wp2_with fail
 refine Hlist.out.mono ?_
 rintro e v5 ⟨r',ok,rfl,hrun,⟨Ac2,nc2,cc2,Al2,nl2,cl2,hM5,_⟩,hb5,_⟩
 have R5:=Lib.hid hM5.row
 go_upto_region 3 with fail
 go_wp2_with fail
 refine aM ((fun w' =>w'.heap[X]? =some (.cells #[.slice Ac2 nc2 cc2,.slice Al2 nl2 cl2,.int .i64 v.self,.int .i64 v.procs,.int .i64 v.frm,.int .i64 v.value,.int .i64 (r'.used:Int)] 262 (0,0)))) (by kernel_rfl) (by kernel_rfl) (R5.out) ?_
 refine TkA ?_
 refine aE (⟨X,0,none⟩) (.slice Ac2 nc2 cc2) rfl rfl rfl (fun w' hw' =>aG (fC _) (aA hw' 0 _ rfl)) ?_
 refine TkI ?_
 refine TkA ?_
 refine aE (⟨X,1,none⟩) (.slice Al2 nl2 cl2) rfl rfl rfl (fun w' hw' =>aG (xY _) (aA hw' 1 _ rfl)) ?_
 refine TkI ?_
 refine TkA ?_
 refine aE (⟨X,6,none⟩) (.int .i64 (r'.used:Int)) rfl rfl rfl (fun w' hw' =>aG (aU _) (aA hw' 6 _ rfl)) ?_
 refine TkI ?_
 refine TkA ?_
 refine aZ ?_
 go_wp2_with fail
 go_ret3
 refine ⟨_,_,_,_,_,_,r',ok,rfl,hrun,hM5.cel.recs.mono (fun b _ h=>by have:=HBS.out;omega),hM5.eff.recs.mono (fun b _ h=>by have:=HBS.out;omega),hM5.n1,hM5.n2,hM5.ci,hM5.ei,?_⟩
 exact (bW.trans (yV.mono (by omega))).trans (hb5.mono (by have:=HBS.out;omega)) |>.drew
end Go.Proofs.YtiblijmngokcgaaGreatDoor
