import Derived.Test.YtiblijmngokcgaaGreatDoorDiskAZs
set_option linter.unusedVariables false
namespace Go.Proofs.YtiblijmngokcgaaGreatDoor
section
variable {P : Program} {K0 : Act -> World -> Prop}
theorem IX (kd:Oper->Nat) (S:World->Prop) (iq:∀o,kd o=1->Qu P o) (l:List Oper) (Fo:Region.noSelect l.toArray=true) (rk:Nat->Nat) (ex:Nat->Nat->Prop)
 (jx:∀j o,l[j]? =some o->(∀e∈o.after,Region.binds .any e=true->e.on<l.length/\rk e.on<rk j)/\∀i u,rk i<rk j->l[i]? =some u->((qm l).getD j 0).testBit i=true∨cJ kd l.toArray u o=true∨ex i j):
 ∀(n:Nat) (rem:List Nat) (listed:Array Bool) (a:Act) (w:World),S w->rem.length=n->(∀j,j∈rem↔listed.getD j true=false)->rem.Pairwise (λi j=>rk i<rk j)->(∀i∈rem,∀j∈rem,¬ex i j)->listed.size=l.length->
  (∀k o,l[k]? =some o->listed.getD k false=true->∀e∈o.after,Region.binds .any e=true->listed.getD e.on false=true)->
  bG P l.toArray S kd K0 (bK l rem) a w->wpAny P .any l.toArray (cj K0) n listed a w:=by
 have jf:∀(j:Nat) (o:Oper),l[j]? =some o->∀cs b,o.op≠ .select cs b:=λj o ho cs b=>Region.noSelect_spec Fo j o cs b (by simpa using ho)
 intro n;induction n with
 |zero=>
  intro rem listed a w _ hn et _ _ _ _ h;exact Tzcc
 |succ n ih=>
  intro rem listed a w hS hn et Cg Rp ef gy h;have inr:∀j,j∈rem->j<l.length:=λj hj=>by
   have:=(et j).1 hj;exact Tzb6
  have L8:∀j,j<l.length->j∉rem->listed.getD j false=true:=λj hj hm=>by
   exact Tzcf
  refine ⟨λh0=> ?_,λj hj=> ?_⟩
  ·exact Tzb7
  ·obtain ⟨Gj,o,ho,j8⟩:=mem_ready.1 hj;have j5 :l[j]? =some o:=by simpa using ho
   have eg:j∈rem:=(et j).2 Gj;obtain ⟨pre,post,rfl⟩:=List.append_of_mem eg;rw [List.pairwise_append] at Cg;obtain ⟨Ki,Nx,Eh⟩:=Cg;have N3:=inr j eg
   -- none of those before it is waited for
   have yf:∀i u,i∈pre->l[i]? =some u->cJ kd l.toArray u o=true:=λi u hi hx=>by
    have uq:rk i<rk j:=Eh i hi j (by simp);rcases (jx j o j5).2 i u uq hx with hb|hb|hb
    ·exact Tzc2
    ·exact hb
    ·exfalso;exact Rp i (by simp [hi]) j (by simp) hb
   have J8:j∉pre++post:=by
    exact Tzbr
   have hK:∀a' w',S w'->bG P l.toArray S kd K0 (bK l (pre++post)) a' w'->wpAny P .any l.toArray (cj K0) n (listed.setIfInBounds j true) a' w' :=by
    intro a' w' yn h';refine ih (pre++post) _ a' w' yn (by simp at hn ⊢;omega) (λi=> ?_) ?_ (λi hi j' hj' =>Rp i (by simp at hi ⊢;rcases hi with hi|hi<;>simp [hi]) j' (by simp at hj' ⊢;rcases hj' with hj' |hj' <;>simp [hj'])) (by simpa using ef) ?_ h'
    ·exact Tzbg
    ·exact Tzca
    ·exact Tzba
   exact Tzak
end
end Go.Proofs.YtiblijmngokcgaaGreatDoor
namespace Go.Proofs.YtiblijmngokcgaaGreatDoor
open Go.RowKit
def zt (Z:Obj) (m:Option Nat) (w:World) (m1:Option Nat) (w1:World):Prop:=(m1=m/\w1=w)∨(m=none/\m1=some w.heap.size/\w1=w.alloc Z)
section
variable {P : Program} {ops : Array Oper} {K0 : Act -> World -> Prop} {S : World -> Prop} {kd : Oper -> Nat} {fx : Oper -> Bool} {Z : Obj}
def dN (P:Program) (ops:Array Oper) (S:World->Prop) (kd:Oper->Nat) (fx:Oper->Bool) (Z:Obj) (K0:Act->World->Prop):List Oper->Option Nat->Act->World->Prop
 |[],_,a,w=>K0 a w
 |o::rest,m,a,w=>
  if fx o=true then∀X w1,zt Z m w (some X) w1->dN P ops S kd fx Z K0 rest (some X) (a.put o.dst (.pointer (some ⟨X,0,none⟩))) w1
  else if kd o=0 then∃v,YieldsIf P ops S o v a/\dN P ops S kd fx Z K0 rest m (a.put o.dst v) w
  else∀m1 w1,zt Z m w m1 w1->wpList P ops (cj (λa' w' =>S w'/\dN P ops S kd fx Z K0 rest m1 a' w')) [o] a w1
theorem mgX {o:Oper} {rest:List Oper} {m:Option Nat} {a:Act} {w:World} (hx:fx o=true):dN P ops S kd fx Z K0 (o::rest) m a w↔∀X w1,zt Z m w (some X) w1->dN P ops S kd fx Z K0 rest (some X) (a.put o.dst (.pointer (some ⟨X,0,none⟩))) w1:=by
 show (if fx o=true then _ else _)↔_;rw [if_pos hx]
theorem Mt {o:Oper} {rest:List Oper} {m:Option Nat} {a:Act} {w:World} (hx:fx o=false) (hk:kd o=0):dN P ops S kd fx Z K0 (o::rest) m a w↔∃v,YieldsIf P ops S o v a/\dN P ops S kd fx Z K0 rest m (a.put o.dst v) w:=by
 show (if fx o=true then _ else _)↔_;rw [if_neg (by simp [hx]),if_pos hk]
theorem Vv {o:Oper} {rest:List Oper} {m:Option Nat} {a:Act} {w:World} (hx:fx o=false) (hk:kd o≠0):dN P ops S kd fx Z K0 (o::rest) m a w↔∀m1 w1,zt Z m w m1 w1->(if Region.wanted o (yielded ops a.tmps)=true then o.wp P a w1 (λa' w' =>S w'/\dN P ops S kd fx Z K0 rest m1 a' w') (cj K0) else (S w1/\dN P ops S kd fx Z K0 rest m1 (a.put o.dst undef) w1)):=by
 show (if fx o=true then _ else if kd o=0 then _ else _)↔_;rw [if_neg (by simp [hx]),if_neg hk];exact Tzfc
theorem IK:∀(l:List Oper) (X:Nat) (a:Act) (w:World),(∀o∈l,fx o=false)->dN P ops S kd fx Z K0 l (some X) a w->bG P ops S kd K0 l a w
 |[],_,_,_,_,h=>h
 |o::rest,X,a,w,hf,h=>by
  have hx:=hf o (by simp);have ih:=λa w=>IK rest X a w (λo ho=>hf o (by simp [ho]))
  by_cases hk:kd o=0
  ·obtain ⟨v,hv,h1⟩:=(Mt hx hk).1 h;exact eH hk hv (ih _ _ h1)
  ·have h1:=(Vv hx hk).1 h (some X) w (.inl ⟨rfl,rfl⟩);rw [jE hk];by_cases hw:Region.wanted o (yielded ops a.tmps)=true
   ·simp only [hw,if_true] at h1 ⊢;exact Oper.wp_mono (λa' w' h2=>⟨h2.1,ih _ _ h2.2⟩) h1
   ·simp only [hw] at h1 ⊢;exact ⟨h1.1,ih _ _ h1.2⟩
theorem AE {x:Oper} (hx:fx x=true) {post:List Oper} (VH:∀o∈post,fx o=false) (X:Nat):
 ∀(pre:List Oper) (a:Act) (w:World),(∀k∈pre,fx k=false/\x.apart ops k=true/\∀cs b,k.op≠ .select cs b)->dN P ops S kd fx Z K0 (pre++x::post) (some X) a w->bG P ops S kd K0 (pre++post) (a.put x.dst (.pointer (some ⟨X,0,none⟩))) w
 |[],a,w,_,h=>IK _ X _ _ VH ((mgX hx).1 h X w (.inl ⟨rfl,rfl⟩))
 |k::pre,a,w,hp,h=>by
  obtain ⟨hf,fm,tq⟩:=hp k (by simp);have ih:=λa w=>AE hx VH X pre a w (λx hx=>hp x (by simp [hx]))
  have h' :dN P ops S kd fx Z K0 (k::(pre++x::post)) (some X) a w:=h;by_cases hk:kd k=0
  ·obtain ⟨u,hu,h1⟩:=(Mt hf hk).1 h';obtain ⟨e3,e4⟩:=cO tq fm a (.pointer (some ⟨X,0,none⟩));refine eH hk (hu.of_same e3 e4) ?_;rw [Act.put_comm a (.pointer (some ⟨X,0,none⟩)) u (Oper.apart_spec fm).2.1];exact ih _ _ h1
  ·have h1:=(Vv hf hk).1 h' (some X) w (.inl ⟨rfl,rfl⟩);show bG P ops S kd K0 (k::(pre++post)) _ _;rw [jE hk,(cO tq fm a (.pointer (some ⟨X,0,none⟩))).2];by_cases hw:Region.wanted k (yielded ops a.tmps)=true
   ·simp only [hw,if_true] at h1 ⊢;refine lF fm tq ?_;exact Oper.wp_mono (λa' w' h2=>⟨h2.1,ih _ _ h2.2⟩) h1
   ·simp only [hw] at h1 ⊢;rw [Act.put_comm a (.pointer (some ⟨X,0,none⟩)) undef (Oper.apart_spec fm).2.1];exact ⟨h1.1,ih _ _ h1.2⟩
theorem AF {x:Oper} (hx:fx x=true) {post:List Oper}:∀(pre:List Oper) (a:Act) (w:World),(∀k∈pre,fx k=false)->dN P ops S kd fx Z K0 (pre++x::post) none a w->dN P ops S kd fx Z K0 (pre++x::post) (some w.heap.size) a (w.alloc Z)
 |[],a,w,_,h=>by
  refine (mgX hx).2 λX w1 hE=> ?_
  rcases hE with ⟨e1,e2⟩|⟨e1,_⟩
  ·cases e1;subst e2;exact (mgX hx).1 h _ _ (.inr ⟨rfl,rfl,rfl⟩)
  ·cases e1
 |k::pre,a,w,hp,h=>by
  have hf:=hp k (by simp);have h' :dN P ops S kd fx Z K0 (k::(pre++x::post)) none a w:=h;show dN P ops S kd fx Z K0 (k::(pre++x::post)) _ _ _;by_cases hk:kd k=0
  ·obtain ⟨u,hu,h1⟩:=(Mt hf hk).1 h';exact (Mt hf hk).2 ⟨u,hu,AF hx pre _ _ (λx hx=>hp x (by simp [hx])) h1⟩
  ·refine (Vv hf hk).2 λm1 w1 hE=> ?_
   rcases hE with ⟨e1,e2⟩|⟨e1,_⟩
   ·subst e1 e2;exact (Vv hf hk).1 h' _ _ (.inr ⟨rfl,rfl,rfl⟩)
   ·cases e1
theorem NK {oj:Oper} (hj:kd oj=0) (Gw:fx oj=false) (zg:∀cs b,oj.op≠ .select cs b) {post:List Oper}:
 ∀(pre:List Oper) (m:Option Nat) (a:Act) (w:World),S w->(∀k∈pre,fx k=false/\oj.apart ops k=true/\∀cs b,k.op≠ .select cs b)->dN P ops S kd fx Z K0 (pre++oj::post) m a w->
  ∃v,YieldsIf P ops S oj v a/\dN P ops S kd fx Z K0 (pre++post) m (a.put oj.dst v) w
 |[],m,a,w,hS,_,h=>(Mt Gw hj).1 h
 |k::pre,m,a,w,hS,hp,h=>by
  obtain ⟨hf,fm,tq⟩:=hp k (by simp);have ih:=λm a w hS=>NK hj Gw zg (post:=post) pre m a w hS (λx hx=>hp x (by simp [hx]))
  have back:∀u v,YieldsIf P ops S oj v (a.put k.dst u)->YieldsIf P ops S oj v a:=λu v hy=>
   hy.of_same (bQ zg fm a u).1.symm (bQ zg fm a u).2.symm
  have yq:∀d u v,YieldsIf P ops S oj v ({a with defers:=d::a.defers}.put k.dst u)->YieldsIf P ops S oj v a:=λd u v hy=>by
   exact Tzdo
  have h' :dN P ops S kd fx Z K0 (k::(pre++oj::post)) m a w:=h;by_cases hk:kd k=0
  ·obtain ⟨u,J5,h1⟩:=(Mt hf hk).1 h';obtain ⟨v,hv,h2⟩:=ih m _ w hS h1;obtain ⟨e3,e4⟩:=cO tq fm a v;refine ⟨v,back u v hv,(Mt hf hk).2 ⟨u,J5.of_same e3 e4,?_⟩⟩;exact Tzek
  ·have fg:=(Vv hf hk).1 h';have h0:=fg m w (.inl ⟨rfl,rfl⟩);by_cases hw:Region.wanted k (yielded ops a.tmps)=true
   ·simp only [hw,if_true] at h0 fg;obtain ⟨v,hv⟩:∃v,YieldsIf P ops S oj v a:=by
     obtain ⟨u,w',h1|⟨d,h1⟩⟩:=sU h0
     ·obtain ⟨v,hv,_⟩:=ih m _ _ h1.1 h1.2;exact ⟨v,back u v hv⟩
     ·obtain ⟨v,hv,_⟩:=ih m _ _ h1.1 h1.2;exact ⟨v,yq d u v hv⟩
    refine ⟨v,hv,?_⟩;show dN P ops S kd fx Z K0 (k::(pre++post)) m (a.put oj.dst v) w;refine (Vv hf hk).2 λm1 w1 hE=> ?_
    rw [(cO tq fm a v).2];simp only [hw,if_true];refine lF fm tq ?_;refine Oper.wp_mono (λa' w' h1=> ?_) (rA (fg m1 w1 hE));obtain ⟨⟨yn,h1⟩,hsh⟩:=h1;obtain ⟨v',Rw,h2⟩:=ih m1 _ _ yn h1;have:v=v' :=by
     exact Tzdu
    subst this;exact ⟨yn,h2⟩
   ·simp only [hw] at h0 fg;obtain ⟨v,hv,_⟩:=ih m _ _ h0.1 h0.2;refine ⟨v,back _ v hv,?_⟩;show dN P ops S kd fx Z K0 (k::(pre++post)) m (a.put oj.dst v) w;refine (Vv hf hk).2 λm1 w1 hE=> ?_
    rw [(cO tq fm a v).2];simp only [hw];rw [Act.put_comm a v undef (Oper.apart_spec fm).2.1];have h1:=fg m1 w1 hE;obtain ⟨v',Rw,h2⟩:=ih m1 _ _ h1.1 h1.2;have:v=v' :=fJ hS (back _ v hv) (back _ v' Rw);subst this;exact ⟨h1.1,h2⟩
theorem IL {j:Nat} {oj:Oper} (hj:ops[j]? =some oj) (Gw:fx oj=false) (VN:kd oj≠0) (zg:∀cs b,oj.op≠ .select cs b) {post:List Oper} (m:Option Nat):
 ∀(pre:List Oper) (a:Act) (w:World),(∀k∈pre,fx k=false/\kd k=0/\k.apart ops oj=true/\∀cs b,k.op≠ .select cs b)->dN P ops S kd fx Z K0 (pre++oj::post) m a w->
  wpOp P ops (cj K0) j (λa' w' =>S w'/\dN P ops S kd fx Z K0 (pre++post) m a' w') a w
 |[],a,w,_,h=>by
  have h1:=(Vv Gw VN).1 h m w (.inl ⟨rfl,rfl⟩);exact Tzep
 |k::pre,a,w,hp,h=>by
  obtain ⟨hf,hk,fm,tq⟩:=hp k (by simp);have h' :dN P ops S kd fx Z K0 (k::(pre++oj::post)) m a w:=h;obtain ⟨u,hu,h1⟩:=(Mt hf hk).1 h';have h2:=IL hj Gw VN zg (post:=post) m pre (a.put k.dst u) w (λx hx=>hp x (by simp [hx])) h1;have h3:=wpOp_putIf hj fm tq zg (λc a w h=>h) hu h2;refine wpOp_mono (λa' w' h4=> ?_) h3;obtain ⟨hy,yn,h5⟩:=h4;exact ⟨yn,(Mt hf hk).2 ⟨u,hy,h5⟩⟩
end
section
variable {P : Program} {K0 : Act -> World -> Prop}
theorem OW (kd:Oper->Nat) (S:World->Prop) (fx:Oper->Bool) (Z:Obj) (iq:∀o,kd o=1->Qu P o) (l:List Oper) (Fo:Region.noSelect l.toArray=true) (x:Nat) (ox:Oper) (hox:l[x]? =some ox) (hfx:∀i u,l[i]? =some u->(fx u=true↔i=x)) (hgx:ox.guard=none)
 (im:∀(a:Act) (w:World),(execOp a.eval ox).run P w= .ok (.value (.pointer (some ⟨w.heap.size,0,none⟩))) (w.alloc Z)) (Kp:∀w,S w->S (w.alloc Z))
 (jx:∀j o,l[j]? =some o->(∀e∈o.after,Region.binds .any e=true->e.on<l.length/\e.on<j)/\∀i u,i<j->l[i]? =some u->((qm l).getD j 0).testBit i=true∨cJ kd l.toArray u o=true∨(i=x∨j=x))
 (hxa:∀i u,i<x->l[i]? =some u->((qm l).getD x 0).testBit i=true∨ox.apart l.toArray u=true) (hxb:∀j o,x<j->l[j]? =some o->((qm l).getD j 0).testBit x=true) (Dw:∀i u,l[i]? =some u->i≠x->kd u≠1):
 ∀(n:Nat) (rem:List Nat) (listed:Array Bool) (a:Act) (w:World),S w->rem.length=n->(∀j,j∈rem↔listed.getD j true=false)->rem.Pairwise (λi j=>i<j)->x∈rem->listed.size=l.length->
  (∀k o,l[k]? =some o->listed.getD k false=true->∀e∈o.after,Region.binds .any e=true->listed.getD e.on false=true)->
  dN P l.toArray S kd fx Z K0 (bK l rem) none a w->wpAny P .any l.toArray (cj K0) n listed a w:=by
 have jf:∀(j:Nat) (o:Oper),l[j]? =some o->∀cs b,o.op≠ .select cs b:=λj o ho cs b=>Region.noSelect_spec Fo j o cs b (by simpa using ho)
 intro n;induction n with
 |zero=>
  intro rem listed a w _ hn et _ hx _ _ h;rw [List.eq_nil_of_length_eq_zero hn] at hx;cases hx
 |succ n ih=>
  intro rem listed a w hS hn et Cg Cq ef gy h;have inr:∀j,j∈rem->j<l.length:=λj hj=>by
   have:=(et j).1 hj;exact Tzb6
  have L8:∀j,j<l.length->j∉rem->listed.getD j false=true:=λj hj hm=>by
   exact Tzcf
  refine ⟨λh0=> ?_,λj hj=> ?_⟩
  ·exfalso;match rem,hn with
   |m::rem',_=>
    have hm:m∈m::rem' :=by simp
    have Ei:=inr m hm;have ho:l[m]? =some l[m]:=List.getElem?_eq_getElem Ei
    have:m∈Region.ready .any l.toArray listed:=mem_ready.2 ⟨(et m).1 hm,l[m],by simp,λe he hb=>by
     obtain ⟨Ja,af⟩:=(jx m _ ho).1 e he hb;refine L8 e.on Ja (λeg=> ?_);rcases List.mem_cons.1 eg with eg|eg
     ·omega
     ·have:=(List.pairwise_cons.1 Cg).1 _ eg;omega⟩
    rw [h0] at this;cases this
  ·obtain ⟨Gj,o,ho,j8⟩:=mem_ready.1 hj;have j5 :l[j]? =some o:=by simpa using ho
   have eg:j∈rem:=(et j).2 Gj;obtain ⟨pre,post,rfl⟩:=List.append_of_mem eg;rw [List.pairwise_append] at Cg;obtain ⟨Ki,Nx,Eh⟩:=Cg;have N3:=inr j eg;have rn:∀i,i∈pre++j::post->¬((qm l).getD j 0).testBit i=true:=λi hi hb=>by
    exact Tzdi
   have J8:j∉pre++post:=by
    exact Tzbr
   have q1:(pre++post).length=n:=by simp at hn ⊢;omega
   have q2:∀i,i∈pre++post↔(listed.setIfInBounds j true).getD i true=false:=by
    intro i;exact Tzbg
   have q3:(pre++post).Pairwise (λi j=>i<j):=by
    exact Tzca
   have q4:∀k o',l[k]? =some o'->(listed.setIfInBounds j true).getD k false=true->∀e∈o'.after,Region.binds .any e=true->(listed.setIfInBounds j true).getD e.on false=true:=by
    exact Tzba
   rw [bR,fM j5] at h;by_cases O9:j=x
   ·subst O9;obtain rfl:o=ox:=by rw [hox] at j5;cases j5;rfl
    have Lc:fx o=true:=(hfx j o j5).2 rfl;have noX:∀r:List Nat,j∉r->∀u∈bK l r,fx u=false:=λr hr u hu=>by
     obtain ⟨i,hi,Fl⟩:=fT hu;cases hf:fx u
     ·rfl
     ·exact absurd ((hfx i u Fl).1 hf▸hi) hr
    have hpreX:j∉pre:=λhm=>J8 (by simp [hm])
    have Xm:j∉post:=λhm=>J8 (by simp [hm])
    have hapx:∀k∈bK l pre,fx k=false/\o.apart l.toArray k=true/\∀cs b,k.op≠ .select cs b:=λk hk=>by
     obtain ⟨i,hi,N2⟩:=fT hk;refine ⟨noX pre hpreX k hk,?_,jf i k N2⟩;rcases hxa i k (Eh i hi j (by simp)) N2 with hb|hb
     ·exact absurd hb (rn i (by simp [hi]))
     ·exact hb
    have h1:=AE Lc (noX post Xm) _ _ _ _ hapx (AF Lc _ _ _ (λk hk=>(hapx k hk).1) h);rw [<-bR] at h1;have h2:=IX kd S iq l Fo (λj=>j) (λi k=>i=j∨k=j) jx n (pre++post) (listed.setIfInBounds j true) _ _ (Kp w hS) q1 q2 q3 (λi hi k hk h=>by rcases h with q|q;exact J8 (q▸hi);exact J8 (q▸hk)) (by simpa using ef) q4 h1;unfold wpOp;simp only [ho];have hw:Region.wanted o (yielded l.toArray a.tmps)=true:=by unfold Region.wanted;rw [hgx]
    simp only [hw,if_true];refine .inl ?_;unfold Oper.wp;rw [im];exact h2
   ·have yj:fx o=false:=by
     cases hf:fx o
     ·rfl
     ·exact absurd ((hfx j o j5).1 hf) O9
    have hjlt:j<x:=by
     rcases Nat.lt_trichotomy j x with h' |h' |h'
     ·exact h'
     ·exact absurd h' O9
     ·exact absurd (hxb j o h' j5) (rn x Cq)
    have hxpre:x∉pre:=λhm=>by have:=Eh x hm j (by simp);omega
    have Lh:∀u∈bK l pre,fx u=false/\cJ kd l.toArray u o=true/\(∀cs b,u.op≠ .select cs b):=λu hu=>by
     obtain ⟨i,hi,Fl⟩:=fT hu;have hix:i≠x:=λe=>hxpre (e▸hi)
     refine ⟨?_,?_,jf i u Fl⟩
     ·cases hf:fx u
      ·rfl
      ·exact absurd ((hfx i u Fl).1 hf) hix
     ·rcases (jx j o j5).2 i u (Eh i hi j (by simp)) Fl with hb|hb|hb|hb
      ·exact absurd hb (rn i (by simp [hi]))
      ·exact hb
      ·exact absurd hb hix
      ·exact absurd hb O9
    have hxin:x∈pre++post:=by
     simp at Cq ⊢;rcases Cq with q|q|q
     ·exact .inl q
     ·exact absurd q.symm O9
     ·exact .inr q
    have hK:∀a' w',S w'->dN P l.toArray S kd fx Z K0 (bK l pre++bK l post) none a' w'->wpAny P .any l.toArray (cj K0) n (listed.setIfInBounds j true) a' w' :=by
     intro a' w' yn h';rw [<-bR] at h';exact ih (pre++post) _ a' w' yn q1 q2 q3 hxin (by simpa using ef) q4 h'
    by_cases k0:kd o=0
    ·obtain ⟨v,hv,h1⟩:=NK k0 yj (jf j o j5) (bK l pre) none a w hS (λu hu=>by
      obtain ⟨hf,hb,hs⟩:=Lh u hu;simp only [cJ,Bool.and_eq_true] at hb;exact ⟨hf,hb.1.2,hs⟩) h
     exact (mM hv hS).wpOp ho (hK _ _ hS h1)
    ·have h1:=IL ho yj k0 (jf j o j5) none (bK l pre) a w (λu hu=>by
      obtain ⟨hf,hb,hs⟩:=Lh u hu;simp only [cJ,Bool.and_eq_true,Bool.or_eq_true,beq_iff_eq] at hb;refine ⟨hf,?_,hb.1.1,hs⟩;rcases hb.2 with (fa|fa)|fa
      ·exact fa
      ·exact absurd fa k0
      ·exact absurd fa.2 (Dw j o j5 O9)) h
     exact wpOp_mono (λa' w' h2=>hK a' w' h2.1 h2.2) h1
def gP (d:Nat) (o:Oper):Bool:=o.dst==some d
def DN (l:List Oper) (b:Array Nat) (x j:Nat):Bool:=
 match l[j]? with
 |none=>true
 |some o=>(o.after.all λe=> !Region.binds .any e || decide (e.on<j)) &&
  (List.range j).all λi=>match l[i]? with
   |none=>true
   |some u=>(b.getD j 0).testBit i || cJ bA l.toArray u o || i==x || j==x
def JJ (l:List Oper) (x d:Nat) (t:TypeId):Bool:=
 Region.noSelect l.toArray && (match l[x]? with|none=>false|some o=>o.guard.isNone && (match o.op with| .alloc t' =>t' ==t|_=>false) && (List.range x).all λi=>match l[i]? with|none=>true|some u=>((qm l).getD x 0).testBit i || o.apart l.toArray u) &&
 (List.range l.length).all λj=>DN l (qm l) x j && (decide (j<=x) || ((qm l).getD j 0).testBit x) && (match l[j]? with|none=>true|some o=>(gP d o==(j==x)) && (j==x || !(bA o==1)))
theorem oR (S:World->Prop) (x d:Nat) (t:TypeId) (Z:Obj) {id:Nat} {l:List Oper} {Q:Exit->Act->World->Prop} {a:Act} {w:World}
 (hm:P.follows .mixedOrders=true) (hB:JJ l x d t=true) (im:∀(ρ:Operand->Value) (o:Oper) (w:World),o.op= .alloc t->(execOp ρ o).run P w= .ok (.value (.pointer (some ⟨w.heap.size,0,none⟩))) (w.alloc Z)) (Kp:∀w,S w->S (w.alloc Z)) (hS:S w.drew)
 (h:dN P l.toArray S bA (gP d) Z (Q .normal) l none a w.drew):(Code.region id l.toArray true).wp P Q a w:=by
 refine Code.wp_mono cj.to (wp_region_any hm ?_);simp only [JJ,Bool.and_eq_true,List.all_eq_true,List.mem_range] at hB;obtain ⟨⟨b1,b2⟩,b3⟩:=hB;match hox:l[x]?,b2 with
 |some ox,b2=>
  simp only [Bool.and_eq_true,List.all_eq_true,List.mem_range] at b2;obtain ⟨⟨g1,g2⟩,g3⟩:=b2;have uo:ox.op= .alloc t:=by
   split at g2
   ·rename_i t' Ec;rw [Ec,beq_iff_eq.1 g2]
   ·cases g2
  have hx:=(List.getElem?_eq_some_iff.1 hox).1
  have:=OW (P:=P) (K0:=Q .normal) bA S (gP d) Z (λo=>mX) l b1 x ox hox (λi u hu=>by
   have h3:=(b3 i (List.getElem?_eq_some_iff.1 hu).1).2;simp only [hu,Bool.and_eq_true,beq_iff_eq] at h3;rw [h3.1];simp) (by simpa using g1) (λa w=>im a.eval ox w uo) Kp (λj o ho=>by
   have h3:=(b3 j (List.getElem?_eq_some_iff.1 ho).1).1.1;simp only [DN,ho,Bool.and_eq_true,Array.all_eq_true_iff_forall_mem,List.all_eq_true,List.mem_range] at h3;have N3:=(List.getElem?_eq_some_iff.1 ho).1;refine ⟨λe he hb=> ?_,λi u hi hu=> ?_⟩
   ·have h:=h3.1 e he;have:e.on<j:=by simpa [hb] using h
    exact ⟨by omega,this⟩
   ·have h:=h3.2 i hi;simp only [hu,Bool.or_eq_true,beq_iff_eq] at h;rcases h with ((h|h)|h)|h
    ·exact .inl h
    ·exact .inr (.inl h)
    ·exact .inr (.inr (.inl h))
    ·exact .inr (.inr (.inr h))) (λi u hi hu=>by
   have h:=g3 i hi;simp only [hu,Bool.or_eq_true] at h;exact h) (λj o hj ho=>by
   have h3:=(b3 j (List.getElem?_eq_some_iff.1 ho).1).1.2;simp only [Bool.or_eq_true,decide_eq_true_eq] at h3;rcases h3 with h3|h3
   ·omega
   ·exact h3) (λi u hu hix=>by
   have h3:=(b3 i (List.getElem?_eq_some_iff.1 hu).1).2;simp only [hu,Bool.and_eq_true,Bool.or_eq_true,beq_iff_eq,Bool.not_eq_true',beq_eq_false_iff_ne] at h3;rcases h3.2 with q|q
   ·exact absurd q hix
   ·exact q) l.length (List.range l.length) (Array.replicate l.length false) a w.drew hS (by simp) (λj=>by
   by_cases hj:j<l.length
   ·simp [hj]
   ·simp [hj]) List.pairwise_lt_range (by simpa using hx) (by simp) (λk o hk hL=>by
   have af:=(List.getElem?_eq_some_iff.1 hk).1;simp [af] at hL) (by rw [kI];exact h)
  simpa using this
section
variable {ops : Array Oper} {S : World -> Prop} {d : Nat} {Z : Obj}
theorem RH {o:Oper} {m:Option Nat} {a:Act} {w:World} {rest:List Oper} (hf:gP d o=false) (hk:dC o=0) (h:wpQuiet P ops (λ_=>True) (λa' =>dN P ops S bA (gP d) Z K0 rest m a' w) [o] a):dN P ops S bA (gP d) Z K0 (o::rest) m a w:=by
 have N2 :bA o=0:=by
  unfold bA;split
  ·rfl
  ·exact hk
 simp only [wpQuiet] at h;by_cases hw:Region.wanted o (yielded ops a.tmps)=true
 ·simp only [hw,if_true] at h;obtain ⟨v,hv,h⟩:=h;refine (Mt hf N2).2 ⟨v,.inl ⟨hw,λw' ah => ?_⟩,h⟩;have:=hv w' trivial;exact Tzbe
 ·simp only [hw] at h;exact (Mt hf N2).2 ⟨undef,.inr ⟨by simpa using hw,rfl⟩,h⟩
theorem AG {o:Oper} {m:Option Nat} {a:Act} {w:World} {rest:List Oper} {t:TypeId} {x:Operand} (A:Addr) (v:Value) (hf:gP d o=false) (ho:o.op= .load t x) (hw:Region.wanted o (yielded ops a.tmps)=true) (hx:a.eval x= .pointer (some A))
 (hv:∀w',S w'->(loadVar t A).run P w' = .ok v w') (h:dN P ops S bA (gP d) Z K0 rest m (a.put o.dst v) w):dN P ops S bA (gP d) Z K0 (o::rest) m a w:=by
 refine (Mt hf (by unfold bA;rw [ho])).2 ⟨v,.inl ⟨hw,λw' ah => ?_⟩,h⟩;exact Tzd4
theorem vD {o:Oper} {m:Option Nat} {a:Act} {w:World} {rest:List Oper} (hf:gP d o=false) (hk:(bA o==0)=false) (h:∀m1 w1,zt Z m w m1 w1->wpList P ops (cj (λa' w' =>S w'/\dN P ops S bA (gP d) Z K0 rest m1 a' w')) [o] a w1):dN P ops S bA (gP d) Z K0 (o::rest) m a w:=by
 show (if gP d o=true then _ else if bA o=0 then _ else _);rw [if_neg (by simp [hf]),if_neg (by simpa using hk)];exact h
theorem NM {o:Oper} {X:Nat} {a:Act} {w:World} {rest:List Oper} (hf:gP d o=false) (hk:(bA o==0)=false) (h:wpList P ops (cj (λa' w' =>S w'/\dN P ops S bA (gP d) Z K0 rest (some X) a' w')) [o] a w):dN P ops S bA (gP d) Z K0 (o::rest) (some X) a w:=
 vD hf hk λm1 w1 hE=>by
  rcases hE with ⟨rfl,rfl⟩|⟨e,_⟩
  ·exact h
  ·cases e
theorem NL {o:Oper} {m:Option Nat} {a:Act} {w:World} {rest:List Oper} (hf:gP d o=true) (h:∀X w1,zt Z m w (some X) w1->dN P ops S bA (gP d) Z K0 rest (some X) (a.put o.dst (.pointer (some ⟨X,0,none⟩))) w1):dN P ops S bA (gP d) Z K0 (o::rest) m a w:=(mgX hf).2 h
theorem pN {m:Option Nat} {a:Act} {w:World} {rest:List Oper} (hS:S w) (h:dN P ops S bA (gP d) Z K0 rest m a w):cj (λa' w' =>S w'/\dN P ops S bA (gP d) Z K0 rest m a' w') .normal a w:=⟨hS,h⟩
theorem DI {m:Option Nat} {a:Act} {w:World} (h:K0 a w):dN P ops S bA (gP d) Z K0 [] m a w:=h
end
end
def Bx (B:Nat) (Z:Obj) (m:Option Nat) (w:World):Prop:=∀X,m=some X->B<=X/\w.heap[X]? =some Z
theorem Bx.none_ (B:Nat) (Z:Obj) (w:World):Bx B Z none w:=λX h=>by cases h
theorem zt.below {Z:Obj} {m m1:Option Nat} {w w1:World} (h:zt Z m w m1 w1):Below w.heap.size w w1:=by
 rcases h with ⟨_,rfl⟩|⟨_,_,rfl⟩
 ·exact Below.refl _ _
 ·exact (Below.refl _ _).alloc (Nat.le_refl _) _
theorem zt.bx {B:Nat} {Z:Obj} {m m1:Option Nat} {w w1:World} (h:zt Z m w m1 w1) (hb:Bx B Z m w) (hB:B<=w.heap.size):Bx B Z m1 w1:=by
 rcases h with ⟨rfl,rfl⟩|⟨_,rfl,rfl⟩
 ·exact hb
 ·intro X e;cases e;exact ⟨hB,heap_alloc_new _ _⟩
theorem zt.ne {Z:Obj} {m m1:Option Nat} {w w1:World} (h:zt Z m w m1 w1) {b:Nat} (hb:b<w.heap.size) (fb:m≠some b):m1≠some b:=by
 rcases h with ⟨rfl,rfl⟩|⟨_,rfl,rfl⟩
 ·exact fb
 ·intro e;cases e;exact Nat.lt_irrefl _ hb
theorem Bx.lt {B:Nat} {Z:Obj} {m:Option Nat} {w:World} (h:Bx B Z m w) {b:Nat} (hb:w.heap.size<=b):m≠some b:=λe=>by
 have:=(Array.getElem?_eq_some_iff.1 (h b e).2).1;omega
theorem Bx.ext {B:Nat} {Z:Obj} {m:Option Nat} {w w' :World} (h:Bx B Z m w) (hb:Below w.heap.size w w'):Bx B Z m w' :=λX e=>⟨(h X e).1,(hb.block X (Array.getElem?_eq_some_iff.1 (h X e).2).1).trans (h X e).2⟩
theorem Bx.grown {B g:Nat} {Z:Obj} {m:Option Nat} {w w' :World} (h:Bx B Z m w) (hg:w.grownBy w' (some g)) (af:g<B):Bx B Z m w' :=λX e=>⟨(h X e).1,(hg.block X (Array.getElem?_eq_some_iff.1 (h X e).2).1 (λe' =>by cases e';have:=(h _ e).1;omega)).trans (h X e).2⟩
theorem kT {w:World} {g:Nat} {o:Obj} (h:w.heap[g]? =some o) (Z:Obj):(w.alloc Z).heap[g]? =some o:=(((Below.refl _ w).alloc (Nat.le_refl _) Z).block g (Array.getElem?_eq_some_iff.1 h).1).trans h
theorem rH {P:Program} {t:TypeId} {i:TypeInfo} {z:Value} (hi:P.info? t=some i) (hz:i.zero=some z) (ρ:Operand->Value) (o:Oper) (w:World) (ho:o.op= .alloc t):(execOp ρ o).run P w= .ok (.value (.pointer (some ⟨w.heap.size,0,none⟩))) (w.alloc (.cells z.cells t)):=by
 unfold execOp;simp only [ho];simp [Instr.alloc,zeroValue,typeInfo,hi,hz,newVar,newRow]
end Go.Proofs.YtiblijmngokcgaaGreatDoor
namespace Go.Proofs.YtiblijmngokcgaaGreatDoor
open Go.RowKit
end Go.Proofs.YtiblijmngokcgaaGreatDoor
