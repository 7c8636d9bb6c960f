import Derived.Test.YtiblijmngokcgaaGreatDoorExtLCkptstoreTornZs
import Derived.Test.YtiblijmngokcgaaGreatDoorKitZs
namespace Go.Proofs.YtiblijmngokcgaaGreatDoor
set_option linter.unusedVariables false
def floatO (o:Oper):Bool:=match o.op with| .extract .. | .move _=>true|_=>false
def lateB (l:List Oper) (n1:Nat):Bool:=(List.range l.length).all fun j=>decide (j<n1) || (List.range n1).all fun i=>((bef l).getD j 0).testBit i || (match l[i]? with|some o=>floatO o|none=>true)
theorem lateB_spec {l:List Oper} {n1:Nat} (h:lateB l n1=true) {j:Nat} (h1:n1≤j) (h2:j<l.length) {i:Nat} (hi:i<n1) {x:Oper} (hx:l[i]? =some x):((bef l).getD j 0).testBit i=true∨floatO x=true:=by
 unfold lateB at h
 rw [List.all_eq_true] at h
 have:=h j (by simpa using h2)
 simp only [Bool.or_eq_true,decide_eq_true_eq,List.all_eq_true,List.mem_range] at this
 rcases this with h|h
 ·omega
 ·have:=h i hi
  simp only [hx] at this
  exact this
section
variable {P : Program} {K0 : Act → World → Prop}
theorem float_kind {o:Oper} (h:floatO o=true):aY o=0:=by
 unfold floatO at h
 unfold aY cY
 split at h
 ·rename_i hop;simp only [hop]
 ·rename_i hop;simp only [hop]
 ·cases h
theorem extract_any (v u:Value) (i:Nat) (w w' :World) (h:(Instr.extract v i).run P w= .ok u w):(Instr.extract v i).run P w' = .ok u w' :=by
 unfold Instr.extract at*
 cases v with
 |tuple vs=>
  simp only at h ⊢
  cases hx:vs[i]? with
  |some x=>
   simp only [hx] at h ⊢
   have h' :Result.ok x w= .ok u w:=h
   injection h' with h1 h2
   rw [←h1]
   rfl
  |none=>
   simp only [hx] at h
   cases h
 |_=>cases h
theorem float_any {ops:Array Oper} {S:World→Prop} {o:Oper} {v:Value} {a:Act} {w:World} (hf:floatO o=true) (hS:S w) (h:YieldsIf P ops S o v a):YieldsIf P ops (fun _=>True) o v a:=by
 rcases h with ⟨hw,hv⟩|h
 ·refine .inl ⟨hw,fun w' _=> ?_⟩
  have hv:=hv w hS
  unfold floatO at hf
  unfold execOp at*
  split at hf
  ·rename_i x i hop
   simp only [hop] at hv ⊢
   rw [Sem.run_bind] at hv ⊢
   cases hr:(Instr.extract (a.eval x) i).run P w with
   |halt q w1=>rw [hr] at hv;cases hv
   |ok u w1=>
    rw [hr] at hv
    have hv' :Result.ok (Next.value u) w1= .ok (.value v) w:=hv
    injection hv' with h1 h2
    injection h1 with h1
    subst h1 h2
    rw [extract_any _ _ _ w1 w' hr]
    rfl
  ·rename_i x hop
   simp only [hop] at hv ⊢
   have hv' :Result.ok (Next.value (a.eval x)) w= .ok (.value v) w:=hv
   injection hv' with h1 h2
   rw [←h1]
   rfl
  ·cases hf
 ·exact .inr h
theorem float_all {ops:Array Oper} {S:World→Prop} (tl:List Oper):∀(os:List Oper) (a:Act) (w:World),S w→(∀o∈os,floatO o=true)→bK P ops S aY (fun a w=>bK P ops (fun _=>True) aY K0 tl a w) os a w→bK P ops (fun _=>True) aY K0 (os++tl) a w
 |[],a,w,_,_,h=>h
 |o::os,a,w,hS,hf,h=>by
  have h0:=float_kind (hf o (by simp))
  replace h:(if aY o=0 then _ else _):=h
  rw [if_pos h0] at h
  obtain ⟨v,hv,h⟩:=h
  exact eL h0 (float_any (hf o (by simp)) hS hv) (float_all tl os _ w hS (fun x hx=>hf x (by simp [hx])) h)
def lateN (l:List Oper) (n1:Nat):List Nat:=(List.range l.length).filter (n1≤·)
theorem mem_lateN {l:List Oper} {n1 j:Nat}:j∈lateN l n1↔n1≤j∧j<l.length:=by simp [lateN];omega
theorem lateN_pw (l:List Oper) (n1:Nat):(lateN l n1).Pairwise (·<·):=List.Pairwise.filter _ List.pairwise_lt_range
theorem lateN_len {l:List Oper} {n1:Nat} (h:n1≤l.length):(lateN l n1).length=l.length-n1:=by
 unfold lateN
 obtain ⟨m,hm⟩:∃m,l.length=n1+m:=⟨l.length-n1,by omega⟩
 rw [hm]
 clear hm h
 induction m with
 |zero=>
  rw [Nat.add_zero,List.filter_eq_nil_iff.2 (by simp)]
  simp
 |succ m ih=>
  rw [←Nat.add_assoc,List.range_succ,List.filter_append,List.length_append,ih]
  simp
  omega
theorem lateN_ops {l:List Oper} {n1:Nat} (h:n1≤l.length):bL l (lateN l n1)=l.drop n1:=by
 have h1:bL l (List.range n1)++bL l (lateN l n1)=l:=by
  rw [←bT]
  have:List.range n1++lateN l n1=List.range l.length:=by
   unfold lateN
   obtain ⟨m,hm⟩:∃m,l.length=n1+m:=⟨l.length-n1,by omega⟩
   rw [hm]
   clear hm h
   induction m with
   |zero=>rw [Nat.add_zero,List.filter_eq_nil_iff.2 (by simp),List.append_nil]
   |succ m ih=>
    rw [←Nat.add_assoc,List.range_succ,List.filter_append,←List.append_assoc,ih]
    simp
  rw [this]
  exact jH l
 have h2:(bL l (List.range n1)).length=n1:=by
  have:∀(m:Nat) (hm:m≤l.length),(List.range m).filterMap (fun i=>l[i]?)=l.take m:=by
   intro m
   induction m with
   |zero=>simp
   |succ m ih=>
    intro hm
    rw [List.range_succ,List.filterMap_append,ih (by omega)]
    rw [List.take_succ_eq_append_getElem (show m<l.length by omega)]
    congr 1
    rw [List.filterMap_cons,List.getElem?_eq_getElem (show m<l.length by omega)]
    rfl
  show ((List.range n1).filterMap (fun i=>l[i]?)).length=n1
  rw [this n1 h,List.length_take]
  omega
 have h3:=congrArg (List.drop n1) h1
 rw [List.drop_append,h2,Nat.sub_self,List.drop_zero,List.drop_eq_nil_of_le (by omega),List.nil_append] at h3
 exact h3
theorem late_main (S:World→Prop) (l:List Oper) (n1:Nat) (hn1:n1≤l.length) (hB:mE aY l=true) (hT:lateB l n1=true):
 ∀(n:Nat) (rem:List Nat) (listed:Array Bool) (a:Act) (w:World),S w→rem.length=n→(∀j∈rem,j<n1)→(∀j,(j∈rem∨(n1≤j∧j<l.length))↔listed.getD j true=false)→rem.Pairwise (·<·)→listed.size=l.length→
  (∀k o,l[k]? =some o→listed.getD k false=true→∀e∈o.after,Region.binds .any e=true→listed.getD e.on false=true)→
  bK P l.toArray S aY (fun a w=>bK P l.toArray (fun _=>True) aY K0 (bL l (lateN l n1)) a w) (bL l rem) a w→wpAny P .any l.toArray (Only K0) (n+(l.length-n1)) listed a w:=by
 have hns:Region.noSelect l.toArray=true:=by simp [mE] at hB;exact hB.1
 have hsel:∀(j:Nat) (o:Oper),l[j]? =some o→∀cs b,o.op≠ .select cs b:=fun j o ho cs b=>Region.noSelect_spec hns j o cs b (by simpa using ho)
 have hat:∀j o,l[j]? =some o→(∀e∈o.after,Region.binds .any e=true→e.on<j)∧∀i x,i<j→l[i]? =some x→((bef l).getD j 0).testBit i=true∨bY aY l.toArray x o=true:=by
  intro j o ho
  have hlt:=(List.getElem?_eq_some_iff.1 ho).1
  have h:nA aY l.toArray l (bef l) j=true:=by
   simp only [mE,Bool.and_eq_true,List.all_eq_true,List.mem_range] at hB
   exact hB.2 j hlt
  simp only [nA,ho,Bool.and_eq_true,Array.all_eq_true_iff_forall_mem,List.all_eq_true,List.mem_range] at h
  refine ⟨fun e he hb=> ?_,fun i x hi hx=> ?_⟩
  ·have:=h.1 e he
   simpa [hb] using this
  ·have:=h.2 i hi
   simpa [hx] using this
 intro n
 induction n with
 |zero=>
  intro rem listed a w _ hn _ hmem _ hsz hcl0 h
  have:rem=[]:=List.eq_nil_of_length_eq_zero hn
  subst this
  rw [Nat.zero_add]
  exact uX aY (fun _=>True) (fun o=>lO) l hB _ (lateN l n1) listed a w trivial (lateN_len hn1) (fun j=>by rw [mem_lateN,←hmem j];simp) (lateN_pw l n1) hsz hcl0 h
 |succ n ih=>
  intro rem listed a w hS hn hlo hmem hpw hsz hcl h
  by_cases hall:∀i∈rem,∀x,l[i]? =some x→floatO x=true
  ·have hlen:=lateN_len hn1
   refine uX aY (fun _=>True) (fun o=>lO) l hB _ (rem++lateN l n1) listed a w trivial (by rw [List.length_append,hn,hlen]) (fun j=>by rw [List.mem_append,mem_lateN,←hmem j]) ?_ hsz hcl ?_
   ·rw [List.pairwise_append]
    exact ⟨hpw,lateN_pw l n1,fun x hx y hy=>by have:=hlo x hx;have:=(mem_lateN.1 hy).1;omega⟩
   ·rw [bT]
    exact float_all _ _ a w hS (fun o ho=>by obtain ⟨i,hi,hx⟩:=eS ho;exact hall i hi o hx) h
  rw [Nat.succ_add]
  have inr:∀j,j∈rem→j<l.length:=fun j hj=>by
   have:=(hmem j).1 (.inl hj)
   rcases Nat.lt_or_ge j listed.size with h' |h'
   ·omega
   ·simp [Array.getElem?_eq_none h'] at this
  have unl:∀j,j<n1→j∉rem→listed.getD j false=true:=fun j hj hm=>by
   have:¬listed.getD j true=false:=fun e=>by
    rcases (hmem j).2 e with h|h
    ·exact hm h
    ·omega
   have hlt:j<listed.size:=by omega
   simp [hlt] at this ⊢
   exact this
  refine ⟨fun h0=> ?_,fun j hj=> ?_⟩
  ·exfalso
   match rem,hn with
   |m::rem',_=>
    have hm:m∈m::rem' :=by simp
    have hml:=inr m hm
    have ho:l[m]? =some l[m]:=List.getElem?_eq_getElem hml
    have:m∈Region.ready .any l.toArray listed:=mem_ready.2 ⟨(hmem m).1 (.inl hm),l[m],by simp,fun e he hb=>by
     have hlt:=(hat m _ ho).1 e he hb
     refine unl e.on (by have:=hlo m hm;omega) (fun hin=> ?_)
     rcases List.mem_cons.1 hin with rfl|hin
     ·omega
     ·have:=(List.pairwise_cons.1 hpw).1 _ hin
      omega⟩
    rw [h0] at this
    cases this
  ·obtain ⟨hun,o,ho,hpre⟩:=mem_ready.1 hj
   have ho' :l[j]? =some o:=by simpa using ho
   have hin:j∈rem:=by
    rcases (hmem j).2 hun with hin|⟨hj1,hj2⟩
    ·exact hin
    ·exfalso
     refine hall fun i hi x hx=> ?_
     rcases lateB_spec hT hj1 hj2 (hlo i hi) hx with hb|hb
     ·exfalso
      have:=fQ (fun k=>listed.getD k false=true) l (fun k o hk hL=>hcl k o hk hL) j o ho' (fun e he hb=>hpre e he hb) i hb
      have h2:=(hmem i).1 (.inl hi)
      have hlt:i<listed.size:=by have:=hlo i hi;omega
      simp [hlt] at this h2
      rw [this] at h2
      cases h2
     ·exact hb
   obtain ⟨pre,post,rfl⟩:=List.append_of_mem hin
   rw [List.pairwise_append] at hpw
   obtain ⟨hp1,hp2,hp3⟩:=hpw
   have hjl:=inr j hin
   -- none of those before it is waited for
   have hpair:∀i x,i∈pre→l[i]? =some x→bY aY l.toArray x o=true:=fun i x hi hx=>by
    have hij:i<j:=hp3 i hi j (by simp)
    rcases (hat j o ho').2 i x hij hx with hb|hb
    ·exfalso
     have:=fQ (fun k=>listed.getD k false=true) l (fun k o hk hL=>hcl k o hk hL) j o ho' (fun e he hb=>hpre e he hb) i hb
     have h2:=(hmem i).1 (.inl (by simp [hi]))
     have hlt:i<listed.size:=by omega
     simp [hlt] at this h2
     rw [this] at h2
     cases h2
    ·exact hb
   have hnj:j∉pre++post:=by
    intro hm
    rcases List.mem_append.1 hm with hm|hm
    ·have:=hp3 j hm j (by simp);omega
    ·have:=(List.pairwise_cons.1 hp2).1 j hm;omega
   have hK:∀a' w',S w'→bK P l.toArray S aY (fun a w=>bK P l.toArray (fun _=>True) aY K0 (bL l (lateN l n1)) a w) (bL l (pre++post)) a' w'→wpAny P .any l.toArray (Only K0) (n+(l.length-n1)) (listed.setIfInBounds j true) a' w' :=by
    intro a' w' hS' h'
    refine ih (pre++post) _ a' w' hS' (by simp at hn ⊢;omega) (fun i hi=>hlo i (by rcases List.mem_append.1 hi with h|h<;>simp [h])) (fun i=> ?_) ?_ (by simpa using hsz) ?_ h'
    ·by_cases hij:j=i
     ·subst hij
      have hlt:j<listed.size:=by omega
      constructor
      ·intro hm
       rcases hm with hm|hm
       ·exact absurd hm hnj
       ·have:=hlo j hin;omega
      ·intro hm;simp [hlt] at hm
     ·rw [getD_set_ne true hij,←hmem i]
      simp [Ne.symm hij]
    ·rw [List.pairwise_append]
     exact ⟨hp1,(List.pairwise_cons.1 hp2).2,fun x hx y hy=>hp3 x hx y (by simp [hy])⟩
    ·intro k o' hk hL e he hb
     refine getD_set_true ?_
     by_cases hjk:j=k
     ·subst hjk
      rw [ho'] at hk
      cases hk
      exact hpre e he hb
     ·rw [getD_set_ne false hjk] at hL
      exact hcl k o' hk hL e he hb
   rw [bT,eP ho'] at h
   have hpx:∀x∈bL l pre,bY aY l.toArray x o=true∧∀cs b,x.op≠ .select cs b:=fun x hx=>by
    obtain ⟨i,hi,hx'⟩:=eS hx
    exact ⟨hpair i x hi hx',hsel i x hx'⟩
   rw [bT] at hK
   by_cases k0:aY o=0
   ·obtain ⟨v,hv,h1⟩:=iC k0 (hsel j o ho') (bL l pre) a w hS (fun x hx=>by
     obtain ⟨hb,hs⟩:=hpx x hx
     simp only [bY,Bool.and_eq_true] at hb
     exact ⟨hb.1.2,hs⟩) h
    exact (jN hv hS).wpOp ho (hK _ _ hS h1)
   ·by_cases k1:aY o=1
    ·obtain ⟨v,hv,h1⟩:=lC ⟨k1,lO k1⟩ (hsel j o ho') (bL l pre) a w hS (fun x hx=>by
      obtain ⟨hb,hs⟩:=hpx x hx
      simp only [bY,Bool.and_eq_true,Bool.or_eq_true,beq_iff_eq] at hb
      refine ⟨?_,hb.1.2,hs⟩
      rcases hb.2 with (hx0|hx0)|hx0
      ·exact .inl hx0
      ·exact absurd hx0 k0
      ·exact .inr ⟨hx0.1,lO hx0.1⟩) h
     exact hv.wpOp ho (hK _ _ hS h1)
    ·have h1:=gN ho k0 (hsel j o ho') (bL l pre) a w hS (fun x hx=>by
      obtain ⟨hb,hs⟩:=hpx x hx
      simp only [bY,Bool.and_eq_true,Bool.or_eq_true,beq_iff_eq] at hb
      refine ⟨?_,hb.1.1,hs⟩
      rcases hb.2 with (hx0|hx0)|hx0
      ·exact hx0
      ·exact absurd hx0 k0
      ·exact absurd hx0.2 k1) h
     exact wpOp_mono (fun a' w' h2=>hK a' w' h2.1 h2.2) (zU h1)
theorem wp_region_late (S:World→Prop) (n1:Nat) {id:Nat} {l:List Oper} {Q:Exit→Act→World→Prop} {a:Act} {w:World}
 (hm:P.follows .mixedOrders=true) (hB:mE aY l=true) (hT:lateB l n1=true) (hn1:n1≤l.length) (hS:S w.drew)
 (h:bK P l.toArray S aY (fun a w=>bK P l.toArray (fun _=>True) aY (Q .normal) (l.drop n1) a w) (l.take n1) a w.drew):(Code.region id l.toArray true).wp P Q a w:=by
 refine Code.wp_mono Only.to (wp_region_any hm ?_)
 have htake:bL l (List.range n1)=l.take n1:=by
  have:∀(m:Nat) (hm:m≤l.length),(List.range m).filterMap (fun i=>l[i]?)=l.take m:=by
   intro m
   induction m with
   |zero=>simp
   |succ m ih=>
    intro hm
    rw [List.range_succ,List.filterMap_append,ih (by omega)]
    rw [List.take_succ_eq_append_getElem (show m<l.length by omega)]
    congr 1
    rw [List.filterMap_cons,List.getElem?_eq_getElem (show m<l.length by omega)]
    rfl
  exact this n1 hn1
 have:=late_main (K0:=Q .normal) S l n1 hn1 hB hT n1 (List.range n1) (Array.replicate l.length false) a w.drew hS (by simp) (by simp) (fun j=>by
  by_cases hj:j<l.length
  ·simp [hj];omega
  ·simp [hj];omega) List.pairwise_lt_range (by simp) (fun k o hk hL=>by
  have hlt:=(List.getElem?_eq_some_iff.1 hk).1
  simp [hlt] at hL) (by rw [htake,lateN_ops hn1];exact h)
 rw [show n1+(l.length-n1)=l.length by omega] at this
 simpa using this
end
end Go.Proofs.YtiblijmngokcgaaGreatDoor
namespace Go.Proofs.YtiblijmngokcgaaGreatDoor
set_option linter.unusedVariables false
section
variable {P : Program} {ops : Array Oper} {K0 : Act → World → Prop} {S : World → Prop}
end
end Go.Proofs.YtiblijmngokcgaaGreatDoor
