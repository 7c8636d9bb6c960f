import Derived.Test.YtiblijmngokcgaaGreatDoorCodecCZs
import Derived.Deep.CutBlock
set_option linter.unusedVariables false
set_option maxHeartbeats 4000000
set_option maxRecDepth 100000
namespace Go.Proofs.YtiblijmngokcgaaGreatDoor
open Go.Proofs.Tryz
open Go.RowKit
def qS {α:Type} (s:Except Nat Nat) (f:Nat->Except Nat (α×Nat)):Except Nat (α×Nat):=match s with| .ok p=>f p| .error k=> .error k
def vY {α:Type} (x:Except Nat (α×Nat)):Except Nat Nat:=match x with| .ok (_,q)=> .ok q| .error k=> .error k
def aa {α:Type} (f:Nat->Except Nat (α×Nat)) (s:Except Nat Nat) (a:α) (s' :Except Nat Nat):Prop:=s' =vY (qS s f)/\∀b q,qS s f= .ok (b,q)->a=b
theorem aa.pure_ {α:Type} (c:α) (s:Except Nat Nat):aa (λp=> .ok (c,p)) s c s:=by
 cases s with
 |ok p=>exact ⟨rfl,λb q h=>by cases h;rfl⟩
 |error k=>exact ⟨rfl,λb q h=>by cases h⟩
theorem aa.er {α:Type} (f:Nat->Except Nat (α×Nat)) (k:Nat) (a:α):aa f (.error k) a (.error k):=⟨rfl,λb q h=>by cases h⟩
theorem aa.comp {α β:Type} {f:Nat->Except Nat (α×Nat)} {g:α->Nat->Except Nat (β×Nat)} {s s1 s2:Except Nat Nat} {a:α} {c:β} (h1:aa f s a s1) (h2:aa (g a) s1 c s2):aa (λp=>ft (f p) g) s c s2:=by
 obtain ⟨rfl,h1⟩:=h1;cases s with
 |error k=>exact ⟨h2.1,λb q h=>by cases h⟩
 |ok p=>
  cases hf:f p with
  |error k=>
   have e1:qS (.ok p) f= .error k:=hf;rw [e1] at h2;refine ⟨?_,λb q h=> ?_⟩
   ·rw [h2.1];show _=vY (ft (f p) g);rw [cV hf];rfl
   ·have h' :ft (f p) g= .ok (b,q):=h;rw [cV hf] at h';cases h'
  |ok vq=>
   obtain ⟨b0,q0⟩:=vq;have e1:qS (.ok p) f= .ok (b0,q0):=hf;have:=h1 b0 q0 e1;subst this;rw [e1] at h2;refine ⟨?_,λb q h=> ?_⟩
   ·rw [h2.1];show _=vY (ft (f p) g);rw [aY hf];rfl
   ·have h' :ft (f p) g= .ok (b,q):=h;rw [aY hf] at h';exact h2.2 b q h'
theorem aa.cons {α:Type} {f:Nat->Except Nat (α×Nat)} {s s1 s2:Except Nat Nat} {n:Nat} {a:α} {l:List α} (h1:aa f s a s1) (h2:aa (bI f n) s1 l s2):aa (bI f (n+1)) s (a::l) s2:=
 aa.comp (g:=λa q=>ft (bI f n q) λl q' => .ok (a::l,q')) h1 (aa.comp (g:=λl q' => .ok (a::l,q')) h2 (aa.pure_ _ _))
theorem aa.to {α:Type} {f g:Nat->Except Nat (α×Nat)} {s s' :Except Nat Nat} {a:α} (h:aa f s a s') (e:∀p,f p=g p):aa g s a s' :=by
 have:f=g:=funext e;rw [<-this];exact h
def mF (L:List UInt8) (p:Nat):Except Nat (Int×Nat):=ft (aQ L p) λn q=>if n<0∨(L.length:Int)-(q:Int)<n then .error 9 else .ok (n,q)
theorem qC {α:Type} (f:Nat->Except Nat (α×Nat)) (L:List UInt8) (p:Nat):ft (mF L p) (λn q=>bI f n.toNat q)=bF f L p:=by
 unfold mF bF;cases aQ L p with
 |error k=>rfl
 |ok vq=>
  obtain ⟨n,q⟩:=vq;show ft (if _ then _ else _) _=if _ then _ else _
  by_cases h:n<0∨(L.length:Int)-(q:Int)<n
  ·rw [if_pos h,if_pos h];rfl
  ·rw [if_neg h,if_neg h];rfl
theorem eR (B r:Nat) (s:Except Nat Nat) (L:List UInt8) (w:World) (h:RS B w r L s):
 Calls Tryz.prog 145 #[.pointer (some ⟨r,0,none⟩)] w λe w' =>∃v s',e= .returned (.int .i64 v)/\aa (aQ L) s v s'/\RS B w' r L s'/\w.grownBy w' (some r):=by
 refine (uW B r s L w h).mono ?_;rintro e w' ⟨rfl,h1,h2⟩;refine ⟨_,_,rfl,⟨?_,?_⟩,h1,h2⟩
 ·cases s with
  |error k=>rfl
  |ok p=>
   show (match aQ L p with| .ok (v,q)=>(v,Except.ok q)| .error k=>((0:Int),Except.error k)).2=vY (aQ L p);cases aQ L p with
   |error k=>rfl
   |ok vq=>rfl
 ·intro b q hb;cases s with
  |error k=>cases hb
  |ok p=>
   have gv :aQ L p= .ok (b,q):=hb;show (match aQ L p with| .ok (v,q)=>(v,Except.ok q)| .error k=>((0:Int),Except.error k)).1=b;rw [gv]
structure RF (B r:Nat) (L:List UInt8) (T:TypeId) (c2:Array Value) (w:World) (wr:World) (s:Except Nat Nat) (c3:Array Value):Prop where
 rd:RS B wr r L s
 hB:B<=w.heap.size
 lt:r<w.heap.size
 gr:w.grownBy wr (some r)
 b2:wr.heap[w.heap.size]? =some (.cells c2 T (0,0))
 b3:wr.heap[w.heap.size+1]? =some (.cells c3 T (0,0))
section
variable {B r : Nat} {L : List UInt8} {T : TypeId} {c2 : Array Value} {w wr w' : World} {s s' : Except Nat Nat} {c3 : Array Value}
theorem RF.new (h:RS B w r L s) (hB:B<=w.heap.size):∃W,W=(w.alloc (.cells c2 T)).alloc (.cells c3 T)/\RF B r L T c2 w W s c3:=by
 have af:=h.lt;have al:Below w.heap.size w (w.alloc (.cells c2 T)):=(Below.refl _ w).alloc (Nat.le_refl _) _;have ar:Below (w.alloc (.cells c2 T)).heap.size (w.alloc (.cells c2 T)) ((w.alloc (.cells c2 T)).alloc (.cells c3 T)):=(Below.refl _ _).alloc (Nat.le_refl _) _;have hb:=Below.ext al ar;refine ⟨_,rfl,h.ext hb,hB,af,⟨hb.os,hb.tape,hb.output,hb.size,λi hi _=>hb.block i hi⟩,(ar.block _ (by simp)).trans (heap_alloc_new _ _),?_⟩;have:=heap_alloc_new (w.alloc (.cells c2 T)) (.cells c3 T)
 rwa [World.size_alloc] at this
theorem RF.sz (h:RF B r L T c2 w wr s c3):w.heap.size+2<=wr.heap.size:=(Array.getElem?_eq_some_iff.1 h.b3).1
theorem RF.call (h:RF B r L T c2 w wr s c3) (hR:RS B w' r L s') (hg:wr.grownBy w' (some r)):RF B r L T c2 w w' s' c3:=
 have hs:=h.sz;have hl:=h.lt
 ⟨hR,h.hB,h.lt,bD h.gr hg,(hg.block _ (by omega) (by simp;omega)).trans h.b2,(hg.block _ (by omega) (by simp;omega)).trans h.b3⟩
theorem RF.set (h:RF B r L T c2 w wr s c3) (o:Nat) (v:Value):RF B r L T c2 w (wr.setCell ⟨w.heap.size+1,o,none⟩ v) s (c3.setIfInBounds o v):=
 have hs:=h.sz;have hl:=h.lt;have hB:=h.hB;have hg:wr.grownBy (wr.setCell ⟨w.heap.size+1,o,none⟩ v) (some (w.heap.size+1)):=aL ⟨rfl,rfl,rfl,Nat.le_refl _,λ_ _ _=>rfl⟩
 ⟨h.rd.grown hg (λm hm=>by cases hm;omega),h.hB,h.lt,⟨hg.os.trans h.gr.os,hg.tape.trans h.gr.tape,hg.output.trans h.gr.output,Nat.le_trans h.gr.size hg.size,λi hi fb=>(hg.block i (Nat.lt_of_lt_of_le hi h.gr.size) (by simp;omega)).trans (h.gr.block i hi fb)⟩,
  (hg.block _ (by omega) (by simp)).trans h.b2,heap_setCell_same _ _ o _ _ _ h.b3⟩
theorem RF.end_ (h:RF B r L T c2 w wr s c3) (cs:Array Value):RS B (wr.setRow w.heap.size cs) r L s/\w.grownBy (wr.setRow w.heap.size cs) (some r):=
 have hs:=h.sz;have hl:=h.lt;have hB:=h.hB;have hg:=aC wr w.heap.size cs
 ⟨h.rd.grown hg (λm hm=>by cases hm;omega),⟨hg.os.trans h.gr.os,hg.tape.trans h.gr.tape,hg.output.trans h.gr.output,Nat.le_trans h.gr.size hg.size,λi hi fb=>(hg.block i (Nat.lt_of_lt_of_le hi h.gr.size) (by simp;omega)).trans (h.gr.block i hi fb)⟩⟩
theorem RF.cell (h:RF B r L T c2 w wr s c3) (o:Nat) {v:Value} (hv:c3[o]? =some v):wr.cell? ⟨w.heap.size+1,o,none⟩=some v:=by rw [cell_of_row _ _ _ _ _ _ h.b3];exact hv
theorem RF.frz (h:RF B r L T c2 w wr s c3) (o:Nat):wr.frozen? ⟨w.heap.size+1,o,none⟩=false:=frozen_of_row _ _ _ _ _ h.b3
end
theorem EI (B r:Nat) (s:Except Nat Nat) (L:List UInt8) (w:World) (h:RS B w r L s) (hB:B<=w.heap.size):
 Calls Tryz.prog 142 #[.pointer (some ⟨r,0,none⟩)] w λe w' =>∃v s',e= .returned (N9 v)/\aa (cU L) s v s'/\RS B w' r L s'/\w.grownBy w' (some r):=by
 obtain ⟨W0,hW,ky⟩:=RF.new (T:=78) (c2:= #[Value.int .i64 0,Value.int .i64 0,Value.int .i64 0,Value.int .i64 0,Value.int .i64 0,Value.int .i64 0,Value.int .i64 0]) (c3:= #[Value.int .i64 0,Value.int .i64 0,Value.int .i64 0,Value.int .i64 0,Value.int .i64 0,Value.int .i64 0,Value.int .i64 0]) h hB;go_enter func142,ntmps142;go_wp2_with fail;rw [<-hW];clear hW;refine (eR B r s L W0 ky.rd).mono ?_;rintro e w1 ⟨v1,s1,rfl,M4,hR,hg⟩;have hJ:=ky.call hR hg;have hc:=hJ.cell 0 (v:= .int .i64 0) rfl;have hf:=hJ.frz 0;have mv:RF B r L 78 #[Value.int .i64 0,Value.int .i64 0,Value.int .i64 0,Value.int .i64 0,Value.int .i64 0,Value.int .i64 0,Value.int .i64 0] w (w1.setCell ⟨w.heap.size+1,0,none⟩ (.int .i64 v1)) s1 #[Value.int .i64 v1,Value.int .i64 0,Value.int .i64 0,Value.int .i64 0,Value.int .i64 0,Value.int .i64 0,Value.int .i64 0]:=hJ.set 0 (.int .i64 v1);clear hJ ky hg hR;go_wp2_with fail;clear hc hf;generalize w1.setCell ⟨w.heap.size+1,0,none⟩ (.int .i64 v1)=W1 at*;refine (eR B r s1 L W1 mv.rd).mono ?_;rintro e w2 ⟨v2,s2,rfl,M0,hR,hg⟩;have hJ:=mv.call hR hg;have hc:=hJ.cell 1 (v:= .int .i64 0) rfl;have hf:=hJ.frz 1;have jy:RF B r L 78 #[Value.int .i64 0,Value.int .i64 0,Value.int .i64 0,Value.int .i64 0,Value.int .i64 0,Value.int .i64 0,Value.int .i64 0] w (w2.setCell ⟨w.heap.size+1,1,none⟩ (.int .i64 v2)) s2 #[Value.int .i64 v1,Value.int .i64 v2,Value.int .i64 0,Value.int .i64 0,Value.int .i64 0,Value.int .i64 0,Value.int .i64 0]:=hJ.set 1 (.int .i64 v2);clear hJ mv hg hR;go_wp2_with fail;clear hc hf;generalize w2.setCell ⟨w.heap.size+1,1,none⟩ (.int .i64 v2)=W2 at*;refine (eR B r s2 L W2 jy.rd).mono ?_;rintro e w3 ⟨v3,s3,rfl,hS3,hR,hg⟩;have hJ:=jy.call hR hg;have hc:=hJ.cell 2 (v:= .int .i64 0) rfl;have hf:=hJ.frz 2;have uf:RF B r L 78 #[Value.int .i64 0,Value.int .i64 0,Value.int .i64 0,Value.int .i64 0,Value.int .i64 0,Value.int .i64 0,Value.int .i64 0] w (w3.setCell ⟨w.heap.size+1,2,none⟩ (.int .i64 v3)) s3 #[Value.int .i64 v1,Value.int .i64 v2,Value.int .i64 v3,Value.int .i64 0,Value.int .i64 0,Value.int .i64 0,Value.int .i64 0]:=hJ.set 2 (.int .i64 v3);clear hJ jy hg hR;go_wp2_with fail;clear hc hf;generalize w3.setCell ⟨w.heap.size+1,2,none⟩ (.int .i64 v3)=W3 at*;refine (eR B r s3 L W3 uf.rd).mono ?_;rintro e w4 ⟨v4,s4,rfl,Ye,hR,hg⟩;have hJ:=uf.call hR hg;have hc:=hJ.cell 3 (v:= .int .i64 0) rfl;have hf:=hJ.frz 3;have ue:RF B r L 78 #[Value.int .i64 0,Value.int .i64 0,Value.int .i64 0,Value.int .i64 0,Value.int .i64 0,Value.int .i64 0,Value.int .i64 0] w (w4.setCell ⟨w.heap.size+1,3,none⟩ (.int .i64 v4)) s4 #[Value.int .i64 v1,Value.int .i64 v2,Value.int .i64 v3,Value.int .i64 v4,Value.int .i64 0,Value.int .i64 0,Value.int .i64 0]:=hJ.set 3 (.int .i64 v4);clear hJ uf hg hR;go_wp2_with fail;clear hc hf;generalize w4.setCell ⟨w.heap.size+1,3,none⟩ (.int .i64 v4)=W4 at*;refine (eR B r s4 L W4 ue.rd).mono ?_;rintro e w5 ⟨v5,s5,rfl,An,hR,hg⟩;have hJ:=ue.call hR hg;have hc:=hJ.cell 4 (v:= .int .i64 0) rfl;have hf:=hJ.frz 4;have Uz:RF B r L 78 #[Value.int .i64 0,Value.int .i64 0,Value.int .i64 0,Value.int .i64 0,Value.int .i64 0,Value.int .i64 0,Value.int .i64 0] w (w5.setCell ⟨w.heap.size+1,4,none⟩ (.int .i64 v5)) s5 #[Value.int .i64 v1,Value.int .i64 v2,Value.int .i64 v3,Value.int .i64 v4,Value.int .i64 v5,Value.int .i64 0,Value.int .i64 0]:=hJ.set 4 (.int .i64 v5);clear hJ ue hg hR;go_wp2_with fail;clear hc hf;generalize w5.setCell ⟨w.heap.size+1,4,none⟩ (.int .i64 v5)=W5 at*;refine (eR B r s5 L W5 Uz.rd).mono ?_;rintro e w6 ⟨v6,s6,rfl,hS6,hR,hg⟩;have hJ:=Uz.call hR hg;have hc:=hJ.cell 5 (v:= .int .i64 0) rfl;have hf:=hJ.frz 5;have Uy:RF B r L 78 #[Value.int .i64 0,Value.int .i64 0,Value.int .i64 0,Value.int .i64 0,Value.int .i64 0,Value.int .i64 0,Value.int .i64 0] w (w6.setCell ⟨w.heap.size+1,5,none⟩ (.int .i64 v6)) s6 #[Value.int .i64 v1,Value.int .i64 v2,Value.int .i64 v3,Value.int .i64 v4,Value.int .i64 v5,Value.int .i64 v6,Value.int .i64 0]:=hJ.set 5 (.int .i64 v6);clear hJ Uz hg hR;go_wp2_with fail;clear hc hf;generalize w6.setCell ⟨w.heap.size+1,5,none⟩ (.int .i64 v6)=W6 at*;refine (eR B r s6 L W6 Uy.rd).mono ?_;rintro e w7 ⟨v7,s7,rfl,hS7,hR,hg⟩;have hJ:=Uy.call hR hg;have hc:=hJ.cell 6 (v:= .int .i64 0) rfl;have hf:=hJ.frz 6;have zm:RF B r L 78 #[Value.int .i64 0,Value.int .i64 0,Value.int .i64 0,Value.int .i64 0,Value.int .i64 0,Value.int .i64 0,Value.int .i64 0] w (w7.setCell ⟨w.heap.size+1,6,none⟩ (.int .i64 v7)) s7 #[Value.int .i64 v1,Value.int .i64 v2,Value.int .i64 v3,Value.int .i64 v4,Value.int .i64 v5,Value.int .i64 v6,Value.int .i64 v7]:=hJ.set 6 (.int .i64 v7);clear hJ Uy hg hR;have k0:(w7.setCell ⟨w.heap.size+1,6,none⟩ (.int .i64 v7)).cell? ⟨w.heap.size+1,0,none⟩=some (.int .i64 v1):=zm.cell 0 rfl
 have k1:(w7.setCell ⟨w.heap.size+1,6,none⟩ (.int .i64 v7)).cell? ⟨w.heap.size+1,1,none⟩=some (.int .i64 v2):=zm.cell 1 rfl
 have k2:(w7.setCell ⟨w.heap.size+1,6,none⟩ (.int .i64 v7)).cell? ⟨w.heap.size+1,2,none⟩=some (.int .i64 v3):=zm.cell 2 rfl
 have k3:(w7.setCell ⟨w.heap.size+1,6,none⟩ (.int .i64 v7)).cell? ⟨w.heap.size+1,3,none⟩=some (.int .i64 v4):=zm.cell 3 rfl
 have k4:(w7.setCell ⟨w.heap.size+1,6,none⟩ (.int .i64 v7)).cell? ⟨w.heap.size+1,4,none⟩=some (.int .i64 v5):=zm.cell 4 rfl
 have k5:(w7.setCell ⟨w.heap.size+1,6,none⟩ (.int .i64 v7)).cell? ⟨w.heap.size+1,5,none⟩=some (.int .i64 v6):=zm.cell 5 rfl
 have k6:(w7.setCell ⟨w.heap.size+1,6,none⟩ (.int .i64 v7)).cell? ⟨w.heap.size+1,6,none⟩=some (.int .i64 v7):=zm.cell 6 rfl
 have H2:=aA zm.b2;have HI:=aA zm;clear zm;go_wp2_with (refine sR H2 ?_)
 refine rC H2 ?_;exact ⟨⟨v1,v2,v3,v4,v5,v6,v7⟩,s7,rfl,aa.comp M4 (aa.comp M0 (aa.comp hS3 (aa.comp Ye (aa.comp An (aa.comp hS6 (aa.comp hS7 (aa.pure_ _ _))))))),HI.out.end_ _⟩
theorem jY (B r:Nat) (s:Except Nat Nat) (L:List UInt8) (w:World) (h:RS B w r L s):
 Calls Tryz.prog 148 #[.pointer (some ⟨r,0,none⟩)] w λe w' =>∃v s',e= .returned (.int .i64 v)/\aa (mF L) s v s'/\RS B w' r L s'/\w.grownBy w' (some r)/\(∀q,s' = .ok q->0<=v/\v<=(L.length:Int)):=by
 go_enter func148,ntmps148;go_wp2_with fail;refine (eR B r s L w h).mono ?_;rintro e w1 ⟨v,s1,rfl,M4,o9,fj⟩;cases hs:s1 with
 |error k=>
  rw [hs] at M4 o9;have Yh :=o9;obtain ⟨h0,u,p,h1⟩:=o9;have c2:=gn h1;have d:((k:Int)==0)=false:=by simp;omega
  clear h1;go_wp2_with fail;refine Tyab ?_;go_wp2_with fail;go_wp2;go_ret;exact ⟨v,.error k,rfl,aa.comp M4 (aa.er _ _ _),Yh.drew,aU fj,λq hq=>by cases hq⟩
 |ok q=>
  rw [hs] at M4 o9;have Yh :=aA o9;obtain ⟨hB,A,c,h1,dy,hq,hL⟩:=o9;have c0:=bn h1;have c1:=fi h1;have c2:=gn h1;have H1:=aA h1;clear h1 dy;by_cases zk:v<0∨(L.length:Int)-(q:Int)<v
  ·have nx:=mT r 9 0 _ _ w1.drew H1.out;rw [show ((9:Nat):Int)=9 from rfl] at nx;have en:aa (λq=>if v<0∨(L.length:Int)-(q:Int)<v then Except.error 9 else .ok (v,q)) (.ok q) (0:Int) (.error 9):=by
    refine ⟨?_,λb q' hb=> ?_⟩
    ·show _=vY (if v<0∨(L.length:Int)-(q:Int)<v then Except.error 9 else Except.ok (v,q));rw [if_pos zk];rfl
    ·have gv :(if v<0∨(L.length:Int)-(q:Int)<v then Except.error 9 else Except.ok (v,q))=Except.ok (b,q'):=hb;rw [if_pos zk] at gv;cases gv
   have lf:=aA en;clear en;by_cases zj:v<0
   ·have d0:decide (v<0)=true:=by simpa using zj
    exact Tzcy
   ·have d0:decide (v<0)=false:=by simpa using zj
    have d1:decide ((L.length:Int)-(q:Int)<v)=true:=by simp;omega
    exact Tzcy
  ·have d0:decide (v<0)=false:=by simp;omega
   have d1:decide ((L.length:Int)-(q:Int)<v)=false:=by simp;omega
   have en:aa (λq=>if v<0∨(L.length:Int)-(q:Int)<v then Except.error 9 else .ok (v,q)) (.ok q) v (.ok q):=by
    refine ⟨?_,λb q' hb=> ?_⟩
    ·show _=vY (if v<0∨(L.length:Int)-(q:Int)<v then Except.error 9 else Except.ok (v,q));rw [if_neg zk];rfl
    ·have gv :(if v<0∨(L.length:Int)-(q:Int)<v then Except.error 9 else Except.ok (v,q))=Except.ok (b,q'):=hb;rw [if_neg zk] at gv;cases gv;rfl
   have lf:=aA en;clear en;go_wp2_with fail;refine Tyab ?_;go_wp2_with fail;go_wp2;go_ret;exact ⟨v,.ok q,rfl,aa.comp (g:=λn q=>if n<0∨(L.length:Int)-(q:Int)<n then Except.error 9 else .ok (n,q)) M4 lf.out,RS.drew Yh.out,aU fj,λq' hq' =>by cases hq';omega⟩
theorem wZ (B r:Nat) (s:Except Nat Nat) (L:List UInt8) (n:Int) (w:World) (h:RS B w r L s) (hB:B<=w.heap.size) (hn:∀q,s= .ok q->0<=n/\n<=1000000000):
 Calls Tryz.prog 149 #[.pointer (some ⟨r,0,none⟩),.int .i64 n] w λe w' =>∃A c l s',e= .returned (.slice A l.length c)/\a8 bB 1 w' w.heap.size 3 (.slice A l.length c) l/\aa (bI (aQ L) n.toNat) s l s'/\RS B w' r L s'/\w.grownBy w' (some r):=by
 have af:=h.lt;go_enter func149,ntmps149;go_wp2;go_loopw [5,6] (λv i wr=>∃(k:Nat) (A' :Option Addr) (c' :Nat) (acc:List Int) (sr:Except Nat Nat),i= .int .i64 k/\v= .slice A' k c'/\(k<=n.toNat)/\a8 bB 1 wr w.heap.size 3 (.slice A' k c') acc/\RS B wr r L sr/\w.grownBy wr (some r)/\(∀q,sr= .ok q->0<=n/\n<=1000000000)/\k<=1000000000/\∀l' nk,aa (bI (aQ L) (n.toNat-k)) sr l' nk->aa (bI (aQ L) n.toNat) s (acc++l') nk) (λ_ i _=>n.toNat-(intOf i).toNat);case atStart=>exact ⟨0,none,0,[],s,rfl,rfl,by omega,a8.nil_ _ _ _,h,⟨rfl,rfl,rfl,Nat.le_refl _,λ_ _ _=>rfl⟩,hn,by omega,λl' nk hh=>hh⟩
 case round=>
  clear h hn;obtain ⟨k,A',c',acc,sr,rfl,rfl,hk,aj,hR,hg,tz,Xz,gy⟩:=hrel;have nd:=aA gy;clear gy;by_cases eu:(k:Int)<n
  ·have dk:decide ((k:Int)<n)=true:=by simpa using eu
   cases hs:sr with
   |error x=>
    rw [hs] at hR nd;have Yi :=aA hR;obtain ⟨h0,u,p,h1⟩:=hR;have c2:=gn h1;have d:((x:Int)==0)=false:=by simp;omega
    have hl:=aj.len.1;have a9:=nd.out [] _ (aa.er _ _ _);rw [List.append_nil] at a9;clear h1;go_wp2;go_ret;exact ⟨A',c',acc,.error x,by rw [hl];rfl,by rw [hl];exact aj,a9,Yi.out,hg⟩
   |ok q=>
    rw [hs] at hR nd tz;have hb:=tz q rfl;have Yi :=aA hR;obtain ⟨hB',A,c,h1,dy,hq,hL⟩:=hR;have c2:=gn h1;clear h1 dy;obtain ⟨j,hj⟩:∃j,n.toNat-k=j+1:=⟨n.toNat-k-1,by omega⟩
    go_wp2_with fail;refine (eR B r (.ok q) L wr Yi.out).mono ?_;rintro e w2 ⟨a,s2,rfl,M0,sf,da⟩;have qu:∀l' nk,aa (bI (aQ L) (n.toNat-(k+1))) s2 l' nk->aa (bI (aQ L) n.toNat) s ((acc++ [a])++l') nk :=λl' nk hh=>by
     rw [List.append_assoc];refine nd.out ([a]++l') nk ?_;rw [hj];rw [show n.toNat-(k+1)=j by omega] at hh;exact aa.cons M0 hh
    have Fg:=aA qu;have dh:=aj.kept_lt da af;have dd:=dh.len;have xu:=aA dd.1;have sz:=hg.size;have WT:=da.size;have ha:Below w2.heap.size w2 (w2.alloc (.cells #[.int .i64 a] 3)):=(Below.refl _ _).alloc (Nat.le_refl _) _;have ax:a7 bB (λ_=>True) (w2.alloc (.cells #[.int .i64 a] 3)) (.slice (some ⟨w2.heap.size,0,none⟩) 1 1) [a]:=⟨_,1,rfl,by simp,by simp [maxLen],Cs.lit _ _ _ _ _ trivial rfl⟩
    clear qu aj c2;go_wp2_with (refine aJ (o:=⟨some 23,_,_,_,_,_⟩) cD gK (.int .i64 0) 8 _ _ 23 3 w.heap.size acc [a] (some ⟨w2.heap.size,0,none⟩) 1 1 (.slice A' k c') (k+1) rfl rfl underlying23 AK rfl (by omega) rfl rfl (dh.ext ha) ax (by rw [xu.out]) (by have:=xu.out;omega) (by have:=xu.out;omega) (by simp;omega) ?_;intro A9 c9 w9 ao ai ck gq gp)
    have tw:∀b,(Value.slice A' k c').ownBlock=some b->w.heap.size<=b:=λb e=>(World.ownsRow.lt dh _ e).1
    have Yg:=(sf.ext ha).grown ai (λb hb=>by have:=tw b hb;omega);have hG9:=kL (bD (bD hg da) (kN ha (some r))) ai (λb hb=> .inl (tw b hb));refine ⟨⟨k+1,A9,c9,acc++ [a],s2,by congr 1,rfl,by omega,ao,Yg,hG9,λ_ _=>hb,by omega,Fg.out⟩,by simp [intOf];omega⟩
  ·have dk:decide ((k:Int)<n)=false:=by simpa using eu
   have hl:=aj.len.1;have a9:=nd.out [] sr (by rw [show n.toNat-k=0 by omega];exact aa.pure_ _ _);rw [List.append_nil] at a9;go_wp2;go_ret;first|exact ⟨A',c',acc,sr,by rw [hl];rfl,by rw [hl];exact aj,a9,hR,hg⟩|exact ⟨A',c',acc,by rw [hl];rfl,by rw [hl];exact aj,sr,a9,hR,hg⟩
end Go.Proofs.YtiblijmngokcgaaGreatDoor
namespace Go.Proofs.YtiblijmngokcgaaGreatDoor
open Go.Proofs.Tryz
open Go.RowKit
theorem sT {α:Type} (f:List UInt8->Nat->Except Nat (α×Nat)) (L:List UInt8) (k:Int):eK f L k=qS (J1 L k) (f L):=by
 unfold eK J1;by_cases h:k<0∨(L.length:Int)<k
 ·rw [if_pos h,if_pos h];rfl
 ·rw [if_neg h,if_neg h];rfl
theorem aa.ok_ {α:Type} {f:Nat->Except Nat (α×Nat)} {s:Except Nat Nat} {a:α} {q:Nat} (h:aa f s a (.ok q)):qS s f= .ok (a,q):=by
 obtain ⟨h1,h2⟩:=h;cases hx:qS s f with
 |error k=>rw [hx] at h1;cases h1
 |ok vq=>
  obtain ⟨b,q'⟩:=vq;have:=h2 b q' hx;subst this;rw [hx] at h1;cases h1;rfl
theorem aa.err_ {α:Type} {f:Nat->Except Nat (α×Nat)} {s:Except Nat Nat} {a:α} {k:Nat} (h:aa f s a (.error k)):qS s f= .error k:=by
 obtain ⟨h1,h2⟩:=h;cases hx:qS s f with
 |error k' =>rw [hx] at h1;cases h1;rfl
 |ok vq=>rw [hx] at h1;cases h1
structure RK (B r:Nat) (L:List UInt8) (w:World) (b4:Nat) (c4:Array Value) (b8:Nat) (T:TypeId) (wr:World) (s:Except Nat Nat) (c8:Array Value):Prop where
 rd:RS B wr r L s
 bl:Below w.heap.size w wr
 lo:w.heap.size<=r/\w.heap.size<=b4/\w.heap.size<=b8/\B<=b8
 ne:b4≠r/\b8≠r/\b4≠b8
 h4:wr.heap[b4]? =some (.cells c4 T (0,0))
 h8:wr.heap[b8]? =some (.cells c8 T (0,0))
section
variable {B r : Nat} {L : List UInt8} {T : TypeId} {b4 b8 : Nat} {c4 : Array Value} {w wr w' : World} {s s' : Except Nat Nat} {c8 : Array Value}
theorem RK.call (h:RK B r L w b4 c4 b8 T wr s c8) (hR:RS B w' r L s') (hg:wr.grownBy w' (some r)):RK B r L w b4 c4 b8 T w' s' c8:=
 ⟨hR,Below.grow h.bl hg h.lo.1,h.lo,h.ne,(hg.block _ (Array.getElem?_eq_some_iff.1 h.h4).1 (by simpa using h.ne.1)).trans h.h4,(hg.block _ (Array.getElem?_eq_some_iff.1 h.h8).1 (by simpa using h.ne.2.1)).trans h.h8⟩
theorem RK.ext (h:RK B r L w b4 c4 b8 T wr s c8) (hb:Below wr.heap.size wr w'):RK B r L w b4 c4 b8 T w' s c8:=
 ⟨h.rd.ext hb,Below.ext h.bl hb,h.lo,h.ne,(hb.block _ (Array.getElem?_eq_some_iff.1 h.h4).1).trans h.h4,(hb.block _ (Array.getElem?_eq_some_iff.1 h.h8).1).trans h.h8⟩
theorem RK.set (h:RK B r L w b4 c4 b8 T wr s c8) (o:Nat) (v:Value):RK B r L w b4 c4 b8 T (wr.setCell ⟨b8,o,none⟩ v) s (c8.setIfInBounds o v):=
 have hg:wr.grownBy (wr.setCell ⟨b8,o,none⟩ v) (some b8):=aL ⟨rfl,rfl,rfl,Nat.le_refl _,λ_ _ _=>rfl⟩
 ⟨h.rd.grown hg (λm hm=>by cases hm;exact ⟨h.lo.2.2.2,h.ne.2.1⟩),Below.grow h.bl hg h.lo.2.2.1,h.lo,h.ne,(hg.block _ (Array.getElem?_eq_some_iff.1 h.h4).1 (by simpa using h.ne.2.2)).trans h.h4,heap_setCell_same _ _ o _ _ _ h.h8⟩
theorem RK.cell (h:RK B r L w b4 c4 b8 T wr s c8) (o:Nat) {v:Value} (hv:c8[o]? =some v):wr.cell? ⟨b8,o,none⟩=some v:=by rw [cell_of_row _ _ _ _ _ _ h.h8];exact hv
theorem RK.frz (h:RK B r L w b4 c4 b8 T wr s c8) (o:Nat):wr.frozen? ⟨b8,o,none⟩=false:=frozen_of_row _ _ _ _ _ h.h8
end
theorem SL:∀w:World,(isAgg 37).run Tryz.prog w= .ok false w:=λw=>by simp [isAgg,run_underlying underlying37]
end Go.Proofs.YtiblijmngokcgaaGreatDoor
namespace Go.Proofs.YtiblijmngokcgaaGreatDoor
open Go.Proofs.Tryz
open Go.RowKit
structure RJ (B r:Nat) (L:List UInt8) (T:TypeId) (w:World) (wr:World) (s:Except Nat Nat) (c8:Array Value):Prop where
 rd:RS B wr r L s
 hB:B<=w.heap.size
 lt:r<w.heap.size
 gr:w.grownBy wr (some r)
 h8:wr.heap[w.heap.size]? =some (.cells c8 T (0,0))
section
variable {B r : Nat} {L : List UInt8} {T : TypeId} {w wr w' : World} {s s' : Except Nat Nat} {c8 : Array Value}
theorem RJ.new (c8:Array Value) (T:TypeId) (h:RS B w r L s) (hB:B<=w.heap.size):∃W,W=w.alloc (.cells c8 T)/\RJ B r L T w W s c8:=by
 have af:=h.lt;have al:Below w.heap.size w (w.alloc (.cells c8 T)):=(Below.refl _ w).alloc (Nat.le_refl _) _;exact ⟨_,rfl,h.ext al,hB,af,kN al _,heap_alloc_new _ _⟩
theorem RJ.sz (h:RJ B r L T w wr s c8):w.heap.size+1<=wr.heap.size:=(Array.getElem?_eq_some_iff.1 h.h8).1
theorem RJ.call (h:RJ B r L T w wr s c8) (hR:RS B w' r L s') (hg:wr.grownBy w' (some r)):RJ B r L T w w' s' c8:=
 ⟨hR,h.hB,h.lt,bD h.gr hg,(hg.block _ (Array.getElem?_eq_some_iff.1 h.h8).1 (by have:=h.lt;simp;omega)).trans h.h8⟩
theorem RJ.set (h:RJ B r L T w wr s c8) (o:Nat) (v:Value):RJ B r L T w (wr.setCell ⟨w.heap.size,o,none⟩ v) s (c8.setIfInBounds o v):=
 have hg:wr.grownBy (wr.setCell ⟨w.heap.size,o,none⟩ v) (some w.heap.size):=aL ⟨rfl,rfl,rfl,Nat.le_refl _,λ_ _ _=>rfl⟩
 ⟨h.rd.grown hg (λm hm=>by cases hm;have:=h.hB;have:=h.lt;omega),h.hB,h.lt,kL h.gr hg (λb hb=> .inl (by cases hb;exact Nat.le_refl _)),heap_setCell_same _ _ o _ _ _ h.h8⟩
theorem RJ.cell (h:RJ B r L T w wr s c8) (o:Nat) {v:Value} (hv:c8[o]? =some v):wr.cell? ⟨w.heap.size,o,none⟩=some v:=by rw [cell_of_row _ _ _ _ _ _ h.h8];exact hv
theorem RJ.frz (h:RJ B r L T w wr s c8) (o:Nat):wr.frozen? ⟨w.heap.size,o,none⟩=false:=frozen_of_row _ _ _ _ _ h.h8
end
theorem OJ (L:List UInt8) (p:Nat):ft (aQ L p) (λa p1=>ft (mF L p1) (λn p2=>ft (bI (aQ L) n.toNat p2) (λl p3=> .ok (⟨a,l⟩,p3))))=eJ L p:=by
 unfold eJ;cases h1:aQ L p with
 |error k=>rfl
 |ok vq=>
  obtain ⟨a,p1⟩:=vq;show ft (mF L p1) _=ft (bF (aQ L) L p1) _;rw [<-qC];cases h2:mF L p1 with
  |error k=>rfl
  |ok vq=>rfl
theorem zT (A:Option Addr) (n c:Nat) (k:Int) (L:List UInt8) (S:Nat->Prop) (w:World) (hb:Bytes S w (.slice A n c) L) (hn:n<=100000000):
 Calls Tryz.prog 89 #[.slice A n c,.int .i64 k] w λe w' =>iE (eK eF L k) (.slice none 0 0) (λa w' v=>∃A c,v= .slice A a.length c/\cg w.heap.size w' v a) e w'/\Below w.heap.size w w' :=by
 have hbL:=hb.len;go_enter func89,ntmps89;go_wp2_with fail;refine (sK A n c k L S w hb hn).mono ?_;rintro e w1 ⟨rfl,o9,al⟩;have od:=o9.lt;go_wp2_with fail;refine (jY w.heap.size w.heap.size (J1 L k) L w1 o9).mono ?_;rintro e w2 ⟨m,s2,rfl,M0,sf,da,pg⟩;have J3:=da.size;have Ta:=aA M0;have ar:=Below.grow al da (Nat.le_refl _);clear M0;go_wp2;go_loopw [8,10] (λv i wr=>∃(j:Nat) (A' :Option Addr) (c' :Nat) (acc:List Pg) (sr:Except Nat Nat),i= .int .i64 j/\v= .slice A' j c'/\j<=m.toNat/\cg (w.heap.size+1) wr (.slice A' j c') acc/\RS w.heap.size wr w.heap.size L sr/\Below w.heap.size w wr/\(∀q,sr= .ok q->0<=m/\m<=1000000000)/\j<=1000000000/\∀l' nk,aa (bI (eJ L) (m.toNat-j)) sr l' nk->aa (bI (eJ L) m.toNat) s2 (acc++l') nk) (λ_ i _=>m.toNat-(intOf i).toNat);case atStart=>exact ⟨0,none,0,[],s2,rfl,rfl,by omega,cg.nil_ _ _,sf,ar,λq hq=>by have:=pg q hq;omega,by omega,λl' nk hh=>hh⟩
 case round=>
  clear o9 sf pg da al ar;obtain ⟨j,A',c',acc,sr,rfl,rfl,hj,aj,hR,j6,tz,Xz,gy⟩:=hrel;have nd:=aA gy;clear gy;have hz:=hR.lt;by_cases qj:(j:Int)<m/\∃q,sr= .ok q
  ·obtain ⟨eu,q,rfl⟩:=qj;have dk:decide ((j:Int)<m)=true:=by simpa using eu
   have Y5:=tz q rfl;have Yi :=aA hR;obtain ⟨hB',Ar,cr,h1,dy,hq,hL⟩:=hR;have c2:=gn h1;clear h1 dy;obtain ⟨i,hi⟩:∃i,m.toNat-j=i+1:=⟨m.toNat-j-1,by omega⟩
   obtain ⟨W0,Et,ky⟩:=RJ.new #[.int .i64 0,.slice none 0 0] 163 Yi.out (by omega);go_wp2_with fail;rw [<-Et];clear Et c2;refine (eR w.heap.size w.heap.size (.ok q) L W0 ky.rd).mono ?_;rintro e u1 ⟨v1,s1,rfl,M4,o9,fj⟩;have hJ:=ky.call o9 fj;have hc:=hJ.cell 0 (v:= .int .i64 0) rfl;have hf:=hJ.frz 0;have mv:RJ w.heap.size w.heap.size L 163 wr (u1.setCell ⟨wr.heap.size,0,none⟩ (.int .i64 v1)) s1 #[.int .i64 v1,.slice none 0 0]:=hJ.set 0 (.int .i64 v1);have HS1:=aA M4;clear hJ ky fj o9 M4;go_wp2_with fail;clear hc hf;generalize u1.setCell ⟨wr.heap.size,0,none⟩ (.int .i64 v1)=W1 at*;refine (jY w.heap.size w.heap.size s1 L W1 mv.rd).mono ?_;rintro e u2 ⟨v2,s3,rfl,hS3,sf,da,Iq⟩;have jy:=mv.call sf da;have HS3:=aA hS3;have WT:=jy.sz;clear mv da sf hS3;go_wp2_with fail;refine (wZ w.heap.size w.heap.size s3 L v2 u2 jy.rd (by omega) (λq hq=>by have:=Iq q hq;omega)).mono ?_;rintro e u3 ⟨Ac,cc,l3,s4,rfl,gg,Ye,Hk,ee⟩;have hJ:=jy.call Hk ee;have hc:=hJ.cell 1 (v:= .slice none 0 0) rfl;have hf:=hJ.frz 1;have ie:u3.grownBy (u3.setCell ⟨wr.heap.size,1,none⟩ (.slice Ac l3.length cc)) (some wr.heap.size):=aL ⟨rfl,rfl,rfl,Nat.le_refl _,λ_ _ _=>rfl⟩;have uf:RJ w.heap.size w.heap.size L 163 wr (u3.setCell ⟨wr.heap.size,1,none⟩ (.slice Ac l3.length cc)) s4 #[.int .i64 v1,.slice Ac l3.length cc]:=hJ.set 1 (.slice Ac l3.length cc);have gg:=(gg.kept_lt ie (by omega)).weak (show wr.heap.size+1<=u2.heap.size by omega);have cn:aa (eJ L) (.ok q) ⟨v1,l3⟩ s4:=(aa.comp HS1.out (aa.comp HS3.out (aa.comp Ye (aa.pure_ _ _)))).to (OJ L);have qu:∀l' nk,aa (bI (eJ L) (m.toNat-(j+1))) s4 l' nk->aa (bI (eJ L) m.toNat) s2 ((acc++ [⟨v1,l3⟩])++l') nk :=λl' nk hh=>by
    rw [List.append_assoc];refine nd.out ([⟨v1,l3⟩]++l') nk ?_;rw [hi];rw [show m.toNat-(j+1)=i by omega] at hh;exact aa.cons cn hh
   have Fg:=aA qu;have k0:(u3.setCell ⟨wr.heap.size,1,none⟩ (.slice Ac l3.length cc)).cell? ⟨wr.heap.size,0,none⟩=some (Value.int .i64 v1):=uf.cell 0 rfl
   have k1:(u3.setCell ⟨wr.heap.size,1,none⟩ (.slice Ac l3.length cc)).cell? ⟨wr.heap.size,1,none⟩=some (Value.slice Ac l3.length cc):=uf.cell 1 rfl
   have HI:=aA uf;have ec:=aj.kept uf.gr (by omega);have HOW:RowKit.Hid (∃xs,a8 iJ 2 wr (w.heap.size+1) 163 (.slice A' j c') xs):=aA (by obtain ⟨xs,Lc,_⟩:=aj;exact ⟨xs,Lc⟩);clear hJ jy ee Hk Ye qu uf ie cn Yi nd;go_wp2_with (refine eY 40 rfl ?_)
   refine ⟨?_⟩;clear hc hf;generalize u3.setCell ⟨wr.heap.size,1,none⟩ (.slice Ac l3.length cc)=W4 at*;have szW:=HI.out.sz;have dd:=ec.len;obtain ⟨xs,dh,oo,Gg⟩:=ec;have ic:xs.length=j:=by omega
   have xu:=aA ic;have ha:Below W4.heap.size W4 (W4.alloc (.cells #[.int .i64 v1,.slice Ac l3.length cc] 163)):=(Below.refl _ _).alloc (Nat.le_refl _) _;have ax:a7 iJ (λ_=>True) (W4.alloc (.cells #[.int .i64 v1,.slice Ac l3.length cc] 163)) (.slice (some ⟨W4.heap.size,0,none⟩) 1 1) [⟨v1,Ac,l3.length,cc⟩]:=⟨_,1,rfl,by simp,by simp [maxLen],Cs.lit _ _ _ _ _ trivial rfl⟩
   have gy:a7 bB (λb=>w.heap.size+1<=b/\(Value.slice A' j c').ownBlock≠some b) W4 (.slice Ac l3.length cc) l3:=gg.recs.mono (λb _ hs=>⟨by have:=hs.1;omega,λe=>by
    obtain ⟨ys,hyo⟩:=HOW.out;have:=(World.ownsRow.lt hyo _ e).2;have:=hs.1;omega⟩)
   go_wp2_with (refine aJ (o:=⟨some 42,_,_,_,_,_⟩) jT lE (.agg #[.int .i64 0,.slice none 0 0]) 32 _ _ 101 163 (w.heap.size+1) xs [⟨v1,Ac,l3.length,cc⟩] (some ⟨W4.heap.size,0,none⟩) 1 1 (.slice A' j c') (j+1) rfl rfl underlying101 pQ rfl (by omega) rfl rfl (dh.ext ha) ax (by rw [xu.out]) (by have:=xu.out;omega) (by have:=xu.out;omega) (by simp;omega) ?_;intro A9 c9 w9 ao ai ck gq gp)
   have tw:∀b,(Value.slice A' j c').ownBlock=some b->w.heap.size+1<=b:=λb e=>(World.ownsRow.lt dh _ e).1
   have Yg:=(HI.out.rd.ext ha).grown ai (λb hb=>by have:=tw b hb;omega);have hbl9:Below w.heap.size w w9:=(dh.ext ha).grow ai (Below.ext (Below.grow j6 HI.out.gr (Nat.le_refl _)) ha) (by omega) (by have:=ha.size;have:=HI.out.sz;omega);refine ⟨⟨j+1,A9,c9,acc++ [⟨v1,l3⟩],s4,by congr 1,rfl,by omega,cg.push ⟨oo,λi x' t' o6 Ec =>⟨(Gg i x' t' o6 Ec).1,(Gg i x' t' o6 Ec).2.ext ha⟩⟩ ⟨v1,Ac,l3.length,cc⟩ ⟨v1,l3⟩ rfl (gy.ext ha) ao ai ck,Yg,hbl9,λ_ _=>Y5,by omega,Fg.out⟩,by simp [intOf];omega⟩
  ·have a9:aa (eF L) (J1 L k) acc sr:=by
    have h2:aa (bI (eJ L) m.toNat) s2 acc sr:=by
     rw [<-List.append_nil acc];refine nd.out [] sr ?_;cases sr with
     |error x=>exact aa.er _ _ _
     |ok q=>
      have:¬(j:Int)<m:=λhx=>qj ⟨hx,q,rfl⟩
      rw [show m.toNat-j=0 by omega];exact aa.pure_ _ _
    exact (aa.comp Ta.out h2).to (qC (eJ L) L)
   have hl:=aj.len.1;have hownW:=aj.weak (show w.heap.size<=w.heap.size+1 by omega);clear nd;cases hs:sr with
   |error x=>
    rw [hs] at hR a9;have hf:=a9.err_;obtain ⟨h0,u,pp,h1⟩:=hR;have ce:=gn h1;have d:((x:Int) != 0)=true:=by simp;omega
    have d' :((x:Int)==0)=false:=by simp;omega
    clear h1 qj a9 tz;have fin:∀(w' :World),w' =wr.drew->iE (eK eF L k) (.slice none 0 0) (λa w' v=>∃A c,v= .slice A a.length c/\cg w.heap.size w' v a) (.returned (.tuple #[.slice none 0 0,.int .i64 0,.int .i64 (x:Int)])) w'/\Below w.heap.size w w' :=by
     rintro w' rfl;rw [sT,hf];exact ⟨rfl,j6.drew⟩
    have an:=aA fin;clear fin hf;by_cases eu:(j:Int)<m
    ·have dk:decide ((j:Int)<m)=true:=by simpa using eu
     exact Tzeo
    ·have dk:decide ((j:Int)<m)=false:=by simpa using eu
     exact Tzeo
   |ok q=>
    rw [hs] at hR a9;have hf:=a9.ok_;have eu:¬(j:Int)<m:=λhx=>qj ⟨hx,q,hs⟩
    have dk:decide ((j:Int)<m)=false:=by simpa using eu
    obtain ⟨hB',Ar,cr,h1,dy,hq,hL⟩:=hR;have c1:=fi h1;have ce:=gn h1;clear h1 dy qj a9 tz hq;go_wp2_with fail;go_wp2_with fail;refine Tyab ?_;go_wp2_with fail;go_wp2;refine Tya8 ?_;rw [sT,hf];exact ⟨⟨_,rfl,A',c',by show Value.slice A' j c' =_;rw [hl],hownW.dr⟩,j6.drew⟩
end Go.Proofs.YtiblijmngokcgaaGreatDoor
namespace Go.Proofs.YtiblijmngokcgaaGreatDoor
open Go.Proofs.Tryz
open Go.RowKit
def StV (S:Nat->Prop) (w:World) (v:Value) (s:bj):Prop:=∃A1 c1 A2 c2 A3 c3 A4 c4,v= .agg #[.slice A1 s.cells.length c1,.slice A2 s.evs.length c2,.slice A3 s.sent.length c3,.slice A4 s.outs.length c4]/\a7 bB S w (.slice A1 s.cells.length c1) s.cells/\a7 cH S w (.slice A2 s.evs.length c2) s.evs/\a7 cW S w (.slice A3 s.sent.length c3) s.sent/\a7 cX S w (.slice A4 s.outs.length c4) s.outs
structure SK (L:List UInt8) (w:World) (b8 base:Nat) (cs:Array Value) (K:World->Prop) (wr:World) (s:Except Nat Nat):Prop where
 rk:RK (w.heap.size+1) (w.heap.size+1) L w w.heap.size #[Value.slice none 0 0,Value.slice none 0 0,Value.slice none 0 0,Value.slice none 0 0] b8 51 wr s cs
 rl:w.heap.size+1<b8
 lo:b8<base
 sz:base<=wr.heap.size
 kp:K wr
 hK:∀w1 w2,ae (λb=>b8<b/\b<base) w1 w2->K w1->K w2
section
variable {L : List UInt8} {w wr w' : World} {b8 base : Nat} {cs : Array Value} {K : World -> Prop} {s s' : Except Nat Nat}
theorem SK.call (h:SK L w b8 base cs K wr s) (hR:RS (w.heap.size+1) w' (w.heap.size+1) L s') (hg:wr.grownBy w' (some (w.heap.size+1))):SK L w b8 base cs K w' s' :=
 ⟨h.rk.call hR hg,h.rl,h.lo,Nat.le_trans h.sz hg.size,h.hK _ _ (λb hb hs=>hg.block b hb (λe=>by have:=h.rl;cases e;omega)) h.kp,h.hK⟩
theorem SK.ext (h:SK L w b8 base cs K wr s) (hb:Below wr.heap.size wr w'):SK L w b8 base cs K w' s:=
 ⟨h.rk.ext hb,h.rl,h.lo,Nat.le_trans h.sz hb.size,h.hK _ _ (λb gv hs=>hb.block b gv) h.kp,h.hK⟩
theorem SK.grown {row:Option Nat} (h:SK L w b8 base cs K wr s) (hg:wr.grownBy w' row) (hr:∀m,row=some m->base<=m):SK L w b8 base cs K w' s:=
 have ua:=h.lo;have hrl:=h.rl
 ⟨⟨h.rk.rd.grown hg (λm hm=>by have:=hr m hm;omega),h.rk.bl.grown hg (by have:=h.sz;omega) (λm hm=>by have:=hr m hm;omega),h.rk.lo,h.rk.ne,(hg.block _ (Array.getElem?_eq_some_iff.1 h.rk.h4).1 (λe=>by have:=hr _ e.symm;omega)).trans h.rk.h4,(hg.block _ (Array.getElem?_eq_some_iff.1 h.rk.h8).1 (λe=>by have:=hr _ e.symm;omega)).trans h.rk.h8⟩,h.rl,h.lo,Nat.le_trans h.sz hg.size,h.hK _ _ (λb hb hs=>hg.block b hb (λe=>by have:=hr _ e.symm;omega)) h.kp,h.hK⟩
theorem SK.set (h:SK L w b8 base cs K wr s) (o:Nat) (v:Value):SK L w b8 base (cs.setIfInBounds o v) K (wr.setCell ⟨b8,o,none⟩ v) s:=
 have hg:wr.grownBy (wr.setCell ⟨b8,o,none⟩ v) (some b8):=aL ⟨rfl,rfl,rfl,Nat.le_refl _,λ_ _ _=>rfl⟩
 ⟨h.rk.set o v,h.rl,h.lo,Nat.le_trans h.sz hg.size,h.hK _ _ (λb hb hs=>hg.block b hb (λe=>by cases e;omega)) h.kp,h.hK⟩
theorem SK.next {α:Type} {enc:α->List Value} {k:Nat} {e:TypeId} {v:Value} {l:List α} (h:SK L w b8 base cs K wr s) (hO:a8 enc k wr base e v l):∃K' :World->Prop,(∀w',K' w'->K w'/\a7 enc (λb=>b8<b) w' v l)/\SK L w b8 wr.heap.size cs K' wr s:=by
 have ua:=h.lo;have ef:=h.sz;refine ⟨λw' =>K w'/\a7 enc (λb=>b8<b/\b<wr.heap.size) w' v l,λw' hw=>⟨hw.1,hw.2.mono (λb _ hs=>hs.1)⟩,h.rk,h.rl,by omega,Nat.le_refl _,⟨h.kp,hO.recs.mono (λb hb hs=>⟨by have:=hs.1;omega,hb⟩)⟩,λw1 w2 hk hw=>⟨h.hK w1 w2 (λb hb hs=>hk b hb ⟨hs.1,by omega⟩) hw.1,hw.2.keep hk⟩⟩
end
theorem OG (L:List UInt8) (p:Nat):ft (ft (mF L p) λn q=>bI (aQ L) n.toNat q) (λa p1=>ft (ft (mF L p1) λn q=>bI (cU L) n.toNat q) λb p2=>ft (ft (mF L p2) λn q=>bI (dO L) n.toNat q) λc p3=>ft (ft (mF L p3) λn q=>bI (eC L) n.toNat q) λd p4=> .ok (⟨a,b,c,d⟩,p4))=eN L p:=by
 simp only [qC];rfl
theorem zS (A:Option Addr) (n c:Nat) (k:Int) (L:List UInt8) (S:Nat->Prop) (w:World) (hb:Bytes S w (.slice A n c) L) (hn:n<=100000000):
 Calls Tryz.prog 92 #[.slice A n c,.int .i64 k] w λe w' =>iE (eK eN L k) (.agg #[Value.slice none 0 0,Value.slice none 0 0,Value.slice none 0 0,Value.slice none 0 0]) (λa w' v=>StV (w.heap.size<=·) w' v a) e w'/\Below w.heap.size w w' :=by
 obtain ⟨W,hW⟩:=eX (w.alloc (.cells #[Value.slice none 0 0,Value.slice none 0 0,Value.slice none 0 0,Value.slice none 0 0] 51));have aw:Below w.heap.size w W:=by rw [hW];exact (Below.refl _ _).alloc (Nat.le_refl _) _
 have r0:W.heap[w.heap.size]? =some (.cells #[Value.slice none 0 0,Value.slice none 0 0,Value.slice none 0 0,Value.slice none 0 0] 51 (0,0)):=by rw [hW];exact heap_alloc_new _ _
 have fo:W.heap.size=w.heap.size+1:=by rw [hW];simp
 have hbL:=hb.len;go_enter func92,ntmps92;go_wp2_with fail;rw [<-hW];clear hW;refine (sK A n c k L S W (hb.ext aw) hn).mono ?_;rintro e w1 ⟨rfl,o9,al⟩;rw [fo] at o9;rw [fo];have r1:=(al.block w.heap.size (by omega)).trans r0;have b1:=Below.ext aw al;have Gl:w.heap.size+2<=w1.heap.size:=o9.lt;clear r0 al;obtain ⟨W0,Et⟩:=eX (w1.alloc (.cells #[Value.slice none 0 0,Value.slice none 0 0,Value.slice none 0 0,Value.slice none 0 0] 51));have Ly:Below w1.heap.size w1 W0:=by rw [Et];exact (Below.refl _ _).alloc (Nat.le_refl _) _
 have r8:W0.heap[w1.heap.size]? =some (.cells #[Value.slice none 0 0,Value.slice none 0 0,Value.slice none 0 0,Value.slice none 0 0] 51 (0,0)):=by rw [Et];exact heap_alloc_new _ _
 have ky:RK (w.heap.size+1) (w.heap.size+1) L w w.heap.size #[Value.slice none 0 0,Value.slice none 0 0,Value.slice none 0 0,Value.slice none 0 0] w1.heap.size 51 W0 (J1 L k) #[Value.slice none 0 0,Value.slice none 0 0,Value.slice none 0 0,Value.slice none 0 0]:=⟨o9.ext Ly,Below.ext b1 Ly,⟨by omega,by omega,by omega,by omega⟩,⟨by omega,by omega,by omega⟩,(Ly.block _ (by omega)).trans r1,r8⟩
 have hK0:SK L w w1.heap.size (w1.heap.size+1) #[Value.slice none 0 0,Value.slice none 0 0,Value.slice none 0 0,Value.slice none 0 0] (λ_=>True) W0 (J1 L k):=⟨ky,by omega,by omega,(Array.getElem?_eq_some_iff.1 r8).1,trivial,λ_ _ _ _=>trivial⟩
 clear r8 Ly r1 b1 o9 ky;go_wp2_with fail;rw [<-Et];clear Et;refine (jY (w.heap.size+1) (w.heap.size+1) (J1 L k) L W0 hK0.rk.rd).mono ?_;rintro e u1 ⟨m1,s1,rfl,M4,hR,hg,jh⟩;have ZD:=hK0.call hR hg;have sz1:=ZD.sz;clear hK0 hg hR;have HS1:=aA M4;clear M4;go_wp2_with fail;refine (wZ (w.heap.size+1) (w.heap.size+1) s1 L m1 u1 ZD.rk.rd (by omega) (λq hq=>by have:=jh q hq;omega)).mono ?_;rintro e u2 ⟨A1,c1,l1,s2,rfl,lv,M0,hR,hg⟩;have HSa:=aA (aa.comp (g:=λn q=>bI (aQ L) n.toNat q) HS1.out M0);have hJ:=ZD.call hR hg;have hc:=hJ.rk.cell 0 (v:= .slice none 0 0) rfl;have hf:=hJ.rk.frz 0;have ie:u2.grownBy (u2.setCell ⟨w1.heap.size,0,none⟩ (.slice A1 l1.length c1)) (some w1.heap.size):=aL ⟨rfl,rfl,rfl,Nat.le_refl _,λ_ _ _=>rfl⟩;have lv:=(lv.kept_lt ie (by omega)).weak (show w1.heap.size+1<=u1.heap.size by omega);have jy:SK L w w1.heap.size (w1.heap.size+1) #[.slice A1 l1.length c1,.slice none 0 0,.slice none 0 0,.slice none 0 0] (λ_=>True) (u2.setCell ⟨w1.heap.size,0,none⟩ (.slice A1 l1.length c1)) s2:=hJ.set 0 (.slice A1 l1.length c1);clear hJ ZD hg hR ie M0 jh HS1;go_wp2_with fail;clear hc hf;generalize u2.setCell ⟨w1.heap.size,0,none⟩ (.slice A1 l1.length c1)=W2 at*;obtain ⟨K2,hKK2,hK2⟩:=jy.next lv;clear jy lv;refine (jY (w.heap.size+1) (w.heap.size+1) s2 L W2 hK2.rk.rd).mono ?_;rintro e u2 ⟨m2,c2,rfl,hS,hR,hg,pg⟩;have WD:=aA hS;have HK2:=aA (hK2.call hR hg);clear hK2 hS hR hg;go_upto_block 0 with fail;go_cut [] from 26 (λwx=>∃(A9:Option Addr) (c9:Nat) (l9:List Ev) (s9:Except Nat Nat),SK L w w1.heap.size W2.heap.size #[.slice A1 l1.length c1,.slice A9 l9.length c9,.slice none 0 0,.slice none 0 0] K2 wx s9/\a8 cH 7 wx W2.heap.size 78 (.slice A9 l9.length c9) l9/\aa (bI (cU L) m2.toNat) c2 l9 s9)
 case first=>
  go_wp2_with fail;go_loopw [10] (λi wr=>∃(j:Nat) (A' :Option Addr) (c' :Nat) (acc:List Ev) (sr:Except Nat Nat),i= .int .i64 j/\j<=m2.toNat/\SK L w w1.heap.size W2.heap.size #[.slice A1 l1.length c1,.slice A' j c',.slice none 0 0,.slice none 0 0] K2 wr sr/\a8 cH 7 wr W2.heap.size 78 (.slice A' j c') acc/\(∀q,sr= .ok q->0<=m2/\m2<=1000000000)/\j<=1000000000/\∀l' nk,aa (bI (cU L) (m2.toNat-j)) sr l' nk->aa (bI (cU L) m2.toNat) c2 (acc++l') nk) (λi _=>m2.toNat-(intOf i).toNat);case atStart=>exact ⟨0,none,0,[],c2,rfl,by omega,HK2.out,a8.nil_ _ _ _,λq hq=>by have:=pg q hq;omega,by omega,λl' nk hh=>hh⟩
  case round=>
   clear pg HK2;obtain ⟨j,A',c',acc,sr,rfl,hj,hK,aj,tz,Xz,gy⟩:=hrel;have nd:=aA gy;clear gy;have hz:=hK.sz;have ua:=hK.lo;have hrl:=hK.rl;by_cases qj:(j:Int)<m2/\∃q,sr= .ok q
   ·obtain ⟨eu,q,rfl⟩:=qj;have dk:decide ((j:Int)<m2)=true:=by simpa using eu
    have Y5:=tz q rfl;have HK:=aA hK;have q1:wr.cell? ⟨w1.heap.size,1,none⟩=some (.slice A' j c'):=hK.rk.cell 1 rfl
    obtain ⟨hB',Ar,cr,h1,dy,hq,hL⟩:=hK.rk.rd;have ce2:=gn h1;clear h1 dy hK;obtain ⟨i,hi⟩:∃i,m2.toNat-j=i+1:=⟨m2.toNat-j-1,by omega⟩
    go_wp2_with fail;refine fH (λw' =>w'.cell? ⟨w1.heap.size,1,none⟩=some (.slice A' j c')) 5 (by kernel_rfl) (by kernel_rfl) (by kernel_rfl) (by decide) q1 ?_;refine Tyau ?_;refine TkA ?_;refine bZ (⟨w1.heap.size,1,none⟩) (.slice A' j c') rfl rfl rfl (λw' ah =>aB (by kernel_rfl) ah) ?_;refine Tyai ?_;go_wp2_with fail;refine (EI (w.heap.size+1) (w.heap.size+1) (.ok q) L wr.drew HK.out.rk.rd.drew (by show w.heap.size+1<=wr.heap.size;omega)).mono ?_;rintro e u1 ⟨a,s5,rfl,An,hR5,o8⟩;have XH :wr.grownBy u1 (some (w.heap.size+1)):=⟨o8.os,o8.tape,o8.output,o8.size,o8.block⟩
    have It:=HK.out.call hR5 XH;have q5:u1.cell? ⟨w1.heap.size,1,none⟩=some (.slice A' j c'):=It.rk.cell 1 rfl
    have bf:=aj.kept_lt XH (by omega);have qu:∀l' nk,aa (bI (cU L) (m2.toNat-(j+1))) s5 l' nk->aa (bI (cU L) m2.toNat) c2 ((acc++ [a])++l') nk :=λl' nk hh=>by
     rw [List.append_assoc];refine nd.out ([a]++l') nk ?_;rw [hi];rw [show m2.toNat-(j+1)=i by omega] at hh;exact aa.cons An hh
    have Fg:=aA qu;clear qu nd An;unfold N9;have ha:Below u1.heap.size u1 (u1.alloc (.cells #[.int .i64 a.k0,.int .i64 a.k1,.int .i64 a.k2,.int .i64 a.k3,.int .i64 a.k4,.int .i64 a.k5,.int .i64 a.k6] 78)):=(Below.refl _ _).alloc (Nat.le_refl _) _;have ax:a7 cH (λ_=>True) (u1.alloc (.cells #[.int .i64 a.k0,.int .i64 a.k1,.int .i64 a.k2,.int .i64 a.k3,.int .i64 a.k4,.int .i64 a.k5,.int .i64 a.k6] 78)) (.slice (some ⟨u1.heap.size,0,none⟩) 1 1) [a]:=⟨_,1,rfl,by simp,by simp [maxLen],Cs.lit _ _ _ _ _ trivial rfl⟩
    have HK6:=aA (It.ext ha);have q6:(u1.alloc (.cells #[.int .i64 a.k0,.int .i64 a.k1,.int .i64 a.k2,.int .i64 a.k3,.int .i64 a.k4,.int .i64 a.k5,.int .i64 a.k6] 78)).cell? ⟨w1.heap.size,1,none⟩=some (.slice A' j c'):=HK6.out.rk.cell 1 rfl
    have Qo:=aA bf.len.1;have hz5:=It.sz;clear It o8 XH hR5 aj HK;go_wp2_with fail;refine aD (q5) ?_;refine Tyah ?_;go_wp2_with fail;refine aD q6 ?_;clear q6 q5 q1 ce2;refine aP ?_;refine aJ cN iA (.agg #[.int .i64 0,.int .i64 0,.int .i64 0,.int .i64 0,.int .i64 0,.int .i64 0,.int .i64 0]) 56 _ _ 30 78 W2.heap.size acc [a] (some ⟨u1.heap.size,0,none⟩) 1 1 (.slice A' j c') (j+1) rfl rfl underlying30 rX rfl (by omega) rfl rfl (bf.ext ha) ax (by rw [Qo.out]) (by have:=Qo.out;omega) (by have:=Qo.out;omega) (by simp;omega) ?_;intro A9 c9 w9 ao ai ck gq gp;have Ks:=(HK6.out.grown ai (λb hb=>(World.ownsRow.lt bf b hb).1))
    have q9:w9.frozen? ⟨w1.heap.size,1,none⟩=false:=Ks.rk.frz 1
    have q9' :w9.cell? ⟨w1.heap.size,1,none⟩=some (.slice A' j c'):=Ks.rk.cell 1 rfl
    have ie:w9.grownBy (w9.setCell ⟨w1.heap.size,1,none⟩ (.slice A9 (j+1) c9)) (some w1.heap.size):=aL ⟨rfl,rfl,rfl,Nat.le_refl _,λ_ _ _=>rfl⟩;have HO9:=aA (ao.kept_lt ie (by omega));have HK9:RowKit.Hid (SK L w w1.heap.size W2.heap.size #[.slice A1 l1.length c1,.slice A9 (j+1) c9,.slice none 0 0,.slice none 0 0] K2 (w9.setCell ⟨w1.heap.size,1,none⟩ (.slice A9 (j+1) c9)) s5):=aA (Ks.set 1 (.slice A9 (j+1) c9));clear Ks ie ao;go_wp2_with fail;rw [gI];go_wp2;go_roundw;case rel=>exact ⟨j+1,A9,c9,acc++ [a],s5,by congr 1,by omega,HK9.out,HO9.out,λ_ _=>Y5,by omega,Fg.out⟩
    case measure=>simp [intOf];omega
   ·have a9:aa (bI (cU L) m2.toNat) c2 acc sr:=by
     rw [<-List.append_nil acc];refine nd.out [] sr ?_;cases sr with
     |error x=>exact aa.er _ _ _
     |ok q=>
      have:¬(j:Int)<m2:=λhx=>qj ⟨hx,q,rfl⟩
      rw [show m2.toNat-j=0 by omega];exact aa.pure_ _ _
    have hl:=aj.len.1;have n8:RowKit.Hid (∃(A9:Option Addr) (c9:Nat) (l9:List Ev) (s9:Except Nat Nat),SK L w w1.heap.size W2.heap.size #[.slice A1 l1.length c1,.slice A9 l9.length c9,.slice none 0 0,.slice none 0 0] K2 wr s9/\a8 cH 7 wr W2.heap.size 78 (.slice A9 l9.length c9) l9/\aa (bI (cU L) m2.toNat) c2 l9 s9):=aA ⟨A',c',acc,sr,by rw [hl];exact hK,by rw [hl];exact aj,a9⟩;by_cases eu:(j:Int)<m2
    ·have dk:decide ((j:Int)<m2)=true:=by simpa using eu
     exact Tzbj
    ·have dk:decide ((j:Int)<m2)=false:=by simpa using eu
     exact Tzee
 case rest=>
  obtain ⟨A2,Iv,l2,s4,Wj,dw,Ye⟩:=hcut;have HSb:=aA (aa.comp (g:=λn q=>bI (cU L) n.toNat q) WD.out Ye);obtain ⟨K3,Ym,hK3⟩:=Wj.next dw;clear Wj dw Ye WD;generalize hwc:wc=W3 at*;go_wp2_with fail;refine (jY (w.heap.size+1) (w.heap.size+1) s4 L W3 hK3.rk.rd).mono ?_;rintro e u3 ⟨m3,c3,rfl,hS,hR,hg,Iq⟩;have HC3:=aA hS;have HK3:=aA (hK3.call hR hg);clear hK3 hS hR hg;go_upto_block 2 with fail;go_cut [] from 47 (λwx=>∃(A9:Option Addr) (c9:Nat) (l9:List n7) (s9:Except Nat Nat),SK L w w1.heap.size W3.heap.size #[.slice A1 l1.length c1,.slice A2 l2.length Iv,.slice A9 l9.length c9,.slice none 0 0] K3 wx s9/\a8 cW 4 wx W3.heap.size 127 (.slice A9 l9.length c9) l9/\aa (bI (dO L) m3.toNat) c3 l9 s9)
  case first=>
   go_wp2_with fail;go_loopw [11] (λi wr=>∃(j:Nat) (A' :Option Addr) (c' :Nat) (acc:List n7) (sr:Except Nat Nat),i= .int .i64 j/\j<=m3.toNat/\SK L w w1.heap.size W3.heap.size #[.slice A1 l1.length c1,.slice A2 l2.length Iv,.slice A' j c',.slice none 0 0] K3 wr sr/\a8 cW 4 wr W3.heap.size 127 (.slice A' j c') acc/\(∀q,sr= .ok q->0<=m3/\m3<=1000000000)/\j<=1000000000/\∀l' nk,aa (bI (dO L) (m3.toNat-j)) sr l' nk->aa (bI (dO L) m3.toNat) c3 (acc++l') nk) (λi _=>m3.toNat-(intOf i).toNat);case atStart=>exact ⟨0,none,0,[],c3,rfl,by omega,HK3.out,a8.nil_ _ _ _,λq hq=>by have:=Iq q hq;omega,by omega,λl' nk hh=>hh⟩
   case round=>
    clear Iq HK3;obtain ⟨j,A',c',acc,sr,rfl,hj,hK,aj,tz,Xz,gy⟩:=hrel;have nd:=aA gy;clear gy;have hz:=hK.sz;have ua:=hK.lo;have hrl:=hK.rl;by_cases qj:(j:Int)<m3/\∃q,sr= .ok q
    ·obtain ⟨eu,q,rfl⟩:=qj;have dk:decide ((j:Int)<m3)=true:=by simpa using eu
     have Y5:=tz q rfl;have HK:=aA hK;have q1:wr.cell? ⟨w1.heap.size,2,none⟩=some (.slice A' j c'):=hK.rk.cell 2 rfl
     obtain ⟨hB',Ar,cr,h1,dy,hq,hL⟩:=hK.rk.rd;have ce2:=gn h1;clear h1 dy hK;obtain ⟨i,hi⟩:∃i,m3.toNat-j=i+1:=⟨m3.toNat-j-1,by omega⟩
     obtain ⟨X0,Ya,ky⟩:=RJ.new #[.int .i64 0,.int .i64 0,.int .i64 0,.int .i64 0] 127 HK.out.rk.rd (by omega);go_wp2_with fail;rw [<-Ya];clear Ya ce2 q1;refine (eR (w.heap.size+1) (w.heap.size+1) (.ok q) L X0 ky.rd).mono ?_;rintro e y1 ⟨v1,t1,rfl,hT1,hR,hg⟩;have hJ:=ky.call hR hg;have hc:=hJ.cell 0 (v:= .int .i64 0) rfl;have hf:=hJ.frz 0;have mv:RJ (w.heap.size+1) (w.heap.size+1) L 127 wr (y1.setCell ⟨wr.heap.size,0,none⟩ (.int .i64 v1)) t1 #[.int .i64 v1,.int .i64 0,.int .i64 0,.int .i64 0]:=hJ.set 0 (.int .i64 v1);have Wz:=aA hT1;clear hJ ky hg hR hT1;go_wp2_with fail;clear hc hf;generalize y1.setCell ⟨wr.heap.size,0,none⟩ (.int .i64 v1)=X1 at*;refine (eR (w.heap.size+1) (w.heap.size+1) t1 L X1 mv.rd).mono ?_;rintro e y2 ⟨v2,t2,rfl,hT2,hR,hg⟩;have hJ:=mv.call hR hg;have hc:=hJ.cell 1 (v:= .int .i64 0) rfl;have hf:=hJ.frz 1;have jy:RJ (w.heap.size+1) (w.heap.size+1) L 127 wr (y2.setCell ⟨wr.heap.size,1,none⟩ (.int .i64 v2)) t2 #[.int .i64 v1,.int .i64 v2,.int .i64 0,.int .i64 0]:=hJ.set 1 (.int .i64 v2);have YO:=aA hT2;clear hJ mv hg hR hT2;go_wp2_with fail;clear hc hf;generalize y2.setCell ⟨wr.heap.size,1,none⟩ (.int .i64 v2)=X2 at*;refine (eR (w.heap.size+1) (w.heap.size+1) t2 L X2 jy.rd).mono ?_;rintro e y3 ⟨v3,t3,rfl,hT3,hR,hg⟩;have hJ:=jy.call hR hg;have hc:=hJ.cell 2 (v:= .int .i64 0) rfl;have hf:=hJ.frz 2;have uf:RJ (w.heap.size+1) (w.heap.size+1) L 127 wr (y3.setCell ⟨wr.heap.size,2,none⟩ (.int .i64 v3)) t3 #[.int .i64 v1,.int .i64 v2,.int .i64 v3,.int .i64 0]:=hJ.set 2 (.int .i64 v3);have HT3:=aA hT3;clear hJ jy hg hR hT3;go_wp2_with fail;clear hc hf;generalize y3.setCell ⟨wr.heap.size,2,none⟩ (.int .i64 v3)=X3 at*;refine (eR (w.heap.size+1) (w.heap.size+1) t3 L X3 uf.rd).mono ?_;rintro e y4 ⟨v4,t4,rfl,ZC,hR,hg⟩;have hJ:=uf.call hR hg;have hc:=hJ.cell 3 (v:= .int .i64 0) rfl;have hf:=hJ.frz 3;have ue:RJ (w.heap.size+1) (w.heap.size+1) L 127 wr (y4.setCell ⟨wr.heap.size,3,none⟩ (.int .i64 v4)) t4 #[.int .i64 v1,.int .i64 v2,.int .i64 v3,.int .i64 v4]:=hJ.set 3 (.int .i64 v4);have HT4:=aA ZC;clear hJ uf hg hR ZC;have An:aa (dO L) (.ok q) ⟨v1,v2,v3,v4⟩ t4:=(aa.comp Wz.out (aa.comp YO.out (aa.comp HT3.out (aa.comp HT4.out (aa.pure_ _ _)))))
     have xx:=aA An;clear An;have k0:(y4.setCell ⟨wr.heap.size,3,none⟩ (.int .i64 v4)).cell? ⟨wr.heap.size,0,none⟩=some (Value.int .i64 v1):=ue.cell 0 rfl
     have k1:(y4.setCell ⟨wr.heap.size,3,none⟩ (.int .i64 v4)).cell? ⟨wr.heap.size,1,none⟩=some (Value.int .i64 v2):=ue.cell 1 rfl
     have k2:(y4.setCell ⟨wr.heap.size,3,none⟩ (.int .i64 v4)).cell? ⟨wr.heap.size,2,none⟩=some (Value.int .i64 v3):=ue.cell 2 rfl
     have k3:(y4.setCell ⟨wr.heap.size,3,none⟩ (.int .i64 v4)).cell? ⟨wr.heap.size,3,none⟩=some (Value.int .i64 v4):=ue.cell 3 rfl
     have HI:=aA ue;have bf:=aj.kept_lt HI.out.gr (by omega);have It:=HK.out.call HI.out.rd HI.out.gr;have q5:(y4.setCell ⟨wr.heap.size,3,none⟩ (.int .i64 v4)).cell? ⟨w1.heap.size,2,none⟩=some (.slice A' j c'):=It.rk.cell 2 rfl
     have Vf:=aA It;clear ue It aj;go_wp2_with (refine eY 72 rfl ?_)
     refine ⟨?_⟩;clear hc hf;generalize y4.setCell ⟨wr.heap.size,3,none⟩ (.int .i64 v4)=W4 at*;obtain ⟨s5,jw⟩:=eX t4;have An:=xx.out;rw [<-jw] at HI Vf An;clear jw xx;have qu:∀l' nk,aa (bI (dO L) (m3.toNat-(j+1))) s5 l' nk->aa (bI (dO L) m3.toNat) c3 ((acc++ [⟨v1,v2,v3,v4⟩])++l') nk :=λl' nk hh=>by
      rw [List.append_assoc];refine nd.out ([⟨v1,v2,v3,v4⟩]++l') nk ?_;rw [hi];rw [show m3.toNat-(j+1)=i by omega] at hh;exact aa.cons An hh
     have Fg:=aA qu;clear qu nd An;have ha:Below W4.heap.size W4 (W4.alloc (.cells #[.int .i64 v1,.int .i64 v2,.int .i64 v3,.int .i64 v4] 127)):=(Below.refl _ _).alloc (Nat.le_refl _) _;have ax:a7 cW (λ_=>True) (W4.alloc (.cells #[.int .i64 v1,.int .i64 v2,.int .i64 v3,.int .i64 v4] 127)) (.slice (some ⟨W4.heap.size,0,none⟩) 1 1) [⟨v1,v2,v3,v4⟩]:=⟨_,1,rfl,by simp,by simp [maxLen],Cs.lit _ _ _ _ _ trivial rfl⟩
     have HK6:=aA (Vf.out.ext ha);have Qo:=aA bf.len.1;have hz5:=Vf.out.sz;clear HK HI Vf;go_wp2_with (refine aJ (o:=⟨some 75,_,_,_,_,_⟩) cZ iP (.agg #[.int .i64 0,.int .i64 0,.int .i64 0,.int .i64 0]) 32 _ _ 48 127 W3.heap.size acc [⟨v1,v2,v3,v4⟩] (some ⟨W4.heap.size,0,none⟩) 1 1 (.slice A' j c') (j+1) rfl rfl underlying48 rS rfl (by omega) rfl rfl (bf.ext ha) ax (by rw [Qo.out]) (by have:=Qo.out;omega) (by have:=Qo.out;omega) (by simp;omega) ?_;intro A9 c9 w9 ao ai ck gq gp;have Ks:=(HK6.out.grown ai (λb hb=>(World.ownsRow.lt bf b hb).1));have q9:w9.frozen? ⟨w1.heap.size,2,none⟩=false:=Ks.rk.frz 2;have q9' :w9.cell? ⟨w1.heap.size,2,none⟩=some (.slice A' j c'):=Ks.rk.cell 2 rfl;have ie:w9.grownBy (w9.setCell ⟨w1.heap.size,2,none⟩ (.slice A9 (j+1) c9)) (some w1.heap.size):=aL ⟨rfl,rfl,rfl,Nat.le_refl _,λ_ _ _=>rfl⟩;have HO9:=aA (ao.kept_lt ie (by omega));have HK9:RowKit.Hid (SK L w w1.heap.size W3.heap.size #[.slice A1 l1.length c1,.slice A2 l2.length Iv,.slice A9 (j+1) c9,.slice none 0 0] K3 (w9.setCell ⟨w1.heap.size,2,none⟩ (.slice A9 (j+1) c9)) s5):=aA (Ks.set 2 (.slice A9 (j+1) c9));clear Ks ie ao)
     exact ⟨⟨j+1,A9,c9,acc++ [⟨v1,v2,v3,v4⟩],s5,by congr 1,by omega,HK9.out,HO9.out,λ_ _=>Y5,by omega,Fg.out⟩,by simp [intOf];omega⟩
    ·have a9:aa (bI (dO L) m3.toNat) c3 acc sr:=by
      rw [<-List.append_nil acc];refine nd.out [] sr ?_;cases sr with
      |error x=>exact aa.er _ _ _
      |ok q=>
       have:¬(j:Int)<m3:=λhx=>qj ⟨hx,q,rfl⟩
       rw [show m3.toNat-j=0 by omega];exact aa.pure_ _ _
     have hl:=aj.len.1;have n8:RowKit.Hid (∃(A9:Option Addr) (c9:Nat) (l9:List n7) (s9:Except Nat Nat),SK L w w1.heap.size W3.heap.size #[.slice A1 l1.length c1,.slice A2 l2.length Iv,.slice A9 l9.length c9,.slice none 0 0] K3 wr s9/\a8 cW 4 wr W3.heap.size 127 (.slice A9 l9.length c9) l9/\aa (bI (dO L) m3.toNat) c3 l9 s9):=aA ⟨A',c',acc,sr,by rw [hl];exact hK,by rw [hl];exact aj,a9⟩;by_cases eu:(j:Int)<m3
     ·have dk:decide ((j:Int)<m3)=true:=by simpa using eu
      exact Tzbj
     ·have dk:decide ((j:Int)<m3)=false:=by simpa using eu
      exact Tzee
  case rest=>
   obtain ⟨A3,Nb,l3,s6,Wj,gg,hS6⟩:=hcut;have HSc:=aA (aa.comp (g:=λn q=>bI (dO L) n.toNat q) HC3.out hS6);obtain ⟨K4,Uw,hK4⟩:=Wj.next gg;clear Wj gg hS6 HC3;generalize hwc2:wc=W4 at*;go_wp2_with fail;refine (jY (w.heap.size+1) (w.heap.size+1) s6 L W4 hK4.rk.rd).mono ?_;rintro e u4 ⟨m4,c4,rfl,hS,hR,hg,hm4⟩;have HC4:=aA hS;have HK4:=aA (hK4.call hR hg);clear hK4 hS hR hg;go_upto_block 4 with fail;go_cut [] from 79 (λwx=>∃(A9:Option Addr) (c9:Nat) (l9:List Ou) (s9:Except Nat Nat),SK L w w1.heap.size W4.heap.size #[.slice A1 l1.length c1,.slice A2 l2.length Iv,.slice A3 l3.length Nb,.slice A9 l9.length c9] K4 wx s9/\a8 cX 2 wx W4.heap.size 129 (.slice A9 l9.length c9) l9/\aa (bI (eC L) m4.toNat) c4 l9 s9)
   case first=>
    go_wp2_with fail;go_loopw [13] (λi wr=>∃(j:Nat) (A' :Option Addr) (c' :Nat) (acc:List Ou) (sr:Except Nat Nat),i= .int .i64 j/\j<=m4.toNat/\SK L w w1.heap.size W4.heap.size #[.slice A1 l1.length c1,.slice A2 l2.length Iv,.slice A3 l3.length Nb,.slice A' j c'] K4 wr sr/\a8 cX 2 wr W4.heap.size 129 (.slice A' j c') acc/\(∀q,sr= .ok q->0<=m4/\m4<=1000000000)/\j<=1000000000/\∀l' nk,aa (bI (eC L) (m4.toNat-j)) sr l' nk->aa (bI (eC L) m4.toNat) c4 (acc++l') nk) (λi _=>m4.toNat-(intOf i).toNat);case atStart=>exact ⟨0,none,0,[],c4,rfl,by omega,HK4.out,a8.nil_ _ _ _,λq hq=>by have:=hm4 q hq;omega,by omega,λl' nk hh=>hh⟩
    case round=>
     clear hm4 HK4;obtain ⟨j,A',c',acc,sr,rfl,hj,hK,aj,tz,Xz,gy⟩:=hrel;have nd:=aA gy;clear gy;have hz:=hK.sz;have ua:=hK.lo;have hrl:=hK.rl;by_cases qj:(j:Int)<m4/\∃q,sr= .ok q
     ·obtain ⟨eu,q,rfl⟩:=qj;have dk:decide ((j:Int)<m4)=true:=by simpa using eu
      have Y5:=tz q rfl;have HK:=aA hK;have q1:wr.cell? ⟨w1.heap.size,3,none⟩=some (.slice A' j c'):=hK.rk.cell 3 rfl
      obtain ⟨hB',Ar,cr,h1,dy,hq,hL⟩:=hK.rk.rd;have ce2:=gn h1;clear h1 dy hK;obtain ⟨i,hi⟩:∃i,m4.toNat-j=i+1:=⟨m4.toNat-j-1,by omega⟩
      obtain ⟨X0,Ya,ky⟩:=RJ.new #[.int .i64 0,.int .i64 0] 129 HK.out.rk.rd (by omega);go_wp2_with fail;rw [<-Ya];clear Ya ce2 q1;refine (eR (w.heap.size+1) (w.heap.size+1) (.ok q) L X0 ky.rd).mono ?_;rintro e y1 ⟨v1,t1,rfl,hT1,hR,hg⟩;have hJ:=ky.call hR hg;have hc:=hJ.cell 0 (v:= .int .i64 0) rfl;have hf:=hJ.frz 0;have mv:RJ (w.heap.size+1) (w.heap.size+1) L 129 wr (y1.setCell ⟨wr.heap.size,0,none⟩ (.int .i64 v1)) t1 #[.int .i64 v1,.int .i64 0]:=hJ.set 0 (.int .i64 v1);have Wz:=aA hT1;clear hJ ky hg hR hT1;go_wp2_with fail;clear hc hf;generalize y1.setCell ⟨wr.heap.size,0,none⟩ (.int .i64 v1)=X1 at*;refine (eR (w.heap.size+1) (w.heap.size+1) t1 L X1 mv.rd).mono ?_;rintro e y2 ⟨v2,t2,rfl,hT2,hR,hg⟩;have hJ:=mv.call hR hg;have hc:=hJ.cell 1 (v:= .int .i64 0) rfl;have hf:=hJ.frz 1;have jy:RJ (w.heap.size+1) (w.heap.size+1) L 129 wr (y2.setCell ⟨wr.heap.size,1,none⟩ (.int .i64 v2)) t2 #[.int .i64 v1,.int .i64 v2]:=hJ.set 1 (.int .i64 v2);have YO:=aA hT2;clear hJ mv hg hR hT2;have An:aa (eC L) (.ok q) ⟨v1,v2⟩ t2:=(aa.comp Wz.out (aa.comp YO.out (aa.pure_ _ _)))
      have xx:=aA An;clear An;have k0:(y2.setCell ⟨wr.heap.size,1,none⟩ (.int .i64 v2)).cell? ⟨wr.heap.size,0,none⟩=some (Value.int .i64 v1):=jy.cell 0 rfl
      have k1:(y2.setCell ⟨wr.heap.size,1,none⟩ (.int .i64 v2)).cell? ⟨wr.heap.size,1,none⟩=some (Value.int .i64 v2):=jy.cell 1 rfl
      have HI:=aA jy;have bf:=aj.kept_lt HI.out.gr (by omega);have It:=HK.out.call HI.out.rd HI.out.gr;have q5:(y2.setCell ⟨wr.heap.size,1,none⟩ (.int .i64 v2)).cell? ⟨w1.heap.size,3,none⟩=some (.slice A' j c'):=It.rk.cell 3 rfl
      have Vf:=aA It;clear jy It aj;go_wp2_with (refine eY 98 rfl ?_)
      refine ⟨?_⟩;clear hc hf;generalize y2.setCell ⟨wr.heap.size,1,none⟩ (.int .i64 v2)=W8 at*;obtain ⟨s5,jw⟩:=eX t2;have An:=xx.out;rw [<-jw] at HI Vf An;clear jw xx;have qu:∀l' nk,aa (bI (eC L) (m4.toNat-(j+1))) s5 l' nk->aa (bI (eC L) m4.toNat) c4 ((acc++ [⟨v1,v2⟩])++l') nk :=λl' nk hh=>by
       rw [List.append_assoc];refine nd.out ([⟨v1,v2⟩]++l') nk ?_;rw [hi];rw [show m4.toNat-(j+1)=i by omega] at hh;exact aa.cons An hh
      have Fg:=aA qu;clear qu nd An;have ha:Below W8.heap.size W8 (W8.alloc (.cells #[.int .i64 v1,.int .i64 v2] 129)):=(Below.refl _ _).alloc (Nat.le_refl _) _;have ax:a7 cX (λ_=>True) (W8.alloc (.cells #[.int .i64 v1,.int .i64 v2] 129)) (.slice (some ⟨W8.heap.size,0,none⟩) 1 1) [⟨v1,v2⟩]:=⟨_,1,rfl,by simp,by simp [maxLen],Cs.lit _ _ _ _ _ trivial rfl⟩
      have HK6:=aA (Vf.out.ext ha);have Qo:=aA bf.len.1;have hz5:=Vf.out.sz;clear HK HI Vf;go_wp2_with (refine aJ (o:=⟨some 101,_,_,_,_,_⟩) dA iQ (.agg #[.int .i64 0,.int .i64 0]) 16 _ _ 49 129 W4.heap.size acc [⟨v1,v2⟩] (some ⟨W8.heap.size,0,none⟩) 1 1 (.slice A' j c') (j+1) rfl rfl underlying49 rV rfl (by omega) rfl rfl (bf.ext ha) ax (by rw [Qo.out]) (by have:=Qo.out;omega) (by have:=Qo.out;omega) (by simp;omega) ?_;intro A9 c9 w9 ao ai ck gq gp;have Ks:=(HK6.out.grown ai (λb hb=>(World.ownsRow.lt bf b hb).1));have q9:w9.frozen? ⟨w1.heap.size,3,none⟩=false:=Ks.rk.frz 3;have q9' :w9.cell? ⟨w1.heap.size,3,none⟩=some (.slice A' j c'):=Ks.rk.cell 3 rfl;have ie:w9.grownBy (w9.setCell ⟨w1.heap.size,3,none⟩ (.slice A9 (j+1) c9)) (some w1.heap.size):=aL ⟨rfl,rfl,rfl,Nat.le_refl _,λ_ _ _=>rfl⟩;have HO9:=aA (ao.kept_lt ie (by omega));have HK9:RowKit.Hid (SK L w w1.heap.size W4.heap.size #[.slice A1 l1.length c1,.slice A2 l2.length Iv,.slice A3 l3.length Nb,.slice A9 (j+1) c9] K4 (w9.setCell ⟨w1.heap.size,3,none⟩ (.slice A9 (j+1) c9)) s5):=aA (Ks.set 3 (.slice A9 (j+1) c9));clear Ks ie ao)
      exact ⟨⟨j+1,A9,c9,acc++ [⟨v1,v2⟩],s5,by congr 1,by omega,HK9.out,HO9.out,λ_ _=>Y5,by omega,Fg.out⟩,by simp [intOf];omega⟩
     ·have a9:aa (bI (eC L) m4.toNat) c4 acc sr:=by
       rw [<-List.append_nil acc];refine nd.out [] sr ?_;cases sr with
       |error x=>exact aa.er _ _ _
       |ok q=>
        have:¬(j:Int)<m4:=λhx=>qj ⟨hx,q,rfl⟩
        rw [show m4.toNat-j=0 by omega];exact aa.pure_ _ _
      have hl:=aj.len.1;have n8:RowKit.Hid (∃(A9:Option Addr) (c9:Nat) (l9:List Ou) (s9:Except Nat Nat),SK L w w1.heap.size W4.heap.size #[.slice A1 l1.length c1,.slice A2 l2.length Iv,.slice A3 l3.length Nb,.slice A9 l9.length c9] K4 wr s9/\a8 cX 2 wr W4.heap.size 129 (.slice A9 l9.length c9) l9/\aa (bI (eC L) m4.toNat) c4 l9 s9):=aA ⟨A',c',acc,sr,by rw [hl];exact hK,by rw [hl];exact aj,a9⟩;by_cases eu:(j:Int)<m4
      ·have dk:decide ((j:Int)<m4)=true:=by simpa using eu
       exact Tzbj
      ·have dk:decide ((j:Int)<m4)=false:=by simpa using eu
       exact Tzee
   case rest=>
    obtain ⟨A4,Wq,l4,s8,Wj,jq,hS8⟩:=hcut;have HSd:=aA (aa.comp (g:=λn q=>bI (eC L) n.toNat q) HC4.out hS8);obtain ⟨K5,Ph,It⟩:=Wj.next jq;clear Wj jq hS8 HC4;generalize hwc3:wc=W5 at*;have HSP:RowKit.Hid (aa (eN L) (J1 L k) ⟨l1,l2,l3,l4⟩ s8):=aA ((aa.comp HSa.out (aa.comp HSb.out (aa.comp HSc.out (aa.comp HSd.out (aa.pure_ _ _))))).to (OG L));have HK:=aA It.rk;have xx:=aA It;have HKK:RowKit.Hid (∀w',K5 w'->a7 bB (λb=>w1.heap.size<b) w' (.slice A1 l1.length c1) l1/\a7 cH (λb=>w1.heap.size<b) w' (.slice A2 l2.length Iv) l2/\a7 cW (λb=>w1.heap.size<b) w' (.slice A3 l3.length Nb) l3/\a7 cX (λb=>w1.heap.size<b) w' (.slice A4 l4.length Wq) l4):=aA λw' h5=>⟨(hKK2 _ (Ym _ (Uw _ (Ph _ h5).1).1).1).2,(Ym _ (Uw _ (Ph _ h5).1).1).2,(Uw _ (Ph _ h5).1).2,(Ph _ h5).2⟩
    clear It hKK2 Ym Uw Ph HSa HSb HSc HSd;have XJ:∀(cs:Array Value),W5.drew.grownBy (W5.drew.setRow w.heap.size cs) (some w.heap.size):=λcs=>aC _ _ _
    cases hs:s8 with
    |error x=>
     rw [hs] at HK HSP;have az:=HK.out.rd;obtain ⟨h0,u,pp,az⟩:=az;have ce:=gn az;have d:((x:Int) != 0)=true:=by simp;omega
     have HR:=aA az;have H4:RowKit.Hid (W5.drew.heap[w.heap.size]? =some (.cells #[Value.slice none 0 0,Value.slice none 0 0,Value.slice none 0 0,Value.slice none 0 0] 51 (0,0))):=aA HK.out.h4;have a9:=HSP.out.err_;clear az;go_wp2_with fail;refine aH (λw' =>w'.cell? ⟨(w.heap.size+1),2,none⟩=some (.int .i64 (x:Int))) (by kernel_rfl) (by kernel_rfl) ce ?_;refine Tyah ?_;go_wp2_with fail;refine aD ce ?_;refine TkA ?_;refine lL (λw' hS=>aB (SL _) hS) ?_;refine Tyai ?_;refine sR H4 ?_;refine aD ?_ ?_
     ·have mi:=(setRow_other W5.drew w.heap.size (w.heap.size+1) #[Value.slice none 0 0,Value.slice none 0 0,Value.slice none 0 0,Value.slice none 0 0] HK.out.ne.1.symm).trans HR.out;rw [cell_of_row _ _ _ _ _ _ mi];rfl
     simp only [Act.put];refine Tyan ?_;go_wp2_with fail;go_wp2;refine rU H4 ?_;rw [sT,a9];exact ⟨rfl,Below.setRow HK.out.bl.drew (Nat.le_refl _) _⟩
    |ok q=>
     rw [hs] at HK HSP;have az:=HK.out.rd;obtain ⟨hB,Ar,cr,az,_,hq,hL⟩:=az;have ce:=gn az;have HR:RowKit.Hid (W5.drew.heap[(w.heap.size+1)]? =_):=aA az;have H4:RowKit.Hid (W5.drew.heap[w.heap.size]? =some (.cells #[Value.slice none 0 0,Value.slice none 0 0,Value.slice none 0 0,Value.slice none 0 0] 51 (0,0))):=aA HK.out.h4;have H8:RowKit.Hid (W5.drew.heap[w1.heap.size]? =some (.cells #[.slice A1 l1.length c1,.slice A2 l2.length Iv,.slice A3 l3.length Nb,.slice A4 l4.length Wq] 51 (0,0))):=aA HK.out.h8;have a9:=HSP.out.ok_;clear az;go_wp2_with fail;refine aH (λw' =>w'.heap[w1.heap.size]? =some (.cells #[.slice A1 l1.length c1,.slice A2 l2.length Iv,.slice A3 l3.length Nb,.slice A4 l4.length Wq] 51 (0,0))/\w'.heap[(w.heap.size+1)]? =_) (by kernel_rfl) (by kernel_rfl) ⟨H8.out,HR.out⟩ ?_;refine TkA ?_;refine lL (λw' hS=>lB (t:=51) hS.1) ?_;refine Tyac ?_;refine lL (λw' hS=>aB (aW _) (fi hS.2)) ?_;refine Tyai ?_;refine sR H4 ?_;refine aD ⟨(setRow_other W5.drew w.heap.size w1.heap.size #[.slice A1 l1.length c1,.slice A2 l2.length Iv,.slice A3 l3.length Nb,.slice A4 l4.length Wq] HK.out.ne.2.2.symm).trans H8.out,(setRow_other W5.drew w.heap.size (w.heap.size+1) #[.slice A1 l1.length c1,.slice A2 l2.length Iv,.slice A3 l3.length Nb,.slice A4 l4.length Wq] HK.out.ne.1.symm).trans HR.out⟩ ?_;simp only [Act.put];refine Tyan ?_;go_wp2_with fail;go_wp2;refine rU H4 ?_;rw [sT,a9];have VO:=HKK.out _ (xx.out.hK W5 (W5.drew.setRow w.heap.size #[.slice A1 l1.length c1,.slice A2 l2.length Iv,.slice A3 l3.length Nb,.slice A4 l4.length Wq]) (λb hb hs=>(XJ #[.slice A1 l1.length c1,.slice A2 l2.length Iv,.slice A3 l3.length Nb,.slice A4 l4.length Wq]).block b hb (λe=>by have:=xx.out.rl;cases e;omega)) xx.out.kp);exact ⟨⟨_,rfl,A1,c1,A2,Iv,A3,Nb,A4,Wq,rfl,VO.1.mono (λb _ hs=>by omega),VO.2.1.mono (λb _ hs=>by omega),VO.2.2.1.mono (λb _ hs=>by omega),VO.2.2.2.mono (λb _ hs=>by omega)⟩,Below.setRow HK.out.bl.drew (Nat.le_refl _) _⟩
end Go.Proofs.YtiblijmngokcgaaGreatDoor
