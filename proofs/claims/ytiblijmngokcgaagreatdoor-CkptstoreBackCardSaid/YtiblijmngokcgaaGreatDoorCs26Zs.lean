import Derived.Test.YtiblijmngokcgaaGreatDoorCs22Zs
import Derived.Test.YtiblijmngokcgaaGreatDoorG31Zs
namespace Go.Proofs.YtiblijmngokcgaaGreatDoor
open Go.RowKit
set_option maxRecDepth 100000
set_option linter.unusedVariables false
theorem stampsM_up {l:List Fil} {z:Int} (h0:0≤z) (h:∀f∈l,stv f≤z):bV l≤z:=by
 induction l with
 |nil=>exact h0
 |cons f l ih=>
  have h1:=h f (List.mem_cons_self ..)
  have h2:=ih (fun g hg=>h g (List.mem_cons_of_mem _ hg))
  rw [gK]
  omega
theorem stampsM_mem {l:List Fil} {f:Fil} (h:f∈l):stv f≤bV l:=by
 induction l with
 |nil=>cases h
 |cons g l ih=>
  rw [gK]
  rcases List.mem_cons.1 h with rfl|h
  ·omega
  ·have:=ih h;omega
end Go.Proofs.YtiblijmngokcgaaGreatDoor
namespace Go.Proofs.YtiblijmngokcgaaGreatDoor
open Go.RowKit
set_option maxRecDepth 100000
set_option linter.unusedVariables false
set_option linter.unusedSimpArgs false
def hdB:Nat→Hd
 |0=>⟨1,1,-1,0⟩
 |i+1=>⟨2,(i:Int)+2,(i:Int),(i:Int)+1⟩
def bodyB (st:Nat→Stt):Nat→List UInt8
 |0=>aK (st 0).l
 |i+1=>dN (st (i+1)) (st i)
def fileB (st:Nat→Stt) (i:Nat):List UInt8:=ckF (hdB i) (bodyB st i)
def fB9_ (st:Nat→Stt) (i:Nat):List Fil:=(List.range 6).map fun j=>if j<i then ⟨[],fileB st j⟩ else dP
theorem hdB_in {i:Nat} (h:i≤100):HdIn (hdB i):=by
 cases i with
 |zero=>exact wA
 |succ i=>
  have:=LJ (z:=(i:Int)+1) (b:=(i:Int)) (u:=(i:Int)+1) (by omega) (by omega) (by omega) (by omega)
  show HdIn ⟨2,(i:Int)+2,(i:Int),(i:Int)+1⟩
  rw [show (i:Int)+2=(i:Int)+1+1 by omega]
  exact this
theorem hdB_st (i:Nat):(hdB i).stamp=(i:Int)+1:=by
 cases i with
 |zero=>rfl
 |succ i=>show (i:Int)+2=_;omega
theorem fB_len (st:Nat→Stt) (i:Nat):(fB9_ st i).length=6:=by simp [fB9_]
theorem fB_at (st:Nat→Stt) (i:Nat) {j:Nat} (hj:j<6):(fB9_ st i)[j]? =some (if j<i then ⟨[],fileB st j⟩ else dP):=by
 unfold fB9_
 rw [List.getElem?_map,List.getElem?_range hj]
 rfl
theorem fB_file (st:Nat→Stt) {i j:Nat} (hj:j<6) (hi:j<i):cH (fB9_ st i) (j:Int)=fileB st j:=by
 rw [lS (fB_at st i hj),if_pos hi]
 rfl
theorem fB_none (st:Nat→Stt) {i j:Nat} (hj:j<6) (hi:i≤j):cH (fB9_ st i) (j:Int)=[]:=by
 rw [lS (fB_at st i hj),if_neg (by omega)]
 rfl
theorem fB_up {st st' :Nat→Stt} {i:Nat} (h:∀j,j<i→st' j=st j):fB9_ st' i=fB9_ st i:=by
 unfold fB9_
 apply List.map_congr_left
 intro j _
 by_cases hj:j<i
 ·rw [if_pos hj,if_pos hj]
  congr 1
  unfold fileB bodyB
  cases j with
  |zero=>rw [h 0 hj]
  |succ j=>dsimp only;rw [h (j+1) hj,h j (by omega)]
 ·rw [if_neg hj,if_neg hj]
theorem fB_set (st:Nat→Stt) {i:Nat} (hi:i<6):(fB9_ st i).set i ⟨[],fileB st i⟩=fB9_ st (i+1):=by
 apply List.ext_getElem?
 intro j
 by_cases hj:j<6
 ·rw [fB_at st _ hj,List.getElem?_set]
  by_cases h:i=j
  ·subst h
   rw [if_pos rfl,if_pos (by rw [fB_len];exact hj),if_pos (by omega)]
  ·rw [if_neg h,fB_at st _ hj]
   by_cases h2:j<i
   ·rw [if_pos h2,if_pos (by omega)]
   ·rw [if_neg h2,if_neg (by omega)]
 ·rw [List.getElem?_eq_none (by rw [List.length_set,fB_len];omega),List.getElem?_eq_none (by rw [fB_len];omega)]
structure Chn (st:Nat→Stt) (k:Nat):Prop where
 b:∀j,j<k→StB (st j)
 x:∀j,j+1<k→ExtM (st (j+1)) (st j)
theorem Chn.down {st:Nat→Stt} {k m:Nat} (h:Chn st k) (hm:m≤k):Chn st m:=⟨fun j hj=>h.b j (by omega),fun j hj=>h.x j (by omega)⟩
theorem body_len {st:Nat→Stt} {k:Nat} (h:Chn st k) {j:Nat} (hj:j<k):(bodyB st j).length≤4096:=by
 cases j with
 |zero=>exact (h.b 0 hj).len
 |succ j=>exact (h.b (j+1) hj).dlen
theorem fB_ok {st:Nat→Stt} {k:Nat} (h:Chn st k):iY (fB9_ st k):=by
 intro f hf
 unfold fB9_ at hf
 obtain ⟨j,hj,rfl⟩:=List.mem_map.1 hf
 have hj6:j<6:=by simpa using hj
 split
 ·rename_i hjk
  have:=vU (b:=bodyB st j) (hdB_in (i:=j) (by omega)).inr (body_len h hjk)
  show 0+(fileB st j).length≤_
  unfold fileB
  omega
 ·decide
theorem loadCh {st:Nat→Stt} {k:Nat} (h:Chn st k):∀(j:Nat),j<6→j<k→LoadR (fB9_ st k) j (j:Int) (.ok (st j))
 |0,h6,hk=>BO (h:=hdB 0) (fB_file st h6 hk) (hdB_in (by omega)) rfl (h.b 0 hk).sv (h.b 0 hk).len
 |j+1,h6,hk=>by
  have ih:=loadCh h j (by omega) (by omega)
  exact FG (h:=hdB (j+1)) (g:=hdB j) (gb:=bodyB st j) (fB_file st h6 hk) (hdB_in (by omega)) rfl (fB_file st (by omega) (by omega)) (hdB_in (by omega)) (hdB_st j) ih (h.b (j+1) hk).sv (h.x j hk) (h.b (j+1) hk).dlen
theorem fB_st {st:Nat→Stt} {i:Nat} (hi:i≤6):bV (fB9_ st i)=(i:Int):=by
 have hv:∀j,j<6→stv ⟨[],fileB st j⟩=(j:Int)+1:=fun j hj=>(KL (hdB_in (by omega))).trans (hdB_st j)
 have up:bV (fB9_ st i)≤(i:Int):=stampsM_up (by omega) (fun f hf=>by
  unfold fB9_ at hf
  obtain ⟨j,hj,rfl⟩:=List.mem_map.1 hf
  have hj6:j<6:=by simpa using hj
  split
  ·rename_i h;rw [hv j hj6];omega
  ·rw [LY];omega)
 cases i with
 |zero=>
  have:fB9_ st 0=List.replicate 6 dP:=rfl
  rw [this,xE]
  rfl
 |succ i=>
  have hm:=stampsM_mem (List.mem_of_getElem? (fB_at st (i+1) (j:=i) (by omega)))
  rw [if_pos (by omega),hv i (by omega)] at hm
  omega
theorem saveCh {st:Nat→Stt} {i:Nat} (hi:i<6) (h:Chn st (i+1)):SaveR (fB9_ st i) (st i) (i:Int) ((i:Int)-1) (.ok (fB9_ st (i+1))):=by
 have hs:=fB_st (st:=st) (i:=i) (by omega)
 rw [←fB_set st hi]
 cases i with
 |zero=>
  have:=AH (k:=0) (z:=0) (by rw [fB_len];omega) (h.b 0 (by omega)).len hs (by omega)
  rw [show (0:Int)+1=1 from rfl] at this
  have e:fileB st 0=ckF ⟨1,1,-1,0⟩ (aK (st 0).l):=rfl
  rw [e,show (((0:Nat):Int)-1)= -1 from rfl]
  exact this
 |succ i=>
  have hl:=loadCh (h.down (m:=i+1) (by omega)) i (by omega) (by omega)
  have:=DQ (b:=i) (g:=hdB i) (gb:=bodyB st i) (k:=i+1) (by rw [fB_len];omega) (h.b (i+1) (by omega)).dlen hs (by omega) (by omega) hl (fB_file st (by omega) (by omega)) (hdB_in (by omega)) (h.x i (by omega))
  rw [hdB_st] at this
  rw [show (((i+1:Nat):Int)-1)=(i:Int) by omega]
  have e:fileB st (i+1)=ckF ⟨2,(i:Int)+2,(i:Int),(i:Int)+1⟩ (dN (st (i+1)) (st i)):=rfl
  rw [e,show (i:Int)+2=((i+1:Nat):Int)+1 by omega]
  exact this
theorem ldCh {st:Nat→Stt} {k:Nat} (h:Chn st k) {j:Nat} (hj:j<6) (hk:j<k):ldC (fB9_ st k) (j:Int)= .ok (st j):=NL (loadCh h j hj hk)
theorem ldCh_no {st:Nat→Stt} {k j:Nat} (hj:j<6) (hk:k≤j):ldC (fB9_ st k) (j:Int)= .error 11:=NL (loadZ (fB_none st hj hk) 0)
theorem pts_len {st:Nat→Stt} {k:Nat} (h:Chn st k):∀(n:Nat),n≤6→(fD (fB9_ st k) n).length=min n k
 |0,_=>by simp [fD]
 |n+1,hn=>by
  have ih:=pts_len h n (by omega)
  by_cases hk:n<k
  ·rw [IT (ldCh h (by omega) hk),List.length_append,ih]
   simp
   omega
  ·rw [EK (ldCh_no (by omega) (by omega)),ih]
   omega
theorem base_ch {st:Nat→Stt} {k j:Nat} (hj:j<6) (hk:j<k):hdBase (fB9_ st k) (j:Int)=(hdB j).base:=by
 unfold hdBase
 have:cF (cH (fB9_ st k) (j:Int))= .ok (hdB j,8+(aK (hdB j).l).length):=by rw [fB_file st hj hk];exact jD (body:=bodyB st j) (hdB_in (by omega))
 rw [this]
theorem marks_ch {st:Nat→Stt} {k:Nat} (h:Chn st k) (h1:1≤k) (h6:k≤6):idxTo (marksM (fB9_ st k) 6 [(k:Int)-1]) 6=(List.range k).map (fun j:Nat=>(j:Int)):=by
 have l:∀j,j<6→j<k→ldC (fB9_ st k) (j:Int)= .ok (st j):=fun j a b=>ldCh h a b
 have b:∀j,j<6→j<k→hdBase (fB9_ st k) (j:Int)=(hdB j).base:=fun j a c=>base_ch a c
 have:k=1∨k=2∨k=3∨k=4∨k=5∨k=6:=by omega
 rcases this with rfl|rfl|rfl|rfl|rfl|rfl
 ·have l0:ldC (fB9_ st 1) 0= .ok (st 0):=l 0 (by omega) (by omega)
  have b0:hdBase (fB9_ st 1) 0= -1:=b 0 (by omega) (by omega)
  clear l b
  simp [marksM,chainM,l0,b0,List.replicate,idxTo,List.range,List.range.loop]
 ·have l0:ldC (fB9_ st 2) 0= .ok (st 0):=l 0 (by omega) (by omega)
  have b0:hdBase (fB9_ st 2) 0= -1:=b 0 (by omega) (by omega)
  have l1:ldC (fB9_ st 2) 1= .ok (st 1):=l 1 (by omega) (by omega)
  have b1:hdBase (fB9_ st 2) 1=0:=b 1 (by omega) (by omega)
  clear l b
  simp [marksM,chainM,l0,b0,l1,b1,List.replicate,idxTo,List.range,List.range.loop]
 ·have l0:ldC (fB9_ st 3) 0= .ok (st 0):=l 0 (by omega) (by omega)
  have b0:hdBase (fB9_ st 3) 0= -1:=b 0 (by omega) (by omega)
  have l1:ldC (fB9_ st 3) 1= .ok (st 1):=l 1 (by omega) (by omega)
  have b1:hdBase (fB9_ st 3) 1=0:=b 1 (by omega) (by omega)
  have l2:ldC (fB9_ st 3) 2= .ok (st 2):=l 2 (by omega) (by omega)
  have b2:hdBase (fB9_ st 3) 2=1:=b 2 (by omega) (by omega)
  clear l b
  simp [marksM,chainM,l0,b0,l1,b1,l2,b2,List.replicate,idxTo,List.range,List.range.loop]
 ·have l0:ldC (fB9_ st 4) 0= .ok (st 0):=l 0 (by omega) (by omega)
  have b0:hdBase (fB9_ st 4) 0= -1:=b 0 (by omega) (by omega)
  have l1:ldC (fB9_ st 4) 1= .ok (st 1):=l 1 (by omega) (by omega)
  have b1:hdBase (fB9_ st 4) 1=0:=b 1 (by omega) (by omega)
  have l2:ldC (fB9_ st 4) 2= .ok (st 2):=l 2 (by omega) (by omega)
  have b2:hdBase (fB9_ st 4) 2=1:=b 2 (by omega) (by omega)
  have l3:ldC (fB9_ st 4) 3= .ok (st 3):=l 3 (by omega) (by omega)
  have b3:hdBase (fB9_ st 4) 3=2:=b 3 (by omega) (by omega)
  clear l b
  simp [marksM,chainM,l0,b0,l1,b1,l2,b2,l3,b3,List.replicate,idxTo,List.range,List.range.loop]
 ·have l0:ldC (fB9_ st 5) 0= .ok (st 0):=l 0 (by omega) (by omega)
  have b0:hdBase (fB9_ st 5) 0= -1:=b 0 (by omega) (by omega)
  have l1:ldC (fB9_ st 5) 1= .ok (st 1):=l 1 (by omega) (by omega)
  have b1:hdBase (fB9_ st 5) 1=0:=b 1 (by omega) (by omega)
  have l2:ldC (fB9_ st 5) 2= .ok (st 2):=l 2 (by omega) (by omega)
  have b2:hdBase (fB9_ st 5) 2=1:=b 2 (by omega) (by omega)
  have l3:ldC (fB9_ st 5) 3= .ok (st 3):=l 3 (by omega) (by omega)
  have b3:hdBase (fB9_ st 5) 3=2:=b 3 (by omega) (by omega)
  have l4:ldC (fB9_ st 5) 4= .ok (st 4):=l 4 (by omega) (by omega)
  have b4:hdBase (fB9_ st 5) 4=3:=b 4 (by omega) (by omega)
  clear l b
  simp [marksM,chainM,l0,b0,l1,b1,l2,b2,l3,b3,l4,b4,List.replicate,idxTo,List.range,List.range.loop]
 ·have l0:ldC (fB9_ st 6) 0= .ok (st 0):=l 0 (by omega) (by omega)
  have b0:hdBase (fB9_ st 6) 0= -1:=b 0 (by omega) (by omega)
  have l1:ldC (fB9_ st 6) 1= .ok (st 1):=l 1 (by omega) (by omega)
  have b1:hdBase (fB9_ st 6) 1=0:=b 1 (by omega) (by omega)
  have l2:ldC (fB9_ st 6) 2= .ok (st 2):=l 2 (by omega) (by omega)
  have b2:hdBase (fB9_ st 6) 2=1:=b 2 (by omega) (by omega)
  have l3:ldC (fB9_ st 6) 3= .ok (st 3):=l 3 (by omega) (by omega)
  have b3:hdBase (fB9_ st 6) 3=2:=b 3 (by omega) (by omega)
  have l4:ldC (fB9_ st 6) 4= .ok (st 4):=l 4 (by omega) (by omega)
  have b4:hdBase (fB9_ st 6) 4=3:=b 4 (by omega) (by omega)
  have l5:ldC (fB9_ st 6) 5= .ok (st 5):=l 5 (by omega) (by omega)
  have b5:hdBase (fB9_ st 6) 5=4:=b 5 (by omega) (by omega)
  clear l b
  simp [marksM,chainM,l0,b0,l1,b1,l2,b2,l3,b3,l4,b4,l5,b5,List.replicate,idxTo,List.range,List.range.loop]
structure SV where
 A1:Option Addr
 n1:Nat
 c1:Nat
 A2:Option Addr
 n2:Nat
 c2:Nat
 A3:Option Addr
 n3:Nat
 c3:Nat
 A4:Option Addr
 n4:Nat
 c4:Nat
def encSV (x:SV):List Value:=[.slice x.A1 x.n1 x.c1,.slice x.A2 x.n2 x.c2,.slice x.A3 x.n3 x.c3,.slice x.A4 x.n4 x.c4]
theorem encSV_len (x:SV):(encSV x).length=4:=rfl
theorem encSV_one (x:SV):∀u∈encSV x,u.oneCell' =true:=by
 intro u hu
 simp only [encSV,List.mem_cons,List.not_mem_nil,or_false] at hu
 rcases hu with rfl|rfl|rfl|rfl<;>rfl
theorem infoSV:(Tryz.prog.info? 51).map (fun i=>(i.zero,i.size,i.bytes))=some (some (.agg #[.slice none 0 0,.slice none 0 0,.slice none 0 0,.slice none 0 0]),4,96):=by kernel_rfl
theorem alloc_st (ρ:Operand→Value) (o:Oper) (w:World) (ho:o.op= .alloc 51):(execOp ρ o).run Tryz.prog w= .ok (.value (.pointer (some ⟨w.heap.size,0,none⟩))) (w.alloc (.cells #[.slice none 0 0,.slice none 0 0,.slice none 0 0,.slice none 0 0] 51)):=by
 obtain ⟨i,hi,hz,_⟩:=info_parts infoSV
 exact uJ hi hz ρ o w ho
theorem ld_sv {F1:Option Addr} {Fn1 Fc1:Nat} {F2:Option Addr} {Fn2 Fc2:Nat} {F3:Option Addr} {Fn3 Fc3:Nat} {F4:Option Addr} {Fn4 Fc4:Nat} {w:World} {b o:Nat} (h:∀q u,(encSV ⟨F1,Fn1,Fc1,F2,Fn2,Fc2,F3,Fn3,Fc3,F4,Fn4,Fc4⟩)[q]? =some u→w.cell? ⟨b,o+q,none⟩=some u):(loadVar 51 ⟨b,o,none⟩).run Tryz.prog w= .ok (.agg #[.slice F1 Fn1 Fc1,.slice F2 Fn2 Fc2,.slice F3 Fn3 Fc3,.slice F4 Fn4 Fc4]) w:=by
 have:=run_loadVar_mid (P:=Tryz.prog) w b o 51 (encSV ⟨F1,Fn1,Fc1,F2,Fn2,Fc2,F3,Fn3,Fc3,F4,Fn4,Fc4⟩) _ (fun i u hu=>h i u hu) Tryz.underlying51 rfl (by kernel_rfl)
 simpa [encSV] using this
def Wnt (S:Nat→Prop) (w:World) (xs:List SV) (st:Nat→Stt):Prop:=∀i x,xs[i]? =some x→StM S w (st i) x.A1 x.n1 x.c1 x.A2 x.n2 x.c2 x.A3 x.n3 x.c3 x.A4 x.n4 x.c4
theorem Wnt.keep {S:Nat→Prop} {w w' :World} {xs:List SV} {st:Nat→Stt} (h:Wnt S w xs st) (hk:Keep S w w'):Wnt S w' xs st:=fun i x hx=>(h i x hx).kept hk (fun b h=>h)
theorem Wnt.mono {S S' :Nat→Prop} {w:World} {xs:List SV} {st:Nat→Stt} (h:Wnt S w xs st) (hs:∀b,S b→S' b):Wnt S' w xs st:=fun i x hx=>(h i x hx).kept (fun _ _ _=>rfl) hs
theorem Wnt.mono_ {S S' :Nat→Prop} {w:World} {xs:List SV} {st:Nat→Stt} (h:Wnt S w xs st) (hs:∀b,b<w.heap.size→S b→S' b):Wnt S' w xs st:=fun i x hx=>⟨(h i x hx).1.mono hs,(h i x hx).2.mono hs,(h i x hx).3.mono hs,(h i x hx).4.mono hs⟩
theorem Wnt.snoc {S:Nat→Prop} {w:World} {xs:List SV} {st st' :Nat→Stt} {x:SV} (h:Wnt S w xs st) (he:∀j,j<xs.length→st' j=st j) (hx:StM S w (st' xs.length) x.A1 x.n1 x.c1 x.A2 x.n2 x.c2 x.A3 x.n3 x.c3 x.A4 x.n4 x.c4):Wnt S w (xs++ [x]) st' :=by
 intro i y hy
 rw [List.getElem?_append] at hy
 split at hy
 ·rename_i hi
  rw [he i hi]
  exact h i y hy
 ·rename_i hi
  have h0:i-xs.length=0:=by
   rcases Nat.eq_zero_or_pos (i-xs.length) with h|h
   ·exact h
   ·rw [List.getElem?_eq_none (by simp;omega)] at hy;cases hy
  rw [h0] at hy
  cases hy
  obtain rfl:i=xs.length:=by omega
  exact hx
theorem StM.mono_ {S S' :Nat→Prop} {w:World} {s:Stt} {E1:Option Addr} {En1 Ec1:Nat} {E2:Option Addr} {En2 Ec2:Nat} {E3:Option Addr} {En3 Ec3:Nat} {E4:Option Addr} {En4 Ec4:Nat} (h:StM S w s E1 En1 Ec1 E2 En2 Ec2 E3 En3 Ec3 E4 En4 Ec4) (hs:∀b,b<w.heap.size→S b→S' b):StM S' w s E1 En1 Ec1 E2 En2 Ec2 E3 En3 Ec3 E4 En4 Ec4:=⟨h.1.mono hs,h.2.mono hs,h.3.mono hs,h.4.mono hs⟩
end Go.Proofs.YtiblijmngokcgaaGreatDoor
