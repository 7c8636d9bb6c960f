import Derived.Test.YtiblijmngokcgaaGreatDoorG03Zs
import Derived.Test.YtiblijmngokcgaaGreatDoorG11Zs
import Derived.Test.YtiblijmngokcgaaGreatDoorG12Zs
set_option linter.unusedVariables false
set_option linter.unusedSimpArgs false
set_option maxHeartbeats 8000000
set_option maxRecDepth 100000
namespace Go.Proofs.YtiblijmngokcgaaGreatDoor
open Go.Proofs.Tryz
open Go.RowKit
theorem fU {w:World} {V o:Nat} {i s k:Int} {nm:ByteArray} {z y:Int} (h:w.heap[V]? =some (.cells #[.string (ByteArray.mk #[120]),.int .i64 0,.int .i64 i,.string (ByteArray.mk #[97]),.int .i64 s,.int .i64 0,.string (ByteArray.mk #[121]),.int .i64 0,.int .i64 0,.string (ByteArray.mk #[122]),.int .i64 0,.int .i64 k,.string (ByteArray.mk #[98]),.int .i64 2,.int .i64 0] 199 (0,0))) (hc:((#[.string (ByteArray.mk #[120]),.int .i64 0,.int .i64 i,.string (ByteArray.mk #[97]),.int .i64 s,.int .i64 0,.string (ByteArray.mk #[121]),.int .i64 0,.int .i64 0,.string (ByteArray.mk #[122]),.int .i64 0,.int .i64 k,.string (ByteArray.mk #[98]),.int .i64 2,.int .i64 0]:Array Value).toList.drop o).take 3=[.string nm,.int .i64 z,.int .i64 y]):
 (loadVar 199 ⟨V,o,none⟩).run Tryz.prog w= .ok (.agg #[.string nm,.int .i64 z,.int .i64 y]) w:=by
 have:=run_loadVar_mid (P:=Tryz.prog) w V o 199 [.string nm,.int .i64 z,.int .i64 y] _ (λj v hv=>by
  rw [cell_of_row _ _ _ _ _ _ h];have hj:j<3:=by have:=(List.getElem?_eq_some_iff.1 hv).1;simpa using this
  rw [<-hc,List.getElem?_take,if_pos hj,List.getElem?_drop] at hv;simpa using hv) underlying199 rfl (by kernel_rfl)
 exact this
def eS (s:Int):Nat->Int
 |0=>0
 |1=>1
 |2=>1+s
 |3=>2+s
 |4=>3+s
 |_=>5+s
def TQ (nm:ByteArray) (a b:Int) (ok:Bool):Prop:=(0<=a/\a<=1000)/\(0<=b/\b<=1000)/\(kJ nm->b=0/\ok=true)/\(mI nm->1<=b/\ok=true)
theorem MB (w:World) (V:Nat) (i s k:Int) (h1:1<=s) (h5:s<=5) (hV:w.heap[V]? =some (.cells #[.string (ByteArray.mk #[120]),.int .i64 0,.int .i64 i,.string (ByteArray.mk #[97]),.int .i64 s,.int .i64 0,.string (ByteArray.mk #[121]),.int .i64 0,.int .i64 0,.string (ByteArray.mk #[122]),.int .i64 0,.int .i64 k,.string (ByteArray.mk #[98]),.int .i64 2,.int .i64 0] 199 (0,0))):
 Calls Tryz.prog 187 #[.slice (some ⟨V,0,none⟩) 5 5,.string (ByteArray.mk #[120])] w λe w' =>e= .returned (.tuple #[.int .i64 (0),.int .i64 (0),.bool true])/\Below w.heap.size w w' :=by
 have Eu:V<w.heap.size:=(Array.getElem?_eq_some_iff.1 hV).1;have HV:=aA (λ(w' :World) (hb:Below w.heap.size w w')=>(hb.block V Eu).trans hV);clear hV;go_enter func187,ntmps187;go_wp2;go_loopw [7,8] (λa b wr=>∃j:Nat,b= .int .i64 j/\j<=0/\a= .int .i64 (eS s j)/\Below w.heap.size w wr) (λ_ b _=>0-(intOf b).toNat);case atStart=>exact ⟨0,rfl,by omega,rfl,Below.refl _ _⟩
 case round=>
  obtain ⟨j,rfl,hj,rfl,hb⟩:=hrel;have R:=aA (HV.out wr hb);obtain rfl:j=0:=by omega
  have ep:eS s 0=0:=rfl;rw [ep];have q:=bn R.out;have q1:=fi R.out;exact Tzcd
theorem MA (w:World) (V:Nat) (i s k:Int) (h1:1<=s) (h5:s<=5) (hV:w.heap[V]? =some (.cells #[.string (ByteArray.mk #[120]),.int .i64 0,.int .i64 i,.string (ByteArray.mk #[97]),.int .i64 s,.int .i64 0,.string (ByteArray.mk #[121]),.int .i64 0,.int .i64 0,.string (ByteArray.mk #[122]),.int .i64 0,.int .i64 k,.string (ByteArray.mk #[98]),.int .i64 2,.int .i64 0] 199 (0,0))):
 Calls Tryz.prog 187 #[.slice (some ⟨V,0,none⟩) 5 5,.string (ByteArray.mk #[97])] w λe w' =>e= .returned (.tuple #[.int .i64 (1),.int .i64 (s),.bool true])/\Below w.heap.size w w' :=by
 have Eu:V<w.heap.size:=(Array.getElem?_eq_some_iff.1 hV).1;have HV:=aA (λ(w' :World) (hb:Below w.heap.size w w')=>(hb.block V Eu).trans hV);clear hV;go_enter func187,ntmps187;go_wp2;go_loopw [7,8] (λa b wr=>∃j:Nat,b= .int .i64 j/\j<=1/\a= .int .i64 (eS s j)/\Below w.heap.size w wr) (λ_ b _=>1-(intOf b).toNat);case atStart=>exact ⟨0,rfl,by omega,rfl,Below.refl _ _⟩
 case round=>
  obtain ⟨j,rfl,hj,rfl,hb⟩:=hrel;have R:=aA (HV.out wr hb);by_cases h0:j=0
  ·exact Tzas
  obtain rfl:j=1:=by omega
  have ep:eS s 1=1:=rfl;rw [ep];have q:=lj R.out;have q1:=Tw R.out;exact Tzcd
theorem LZ (w:World) (V:Nat) (i s k:Int) (h1:1<=s) (h5:s<=5) (hV:w.heap[V]? =some (.cells #[.string (ByteArray.mk #[120]),.int .i64 0,.int .i64 i,.string (ByteArray.mk #[97]),.int .i64 s,.int .i64 0,.string (ByteArray.mk #[121]),.int .i64 0,.int .i64 0,.string (ByteArray.mk #[122]),.int .i64 0,.int .i64 k,.string (ByteArray.mk #[98]),.int .i64 2,.int .i64 0] 199 (0,0))):
 Calls Tryz.prog 187 #[.slice (some ⟨V,0,none⟩) 5 5,.string (ByteArray.mk #[121])] w λe w' =>e= .returned (.tuple #[.int .i64 (1+s),.int .i64 (0),.bool true])/\Below w.heap.size w w' :=by
 have Eu:V<w.heap.size:=(Array.getElem?_eq_some_iff.1 hV).1;have HV:=aA (λ(w' :World) (hb:Below w.heap.size w w')=>(hb.block V Eu).trans hV);clear hV;go_enter func187,ntmps187;go_wp2;go_loopw [7,8] (λa b wr=>∃j:Nat,b= .int .i64 j/\j<=2/\a= .int .i64 (eS s j)/\Below w.heap.size w wr) (λ_ b _=>2-(intOf b).toNat);case atStart=>exact ⟨0,rfl,by omega,rfl,Below.refl _ _⟩
 case round=>
  obtain ⟨j,rfl,hj,rfl,hb⟩:=hrel;have R:=aA (HV.out wr hb);by_cases h0:j=0
  ·exact Tzas
  by_cases h1:j=1
  ·exact Tza0
  obtain rfl:j=2:=by omega
  have ep:eS s 2=1+s:=rfl;rw [ep];have q:=Zk R.out;have q1:wr.cell? ⟨V,7,none⟩=some (.int .i64 0):=by rw [cell_of_row _ _ _ _ _ _ R.out];rfl
  exact Tzcd
theorem LY (w:World) (V:Nat) (i s k:Int) (h1:1<=s) (h5:s<=5) (hV:w.heap[V]? =some (.cells #[.string (ByteArray.mk #[120]),.int .i64 0,.int .i64 i,.string (ByteArray.mk #[97]),.int .i64 s,.int .i64 0,.string (ByteArray.mk #[121]),.int .i64 0,.int .i64 0,.string (ByteArray.mk #[122]),.int .i64 0,.int .i64 k,.string (ByteArray.mk #[98]),.int .i64 2,.int .i64 0] 199 (0,0))):
 Calls Tryz.prog 187 #[.slice (some ⟨V,0,none⟩) 5 5,.string (ByteArray.mk #[122])] w λe w' =>e= .returned (.tuple #[.int .i64 (2+s),.int .i64 (0),.bool true])/\Below w.heap.size w w' :=by
 have Eu:V<w.heap.size:=(Array.getElem?_eq_some_iff.1 hV).1;have HV:=aA (λ(w' :World) (hb:Below w.heap.size w w')=>(hb.block V Eu).trans hV);clear hV;go_enter func187,ntmps187;go_wp2;go_loopw [7,8] (λa b wr=>∃j:Nat,b= .int .i64 j/\j<=3/\a= .int .i64 (eS s j)/\Below w.heap.size w wr) (λ_ b _=>3-(intOf b).toNat);case atStart=>exact ⟨0,rfl,by omega,rfl,Below.refl _ _⟩
 case round=>
  obtain ⟨j,rfl,hj,rfl,hb⟩:=hrel;have R:=aA (HV.out wr hb);by_cases h0:j=0
  ·exact Tzas
  by_cases h1:j=1
  ·exact Tza0
  by_cases h2:j=2
  ·exact Tzbc
  obtain rfl:j=3:=by omega
  have ep:eS s 3=2+s:=rfl;rw [ep];have q:wr.cell? ⟨V,9,none⟩=some (.string (ByteArray.mk #[122])):=by rw [cell_of_row _ _ _ _ _ _ R.out];rfl
  have q1:wr.cell? ⟨V,10,none⟩=some (.int .i64 0):=by rw [cell_of_row _ _ _ _ _ _ R.out];rfl
  exact Tzcd
theorem LW (w:World) (V:Nat) (i s k:Int) (h1:1<=s) (h5:s<=5) (hV:w.heap[V]? =some (.cells #[.string (ByteArray.mk #[120]),.int .i64 0,.int .i64 i,.string (ByteArray.mk #[97]),.int .i64 s,.int .i64 0,.string (ByteArray.mk #[121]),.int .i64 0,.int .i64 0,.string (ByteArray.mk #[122]),.int .i64 0,.int .i64 k,.string (ByteArray.mk #[98]),.int .i64 2,.int .i64 0] 199 (0,0))):
 Calls Tryz.prog 187 #[.slice (some ⟨V,0,none⟩) 5 5,.string (ByteArray.mk #[98])] w λe w' =>e= .returned (.tuple #[.int .i64 (3+s),.int .i64 (2),.bool true])/\Below w.heap.size w w' :=by
 have Eu:V<w.heap.size:=(Array.getElem?_eq_some_iff.1 hV).1;have HV:=aA (λ(w' :World) (hb:Below w.heap.size w w')=>(hb.block V Eu).trans hV);clear hV;go_enter func187,ntmps187;go_wp2;go_loopw [7,8] (λa b wr=>∃j:Nat,b= .int .i64 j/\j<=4/\a= .int .i64 (eS s j)/\Below w.heap.size w wr) (λ_ b _=>4-(intOf b).toNat);case atStart=>exact ⟨0,rfl,by omega,rfl,Below.refl _ _⟩
 case round=>
  obtain ⟨j,rfl,hj,rfl,hb⟩:=hrel;have R:=aA (HV.out wr hb);by_cases h0:j=0
  ·exact Tzas
  by_cases h1:j=1
  ·exact Tza0
  by_cases h2:j=2
  ·exact Tzbc
  by_cases h3:j=3
  ·exact Tzb3
  obtain rfl:j=4:=by omega
  have ep:eS s 4=3+s:=rfl;rw [ep];have q:wr.cell? ⟨V,12,none⟩=some (.string (ByteArray.mk #[98])):=by rw [cell_of_row _ _ _ _ _ _ R.out];rfl
  have q1:wr.cell? ⟨V,13,none⟩=some (.int .i64 2):=by rw [cell_of_row _ _ _ _ _ _ R.out];rfl
  exact Tzcd
theorem LV (w:World) (V:Nat) (i s k:Int) (h1:1<=s) (h5:s<=5) (hV:w.heap[V]? =some (.cells #[.string (ByteArray.mk #[120]),.int .i64 0,.int .i64 i,.string (ByteArray.mk #[97]),.int .i64 s,.int .i64 0,.string (ByteArray.mk #[121]),.int .i64 0,.int .i64 0,.string (ByteArray.mk #[122]),.int .i64 0,.int .i64 k,.string (ByteArray.mk #[98]),.int .i64 2,.int .i64 0] 199 (0,0))):
 Calls Tryz.prog 187 #[.slice (some ⟨V,0,none⟩) 5 5,.string (ByteArray.mk #[])] w λe w' =>e= .returned (.tuple #[.int .i64 (0),.int .i64 (0),.bool false])/\Below w.heap.size w w' :=by
 have Eu:V<w.heap.size:=(Array.getElem?_eq_some_iff.1 hV).1;have HV:=aA (λ(w' :World) (hb:Below w.heap.size w w')=>(hb.block V Eu).trans hV);clear hV;go_enter func187,ntmps187;go_wp2;go_loopw [7,8] (λa b wr=>∃j:Nat,b= .int .i64 j/\j<=5/\a= .int .i64 (eS s j)/\Below w.heap.size w wr) (λ_ b _=>5-(intOf b).toNat);case atStart=>exact ⟨0,rfl,by omega,rfl,Below.refl _ _⟩
 case round=>
  obtain ⟨j,rfl,hj,rfl,hb⟩:=hrel;have R:=aA (HV.out wr hb);by_cases h0:j=0
  ·exact Tzas
  by_cases h1:j=1
  ·exact Tza0
  by_cases h2:j=2
  ·exact Tzbc
  by_cases h3:j=3
  ·exact Tzb3
  by_cases h4:j=4
  ·subst h4;have ep:eS s 4=3+s:=rfl;rw [ep];have q:wr.cell? ⟨V,12,none⟩=some (.string (ByteArray.mk #[98])):=by rw [cell_of_row _ _ _ _ _ _ R.out];rfl
   go_wp2_with (refine aK (t:=199) (A:=⟨V,12,none⟩) rfl rfl rfl (fU (nm:=(ByteArray.mk #[98])) (z:=2) (y:=0) R.out rfl) ?_)
   refine Tyas ?_;rintro e w2 ⟨rfl,ar⟩;have e1:max (2:Int) 1=2:=by omega
   rw [e1];clear e1;go_wp2;go_roundw;case rel=>exact ⟨5,rfl,by omega,(by show _=Value.int .i64 (5+s);exact congrArg _ (by omega)),Below.ext hb ar⟩
   case measure=>simp [intOf]
  obtain rfl:j=5:=by omega
  go_wp2;go_ret3;exact ⟨rfl,hb⟩
theorem kA (w:World) (V:Nat) (i s k:Int) (h1:1<=s) (h5:s<=5) (hV:w.heap[V]? =some (.cells (fG i s k) 199 (0,0))) (nm:ByteArray) (hn:kJ nm∨mI nm∨nm=ByteArray.mk #[]):
 Calls Tryz.prog 187 #[.slice (some ⟨V,0,none⟩) 5 5,.string nm] w λe w' =>∃a b ok,e= .returned (.tuple #[.int .i64 a,.int .i64 b,.bool ok])/\TQ nm a b ok/\Below w.heap.size w w' :=by
 rcases hn with (rfl|rfl|rfl)|(rfl|rfl)|rfl
 ·exact (MB w V i s k h1 h5 hV).mono λe w' h=>⟨_,_,_,h.1,⟨⟨by omega,by omega⟩,⟨by omega,by omega⟩,λ_=>⟨rfl,rfl⟩,λh=>absurd h (by rintro (h|h)<;>revert h<;>decide)⟩,h.2⟩
 ·exact (LZ w V i s k h1 h5 hV).mono λe w' h=>⟨_,_,_,h.1,⟨⟨by omega,by omega⟩,⟨by omega,by omega⟩,λ_=>⟨rfl,rfl⟩,λh=>absurd h (by rintro (h|h)<;>revert h<;>decide)⟩,h.2⟩
 ·exact (LY w V i s k h1 h5 hV).mono λe w' h=>⟨_,_,_,h.1,⟨⟨by omega,by omega⟩,⟨by omega,by omega⟩,λ_=>⟨rfl,rfl⟩,λh=>absurd h (by rintro (h|h)<;>revert h<;>decide)⟩,h.2⟩
 ·exact (MA w V i s k h1 h5 hV).mono λe w' h=>⟨_,_,_,h.1,⟨⟨by omega,by omega⟩,⟨by omega,by omega⟩,λh=>absurd h (by rintro (h|h|h)<;>revert h<;>decide),λ_=>⟨h1,rfl⟩⟩,h.2⟩
 ·exact (LW w V i s k h1 h5 hV).mono λe w' h=>⟨_,_,_,h.1,⟨⟨by omega,by omega⟩,⟨by omega,by omega⟩,λh=>absurd h (by rintro (h|h|h)<;>revert h<;>decide),λ_=>⟨by omega,rfl⟩⟩,h.2⟩
 ·exact (LV w V i s k h1 h5 hV).mono λe w' h=>⟨_,_,_,h.1,⟨⟨by omega,by omega⟩,⟨by omega,by omega⟩,λh=>absurd h (by rintro (h|h|h)<;>revert h<;>decide),λh=>absurd h (by rintro (h|h)<;>revert h<;>decide)⟩,h.2⟩
def I8:Nat->Ex->Prop
 |0,_=>False
 |n+1,.mk op val name slot size args=>(0<=op/\op<=22)/\av val/\slot=0/\size=0/\args.length<=2/\((op=2/\kJ name)∨(op=3/\mI name)∨(op≠2/\op≠3/\name=ByteArray.mk #[]))/\∀e∈args,I8 n e
theorem I8.of:∀{n:Nat} {t:Ex},y7 n t->I8 n t
 |0,_,h=>h.elim
 |n+1,.mk op val name slot size args,⟨h1,h2,h3,h4⟩=>by
  have ha:∀e∈args,I8 n e:=λe he=>I8.of (h3 e he)
  rcases h4 with ⟨a,b,c,d,e⟩|⟨a,b,c,d⟩|⟨a,b,c,d,e⟩|⟨a,b,c,d⟩|⟨a,b,c,d,e⟩|⟨a,b,c,d,e⟩
  ·exact Tzff
  ·exact ⟨⟨by omega,by omega⟩,⟨by omega,by omega⟩,h1,h2,by rw [d];simp,.inl ⟨a,c⟩,ha⟩
  ·exact Tzff
  ·exact ⟨⟨by omega,by omega⟩,⟨by omega,by omega⟩,h1,h2,by omega,.inr (.inl ⟨a,c⟩),ha⟩
  ·exact ⟨⟨by omega,by omega⟩,⟨by omega,by omega⟩,h1,h2,by omega,.inr (.inr ⟨by omega,by omega,d⟩),ha⟩
  ·exact ⟨⟨by omega,by omega⟩,⟨by omega,by omega⟩,h1,h2,by omega,.inr (.inr ⟨by omega,by omega,d⟩),ha⟩
theorem I8.zero (n:Nat):I8 (n+1) E8:=⟨⟨by omega,by omega⟩,⟨by omega,by omega⟩,rfl,rfl,by simp,.inr (.inr ⟨by omega,by omega,rfl⟩),λe he=>by simp at he⟩
theorem iY {w:World} {b o:Nat} {y:zc} (hc:∀i u,(fE y)[i]? =some u->w.cell? ⟨b,o+i,none⟩=some u):(loadVar 244 ⟨b,o,none⟩).run Tryz.prog w= .ok (.agg #[.int .i64 y.op,.int .i64 y.val,.string y.name,.int .i64 y.slot,.int .i64 y.size,.slice y.A y.n y.c]) w:=by
 have:=run_loadVar_mid (P:=Tryz.prog) w b o 244 (fE y) _ (λj v hv=>hc j v hv) underlying244 rfl (by kernel_rfl);exact this
def BR (n:Nat):Prop:=∀(x:zc) (t:Ex) (S:Nat->Prop) (w:World),ab n S w x t->I8 n t->Calls Tryz.prog 199 #[.agg #[.int .i64 x.op,.int .i64 x.val,.string x.name,.int .i64 x.slot,.int .i64 x.size,.slice x.A x.n x.c]] w λe w' =>∃d:Int,e= .returned (.int .i64 d)/\0<=d/\d<=n/\Below w.heap.size w w'
theorem JS (n:Nat) (hn:n<=10) (ih:BR n):BR (n+1):=by
 intro x t S w fw Ny;obtain ⟨xo,xv,xm,xs,xz,xA,xn,xc⟩:=x;obtain ⟨op,val,name,slot,size,args⟩:=t;obtain ⟨rfl,rfl,rfl,rfl,rfl,ju⟩:=fw;obtain ⟨uo,wy,tp,tu,Zx,Gs,fg⟩:=Ny;dsimp only at*;subst tp tu;obtain ⟨W,hW,aw,sW,rW⟩:=gO w #[.int .i64 xo,.int .i64 xv,.string xm,.int .i64 0,.int .i64 0,.slice xA xn xc] 244;have SW:=aA sW;have R0:=aA rW;have hlen:=ju.len;have HL:=aA hlen.1;have Rq:xn<=2:=by omega
 have Jb:=hlen.2;have wj:=aA fg;clear sW rW hlen fg Gs;go_enter func199,ntmps199;go_upto_region 1 with fail;try rw [<-hW]
 clear hW;go_wp2_with fail;go_loopw [3,4] (λa b wr=>∃(k:Nat) (d:Int),b= .int .i64 k/\k<=xn/\a= .int .i64 d/\0<=d/\d<=n/\Below W.heap.size W wr) (λ_ b _=>xn-(intOf b).toNat);case atStart=>exact ⟨0,0,rfl,by omega,rfl,by omega,by omega,Below.refl _ _⟩
 case round=>
  obtain ⟨k,d,rfl,hk,rfl,hd0,hdn,hb⟩:=hrel;have R1:=aA ((hb.block w.heap.size (by have:=SW.out;omega)).trans R0.out);have q5:=Ba R1.out;by_cases af:k<xn
  ·obtain ⟨b,off,y,u,rfl,hS,fe,hu,og,Am⟩:=ju.at_ eV (j:=k) af (by omega);have HC:=aA (λi u h=>((Below.ext aw hb).cell (p:=⟨b,off+k*6+i,none⟩) fe).trans (Am i u h));have hU:=wj.out u (List.mem_of_getElem? hu);have Hc:=aA (ih y u _ wr (ab.keep (ae.of_below (Below.ext aw hb)) _ _ _ og) hU);clear hu Am hU og;go_wp2_with (refine aK (t:=244) (A:=⟨b,off+k*6,none⟩) rfl rfl rfl (iY HC.out) ?_)
   refine Hc.out.mono ?_;rintro e w2 ⟨d2,rfl,Sv,h2n,ar⟩;go_wp2;go_roundw;case rel=>exact ⟨k+1,if d<d2 then d2 else d,by go_num,by omega,rfl,by split<;>omega,by split<;>omega,Below.ext hb ar⟩
   case measure=>simp [intOf];omega
  ·obtain rfl:k=xn:=by omega
   go_wp2;go_ret;exact ⟨d+1,rfl,by omega,by omega,Below.ext aw hb⟩
theorem uF:∀(n:Nat),n<=10->BR n
 |0,_=>λx t S w h=>h.elim
 |n+1,hn=>JS n (by omega) (uF n (by omega))
def wQ (n:Nat):Prop:=∀(x:zc) (t:Ex) (S:Nat->Prop) (w:World) (V:Nat) (i s k:Int),1<=s->s<=5->w.heap[V]? =some (.cells (fG i s k) 199 (0,0))->ab n S w x t->I8 n t->
 Calls Tryz.prog 188 #[.slice (some ⟨V,0,none⟩) 5 5,.agg #[.int .i64 x.op,.int .i64 x.val,.string x.name,.int .i64 x.slot,.int .i64 x.size,.slice x.A x.n x.c]] w λe w' =>e= .returned (.bool true)/\Below w.heap.size w w'
theorem EU (n:Nat) (ih:wQ n):wQ (n+1):=by
 intro x t S w V i s k0 iz jw hV fw Ny;obtain ⟨xo,xv,xm,xs,xz,xA,xn,xc⟩:=x;obtain ⟨op,val,name,slot,size,args⟩:=t;obtain ⟨rfl,rfl,rfl,rfl,rfl,ju⟩:=fw;obtain ⟨uo,wy,tp,tu,Zx,Gs,fg⟩:=Ny;dsimp only at*;subst tp tu;obtain ⟨W,hW,aw,sW,rW⟩:=gO w #[.int .i64 xo,.int .i64 xv,.string xm,.int .i64 0,.int .i64 0,.slice xA xn xc] 244;have SW:=aA sW;have R0:=aA rW;have hlen:=ju.len;have HL:=aA hlen.1;have Rq:xn<=2:=by omega
 have Jb:=hlen.2;have wj:=aA fg;have Eu:V<w.heap.size:=(Array.getElem?_eq_some_iff.1 hV).1;have HV:=aA (λ(w' :World) (hb:Below w.heap.size w w')=>(hb.block V Eu).trans hV);have hnm6:kJ xm∨mI xm∨xm=ByteArray.mk #[]:=by
  rcases Gs with h|h|h
  ·exact .inl h.2
  ·exact .inr (.inl h.2)
  ·exact .inr (.inr h.2.2)
 have q2:W.cell? ⟨w.heap.size,2,none⟩=some (.string xm):=aM rW 2 _ rfl
 have nf:=kA W V i s k0 iz jw (HV.out W aw) xm hnm6;have Ay:=aA nf;have HNM:=aA Gs;clear sW rW hlen fg Gs nf hV;go_enter func188,ntmps188;go_upto_region 1 with fail;try rw [<-hW]
 clear hW;go_wp2_with fail;refine Ay.out.mono ?_;rintro e w1 ⟨a,b,ok,rfl,jg,al⟩;have Es :=Below.ext aw al;have R1:=aA ((al.block w.heap.size (by have:=SW.out;omega)).trans R0.out);have p0:=bn R1.out;have s1:=al.size;rcases HNM.out with ⟨rfl,g⟩|⟨rfl,g⟩|⟨g2,g3,g⟩
 ·obtain rfl:ok=true:=(jg.2.2.1 g).2;exact Tzam
 ·obtain rfl:ok=true:=(jg.2.2.2 g).2;exact Tzam
 ·have e2:(xo==2)=false:=by simpa using g2
  have e3:(xo==3)=false:=by simpa using g3
  exact Tzam
theorem rQ:∀(n:Nat),wQ n
 |0=>λx t S w V i s k h1 h2 h3 h=>h.elim
 |n+1=>EU n (rQ n)
theorem pU (A:Option Addr) (c:Nat) (w:World):Calls Tryz.prog 197 #[.agg #[.int .i64 0,.int .i64 0,.string (ByteArray.mk #[]),.int .i64 0,.int .i64 0,.slice A 0 c]] w λe w' =>e= .returned (.bool true)/\Below w.heap.size w w' :=by
 go_enter func197,ntmps197;exact Tzcj
theorem pB {s:ByteArray} (h:kJ s∨mI s):∃c,FE c/\s=ByteArray.mk #[c]:=by
 rcases h with (rfl|rfl|rfl)|(rfl|rfl)
 ·exact ⟨120,.inr (.inr (.inl rfl)),rfl⟩
 ·exact ⟨121,.inr (.inr (.inr (.inl rfl))),rfl⟩
 ·exact ⟨122,.inr (.inr (.inr (.inr rfl))),rfl⟩
 ·exact ⟨97,.inl rfl,rfl⟩
 ·exact ⟨98,.inr (.inl rfl),rfl⟩
def BN (n:Nat):Prop:=∀(x:zc) (t:Ex) (S:Nat->Prop) (w:World),ab n S w x t->y7 n t->Calls Tryz.prog 196 #[.agg #[.int .i64 x.op,.int .i64 x.val,.string x.name,.int .i64 x.slot,.int .i64 x.size,.slice x.A x.n x.c]] w λe w' =>e= .returned (.bool true)/\Below w.heap.size w w'
theorem JH (n:Nat) (ih:BN n):BN (n+1):=by
 intro x t S w fw Dx;obtain ⟨xo,xv,xm,xs,xz,xA,xn,xc⟩:=x;obtain ⟨op,val,name,slot,size,args⟩:=t;obtain ⟨rfl,rfl,rfl,rfl,rfl,ju⟩:=fw;obtain ⟨tp,tu,fg,hcls⟩:=Dx;dsimp only at*;subst tp tu;have hlen:=ju.len;have HL:=aA hlen.1;have Jb:=hlen.2;have wj:=aA fg;clear hlen fg;rcases hcls with ⟨rfl,h0,h2,rfl,rfl⟩|⟨rfl,rfl,Ny,rfl⟩|⟨h4,h7,rfl,rfl,rfl⟩|⟨rfl,rfl,Ny,h1⟩|⟨h8,h9,rfl,rfl,h1⟩|⟨Yt,h22,rfl,rfl,h1⟩
 ·obtain rfl:xn=0:=by have:=HL.out;first|omega|(simp at this;omega)
  have dneg:decide (xv<0)=false:=by simp;omega
  have eo:iS 1=0:=by unfold iS;simp;try omega
  obtain ⟨W,hW,aw,sW,rW⟩:=gO w #[.int .i64 1,.int .i64 xv,.string (ByteArray.mk #[]),.int .i64 0,.int .i64 0,.slice xA 0 xc] 244;have SW:=aA sW;have R0:=aA rW;have q0:=bn R0.out;have OP:=aA (λw' =>iN 1 (by omega) (by omega) w');have EO:=aA eo;clear sW rW eo;go_enter func196,ntmps196;go_upto_region 1 with fail;try rw [<-hW]
  clear hW;go_upto_region 2 with fail;go_wp2_with fail;refine Tybd ?_;go_wp2_with fail;refine (OP.out _).mono ?_;rintro e w1 ⟨rfl,rfl⟩;rw [EO.out];have y1:Below W.heap.size W W.drew:=(Below.refl _ W).drew;go_wp2_with fail;refine Tyar ?_;refine Tyac ?_;refine Tyao ?_;refine Tyae ?_;exact Tzaz
 ·obtain rfl:xn=0:=by have:=HL.out;first|omega|(simp at this;omega)
  obtain ⟨cc,Dy,rfl⟩:=pB (.inl Ny);clear Ny;have eo:iS 2=0:=by unfold iS;simp;try omega
  obtain ⟨W,hW,aw,sW,rW⟩:=gO w #[.int .i64 2,.int .i64 0,.string (ByteArray.mk #[cc]),.int .i64 0,.int .i64 0,.slice xA 0 xc] 244;have SW:=aA sW;have R0:=aA rW;have q0:=bn R0.out;have OP:=aA (λw' =>iN 2 (by omega) (by omega) w');have EO:=aA eo;clear sW rW eo;go_enter func196,ntmps196;go_upto_region 1 with fail;try rw [<-hW]
  clear hW;go_upto_region 2 with fail;go_wp2_with fail;refine Tybd ?_;go_wp2_with fail;refine (OP.out _).mono ?_;rintro e w1 ⟨rfl,rfl⟩;rw [EO.out];have y1:Below W.heap.size W W.drew:=(Below.refl _ W).drew;go_wp2_with fail;refine Tybr ?_;go_wp2_with fail;refine (mN cc Dy _).mono ?_;rintro e w1 ⟨rfl,rfl⟩;go_wp2_with fail;refine aD (y1) ?_;refine TkA ?_;refine Tyae ?_;refine Tyao ?_;exact Tzaz
 ·obtain rfl:xn=0:=by have:=HL.out;first|omega|(simp at this;omega)
  have e1:(xo==1)=false:=by simp;omega
  have e2:(xo==2)=false:=by simp;omega
  have e3:(xo==3)=false:=by simp;omega
  have f1:(xo != 1)=true:=by simp;omega
  have eo:iS xo=0:=by unfold iS;rw [if_pos (by omega)]
  obtain ⟨W,hW,aw,sW,rW⟩:=gO w #[.int .i64 xo,.int .i64 0,.string (ByteArray.mk #[]),.int .i64 0,.int .i64 0,.slice xA 0 xc] 244;have SW:=aA sW;have R0:=aA rW;have q0:=bn R0.out;have OP:=aA (λw' =>iN xo (by omega) (by omega) w');have EO:=aA eo;clear sW rW eo;go_enter func196,ntmps196;go_upto_region 1 with fail;try rw [<-hW]
  clear hW;go_upto_region 2 with fail;go_wp2_with fail;refine Tybd ?_;go_wp2_with fail;refine (OP.out _).mono ?_;rintro e w1 ⟨rfl,rfl⟩;rw [EO.out];have y1:Below W.heap.size W W.drew:=(Below.refl _ W).drew;go_wp2_with fail;refine Tyar ?_;refine Tyac ?_;refine Tyae ?_;refine Tyao ?_;exact Tzaz
 ·obtain rfl:xn=1:=by have:=HL.out;first|omega|(simp at this;omega)
  obtain ⟨cc,Dy,rfl⟩:=pB (.inr Ny);clear Ny;have eo:iS 3=1:=by unfold iS;simp;try omega
  obtain ⟨W,hW,aw,sW,rW⟩:=gO w #[.int .i64 3,.int .i64 0,.string (ByteArray.mk #[cc]),.int .i64 0,.int .i64 0,.slice xA 1 xc] 244;have SW:=aA sW;have R0:=aA rW;have q0:=bn R0.out;have OP:=aA (λw' =>iN 3 (by omega) (by omega) w');have EO:=aA eo;clear sW rW eo;go_enter func196,ntmps196;go_upto_region 1 with fail;try rw [<-hW]
  clear hW;go_upto_region 2 with fail;go_wp2_with fail;refine Tybd ?_;go_wp2_with fail;refine (OP.out _).mono ?_;rintro e w1 ⟨rfl,rfl⟩;rw [EO.out];have y1:Below W.heap.size W W.drew:=(Below.refl _ W).drew;go_wp2_with fail;refine Tybr ?_;go_wp2_with fail;refine (mN cc Dy _).mono ?_;rintro e w1 ⟨rfl,rfl⟩;go_wp2_with fail;refine aD (y1) ?_;refine TkA ?_;exact Tza1
 ·obtain rfl:xn=1:=by have:=HL.out;first|omega|(simp at this;omega)
  have e1:(xo==1)=false:=by simp;omega
  have e2:(xo==2)=false:=by simp;omega
  have e3:(xo==3)=false:=by simp;omega
  have f1:(xo != 1)=true:=by simp;omega
  have eo:iS xo=1:=by unfold iS;rw [if_neg (by omega),if_pos (by omega)]
  obtain ⟨W,hW,aw,sW,rW⟩:=gO w #[.int .i64 xo,.int .i64 0,.string (ByteArray.mk #[]),.int .i64 0,.int .i64 0,.slice xA 1 xc] 244;have SW:=aA sW;have R0:=aA rW;have q0:=bn R0.out;have OP:=aA (λw' =>iN xo (by omega) (by omega) w');have EO:=aA eo;clear sW rW eo;go_enter func196,ntmps196;go_upto_region 1 with fail;try rw [<-hW]
  clear hW;go_upto_region 2 with fail;go_wp2_with fail;refine Tybd ?_;go_wp2_with fail;refine (OP.out _).mono ?_;rintro e w1 ⟨rfl,rfl⟩;rw [EO.out];have y1:Below W.heap.size W W.drew:=(Below.refl _ W).drew;go_wp2_with fail;refine Tyar ?_;refine Tyac ?_;exact Tza1
 ·obtain rfl:xn=2:=by have:=HL.out;first|omega|(simp at this;omega)
  have e1:(xo==1)=false:=by simp;omega
  have e2:(xo==2)=false:=by simp;omega
  have e3:(xo==3)=false:=by simp;omega
  have f1:(xo != 1)=true:=by simp;omega
  have eo:iS xo=2:=by unfold iS;rw [if_neg (by omega),if_neg (by omega),if_pos (by omega)]
  obtain ⟨W,hW,aw,sW,rW⟩:=gO w #[.int .i64 xo,.int .i64 0,.string (ByteArray.mk #[]),.int .i64 0,.int .i64 0,.slice xA 2 xc] 244;have SW:=aA sW;have R0:=aA rW;have q0:=bn R0.out;have OP:=aA (λw' =>iN xo (by omega) (by omega) w');have EO:=aA eo;clear sW rW eo;go_enter func196,ntmps196;go_upto_region 1 with fail;try rw [<-hW]
  clear hW;go_upto_region 2 with fail;go_wp2_with fail;refine Tybd ?_;go_wp2_with fail;refine (OP.out _).mono ?_;rintro e w1 ⟨rfl,rfl⟩;rw [EO.out];have y1:Below W.heap.size W W.drew:=(Below.refl _ W).drew;go_wp2_with fail;refine Tyar ?_;refine Tyac ?_;refine Tyae ?_;refine Tyao ?_;refine aP ?_;go_wp2_with fail;obtain ⟨w1,iy⟩:=eX W.drew;rw [<-iy];have al:Below W.heap.size W w1:=by rw [iy];exact y1
  have Es :=Below.ext aw al;have R1:=aA ((al.block w.heap.size (by have:=SW.out;omega)).trans R0.out);clear iy;go_wp2;go_loopw [4] (λa wr=>∃k:Nat,a= .int .i64 k/\k<=2/\Below w1.heap.size w1 wr) (λa _=>2-(intOf a).toNat);case atStart=>exact ⟨0,rfl,by omega,Below.refl _ _⟩
  case round=>
   obtain ⟨k,rfl,hk,hb⟩:=hrel;have jo:=Below.ext Es hb;have R2:=aA ((hb.block w.heap.size (by have:=al.size;have:=SW.out;omega)).trans R1.out);have q5:=Ba R2.out;by_cases af:k<2
   ·obtain ⟨b,off,y,u,rfl,hS,fe,hu,og,Am⟩:=ju.at_ eV (j:=k) af (by omega);have HC:=aA (λi u h=>(jo.cell (p:=⟨b,off+k*6+i,none⟩) fe).trans (Am i u h));have hU:=wj.out u (List.mem_of_getElem? hu);have Hc:=aA (ih y u _ wr (ab.keep (ae.of_below jo) _ _ _ og) hU);clear hu Am hU og;go_wp2_with (refine aK (t:=244) (A:=⟨b,off+k*6,none⟩) rfl rfl rfl (iY HC.out) ?_)
    refine Hc.out.mono ?_;rintro e w2 ⟨rfl,ar⟩;go_wp2;go_roundw;case rel=>exact ⟨k+1,by go_num,by omega,Below.ext hb ar⟩
    case measure=>simp [intOf];omega
   ·obtain rfl:k=2:=by omega
    go_wp2;go_ret;exact ⟨rfl,jo⟩
theorem iV:∀(n:Nat),BN n
 |0=>λx t S w h=>h.elim
 |n+1=>JH n (iV n)
end Go.Proofs.YtiblijmngokcgaaGreatDoor
