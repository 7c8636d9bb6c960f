import Derived.Test.YtiblijmngokcgaaGreatDoorG39Zs
import Derived.Test.YtiblijmngokcgaaGreatDoorRows
import Derived.ProofKit
set_option linter.unusedVariables false
set_option linter.unusedSimpArgs false
set_option maxHeartbeats 4000000
set_option maxRecDepth 100000
namespace Go.Proofs.YtiblijmngokcgaaGreatDoor
open Go.Proofs.Tryz
open Go.RowKit
theorem StV.stm {S:Nat->Prop} {w:World} {v:Value} {s:bj} (h:StV S w v s):∃(E1:Option Addr) (nz pf:Nat) (E2:Option Addr) (jt pe:Nat) (E3:Option Addr) (js pb:Nat) (E4:Option Addr) (jr pa:Nat),v= .agg #[.slice E1 nz pf,.slice E2 jt pe,.slice E3 js pb,.slice E4 jr pa]/\j7 S w s E1 nz pf E2 jt pe E3 js pb E4 jr pa:=by
 obtain ⟨A1,c1,A2,c2,A3,c3,A4,c4,rfl,a1,a2,a3,a4⟩:=h;exact ⟨A1,_,c1,A2,_,c2,A3,_,c3,A4,_,c4,rfl,a1,a2,a3,a4⟩
theorem uP (A:Option Addr) (n c:Nat) (L:List UInt8) (S:Nat->Prop) (w:World) (hv:Bytes S w (.slice A n c) L) (hn:n<=100000000) (p:Nat) (hp:p<=L.length):
 Calls Tryz.prog 120 #[.slice A n c,.int .i64 (p:Int)] w λe w' =>∃(b:Bool) (E1:Option Addr) (nz pf:Nat) (E2:Option Addr) (jt pe:Nat) (E3:Option Addr) (js pb:Nat) (E4:Option Addr) (jr pa:Nat),e= .returned (.tuple #[.agg #[.slice E1 nz pf,.slice E2 jt pe,.slice E3 js pb,.slice E4 jr pa],.bool b])/\(∀s,cC L p=some s->b=true/\j7 (w.heap.size<=·) w' s E1 nz pf E2 jt pe E3 js pb E4 jr pa)/\(cC L p=none->b=false)/\Below w.heap.size w w' :=by
 have Dm:=aA hv.len.1;obtain ⟨W,hW,bW,kW,SW,R0⟩:=bX w w #[.slice none 0 0,.slice none 0 0,.slice none 0 0,.slice none 0 0] 51 (Below.refl _ _);have sW:w.heap.size<W.heap.size:=by have:=SW.out;omega
 have jx:eK eN L (p:Int)=eN L p:=by unfold eK;rw [if_neg (by omega),Int.toNat_natCast]
 have en:=zS A n c (p:Int) L S W (hv.ext kW) hn;rw [jx] at en;clear jx hv;go_enter func120,ntmps120;go_upto_region 1 with fail;rw [<-hW];clear hW;cases hr:eN L p with
 |error k=>
  have yi:k≠0:=CU L p k hr;have dk:((k:Int)==0)=false:=by simpa using yi
  have hwm:cC L p=none:=by unfold cC;rw [hr]
  rw [hr] at en;have lf:=aA en;have HW:=aA hwm;clear en hr hwm yi;go_wp2_with fail;refine lf.out.mono ?_;rintro e w1 ⟨h1,b1⟩;unfold iE at h1;dsimp only at h1;subst h1;obtain ⟨W2,fv,ks,Ss,bs,vg,Rs,Jw,ls,ms⟩:=bE w1 #[.slice none 0 0,.slice none 0 0,.slice none 0 0,.slice none 0 0] 51;have k2:=Below.ext b1 ks;have rj:=bT k2 R0 sW;have ar:=Below.ext kW k2;go_upto_region 2 with (refine sN ?_)
  try dsimp only
  rw [<-fv,<-Jw.out];clear fv vg;refine Tyal ?_;go_wp2_with (first|(refine lD (t:=51) Rs ?_)|(refine sR rj ?_))
  refine rT rj ?_;refine ⟨false,none,0,0,none,0,0,none,0,0,none,0,0,rfl,λs h=>(by rw [HW.out] at h;cases h),λ_=>rfl,ar.grown (aC _ _ _) ar.size (λo e=>by cases e;omega)⟩
 |ok sq=>
  obtain ⟨s,q⟩:=sq;rw [hr] at en;have lf:=aA en;have HR:=aA hr;clear en hr;go_wp2_with fail;refine lf.out.mono ?_;rintro e w1 ⟨h1,b1⟩;unfold iE at h1;dsimp only at h1;obtain ⟨v,rfl,hsv⟩:=h1;obtain ⟨E1,nz,pf,E2,jt,pe,E3,js,pb,E4,jr,pa,rfl,hM⟩:=hsv.stm;clear hsv;obtain ⟨W2,fv,ks,Ss,bs,vg,Rs,Jw,ls,ms⟩:=bE w1 #[.slice E1 nz pf,.slice E2 jt pe,.slice E3 js pb,.slice E4 jr pa] 51;have k2:=Below.ext b1 ks;have y2:=k2.size;have rj:=bT k2 R0 sW;have ar:=Below.ext kW k2;have M2:=hM.ext ks;have gE:=aC W2 w.heap.size #[.slice E1 nz pf,.slice E2 jt pe,.slice E3 js pb,.slice E4 jr pa];have M3:=M2.kept (S' :=λb=>W.heap.size<=b) (w' :=W2.setRow w.heap.size #[.slice E1 nz pf,.slice E2 jt pe,.slice E3 js pb,.slice E4 jr pa]) (λb hb hs=>gE.block b hb (by simp;omega)) (λb h=>h);go_upto_region 2 with (refine sN ?_)
  try dsimp only
  rw [<-fv,<-Jw.out];clear fv vg;refine Tyal ?_;by_cases hq:q=n;case pos=>
   have dq:((q:Int)==(n:Int))=true:=by simp [hq]
   have HWM:=aA (show cC L p=some s by unfold cC;rw [HR.out];simp [hq,Dm.out]);have dqn:(q==n)=true:=by simp [hq]
   clear hq;go_wp2_with (first|(refine lD (t:=51) Rs ?_)|(refine sR rj ?_))
   refine rT rj ?_;refine ⟨true,E1,nz,pf,E2,jt,pe,E3,js,pb,E4,jr,pa,rfl,λs' h=> ?_,λh=>(by rw [HWM.out] at h;cases h),ar.grown gE ar.size (λo e=>by cases e;omega)⟩;rw [HWM.out] at h;cases h;exact ⟨rfl,M3.kept (λ_ _ _=>rfl) (λb h=>by omega)⟩
  case neg=>
   have dq:((q:Int)==(n:Int))=false:=by simp;omega
   have dqn:(q==n)=false:=by simpa using hq
   have HWM:=aA (show cC L p=none by unfold cC;rw [HR.out];simp [Dm.out,hq]);clear hq;go_wp2_with (first|(refine lD (t:=51) Rs ?_)|(refine sR rj ?_))
   refine rT rj ?_;exact ⟨false,E1,nz,pf,E2,jt,pe,E3,js,pb,E4,jr,pa,rfl,λs' h=>(by rw [HWM.out] at h;cases h),λ_=>rfl,ar.grown gE ar.size (λo e=>by cases e;omega)⟩
end Go.Proofs.YtiblijmngokcgaaGreatDoor
namespace Go.Proofs.YtiblijmngokcgaaGreatDoor
open Go.Proofs.Tryz
open Go.ChangeShapes Go.WideShapes Go.RowKit
def vJ : List (String × DataW Unit) := [("rollbacknet/rollbacknetmake.scalars", Rows.laid_rollbacknet_rollbacknetmake_scalars), ("rollbacknet/rollbacknetmake.arrays", Rows.laid_rollbacknet_rollbacknetmake_arrays)]
theorem gS : Tryz.prog.globalNamed "rollbacknet/rollbacknetmake.scalars" = some 0 := by kernel_rfl
theorem gA : Tryz.prog.globalNamed "rollbacknet/rollbacknetmake.arrays" = some 1 := by kernel_rfl
theorem gSt:(Tryz.prog.globals[0]?).map (·.type)=some 250:=by kernel_rfl
theorem gAt:(Tryz.prog.globals[1]?).map (·.type)=some 252:=by kernel_rfl
theorem c3s:Tryz.prog.cellsOf 250=3:=by kernel_rfl
theorem c2s:Tryz.prog.cellsOf 252=2:=by kernel_rfl
theorem c1s:Tryz.prog.cellsOf 9=1:=by kernel_rfl
theorem kH {H:Type} {enc:TypeId×Value->H} {w:World} {base:Nat} {sp:Nat->Bool} {held:Bool} {fuel:Nat} {c:Value} {y:DataW H×List MemPlace}
 (h:DataW.trod enc Tryz.prog w base sp held fuel 9 [c]=some y):∃s:ByteArray,c= .string s/\y=(.lit (.string s.data.toList),[]):=by
 obtain ⟨s,h1,h2,_⟩:=DataW.trod_string underlying9 h;cases h1;exact ⟨s,rfl,h2⟩
theorem pM {s:ByteArray} {c:UInt8} (h:s.data.toList=[c]):s=nm c:=by
 obtain ⟨d⟩:=s;have:d= #[c]:=by
  rw [<-Array.toArray_toList (xs:=d),h]
 rw [this];rfl
theorem DZ {W:World} {base:Nat} {sp:Nat->Bool} {held:Bool} {fuel:Nat} {cs:Array Value} {p:List MemPlace} (hd:DataW.trod (H:=Unit) (λ_=>()) Tryz.prog W base sp held fuel 250 cs.toList=some (Rows.laid_rollbacknet_rollbacknetmake_scalars,p)):cs= #[.string (nm 120),.string (nm 121),.string (nm 122)]:=by
 obtain ⟨l⟩:=cs;cases fuel with
 |zero=>simp [DataW.trod] at hd
 |succ fuel=>
  simp only [DataW.trod,underlying250,c3s,c1s] at hd;split at hd
  ·rename_i hl;obtain ⟨c0,c1,c2,rfl⟩:∃c0 c1 c2,l=[c0,c1,c2]:=by
    match l,hl with
    |[a,b,c],_=>exact ⟨a,b,c,rfl⟩
   have e:List.range 3=[0,1,2]:=rfl;rw [e] at hd;simp only [Option.map_eq_some_iff,List.mapM_cons,List.mapM_nil,Option.bind_eq_bind,Option.bind_eq_some_iff,Option.pure_def,Option.some.injEq] at hd;obtain ⟨xs,⟨y0,h0,_,⟨y1,h1,_,⟨y2,h2,_,rfl,rfl⟩,rfl⟩,rfl⟩,hx⟩:=hd;obtain ⟨n0,rfl,rfl⟩:=kH h0;obtain ⟨n1,rfl,rfl⟩:=kH h1;obtain ⟨n2,rfl,rfl⟩:=kH h2;simp [Rows.laid_rollbacknet_rollbacknetmake_scalars] at hx;obtain ⟨⟨e0,e1,e2⟩,_⟩:=hx;rw [pM (s:=n0) (c:=120) (by simpa using e0),pM (s:=n1) (c:=121) (by simpa using e1),pM (s:=n2) (c:=122) (by simpa using e2)]
  ·cases hd
theorem JZ {W:World} {base:Nat} {sp:Nat->Bool} {held:Bool} {fuel:Nat} {cs:Array Value} {p:List MemPlace} (hd:DataW.trod (H:=Unit) (λ_=>()) Tryz.prog W base sp held fuel 252 cs.toList=some (Rows.laid_rollbacknet_rollbacknetmake_arrays,p)):cs= #[.string (nm 97),.string (nm 98)]:=by
 obtain ⟨l⟩:=cs;cases fuel with
 |zero=>simp [DataW.trod] at hd
 |succ fuel=>
  simp only [DataW.trod,underlying252,c2s,c1s] at hd;split at hd
  ·rename_i hl;obtain ⟨c0,c1,rfl⟩:∃c0 c1,l=[c0,c1]:=by
    match l,hl with
    |[a,b],_=>exact ⟨a,b,rfl⟩
   have e:List.range 2=[0,1]:=rfl;rw [e] at hd;simp only [Option.map_eq_some_iff,List.mapM_cons,List.mapM_nil,Option.bind_eq_bind,Option.bind_eq_some_iff,Option.pure_def,Option.some.injEq] at hd;obtain ⟨xs,⟨y0,h0,_,⟨y1,h1,_,rfl,rfl⟩,rfl⟩,hx⟩:=hd;obtain ⟨n0,rfl,rfl⟩:=kH h0;obtain ⟨n1,rfl,rfl⟩:=kH h1;simp [Rows.laid_rollbacknet_rollbacknetmake_arrays] at hx;obtain ⟨⟨e0,e1⟩,_⟩:=hx;rw [pM (s:=n0) (c:=97) (by simpa using e0),pM (s:=n1) (c:=98) (by simpa using e1)]
  ·cases hd
theorem CF {W:World} (h:laidMet Tryz.prog vJ W):rm 2 W:=by
 obtain ⟨ps,⟨g,t,cs,fuel,p,q,hg,ht,hvar,hd,⟨g2,t2,cs2,fuel2,p2,q2,da,ht2,hvar2,Oh,_,_⟩,_⟩,_⟩:=h;obtain rfl:=Option.some.inj (gS.symm.trans hg);obtain rfl:=Option.some.inj (gSt.symm.trans ht);obtain rfl:=Option.some.inj (gA.symm.trans da);obtain rfl:=Option.some.inj (gAt.symm.trans ht2);obtain rfl:=DZ hd;obtain rfl:=JZ Oh;have c:=λi=>World.var?_cell hg hvar i
 have d:=λi=>World.var?_cell da hvar2 i
 have ef:1<W.heap.size:=by
  have h0:=d 0;unfold World.cell? at h0
  rcases Nat.lt_or_ge 1 W.heap.size with h1|h1
  ·exact h1
  ·rw [Array.getElem?_eq_none (by simpa using h1)] at h0;simp at h0
 exact ⟨by omega,by omega,c 0,c 1,c 2,d 0,d 1⟩
def vQ:Array Value:= #[.string (nm 120),.string (nm 121),.string (nm 122)]
def vR:Array Value:= #[.string (nm 97),.string (nm 98)]
def zY (cs:Array Value):Obj->Obj
 | .cells _ t frozen=> .cells cs t frozen
 |o=>o
noncomputable def oX (os:Os):World:=
 {World.holding Tryz.prog os ⟨#[],#[],[]⟩ with heap:=((World.holding Tryz.prog os ⟨#[],#[],[]⟩).heap.modify 0 (zY vQ)).modify 1 (zY vR)}
theorem tL (os:Os) (args:Array Value):((oX os).forCall (λ_ _=>0) ⟨#[],args,[]⟩).memory.heap[0]? =some (.cells vQ 250 (0,0)):=by kernel_rfl
theorem tK (os:Os) (args:Array Value):((oX os).forCall (λ_ _=>0) ⟨#[],args,[]⟩).memory.heap[1]? =some (.cells vR 252 (0,0)):=by kernel_rfl
theorem yL (os:Os) (args:Array Value):laidMet Tryz.prog vJ ((oX os).forCall (λ_ _=>0) ⟨#[],args,[]⟩).memory:=
 ⟨_,⟨0,250,vQ,8,[],_,by kernel_rfl,by kernel_rfl,by kernel_rfl,by kernel_rfl,⟨1,252,vR,8,[],[],by kernel_rfl,by kernel_rfl,by kernel_rfl,by kernel_rfl,rfl,rfl⟩,rfl⟩,by decide,λb off h=>by
  have h' :MemPlace.cell b off∈ [MemPlace.cell 0 0,.cell 0 1,.cell 0 2,.cell 1 0,.cell 1 1]:=h;have hb:b=0∨b=1:=by
   simp at h';omega
  rcases hb with rfl|rfl
  ·refine ⟨⟨_,_,tL os args⟩,λu v hc=> ?_⟩;simp only [World.cell?,tL os args] at hc;simp at h';rcases h' with rfl|rfl|rfl<;>simp [vQ] at hc
  ·refine ⟨⟨_,_,tK os args⟩,λu v hc=> ?_⟩;simp only [World.cell?,tK os args] at hc;simp at h';rcases h' with rfl|rfl<;>simp [vR] at hc⟩
end Go.Proofs.YtiblijmngokcgaaGreatDoor
