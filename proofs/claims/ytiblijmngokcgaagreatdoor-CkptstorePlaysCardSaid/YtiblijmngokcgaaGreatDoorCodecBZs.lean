import Derived.Test.YtiblijmngokcgaaGreatDoorCodecAZs
set_option linter.unusedVariables false
set_option maxHeartbeats 8000000
set_option maxRecDepth 100000
namespace Go.Proofs.YtiblijmngokcgaaGreatDoor
open Go.Proofs.Tryz
open Go.RowKit
abbrev av (z:Int):Prop:= -9223372036854775808<=z/\z<=9223372036854775807
theorem cG:∀(zs:List Int),(∀z∈zs,av z)->(aI zs).length<=10*zs.length
 |[],_=>by simp [aI]
 |z::zs,h=>by
  have h1:=cG zs (λz hz=>h z (by simp [hz]));have h2:=fY (h z (by simp)).1 (h z (by simp)).2;unfold aI at*;rw [List.flatMap_cons,List.length_append,List.length_cons];omega
theorem fA (a b:List Int):aI (a++b)=aI a++aI b:=by unfold aI;exact List.flatMap_append ..
theorem mA (w:World) (t:TypeId) (zs:List Int) (cs:Array Value) (n:Nat) (hn:n=zs.length) (h:cs.toList=zs.flatMap bB) (hle:n<=1000):a7 bB (λb=>b=w.heap.size) (w.alloc (.cells cs t)) (.slice (some ⟨w.heap.size,0,none⟩) n n) zs:=by
 subst hn;refine ⟨_,zs.length,rfl,Nat.le_refl _,by unfold maxLen;omega,λ_=>⟨w.heap.size,0,rfl,rfl,λj u hu=> ?_⟩⟩;rw [cell_of_row _ _ _ _ _ _ (heap_alloc_new w _),Nat.zero_add,<-h] at*;simpa using hu
theorem Below.of_row {w0 w w' :World} {row:Option Nat} (hb:Below w0.heap.size w0 w) (hg:w.grownBy w' row) (hr:∀m,row=some m->w0.heap.size<=m):Below w0.heap.size w0 w' :=hb.grown hg hb.size hr
theorem lM (w0 w:World) (row:Option Nat) (v:Value) (l:List UInt8) (hb:Below w0.heap.size w0 w) (cd:Acc w w0.heap.size row v l) (Au:Option Addr) (nu cu:Nat) (zs:List Int) (hu:a7 bB (λb=>row≠some b) w (.slice Au nu cu) zs) (hz:∀z∈zs,av z) (hlen:l.length+10*nu<=100000000000):
 Calls Tryz.prog 107 #[v,.slice Au nu cu] w λe w' =>∃v' row',e= .returned v'/\Acc w' w0.heap.size row' v' (l++aI zs)/\Below w0.heap.size w0 w'/\w.grownBy w' row:=by
 refine (CX w0.heap.size row v l w cd hb.size Au nu cu zs hu hz hlen).mono ?_;rintro e w' ⟨v',row',rfl,hacc',az,hg⟩;exact ⟨v',row',rfl,hacc',Below.of_row hb hg (λm hm=>(cd.lo m hm).1),hg⟩
theorem Acc.avoid {w:World} {base:Nat} {row:Option Nat} {v:Value} {l:List UInt8} (h:Acc w base row v l) {b:Nat} (hb:b<base∨w.heap.size<=b):row≠some b:=λe=>by
 have:=h.lo b e;omega
structure Ev where
 k0:Int
 k1:Int
 k2:Int
 k3:Int
 k4:Int
 k5:Int
 k6:Int
deriving DecidableEq,Inhabited
def Ev.l (e:Ev):List Int:=[e.k0,e.k1,e.k2,e.k3,e.k4,e.k5,e.k6]
def cH (e:Ev):List Value:=[.int .i64 e.k0,.int .i64 e.k1,.int .i64 e.k2,.int .i64 e.k3,.int .i64 e.k4,.int .i64 e.k5,.int .i64 e.k6]
theorem cN (e:Ev):(cH e).length=7:=rfl
def N9 (e:Ev):Value:= .agg #[.int .i64 e.k0,.int .i64 e.k1,.int .i64 e.k2,.int .i64 e.k3,.int .i64 e.k4,.int .i64 e.k5,.int .i64 e.k6]
theorem EP (w0 w:World) (row:Option Nat) (v:Value) (l:List UInt8) (hb:Below w0.heap.size w0 w) (cd:Acc w w0.heap.size row v l) (e:Ev) (hz:∀z∈e.l,av z) (hlen:l.length<=10000000000):
 Calls Tryz.prog 109 #[v,N9 e] w λr w' =>∃v' row',r= .returned v'/\Acc w' w0.heap.size row' v' (l++aI e.l)/\Below w0.heap.size w0 w' :=by
 obtain ⟨W,hW⟩:=eX ((w.alloc (.cells #[.int .i64 e.k0,.int .i64 e.k1,.int .i64 e.k2,.int .i64 e.k3,.int .i64 e.k4,.int .i64 e.k5,.int .i64 e.k6] 78)).alloc (.cells #[.int .i64 e.k0,.int .i64 e.k1,.int .i64 e.k2,.int .i64 e.k3,.int .i64 e.k4,.int .i64 e.k5,.int .i64 e.k6] 3));have vk:Below w.heap.size w W:=by rw [hW];exact ((Below.refl _ _).alloc (Nat.le_refl _) _).alloc (by simp) _
 have fp:a7 bB (λb=>row≠some b) W (.slice (some ⟨w.heap.size+1,0,none⟩) 7 7) e.l:=by
  rw [hW];have:=mA (w.alloc (.cells #[.int .i64 e.k0,.int .i64 e.k1,.int .i64 e.k2,.int .i64 e.k3,.int .i64 e.k4,.int .i64 e.k5,.int .i64 e.k6] 78)) 3 e.l #[.int .i64 e.k0,.int .i64 e.k1,.int .i64 e.k2,.int .i64 e.k3,.int .i64 e.k4,.int .i64 e.k5,.int .i64 e.k6] 7 rfl rfl (by omega);rw [World.size_alloc] at this;exact this.mono (λb _ h=>cd.avoid (.inr (by omega)))
 have cm:=lM w0 W row v l (Below.ext hb vk) (cd.ext vk) _ 7 7 e.l fp hz (by omega);have ij:=aA cm;clear cm fp;unfold N9;go_enter func109,ntmps109;go_wp2_with fail;rw [<-hW];refine ij.out.mono ?_;rintro r w2 ⟨v',row',rfl,h2,h3,_⟩;go_wp2;go_ret;exact ⟨v',row',rfl,h2,h3⟩
theorem dQ (v:Value) (z:Int) (l:List UInt8) (S:Nat->Prop) (w:World) (hv:Bytes S w v l) (hn:l.length<=10000000000) (hz:av z):
 Calls Tryz.prog 59 #[v,.int .i64 z] w λe w' =>∃v',e= .returned v'/\Bytes (λ_=>True) w' v' (l++cP z)/\Below w.heap.size w w' :=by
 obtain ⟨A,c,rfl,h1,h2,h3⟩:=hv;refine (yK A l.length c z l S w ⟨A,c,rfl,h1,h2,h3⟩ hn hz.1 hz.2).mono ?_;rintro e w' ⟨A',c',rfl,ho,hb⟩;exact ⟨_,rfl,ho.bytes.mono (λ_ _ _=>trivial),hb⟩
theorem sI {w:World} {v:Value} {l:List UInt8} {S:Nat->Prop} (h:Bytes S w v l):∃A c,v= .slice A l.length c:=by
 obtain ⟨A,c,e,_⟩:=h;exact ⟨A,c,e⟩
theorem jC (v:Value) (l:List UInt8) (S:Nat->Prop) (w:World) (hv:Bytes S w v l) (Au:Option Addr) (nu cu:Nat) (zs:List Int) (Su:Nat->Prop) (hu:a7 bB Su w (.slice Au nu cu) zs) (hz:∀z∈zs,av z) (hlen:l.length+10*nu<=10000000000):
 Calls Tryz.prog 82 #[v,.slice Au nu cu] w λe w' =>∃v',e= .returned v'/\Bytes (λ_=>True) w' v' (l++aI zs)/\Below w.heap.size w w' :=by
 have hul:=hu.len;have HZ:=aA hz;have HUL:=aA hul.1;clear hz;go_enter func82,ntmps82;go_wp2;go_loopw [0,5] (λv i wr=>∃(k:Nat),i= .int .i64 k/\k<=nu/\Bytes (λ_=>True) wr v (l++aI (zs.take k))/\(l++aI (zs.take k)).length<=l.length+10*k/\Below w.heap.size w wr) (λ_ i _=>nu-(intOf i).toNat);case atStart=>
  refine ⟨0,rfl,by omega,?_,by simp [aI],Below.refl _ _⟩;simpa [aI] using hv.mono (λ_ _ _=>trivial)
 case round=>
  obtain ⟨k,rfl,hk,dy,o7,ag⟩:=hrel;by_cases af:k<nu
  ·obtain ⟨b,off,z,rfl,_,j6,X7,hc⟩:=(hu.ext ag).at_ cD (j:=k) (by have:=HUL.out;omega) (by omega);have qz:=hc 0 _ rfl;rw [Nat.mul_one,Nat.add_zero] at qz;have Rm:=HZ.out z (List.mem_of_getElem? X7);have Cf:zs.take (k+1)=zs.take k++ [z]:=by rw [List.take_add_one,X7];rfl
   have Nn :l++aI (zs.take (k+1))=(l++aI (zs.take k))++cP z:=by rw [Cf];simp [aI]
   have L5:=aA Nn;have VR:=fY Rm.1 Rm.2;generalize l++aI (zs.take k)=lk at*;clear hc Cf Nn X7;go_wp2_with fail;refine (dQ _ z lk _ wr dy (by omega) Rm).mono ?_;rintro e w2 ⟨v2,rfl,J7,ar⟩;have dd:(l++aI (zs.take (k+1))).length=lk.length+(cP z).length:=by rw [L5.out];simp
   go_wp2;go_roundw;case rel=>exact ⟨k+1,by go_num,by omega,by rw [L5.out];exact J7,by omega,Below.ext ag ar⟩
   case measure=>simp [intOf];omega
  ·obtain rfl:k=nu:=by omega
   rw [List.take_of_length_le (by have:=HUL.out;omega)] at dy;go_wp2;go_ret;exact ⟨_,rfl,dy,ag⟩
theorem uV (v:Value) (l:List UInt8) (S:Nat->Prop) (w:World) (hv:Bytes S w v l) (e:Ev) (hz:∀z∈e.l,av z) (hlen:l.length<=1000000000):
 Calls Tryz.prog 83 #[v,N9 e] w λr w' =>∃v',r= .returned v'/\Bytes (λ_=>True) w' v' (l++aI e.l)/\Below w.heap.size w w' :=by
 obtain ⟨W,hW⟩:=eX ((w.alloc (.cells #[.int .i64 e.k0,.int .i64 e.k1,.int .i64 e.k2,.int .i64 e.k3,.int .i64 e.k4,.int .i64 e.k5,.int .i64 e.k6] 78)).alloc (.cells #[.int .i64 e.k0,.int .i64 e.k1,.int .i64 e.k2,.int .i64 e.k3,.int .i64 e.k4,.int .i64 e.k5,.int .i64 e.k6] 3));have vk:Below w.heap.size w W:=by rw [hW];exact ((Below.refl _ _).alloc (Nat.le_refl _) _).alloc (by simp) _
 have fp:=mA (w.alloc (.cells #[.int .i64 e.k0,.int .i64 e.k1,.int .i64 e.k2,.int .i64 e.k3,.int .i64 e.k4,.int .i64 e.k5,.int .i64 e.k6] 78)) 3 e.l #[.int .i64 e.k0,.int .i64 e.k1,.int .i64 e.k2,.int .i64 e.k3,.int .i64 e.k4,.int .i64 e.k5,.int .i64 e.k6] 7 rfl rfl (by omega);rw [World.size_alloc,<-hW] at fp;have cm:=jC v l _ W (hv.ext vk) _ 7 7 e.l _ fp hz (by omega);have ij:=aA cm;clear cm fp;unfold N9;go_enter func83,ntmps83;go_wp2_with fail;rw [<-hW];refine ij.out.mono ?_;rintro r w2 ⟨v',rfl,h2,h3⟩;go_wp2;go_ret;exact ⟨v',rfl,h2,Below.ext vk h3⟩
theorem BE {w w0:World} {A:Option Addr} {n c:Nat} {l:List UInt8} {S:Nat->Prop} (base:Nat) (hb:Bytes S w (.slice A n c) l) (hn:n<=10000000000):Acc w base none (.slice A n n) l:=by
 have hl:=hb.len.1;subst hl;exact .inr ⟨rfl,⟨A,rfl⟩,(hb.clip (c' :=l.length) (Nat.le_refl _) (by unfold maxLen;omega)).mono (λ_ _ _=>trivial)⟩
theorem vS {w:World} {α:Type} {enc:α->List Value} {S:Nat->Prop} {v:Value} {l:List α} (h:a7 enc S w v l):a7 enc (λb=>(none:Option Nat)≠some b) w v l:=h.mono (λ_ _ _=>by simp)
theorem yF {w:World} {base:Nat} {row:Option Nat} {v u:Value} {l:List UInt8} {α:Type} {enc:α->List Value} {zs:List α} (h:Acc w base row v l) (hu:a7 enc (·<base) w u zs):a7 enc (λb=>row≠some b) w u zs:=hu.mono (λb _ hb=>h.avoid (.inl hb))
structure Ix where
 num:Int
 A:Option Addr
 n:Nat
 c:Nat
deriving Inhabited
def iJ (x:Ix):List Value:=[.int .i64 x.num,.slice x.A x.n x.c]
theorem jT (x:Ix):(iJ x).length=2:=rfl
structure Pg where
 num:Int
 cells:List Int
deriving DecidableEq,Inhabited
def Pg.l (p:Pg):List Int:=[p.num,(p.cells.length:Int)]++p.cells
def wk (ps:List Pg):List Int:=[(ps.length:Int)]++ps.flatMap Pg.l
def Dg (S:Nat->Prop) (w:World) (v:Value) (ps:List Pg):Prop:=∃xs,a7 iJ S w v xs/\xs.length=ps.length/\∀(i:Nat) (x:Ix) (p:Pg),xs[i]? =some x->ps[i]? =some p->x.num=p.num/\a7 bB S w (.slice x.A x.n x.c) p.cells
theorem Dg.ext {S:Nat->Prop} {w w' :World} {v:Value} {ps:List Pg} (h:Dg S w v ps) (hb:Below w.heap.size w w'):Dg S w' v ps:=by
 obtain ⟨xs,h1,h2,h3⟩:=h;exact ⟨xs,h1.ext hb,h2,λi x p hx hp=>⟨(h3 i x p hx hp).1,(h3 i x p hx hp).2.ext hb⟩⟩
theorem Dg.len {S:Nat->Prop} {w:World} {A:Option Addr} {n c:Nat} {ps:List Pg} (h:Dg S w (.slice A n c) ps):ps.length=n/\n<=c/\c<=9223372036854775807:=by
 obtain ⟨xs,h1,h2,h3⟩:=h;have:=h1.len;omega
theorem Dg.at_ {S:Nat->Prop} {w:World} {A:Option Addr} {n c k:Nat} {ps:List Pg} (h:Dg S w (.slice A n c) ps) (hk:k<n):
 ∃(b off:Nat) (x:Ix) (p:Pg),A=some ⟨b,off,none⟩/\S b/\b<w.heap.size/\ps[k]? =some p/\x.num=p.num/\a7 bB S w (.slice x.A x.n x.c) p.cells/\w.cell? ⟨b,off+k*2,none⟩=some (.int .i64 x.num)/\w.cell? ⟨b,off+k*2+1,none⟩=some (.slice x.A x.n x.c):=by
 have hl:=h.len;obtain ⟨xs,h1,h2,h3⟩:=h;obtain ⟨b,off,x,rfl,hs,hb,hx,hc⟩:=h1.at_ jT (j:=k) (by omega) (by omega);have hf:ps[k]? =some ps[k]:=List.getElem?_eq_getElem (by omega)
 exact ⟨b,off,x,_,rfl,hs,hb,hf,(h3 k x _ hx hf).1,(h3 k x _ hx hf).2,hc 0 _ rfl,hc 1 _ rfl⟩
def wP (p:Pg):Prop:=av p.num/\(∀z∈p.cells,av z)/\p.cells.length<=2000000
theorem lA {α β:Type} (f:α->List β) (l:List α) (k:Nat) (x:α) (h:l[k]? =some x):(l.take (k+1)).flatMap f=(l.take k).flatMap f++f x:=by
 rw [List.take_add_one,h,List.flatMap_append];simp
theorem zV (A:Option Addr) (n c:Nat) (l:List UInt8) (S:Nat->Prop) (w:World) (hv:Bytes S w (.slice A n c) l) (Ap:Option Addr) (np cp:Nat) (ps:List Pg) (hP:Dg (·<w.heap.size) w (.slice Ap np cp) ps) (fw:∀p∈ps,wP p) (hlen:n<=1000000) (Xp:np<=400):
 Calls Tryz.prog 114 #[.slice A n c,.slice Ap np cp] w λr w' =>∃v',r= .returned v'/\Bytes (λ_=>True) w' v' (l++aI (wk ps))/\Below w.heap.size w w' :=by
 have hl:=hv.len;have HL:=aA hl.1;have jd:=hP.len;have Dl:=aA jd.1;have Ee:=jd.2;have Fc:=aA fw;clear fw jd;have ha:Below w.heap.size w (w.alloc (.cells #[.int .i64 (np:Int)] 3)):=(Below.refl _ _).alloc (Nat.le_refl _) _;have fp:=vS (mA w 3 [(np:Int)] #[.int .i64 (np:Int)] 1 rfl rfl (by omega));have cm:=lM w (w.alloc (.cells #[.int .i64 (np:Int)] 3)) none (.slice A n n) l ha (BE (w0:=w) w.heap.size (hv.ext ha) (by omega)) _ 1 1 [(np:Int)] fp (by intro z hz;simp at hz;subst hz;exact ⟨by omega,by omega⟩) (by have:=HL.out;omega);have ij:=aA cm;clear cm fp;go_enter func114,ntmps114;go_wp2_with fail;refine (qR A n c w hl.2.1 hl.2.2).mono ?_;rintro e w1 ⟨rfl,rfl⟩;go_wp2_with fail;refine (ij.out).mono ?_;rintro e w2 ⟨v2,Ga,rfl,yk,ar,_⟩;go_wp2;have dd:(l++aI [(np:Int)]).length<=n+10:=by
  have h1:=cG [(np:Int)] (by intro z hz;simp at hz;subst hz;exact ⟨by omega,by omega⟩);have h2:=HL.out;rw [List.length_append];rw [List.length_singleton] at h1;omega
 go_loopw [0,15] (λv i wr=>∃(k:Nat) (row:Option Nat),i= .int .i64 k/\k<=np/\Acc wr w1.heap.size row v (l++aI ([(np:Int)]++(ps.take k).flatMap Pg.l))/\(l++aI ([(np:Int)]++(ps.take k).flatMap Pg.l)).length<=n+10+k*30000000/\Below w1.heap.size w1 wr) (λ_ i _=>np-(intOf i).toNat);case atStart=>exact ⟨0,Ga,rfl,by omega,by simpa using yk,by simpa using dd,ar⟩
 case round=>
  clear yk ar dd;obtain ⟨k,row,rfl,hk,cd,o7,ag⟩:=hrel;by_cases af:k<np
  ·obtain ⟨b,off,x,p,rfl,Ur,j6,Li,zi,fq,c0,c1⟩:=(hP.ext ag).at_ af;have Ch:=Fc.out p (List.mem_of_getElem? Li);have nx:=lA Pg.l ps k p Li;have gy:=fq.len;have nd:=aA gy.1;obtain ⟨lk,nf⟩:=eX (l++aI ([(np:Int)]++(ps.take k).flatMap Pg.l));have mf:l++aI ([(np:Int)]++(ps.take (k+1)).flatMap Pg.l)=lk++aI [p.num,(p.cells.length:Int)]++aI p.cells:=by
    rw [nx,nf,show Pg.l p=[p.num,(p.cells.length:Int)]++p.cells from rfl];simp only [fA,List.append_assoc]
   have C7:=aA mf;rw [<-nf] at cd o7;have ef:=ag.size;have V8:=aA zi;clear Li nx mf nf zi
   -- the page's box,and the two numbers
   obtain ⟨W3,ig⟩:=eX (wr.alloc (.cells #[.int .i64 x.num,.slice x.A x.n x.c] 163));have ea:Below wr.heap.size wr W3:=by rw [ig];exact (Below.refl _ _).alloc (Nat.le_refl _) _
   have r3:W3.heap[wr.heap.size]? =some (.cells #[.int .i64 x.num,.slice x.A x.n x.c] 163 (0,0)):=by rw [ig];exact heap_alloc_new _ _
   have Aj:W3.heap.size=wr.heap.size+1:=by rw [ig];simp
   have Fp:Below W3.heap.size W3 (W3.alloc (.cells #[.int .i64 x.num,.int .i64 (x.n:Int)] 3)):=(Below.refl _ _).alloc (Nat.le_refl _) _;have ha4:=Below.ext ea Fp;have fp:=(mA W3 3 [x.num,(x.n:Int)] #[.int .i64 x.num,.int .i64 (x.n:Int)] 2 rfl rfl (by omega)).mono (S' :=λb=>row≠some b) (λb _ h=>cd.avoid (.inr (by omega)));have Ns:∀z∈ [x.num,(x.n:Int)],av z:=by
    exact Tze6
   have cm:=lM w1 (W3.alloc (.cells #[.int .i64 x.num,.int .i64 (x.n:Int)] 3)) row _ lk (Below.ext ag ha4) (cd.ext ha4) _ 2 2 _ fp Ns (by omega);have L4:=aA cm;have R3:=aA r3;have HlL:=cG _ Ns;rw [Aj] at L4;clear cm fp r3;go_wp2_with fail;rw [<-ig];refine L4.out.mono ?_;rintro r w5 ⟨v5,Tq,rfl,Hg,gu,o8⟩;have r5:=(o8.block wr.heap.size (by simp;omega) (λe=>(cd.avoid (.inr (Nat.le_refl _))) e.symm)).trans ((Fp.block wr.heap.size (by omega)).trans R3.out);have q5:=fi r5;have hcs5:a7 bB (·<w1.heap.size) w5 (.slice x.A x.n x.c) p.cells:=fq.keep (λb _ hs=>(gu.block b hs).trans (ag.block b hs).symm);have cm:=lM w1 w5 Tq v5 _ gu Hg x.A x.n x.c p.cells (yF Hg hcs5) Ch.2.1 (by have:=Ch.2.2;have:=nd.out;rw [List.length_append];simp at HlL;omega);have Hput3:=aA cm;clear cm;go_wp2_with fail;refine Hput3.out.mono ?_;rintro r w6 ⟨v6,La,rfl,qk,il,_⟩;have ki:=cG p.cells Ch.2.1;have Ct:[x.num,(x.n:Int)]=[p.num,(p.cells.length:Int)]:=by rw [V8.out,nd.out]
   rw [Ct,<-C7.out] at qk;have yg:(l++aI ([(np:Int)]++(ps.take (k+1)).flatMap Pg.l)).length<=n+10+(k+1)*30000000:=by
    rw [C7.out,List.length_append,List.length_append,<-Ct];have:=Ch.2.2;simp at HlL;omega
   exact Tzcv
  ·obtain rfl:k=np:=by omega
   rw [List.take_of_length_le (by have:=Dl.out;omega)] at cd;have a9:l++aI ([(k:Int)]++ps.flatMap Pg.l)=l++aI (wk ps):=by unfold wk;rw [Dl.out]
   rw [a9] at cd;go_wp2;go_ret;exact ⟨_,rfl,cd.bytes,ag⟩
theorem aW:∀w:World,(isAgg 3).run Tryz.prog w= .ok false w:=λw=>by simp [isAgg,run_underlying underlying3]
theorem eQ:∀w:World,(isAgg 23).run Tryz.prog w= .ok false w:=λw=>by simp [isAgg,run_underlying underlying23]
theorem aM {w:World} {g:Nat} {cs:Array Value} {e:TypeId} (h:w.heap[g]? =some (.cells cs e (0,0))) (o:Nat) (v:Value) (hv:cs[o]? =some v):w.cell? ⟨g,o,none⟩=some v:=by rw [cell_of_row _ _ _ _ _ _ h];exact hv
theorem uU (v:Value) (l:List UInt8) (S:Nat->Prop) (w:World) (hv:Bytes S w v l) (Ap:Option Addr) (np cp:Nat) (ps:List Pg) (hP:Dg (·<w.heap.size) w (.slice Ap np cp) ps) (fw:∀p∈ps,wP p) (hlen:l.length<=1000000) (Xp:np<=100):
 Calls Tryz.prog 56 #[v,.slice Ap np cp] w λr w' =>∃v',r= .returned v'/\Bytes (λ_=>True) w' v' (l++aI (wk ps))/\Below w.heap.size w w' :=by
 have jd:=hP.len;have Dl:=aA jd.1;have Ee:=jd.2;have Fc:=aA fw;clear fw jd;go_enter func56,ntmps56;go_wp2_with fail;refine (dQ v (np:Int) l S w hv (by omega) ⟨by omega,by omega⟩).mono ?_;rintro e w2 ⟨v2,rfl,Eo,ar⟩;go_wp2;have XC:=fY (v:=(np:Int)) (by omega) (by omega);have he1:l++cP (np:Int)=l++aI ([(np:Int)]++(ps.take 0).flatMap Pg.l):=by simp [aI]
 go_loopw [0,5] (λv i wr=>∃(k:Nat),i= .int .i64 k/\k<=np/\Bytes (λ_=>True) wr v (l++aI ([(np:Int)]++(ps.take k).flatMap Pg.l))/\(l++aI ([(np:Int)]++(ps.take k).flatMap Pg.l)).length<=l.length+10+k*30000000/\Below w.heap.size w wr) (λ_ i _=>np-(intOf i).toNat);case atStart=>exact ⟨0,rfl,by omega,by rw [<-he1];exact Eo,by rw [<-he1,List.length_append];omega,ar⟩
 case round=>
  clear Eo ar he1;obtain ⟨k,rfl,hk,dy,o7,ag⟩:=hrel;by_cases af:k<np
  ·obtain ⟨b,off,x,p,rfl,Ur,j6,Li,zi,fq,c0,c1⟩:=(hP.ext ag).at_ af;have Ch:=Fc.out p (List.mem_of_getElem? Li);have nx:=lA Pg.l ps k p Li;have gy:=fq.len;have nd:=aA gy.1;obtain ⟨lk,nf⟩:=eX (l++aI ([(np:Int)]++(ps.take k).flatMap Pg.l));have mf:l++aI ([(np:Int)]++(ps.take (k+1)).flatMap Pg.l)=lk++aI [p.num,(p.cells.length:Int)]++aI p.cells:=by
    rw [nx,nf,show Pg.l p=[p.num,(p.cells.length:Int)]++p.cells from rfl];simp only [fA,List.append_assoc]
   have C7:=aA mf;rw [<-nf] at dy o7;have ef:=ag.size;have V8:=aA zi;have C0:=aA c0;have C1:=aA c1;clear Li nx mf nf zi c0 c1;have Fp:Below wr.heap.size wr (wr.alloc (.cells #[.int .i64 x.num,.int .i64 (x.n:Int)] 3)).drew:=((Below.refl _ _).alloc (Nat.le_refl _) _).drew;have fp:=(mA wr 3 [x.num,(x.n:Int)] #[.int .i64 x.num,.int .i64 (x.n:Int)] 2 rfl rfl (by omega)).drew;have Ns:∀z∈ [x.num,(x.n:Int)],av z:=by
    exact Tze6
   have cm:=jC _ lk _ (wr.alloc (.cells #[.int .i64 x.num,.int .i64 (x.n:Int)] 3)).drew (dy.ext Fp) _ 2 2 _ _ fp Ns (by omega);have L4:=aA cm;have HlL:=cG _ Ns;clear cm fp;have Bk:∀(w' :World) (q:Addr),Below wr.heap.size wr w'->q.block<wr.heap.size->w'.cell? q=wr.cell? q:=λw' q h hq=>h.cell hq
   have HC:=aA Bk;clear Bk;go_wp2_with fail;refine Tybl ?_;refine lL (λw' hS=>aB (aW _) ((HC.out w' ⟨b,off+k*2,none⟩ hS j6).trans C0.out)) ?_;refine Tyac ?_;refine lL (λw' hS=>aB (eQ _) ((HC.out w' ⟨b,off+k*2+1,none⟩ hS j6).trans C1.out)) ?_;refine Tyai ?_;go_wp2_with fail;refine aD Fp ?_;refine Tyah ?_;go_wp2_with fail;refine L4.out.mono ?_;rintro r w5 ⟨v5,rfl,XX,gu⟩;have b5:=Below.ext Fp gu;go_wp2_with fail;refine aD (b5) ?_;refine TkA ?_;refine lL (λw' hS=>aB (eQ _) ((HC.out w' ⟨b,off+k*2+1,none⟩ hS j6).trans C1.out)) ?_;refine Tyai ?_;go_wp2_with fail;refine (jC v5 _ _ w5 XX x.A x.n x.c p.cells _ (fq.ext b5) Ch.2.1 (by have:=Ch.2.2;have:=nd.out;rw [List.length_append];simp at HlL;omega)).mono ?_;rintro r w6 ⟨v6,rfl,xi,il⟩;have b6:=Below.ext b5 il;go_wp2_with fail;refine aD (b6) ?_;refine Tyan ?_;go_wp2_with fail;have ki:=cG p.cells Ch.2.1;have Ct:[x.num,(x.n:Int)]=[p.num,(p.cells.length:Int)]:=by rw [V8.out,nd.out]
   rw [Ct,<-C7.out] at xi;have yg:(l++aI ([(np:Int)]++(ps.take (k+1)).flatMap Pg.l)).length<=l.length+10+(k+1)*30000000:=by
    rw [C7.out,List.length_append,List.length_append,<-Ct];have:=Ch.2.2;simp at HlL;omega
   go_wp2;go_roundw;case rel=>exact ⟨k+1,by go_num,by omega,xi,yg,Below.ext ag b6⟩
   case measure=>simp [intOf];omega
  ·obtain rfl:k=np:=by omega
   rw [List.take_of_length_le (by have:=Dl.out;omega)] at dy;have a9:l++aI ([(k:Int)]++ps.flatMap Pg.l)=l++aI (wk ps):=by unfold wk;rw [Dl.out]
   rw [a9] at dy;go_wp2;go_ret;exact ⟨_,rfl,dy,ag⟩
structure n7 where
 a:Int
 b:Int
 c:Int
 d:Int
deriving DecidableEq,Inhabited
def n7.l (x:n7):List Int:=[x.a,x.b,x.c,x.d]
def cW (x:n7):List Value:=[.int .i64 x.a,.int .i64 x.b,.int .i64 x.c,.int .i64 x.d]
theorem cZ (x:n7):(cW x).length=4:=rfl
structure Ou where
 a:Int
 b:Int
deriving DecidableEq,Inhabited
def Ou.l (x:Ou):List Int:=[x.a,x.b]
def cX (x:Ou):List Value:=[.int .i64 x.a,.int .i64 x.b]
theorem dA (x:Ou):(cX x).length=2:=rfl
structure bj where
 cells:List Int
 evs:List Ev
 sent:List n7
 outs:List Ou
deriving DecidableEq,Inhabited
def bj.l (s:bj):List Int:=[(s.cells.length:Int)]++s.cells++ [(s.evs.length:Int)]++s.evs.flatMap Ev.l++ [(s.sent.length:Int)]++s.sent.flatMap n7.l++ [(s.outs.length:Int)]++s.outs.flatMap Ou.l
structure vw (s:bj):Prop where
 cells:∀z∈s.cells,av z
 evs:∀e∈s.evs,∀z∈e.l,av z
 sent:∀e∈s.sent,∀z∈e.l,av z
 outs:∀e∈s.outs,∀z∈e.l,av z
 small:s.cells.length<=2000000
theorem NU {P:Program} {code:Code} {Q:Exit->Act->World->Prop} {a:Act} {w:World} (F:Value->Option Nat->World->Prop) (mk:Value->Act)
 (h1:code.wp P (λe a' w' =>e= .normal/\∃x row,F x row w'/\a' =mk x) a w) (h2:∀x row w',F x row w'->Q .normal (mk x) w'):code.wp P Q a w:=
 Code.wp_mono (λe a' w' ⟨he,x,row,hF,ha⟩=>by subst he ha;exact h2 x row w' hF) h1
theorem rR (z:Nat) (hz:z<=1000000000):∀x∈ [(z:Int)],av x:=by
 intro x hx;simp at hx;subst hx;exact ⟨by omega,by omega⟩
theorem rL (A:Option Addr) (n c:Nat) (l:List UInt8) (S:Nat->Prop) (w:World) (hv:Bytes S w (.slice A n c) l) (s:bj) (Ac Ae As Ao:Option Addr) (nc cc ne ce ns cs no co:Nat) (hC:a7 bB (·<w.heap.size) w (.slice Ac nc cc) s.cells) (hE:a7 cH (·<w.heap.size) w (.slice Ae ne ce) s.evs) (hS:a7 cW (·<w.heap.size) w (.slice As ns cs) s.sent) (hO:a7 cX (·<w.heap.size) w (.slice Ao no co) s.outs) (fw:vw s) (hlen:n<=1000000) (fb:ne<=400) (Fo:ns<=400) (xe:no<=400):
 Calls Tryz.prog 47 #[.slice A n c,.agg #[.slice Ac nc cc,.slice Ae ne ce,.slice As ns cs,.slice Ao no co]] w λr w' =>∃v',r= .returned v'/\Bytes (λ_=>True) w' v' (l++aI s.l)/\Below w.heap.size w w' :=by
 have hl:=hv.len;have HL:=aA hl.1;have HC:=aA hC.len.1;have HE:=aA hE.len.1;have HS:=aA hS.len.1;have HO:=aA hO.len.1;have ly:=hC.len.2;have Mc:=hE.len.2;have M0:=hS.len.2;have dw:=hO.len.2;have Fc:=aA fw;have hsm:nc<=2000000:=by have:=fw.small;have:=HC.out;omega
 clear fw;obtain ⟨W,hW⟩:=eX (w.alloc (.cells #[.slice Ac nc cc,.slice Ae ne ce,.slice As ns cs,.slice Ao no co] 51));have vk:Below w.heap.size w W:=by rw [hW];exact (Below.refl _ _).alloc (Nat.le_refl _) _
 have rW:W.heap[w.heap.size]? =some (.cells #[.slice Ac nc cc,.slice Ae ne ce,.slice As ns cs,.slice Ao no co] 51 (0,0)):=by rw [hW];exact heap_alloc_new _ _
 have fo:w.heap.size<W.heap.size:=(Array.getElem?_eq_some_iff.1 rW).1;have RW:=aA rW;have Me:=(hC.ext vk).mono (S' :=(·<W.heap.size)) (λb _ h=>by omega);have Jp:=(hE.ext vk).mono (S' :=(·<W.heap.size)) (λb _ h=>by omega);have hSW:=(hS.ext vk).mono (S' :=(·<W.heap.size)) (λb _ h=>by omega);have hOW:=(hO.ext vk).mono (S' :=(·<W.heap.size)) (λb _ h=>by omega);have Zy:Below W.heap.size W (W.alloc (.cells #[.int .i64 (nc:Int)] 3)).drew:=((Below.refl _ _).alloc (Nat.le_refl _) _).drew;have fp:=vS (mA W 3 [(nc:Int)] #[.int .i64 (nc:Int)] 1 rfl rfl (by omega)).drew;have cm:=lM W (W.alloc (.cells #[.int .i64 (nc:Int)] 3)).drew none (.slice A n n) l Zy (BE (w0:=W) W.heap.size (hv.ext (Below.ext vk Zy)) (by omega)) _ 1 1 [(nc:Int)] fp (rR nc (by omega)) (by have:=HL.out;omega);have ij:=aA cm;clear rW cm fp hC hE hS hO;go_enter func47,ntmps47;go_wp2_with fail;rw [<-hW];clear hW;apply NU (λv row w' =>Acc w' W.heap.size row v (l++aI [(nc:Int)])/\Below W.heap.size W w')
 ·refine yH (Below W.heap.size W) [0,1,2,3,4,5,6,7] [0,2,3,4,5,1,6,7] 1 5 (by kernel_rfl) (by kernel_rfl) (by kernel_rfl) (by kernel_rfl) (by decide) (by decide) (by decide) (by decide) ((Below.refl _ _).drew) ?_ ?_;all_goals simp only [bK,List.filterMap_cons,List.filterMap_nil,List.getElem?_cons_zero,List.getElem?_cons_succ]
  ·refine Tyah ?_;go_wp2_with fail;refine (qR A n c W.drew hl.2.1 hl.2.2).mono ?_;rintro r w1 ⟨rfl,rfl⟩;go_wp2_with fail;refine aD ((Below.refl _ _).drew) ?_;refine Tya7 ?_;go_wp2_with fail;refine aD Zy ?_;exact Tzdw
  ·refine Tya7 ?_;go_wp2_with fail;refine aD Zy ?_;refine Tyah ?_;go_wp2_with fail;refine (qR A n c (W.alloc (.cells #[.int .i64 (nc:Int)] 3)).drew hl.2.1 hl.2.2).mono ?_;rintro r w1 ⟨rfl,rfl⟩;go_wp2_with fail;refine aD (Zy) ?_;exact Tzdw
 intro v2 Ga w2 ⟨yk,ar⟩;clear ij Zy;obtain ⟨l2,dd⟩:=eX (l++aI [(nc:Int)]);have hL2:l2.length<=n+10:=by
  have h1:=cG _ (rR nc (by omega));have h2:=HL.out;rw [dd,List.length_append];rw [List.length_singleton] at h1;omega
 rw [<-dd] at yk;have K2:=aA dd;have q2:=bn ((ar.block _ fo).trans RW.out);have cm:=lM W w2 Ga v2 l2 ar yk Ac nc cc s.cells (yF yk (Me.ext ar)) Fc.out.cells (by omega);have ij:=aA cm;clear cm dd;go_wp2_with fail;refine ij.out.mono ?_;rintro r w3 ⟨v3,row3,rfl,Pc,ea,_⟩;obtain ⟨l3,Ak⟩:=eX (l2++aI s.cells);have Sp:l3.length<=n+10+20000000:=by
  have h1:=cG _ Fc.out.cells;have h2:=HC.out;rw [Ak,List.length_append];omega
 rw [<-Ak] at Pc;have K3:=aA Ak;clear Ak q2 ij;have q3:=fi ((ea.block _ fo).trans RW.out);have Fp:Below w3.heap.size w3 (w3.alloc (.cells #[.int .i64 (ne:Int)] 3)):=(Below.refl _ _).alloc (Nat.le_refl _) _;have fp:=(mA w3 3 [(ne:Int)] #[.int .i64 (ne:Int)] 1 rfl rfl (by omega)).mono (S' :=λb=>row3≠some b) (λb _ h=>Pc.avoid (.inr (by omega)));have cm:=lM W _ row3 v3 l3 (Below.ext ea Fp) (Pc.ext Fp) _ 1 1 [(ne:Int)] fp (rR ne (by omega)) (by omega);have ij:=aA cm;clear cm fp;go_wp2_with fail;refine ij.out.mono ?_;rintro r w4 ⟨v4,row4,rfl,Pb,ia,_⟩;obtain ⟨l4,Ir⟩:=eX (l3++aI [(ne:Int)]);have Mb:l4.length<=n+20000020:=by
  have h1:=cG _ (rR ne (by omega));rw [Ir,List.length_append];rw [List.length_singleton] at h1;omega
 rw [<-Ir] at Pb;have K4:=aA Ir;have q4:=fi ((ia.block _ fo).trans RW.out);clear Ir q3 ij Fp;go_wp2;go_loopw [0,31] (λv i wr=>∃(k:Nat) (row:Option Nat),i= .int .i64 k/\k<=ne/\Acc wr W.heap.size row v (l4++aI ((s.evs.take k).flatMap Ev.l))/\(l4++aI ((s.evs.take k).flatMap Ev.l)).length<=n+20000020+k*70/\Below W.heap.size W wr) (λ_ i _=>ne-(intOf i).toNat);case atStart=>exact ⟨0,row4,rfl,by omega,by simpa [aI] using Pb,by simpa [aI] using Mb,ia⟩
 case round=>
  clear Pb ia q4;obtain ⟨k,row,rfl,hk,cd,o7,ag⟩:=hrel;by_cases af:k<ne
  ·obtain ⟨b,off,x,rfl,Ur,j6,Bb,hc⟩:=(Jp.ext ag).at_ cN (j:=k) (by have:=HE.out;omega) (by omega);have Cq:=Fc.out.evs x (List.mem_of_getElem? Bb);have nx:=lA Ev.l s.evs k x Bb;have c0:=hc 0 _ rfl;have c1:=hc 1 _ rfl;have c2:=hc 2 _ rfl;have c3:=hc 3 _ rfl;have c4:=hc 4 _ rfl;have c5:=hc 5 _ rfl;have c6:=hc 6 _ rfl;rw [Nat.add_zero] at c0;obtain ⟨lk,nf⟩:=eX (l4++aI ((s.evs.take k).flatMap Ev.l));have mf:l4++aI ((s.evs.take (k+1)).flatMap Ev.l)=lk++aI x.l:=by rw [nx,nf,fA,List.append_assoc]
   have C7:=aA mf;rw [<-nf] at cd o7;have ef:=ag.size;clear Bb nx mf nf hc;obtain ⟨W5,nj⟩:=eX (wr.alloc (.cells #[.int .i64 x.k0,.int .i64 x.k1,.int .i64 x.k2,.int .i64 x.k3,.int .i64 x.k4,.int .i64 x.k5,.int .i64 x.k6] 78));have gu:Below wr.heap.size wr W5:=by rw [nj];exact (Below.refl _ _).alloc (Nat.le_refl _) _
   have cm:=EP W W5 row _ lk (Below.ext ag gu) (cd.ext gu) x Cq (by omega);unfold N9 at cm;have ij:=aA cm;clear cm;go_wp2_with fail;rw [<-nj];refine ij.out.mono ?_;rintro r w6 ⟨v6,La,rfl,qk,il⟩;have ki:=cG x.l Cq;rw [<-C7.out] at qk;have yg:(l4++aI ((s.evs.take (k+1)).flatMap Ev.l)).length<=n+20000020+(k+1)*70:=by
    rw [C7.out,List.length_append];have:x.l.length=7:=rfl;omega
   exact Tzcv
  ·obtain rfl:k=ne:=by omega
   rw [List.take_of_length_le (by have:=HE.out;omega)] at cd o7;obtain ⟨l5,Xv⟩:=eX (l4++aI (s.evs.flatMap Ev.l));rw [<-Xv] at cd o7;have K5:=aA Xv;have hL5:l5.length<=n+20028020:=by omega
   clear Xv o7;obtain ⟨v5,Kh⟩:=eX u0;obtain ⟨w5,Mv⟩:=eX wr;obtain ⟨Tq,Nv⟩:=eX row;rw [<-Nv] at cd;clear Nv;rw [<-Mv] at cd ag;rw [<-Kh] at cd;have gu:=ag;have Hg:=cd;rw [<-Mv,<-Kh];clear Mv Kh cd ag;have q5:=gn ((gu.block _ fo).trans RW.out);have Y9:Below w5.heap.size w5 (w5.alloc (.cells #[.int .i64 (ns:Int)] 3)):=(Below.refl _ _).alloc (Nat.le_refl _) _;have fp:=(mA w5 3 [(ns:Int)] #[.int .i64 (ns:Int)] 1 rfl rfl (by omega)).mono (S' :=λb=>Tq≠some b) (λb _ h=>Hg.avoid (.inr (by omega)));have cm:=lM W _ Tq v5 l5 (Below.ext gu Y9) (Hg.ext Y9) _ 1 1 [(ns:Int)] fp (rR ns (by omega)) (by omega);have ij:=aA cm;clear cm fp;go_wp2_with fail;refine ij.out.mono ?_;rintro r w6 ⟨v6,La,rfl,qk,il,_⟩;obtain ⟨l6,U8⟩:=eX (l5++aI [(ns:Int)]);have hL6:l6.length<=n+20028030:=by
    have h1:=cG _ (rR ns (by omega));rw [U8,List.length_append];rw [List.length_singleton] at h1;omega
   rw [<-U8] at qk;have K6:=aA U8;have q6:=gn ((il.block _ fo).trans RW.out);clear U8 q5 ij Y9;go_wp2;go_loopw [0,48] (λv i wr=>∃(k:Nat) (row:Option Nat),i= .int .i64 k/\k<=ns/\Acc wr W.heap.size row v (l6++aI ((s.sent.take k).flatMap n7.l))/\(l6++aI ((s.sent.take k).flatMap n7.l)).length<=n+20028030+k*40/\Below W.heap.size W wr) (λ_ i _=>ns-(intOf i).toNat);case atStart=>exact ⟨0,La,rfl,by omega,by simpa [aI] using qk,by simpa [aI] using hL6,il⟩
   case round=>
    clear qk il q6;obtain ⟨k,row,rfl,hk,cd,o7,ag⟩:=hrel;by_cases af:k<ns
    ·obtain ⟨b,off,x,rfl,Ur,j6,Bb,hc⟩:=(hSW.ext ag).at_ cZ (j:=k) (by have:=HS.out;omega) (by omega);have Cq:=Fc.out.sent x (List.mem_of_getElem? Bb);have nx:=lA n7.l s.sent k x Bb;have c0:=hc 0 _ rfl;have c1:=hc 1 _ rfl;have c2:=hc 2 _ rfl;have c3:=hc 3 _ rfl;rw [Nat.add_zero] at c0;obtain ⟨lk,nf⟩:=eX (l6++aI ((s.sent.take k).flatMap n7.l));have mf:l6++aI ((s.sent.take (k+1)).flatMap n7.l)=lk++aI x.l:=by rw [nx,nf,fA,List.append_assoc]
     have C7:=aA mf;rw [<-nf] at cd o7;have ef:=ag.size;clear Bb nx mf nf hc;obtain ⟨W5,nj⟩:=eX (wr.alloc (.cells #[.int .i64 x.a,.int .i64 x.b,.int .i64 x.c,.int .i64 x.d] 127));have gu:Below wr.heap.size wr W5:=by rw [nj];exact (Below.refl _ _).alloc (Nat.le_refl _) _
     have jw:W5.heap.size=wr.heap.size+1:=by rw [nj];simp
     have Y9:Below W5.heap.size W5 (W5.alloc (.cells #[.int .i64 x.a,.int .i64 x.b,.int .i64 x.c,.int .i64 x.d] 3)):=(Below.refl _ _).alloc (Nat.le_refl _) _;have ha6:=Below.ext gu Y9;have fp:=(mA W5 3 x.l #[.int .i64 x.a,.int .i64 x.b,.int .i64 x.c,.int .i64 x.d] 4 rfl rfl (by omega)).mono (S' :=λb=>row≠some b) (λb _ h=>cd.avoid (.inr (by omega)));have cm:=lM W _ row _ lk (Below.ext ag ha6) (cd.ext ha6) _ 4 4 x.l fp Cq (by omega);rw [jw] at cm;have ij:=aA cm;clear cm fp;go_wp2_with fail;rw [<-nj];refine ij.out.mono ?_;rintro r w6 ⟨v6,La,rfl,qk,il,_⟩;have ki:=cG x.l Cq;rw [<-C7.out] at qk;have yg:(l6++aI ((s.sent.take (k+1)).flatMap n7.l)).length<=n+20028030+(k+1)*40:=by
      rw [C7.out,List.length_append];have:x.l.length=4:=rfl;omega
     exact Tzcv
    ·obtain rfl:k=ns:=by omega
     rw [List.take_of_length_le (by have:=HS.out;omega)] at cd o7;obtain ⟨l7,Xu⟩:=eX (l6++aI (s.sent.flatMap n7.l));rw [<-Xu] at cd o7;have K7:=aA Xu;have hL7:l7.length<=n+20044030:=by omega
     clear Xu o7;obtain ⟨v7,Mw⟩:=eX u0;obtain ⟨w7,Xc⟩:=eX wr;obtain ⟨row7,hr7⟩:=eX row;rw [<-hr7] at cd;clear hr7;rw [<-Xc] at cd ag;rw [<-Mw] at cd;have vj:=ag;have Wa:=cd;rw [<-Xc,<-Mw];clear Xc Mw cd ag;have q7:=lj ((vj.block _ fo).trans RW.out);have ha7:Below w7.heap.size w7 (w7.alloc (.cells #[.int .i64 (no:Int)] 3)):=(Below.refl _ _).alloc (Nat.le_refl _) _;have fp:=(mA w7 3 [(no:Int)] #[.int .i64 (no:Int)] 1 rfl rfl (by omega)).mono (S' :=λb=>row7≠some b) (λb _ h=>Wa.avoid (.inr (by omega)));have cm:=lM W _ row7 v7 l7 (Below.ext vj ha7) (Wa.ext ha7) _ 1 1 [(no:Int)] fp (rR no (by omega)) (by omega);have ij:=aA cm;clear cm fp;go_wp2_with fail;refine ij.out.mono ?_;rintro r w8 ⟨v8,row8,rfl,Pa,Bl,_⟩;obtain ⟨l8,U7⟩:=eX (l7++aI [(no:Int)]);have hL8:l8.length<=n+20044050:=by
      have h1:=cG _ (rR no (by omega));rw [U7,List.length_append];rw [List.length_singleton] at h1;omega
     rw [<-U7] at Pa;have K8:=aA U7;have q8:=lj ((Bl.block _ fo).trans RW.out);clear U7 q7 ij ha7;go_wp2;go_loopw [0,73] (λv i wr=>∃(k:Nat) (row:Option Nat),i= .int .i64 k/\k<=no/\Acc wr W.heap.size row v (l8++aI ((s.outs.take k).flatMap Ou.l))/\(l8++aI ((s.outs.take k).flatMap Ou.l)).length<=n+20044050+k*20/\Below W.heap.size W wr) (λ_ i _=>no-(intOf i).toNat);case atStart=>exact ⟨0,row8,rfl,by omega,by simpa [aI] using Pa,by simpa [aI] using hL8,Bl⟩
     case round=>
      clear Pa Bl q8;obtain ⟨k,row,rfl,hk,cd,o7,ag⟩:=hrel;by_cases af:k<no
      ·obtain ⟨b,off,x,rfl,Ur,j6,Bb,hc⟩:=(hOW.ext ag).at_ dA (j:=k) (by have:=HO.out;omega) (by omega);have Cq:=Fc.out.outs x (List.mem_of_getElem? Bb);have nx:=lA Ou.l s.outs k x Bb;have c0:=hc 0 _ rfl;have c1:=hc 1 _ rfl;rw [Nat.add_zero] at c0;obtain ⟨lk,nf⟩:=eX (l8++aI ((s.outs.take k).flatMap Ou.l));have mf:l8++aI ((s.outs.take (k+1)).flatMap Ou.l)=lk++aI x.l:=by rw [nx,nf,fA,List.append_assoc]
       have C7:=aA mf;rw [<-nf] at cd o7;have ef:=ag.size;clear Bb nx mf nf hc;obtain ⟨W5,nj⟩:=eX (wr.alloc (.cells #[.int .i64 x.a,.int .i64 x.b] 129));have gu:Below wr.heap.size wr W5:=by rw [nj];exact (Below.refl _ _).alloc (Nat.le_refl _) _
       have jw:W5.heap.size=wr.heap.size+1:=by rw [nj];simp
       have Y9:Below W5.heap.size W5 (W5.alloc (.cells #[.int .i64 x.a,.int .i64 x.b] 3)):=(Below.refl _ _).alloc (Nat.le_refl _) _;have ha6:=Below.ext gu Y9;have fp:=(mA W5 3 x.l #[.int .i64 x.a,.int .i64 x.b] 2 rfl rfl (by omega)).mono (S' :=λb=>row≠some b) (λb _ h=>cd.avoid (.inr (by omega)));have cm:=lM W _ row _ lk (Below.ext ag ha6) (cd.ext ha6) _ 2 2 x.l fp Cq (by omega);rw [jw] at cm;have ij:=aA cm;clear cm fp;go_wp2_with fail;rw [<-nj];refine ij.out.mono ?_;rintro r w6 ⟨v6,La,rfl,qk,il,_⟩;have ki:=cG x.l Cq;rw [<-C7.out] at qk;have yg:(l8++aI ((s.outs.take (k+1)).flatMap Ou.l)).length<=n+20044050+(k+1)*20:=by
        rw [C7.out,List.length_append];have:x.l.length=2:=rfl;omega
       exact Tzcv
      ·obtain rfl:k=no:=by omega
       rw [List.take_of_length_le (by have:=HO.out;omega)] at cd o7;obtain ⟨l9,O6⟩:=eX (l8++aI (s.outs.flatMap Ou.l));rw [<-O6] at cd o7;have K9:=aA O6;have hL9:l9.length<=n+20052050:=by omega
       clear O6 o7;obtain ⟨v9,Eb⟩:=eX u0;obtain ⟨w9,Xb⟩:=eX wr;obtain ⟨row9,VD⟩:=eX row;rw [<-VD] at cd;clear VD;rw [<-Xb] at cd ag;rw [<-Eb] at cd;have gf:=ag;have hacc9:=cd;rw [<-Xb,<-Eb];clear Xb Eb cd ag;have a9:l++aI s.l=l9:=by
        unfold bj.l;rw [K9.out,K8.out,K7.out,K6.out,K5.out,K4.out,K3.out,K2.out,HC.out,HE.out,HS.out,HO.out];simp only [fA,List.append_assoc]
       go_wp2;go_ret;exact ⟨_,rfl,by rw [a9];exact hacc9.bytes,Below.ext vk gf⟩
theorem iD:∀w:World,(isAgg 30).run Tryz.prog w= .ok false w:=λw=>by simp [isAgg,run_underlying underlying30]
theorem qU:∀w:World,(isAgg 48).run Tryz.prog w= .ok false w:=λw=>by simp [isAgg,run_underlying underlying48]
theorem DQ:∀w:World,(isAgg 49).run Tryz.prog w= .ok false w:=λw=>by simp [isAgg,run_underlying underlying49]
theorem oV (v:Value) (l:List UInt8) (S:Nat->Prop) (w:World) (hv:Bytes S w v l) (s:bj) (Ac Ae As Ao:Option Addr) (nc cc ne ce ns cs no co:Nat) (hC:a7 bB (·<w.heap.size) w (.slice Ac nc cc) s.cells) (hE:a7 cH (·<w.heap.size) w (.slice Ae ne ce) s.evs) (hS:a7 cW (·<w.heap.size) w (.slice As ns cs) s.sent) (hO:a7 cX (·<w.heap.size) w (.slice Ao no co) s.outs) (fw:vw s) (hlen:l.length<=1000000) (fb:ne<=100) (Fo:ns<=100) (xe:no<=100):
 Calls Tryz.prog 34 #[v,.agg #[.slice Ac nc cc,.slice Ae ne ce,.slice As ns cs,.slice Ao no co]] w λr w' =>∃v',r= .returned v'/\Bytes (λ_=>True) w' v' (l++aI s.l)/\Below w.heap.size w w' :=by
 have HC:=aA hC.len.1;have HE:=aA hE.len.1;have HS:=aA hS.len.1;have HO:=aA hO.len.1;have ly:=hC.len.2;have Mc:=hE.len.2;have M0:=hS.len.2;have dw:=hO.len.2;have Fc:=aA fw;have hsm:nc<=2000000:=by have:=fw.small;have:=HC.out;omega
 clear fw;obtain ⟨W,hW⟩:=eX (w.alloc (.cells #[.slice Ac nc cc,.slice Ae ne ce,.slice As ns cs,.slice Ao no co] 51));have vk:Below w.heap.size w W:=by rw [hW];exact (Below.refl _ _).alloc (Nat.le_refl _) _
 have rW:W.heap[w.heap.size]? =some (.cells #[.slice Ac nc cc,.slice Ae ne ce,.slice As ns cs,.slice Ao no co] 51 (0,0)):=by rw [hW];exact heap_alloc_new _ _
 have fo:w.heap.size<W.heap.size:=(Array.getElem?_eq_some_iff.1 rW).1;have RW:=aA rW;have Me:=hC.ext vk;have Jp:=hE.ext vk;have hSW:=hS.ext vk;have hOW:=hO.ext vk;have hvW:=hv.ext vk;clear rW hC hE hS hO;go_enter func34,ntmps34;go_wp2_with fail;rw [<-hW];clear hW;refine aH (Below W.heap.size W) (by kernel_rfl) (by kernel_rfl) ((Below.refl _ _).drew) ?_;refine Tya7 ?_;go_wp2_with fail;refine (dQ v (nc:Int) l _ W.drew (hvW.ext (Below.refl _ _).drew) (by omega) ⟨by omega,by omega⟩).mono ?_;rintro r w2 ⟨v2,rfl,Eo,Hb⟩;have ar:Below W.heap.size W w2:=Below.ext (Below.refl _ _).drew Hb;obtain ⟨l2,dd⟩:=eX (l++cP (nc:Int));have XC:=fY (v:=(nc:Int)) (by omega) (by omega);have hL2:l2.length<=l.length+10:=by rw [dd,List.length_append];omega
 rw [<-dd] at Eo;have K2:=aA dd;clear dd Hb;go_wp2_with fail;refine aD (ar) ?_;refine Tya7 ?_;go_wp2_with fail;refine (jC v2 l2 _ w2 Eo Ac nc cc s.cells _ (Me.ext ar) Fc.out.cells (by omega)).mono ?_;rintro r w3 ⟨v3,rfl,hby3,Bm⟩;have ea:=Below.ext ar Bm;obtain ⟨l3,Ak⟩:=eX (l2++aI s.cells);have Sp:l3.length<=l.length+10+20000000:=by
  have h1:=cG _ Fc.out.cells;have h2:=HC.out;rw [Ak,List.length_append];omega
 rw [<-Ak] at hby3;have K3:=aA Ak;clear Ak Bm;go_wp2_with fail;refine aD (ea) ?_;refine Tyan ?_;have q3:=fi ((ea.block _ fo).trans RW.out);go_wp2_with fail;refine (dQ v3 (ne:Int) l3 _ w3 hby3 (by omega) ⟨by omega,by omega⟩).mono ?_;rintro r w4 ⟨v4,rfl,XY,Ha⟩;have ia:=Below.ext ea Ha;obtain ⟨l4,Ir⟩:=eX (l3++cP (ne:Int));have hi4:=fY (v:=(ne:Int)) (by omega) (by omega);have Mb:l4.length<=l.length+20000020:=by rw [Ir,List.length_append];omega
 rw [<-Ir] at XY;have K4:=aA Ir;clear Ir q3 Ha;go_wp2;go_loopw [0,5] (λv i wr=>∃(k:Nat),i= .int .i64 k/\k<=ne/\Bytes (λ_=>True) wr v (l4++aI ((s.evs.take k).flatMap Ev.l))/\(l4++aI ((s.evs.take k).flatMap Ev.l)).length<=l.length+20000020+k*70/\Below W.heap.size W wr) (λ_ i _=>ne-(intOf i).toNat);case atStart=>exact ⟨0,rfl,by omega,by simpa [aI] using XY,by simpa [aI] using Mb,ia⟩
 case round=>
  clear XY ia;obtain ⟨k,rfl,hk,dy,o7,ag⟩:=hrel;have qq:=fi ((ag.block _ fo).trans RW.out);by_cases af:k<ne
  ·obtain ⟨b,off,x,rfl,Ur,j6,Bb,hc⟩:=(Jp.ext ag).at_ cN (j:=k) (by have:=HE.out;omega) (by omega);have Cq:=Fc.out.evs x (List.mem_of_getElem? Bb);have nx:=lA Ev.l s.evs k x Bb;have c0:=hc 0 _ rfl;have c1:=hc 1 _ rfl;have c2:=hc 2 _ rfl;have c3:=hc 3 _ rfl;have c4:=hc 4 _ rfl;have c5:=hc 5 _ rfl;have c6:=hc 6 _ rfl;rw [Nat.add_zero] at c0;obtain ⟨lk,nf⟩:=eX (l4++aI ((s.evs.take k).flatMap Ev.l));have mf:l4++aI ((s.evs.take (k+1)).flatMap Ev.l)=lk++aI x.l:=by rw [nx,nf,fA,List.append_assoc]
   have C7:=aA mf;rw [<-nf] at dy o7;have ef:=ag.size;clear Bb nx mf nf hc;have cm:=uV _ lk _ wr dy x Cq (by omega);unfold N9 at cm;have ij:=aA cm;clear cm;go_wp2_with fail;refine ij.out.mono ?_;rintro r w6 ⟨v6,rfl,xi,il⟩;have ki:=cG x.l Cq;rw [<-C7.out] at xi;have yg:(l4++aI ((s.evs.take (k+1)).flatMap Ev.l)).length<=l.length+20000020+(k+1)*70:=by
    rw [C7.out,List.length_append];have:x.l.length=7:=rfl;omega
   exact Tzde
  ·obtain rfl:k=ne:=by omega
   rw [List.take_of_length_le (by have:=HE.out;omega)] at dy o7;obtain ⟨l5,Xv⟩:=eX (l4++aI (s.evs.flatMap Ev.l));rw [<-Xv] at dy o7;have K5:=aA Xv;have hL5:l5.length<=l.length+20007020:=by omega
   clear Xv o7;obtain ⟨v5,Kh⟩:=eX u0;obtain ⟨w5,Mv⟩:=eX wr;rw [<-Mv] at dy ag qq;rw [<-Kh] at dy;have gu:=ag;have XX:=dy;rw [<-Mv,<-Kh];clear Mv Kh dy ag;have q5:=gn ((gu.block _ fo).trans RW.out);go_wp2_with fail;refine (dQ v5 (ns:Int) l5 _ w5 XX (by omega) ⟨by omega,by omega⟩).mono ?_;rintro r w6 ⟨v6,rfl,xi,Lx⟩;have il:=Below.ext gu Lx;obtain ⟨l6,U8⟩:=eX (l5++cP (ns:Int));have hi6:=fY (v:=(ns:Int)) (by omega) (by omega);have hL6:l6.length<=l.length+20007030:=by rw [U8,List.length_append];omega
   rw [<-U8] at xi;have K6:=aA U8;clear U8 q5 Lx;go_wp2;go_loopw [0,6] (λv i wr=>∃(k:Nat),i= .int .i64 k/\k<=ns/\Bytes (λ_=>True) wr v (l6++aI ((s.sent.take k).flatMap n7.l))/\(l6++aI ((s.sent.take k).flatMap n7.l)).length<=l.length+20007030+k*40/\Below W.heap.size W wr) (λ_ i _=>ns-(intOf i).toNat);case atStart=>exact ⟨0,rfl,by omega,by simpa [aI] using xi,by simpa [aI] using hL6,il⟩
   case round=>
    clear xi il;obtain ⟨k,rfl,hk,dy,o7,ag⟩:=hrel;have qq:=gn ((ag.block _ fo).trans RW.out);by_cases af:k<ns
    ·obtain ⟨b,off,x,rfl,Ur,j6,Bb,hc⟩:=(hSW.ext ag).at_ cZ (j:=k) (by have:=HS.out;omega) (by omega);have Cq:=Fc.out.sent x (List.mem_of_getElem? Bb);have nx:=lA n7.l s.sent k x Bb;have c0:=hc 0 _ rfl;have c1:=hc 1 _ rfl;have c2:=hc 2 _ rfl;have c3:=hc 3 _ rfl;rw [Nat.add_zero] at c0;obtain ⟨lk,nf⟩:=eX (l6++aI ((s.sent.take k).flatMap n7.l));have mf:l6++aI ((s.sent.take (k+1)).flatMap n7.l)=lk++aI x.l:=by rw [nx,nf,fA,List.append_assoc]
     have C7:=aA mf;rw [<-nf] at dy o7;have ef:=ag.size;clear Bb nx mf nf hc;have C0:=aA c0;have C1:=aA c1;have C2:=aA c2;have C3:=aA c3;clear c0 c1 c2 c3;have Bk:∀(w' :World) (q:Addr),Below wr.heap.size wr w'->q.block<wr.heap.size->w'.cell? q=wr.cell? q:=λw' q h hq=>h.cell hq
     have YY:=aA Bk;have rr:=(ag.block _ fo).trans RW.out;have TX:w.heap.size<wr.heap.size:=(Array.getElem?_eq_some_iff.1 rr).1;have RR:=aA rr;have Fp:Below wr.heap.size wr (wr.alloc (.cells #[.int .i64 x.a,.int .i64 x.b,.int .i64 x.c,.int .i64 x.d] 3)).drew:=((Below.refl _ _).alloc (Nat.le_refl _) _).drew;have fp:=(mA wr 3 x.l #[.int .i64 x.a,.int .i64 x.b,.int .i64 x.c,.int .i64 x.d] 4 rfl rfl (by omega)).drew;have cm:=jC _ lk _ (wr.alloc (.cells #[.int .i64 x.a,.int .i64 x.b,.int .i64 x.c,.int .i64 x.d] 3)).drew (dy.ext Fp) _ 4 4 x.l _ fp Cq (by omega);have ij:=aA cm;clear Bk rr cm fp;go_wp2_with fail;refine Tybl ?_;refine Tybe ?_;refine lL (λw' hS=>aB (aW _) ((YY.out w' ⟨b,off+k*4,none⟩ hS j6).trans C0.out)) ?_;refine Tyac ?_;refine Tybe ?_;refine lL (λw' hS=>aB (aW _) ((YY.out w' ⟨b,off+k*4+1,none⟩ hS j6).trans C1.out)) ?_;refine Tyac ?_;refine Tybe ?_;refine lL (λw' hS=>aB (aW _) ((YY.out w' ⟨b,off+k*4+2,none⟩ hS j6).trans C2.out)) ?_;refine Tyac ?_;refine Tybe ?_;refine lL (λw' hS=>aB (aW _) ((YY.out w' ⟨b,off+k*4+3,none⟩ hS j6).trans C3.out)) ?_;refine Tyai ?_;go_wp2_with fail;refine aD Fp ?_;refine Tyah ?_;go_wp2_with fail;refine ij.out.mono ?_;rintro r w6 ⟨v6,rfl,xi,Lx⟩;have il:=Below.ext Fp Lx;go_wp2_with fail;refine aD (il) ?_;refine Tyan ?_;go_wp2_with fail;have ki:=cG x.l Cq;rw [<-C7.out] at xi;have yg:(l6++aI ((s.sent.take (k+1)).flatMap n7.l)).length<=l.length+20007030+(k+1)*40:=by
      rw [C7.out,List.length_append];have:x.l.length=4:=rfl;omega
     exact Tzde
    ·obtain rfl:k=ns:=by omega
     rw [List.take_of_length_le (by have:=HS.out;omega)] at dy o7;obtain ⟨l7,Xu⟩:=eX (l6++aI (s.sent.flatMap n7.l));rw [<-Xu] at dy o7;have K7:=aA Xu;have hL7:l7.length<=l.length+20011030:=by omega
     clear Xu o7;obtain ⟨v7,Mw⟩:=eX u0;obtain ⟨w7,Xc⟩:=eX wr;rw [<-Xc] at dy ag qq;rw [<-Mw] at dy;have vj:=ag;have hby7:=dy;rw [<-Xc,<-Mw];clear Xc Mw dy ag;have q7:=lj ((vj.block _ fo).trans RW.out);go_wp2_with fail;refine (dQ v7 (no:Int) l7 _ w7 hby7 (by omega) ⟨by omega,by omega⟩).mono ?_;rintro r w8 ⟨v8,rfl,XW,hb8'⟩;have Bl:=Below.ext vj hb8';obtain ⟨l8,U7⟩:=eX (l7++cP (no:Int));have hi8:=fY (v:=(no:Int)) (by omega) (by omega);have hL8:l8.length<=l.length+20011050:=by rw [U7,List.length_append];omega
     rw [<-U7] at XW;have K8:=aA U7;clear U7 q7 hb8';go_wp2;go_loopw [0,7] (λv i wr=>∃(k:Nat),i= .int .i64 k/\k<=no/\Bytes (λ_=>True) wr v (l8++aI ((s.outs.take k).flatMap Ou.l))/\(l8++aI ((s.outs.take k).flatMap Ou.l)).length<=l.length+20011050+k*20/\Below W.heap.size W wr) (λ_ i _=>no-(intOf i).toNat);case atStart=>exact ⟨0,rfl,by omega,by simpa [aI] using XW,by simpa [aI] using hL8,Bl⟩
     case round=>
      clear XW Bl;obtain ⟨k,rfl,hk,dy,o7,ag⟩:=hrel;have qq:=lj ((ag.block _ fo).trans RW.out);by_cases af:k<no
      ·obtain ⟨b,off,x,rfl,Ur,j6,Bb,hc⟩:=(hOW.ext ag).at_ dA (j:=k) (by have:=HO.out;omega) (by omega);have Cq:=Fc.out.outs x (List.mem_of_getElem? Bb);have nx:=lA Ou.l s.outs k x Bb;have c0:=hc 0 _ rfl;have c1:=hc 1 _ rfl;rw [Nat.add_zero] at c0;obtain ⟨lk,nf⟩:=eX (l8++aI ((s.outs.take k).flatMap Ou.l));have mf:l8++aI ((s.outs.take (k+1)).flatMap Ou.l)=lk++aI x.l:=by rw [nx,nf,fA,List.append_assoc]
       have C7:=aA mf;rw [<-nf] at dy o7;have ef:=ag.size;clear Bb nx mf nf hc;have C0:=aA c0;have C1:=aA c1;clear c0 c1;have Bk:∀(w' :World) (q:Addr),Below wr.heap.size wr w'->q.block<wr.heap.size->w'.cell? q=wr.cell? q:=λw' q h hq=>h.cell hq
       have YY:=aA Bk;have rr:=(ag.block _ fo).trans RW.out;have TX:w.heap.size<wr.heap.size:=(Array.getElem?_eq_some_iff.1 rr).1;have RR:=aA rr;have Fp:Below wr.heap.size wr (wr.alloc (.cells #[.int .i64 x.a,.int .i64 x.b] 3)).drew:=((Below.refl _ _).alloc (Nat.le_refl _) _).drew;have fp:=(mA wr 3 x.l #[.int .i64 x.a,.int .i64 x.b] 2 rfl rfl (by omega)).drew;have cm:=jC _ lk _ (wr.alloc (.cells #[.int .i64 x.a,.int .i64 x.b] 3)).drew (dy.ext Fp) _ 2 2 x.l _ fp Cq (by omega);have ij:=aA cm;clear Bk rr cm fp;go_wp2_with fail;refine Tybl ?_;refine lL (λw' hS=>aB (DQ _) (lj ((hS.block _ TX).trans RR.out))) ?_;refine Tyac ?_;refine lL (λw' hS=>aB (aW _) ((YY.out w' ⟨b,off+k*2,none⟩ hS j6).trans C0.out)) ?_;refine Tyac ?_;refine lL (λw' hS=>aB (DQ _) (lj ((hS.block _ TX).trans RR.out))) ?_;refine Tyac ?_;refine lL (λw' hS=>aB (aW _) ((YY.out w' ⟨b,off+k*2+1,none⟩ hS j6).trans C1.out)) ?_;refine Tyai ?_;go_wp2_with fail;refine aD Fp ?_;refine Tyah ?_;go_wp2_with fail;refine ij.out.mono ?_;rintro r w6 ⟨v6,rfl,xi,Lx⟩;have il:=Below.ext Fp Lx;go_wp2_with fail;refine aD (il) ?_;refine Tyan ?_;go_wp2_with fail;have ki:=cG x.l Cq;rw [<-C7.out] at xi;have yg:(l8++aI ((s.outs.take (k+1)).flatMap Ou.l)).length<=l.length+20011050+(k+1)*20:=by
        rw [C7.out,List.length_append];have:x.l.length=2:=rfl;omega
       exact Tzde
      ·obtain rfl:k=no:=by omega
       rw [List.take_of_length_le (by have:=HO.out;omega)] at dy o7;obtain ⟨l9,O6⟩:=eX (l8++aI (s.outs.flatMap Ou.l));rw [<-O6] at dy o7;have K9:=aA O6;have hL9:l9.length<=l.length+20013050:=by omega
       clear O6 o7;obtain ⟨v9,Eb⟩:=eX u0;obtain ⟨w9,Xb⟩:=eX wr;rw [<-Xb] at dy ag qq;rw [<-Eb] at dy;have gf:=ag;have hby9:=dy;rw [<-Xb,<-Eb];clear Xb Eb dy ag;have he:∀z:Int,cP z=aI [z]:=λz=>by simp [aI]
       have a9:l++aI s.l=l9:=by
        unfold bj.l;rw [K9.out,K8.out,K7.out,K6.out,K5.out,K4.out,K3.out,K2.out,HC.out,HE.out,HS.out,HO.out,he,he,he,he];simp only [fA,List.append_assoc]
       have n8:=aA a9;clear he a9;go_wp2;go_ret;exact ⟨_,rfl,by rw [n8.out];exact hby9,Below.ext vk gf⟩
end Go.Proofs.YtiblijmngokcgaaGreatDoor
namespace Go.Proofs.YtiblijmngokcgaaGreatDoor
open Go.Proofs.Tryz
open Go.RowKit
def ft {α β:Type} (x:Except Nat (α×Nat)) (f:α->Nat->Except Nat (β×Nat)):Except Nat (β×Nat):=match x with| .ok (a,q)=>f a q| .error k=> .error k
theorem aY {α β:Type} {x:Except Nat (α×Nat)} {f:α->Nat->Except Nat (β×Nat)} {a:α} {q:Nat} (h:x= .ok (a,q)):ft x f=f a q:=by rw [h];rfl
theorem cV {α β:Type} {x:Except Nat (α×Nat)} {f:α->Nat->Except Nat (β×Nat)} {k:Nat} (h:x= .error k):ft x f= .error k:=by rw [h];rfl
def cU (L:List UInt8) (p:Nat):Except Nat (Ev×Nat):=ft (aQ L p) λa0 p1=>ft (aQ L p1) λa1 p2=>ft (aQ L p2) λa2 p3=>ft (aQ L p3) λa3 p4=>ft (aQ L p4) λa4 p5=>ft (aQ L p5) λa5 p6=>ft (aQ L p6) λa6 p7=> .ok (⟨a0,a1,a2,a3,a4,a5,a6⟩,p7)
def dO (L:List UInt8) (p:Nat):Except Nat (n7×Nat):=ft (aQ L p) λa0 p1=>ft (aQ L p1) λa1 p2=>ft (aQ L p2) λa2 p3=>ft (aQ L p3) λa3 p4=> .ok (⟨a0,a1,a2,a3⟩,p4)
def eC (L:List UInt8) (p:Nat):Except Nat (Ou×Nat):=ft (aQ L p) λa0 p1=>ft (aQ L p1) λa1 p2=> .ok (⟨a0,a1⟩,p2)
def bI {α:Type} (f:Nat->Except Nat (α×Nat)):Nat->Nat->Except Nat (List α×Nat)
 |0,p=> .ok ([],p)
 |n+1,p=>ft (f p) λa q=>ft (bI f n q) λl q' => .ok (a::l,q')
def bF {α:Type} (f:Nat->Except Nat (α×Nat)) (L:List UInt8) (p:Nat):Except Nat (List α×Nat):=
 ft (aQ L p) λn q=>if n<0∨(L.length:Int)-(q:Int)<n then .error 9 else bI f n.toNat q
def eJ (L:List UInt8) (p:Nat):Except Nat (Pg×Nat):=ft (aQ L p) λa p1=>ft (bF (aQ L) L p1) λl p2=> .ok (⟨a,l⟩,p2)
def eF (L:List UInt8) (p:Nat):Except Nat (List Pg×Nat):=bF (eJ L) L p
def eN (L:List UInt8) (p:Nat):Except Nat (bj×Nat):=ft (bF (aQ L) L p) λa p1=>ft (bF (cU L) L p1) λb p2=>ft (bF (dO L) L p2) λc p3=>ft (bF (eC L) L p3) λd p4=> .ok (⟨a,b,c,d⟩,p4)
theorem lI {α:Type} {f:Nat->Except Nat (α×Nat)} {n q q1:Nat} {a:α} {acc:List α} (h:f q= .ok (a,q1)):ft (bI f (n+1) q) (λl q' => .ok (acc++l,q'))=ft (bI f n q1) (λl q' => .ok ((acc++ [a])++l,q')):=by
 rw [bI,aY h];cases bI f n q1 with
 |ok x=>show Except.ok (acc++a::x.1,x.2)=Except.ok (acc++ [a]++x.1,x.2);rw [List.append_assoc];rfl
 |error k=>rfl
theorem mU {α β:Type} {f:Nat->Except Nat (α×Nat)} {n q k:Nat} {g:List α->Nat->Except Nat (β×Nat)} (h:f q= .error k):ft (bI f (n+1) q) g= .error k:=by
 rw [bI,cV h];rfl
theorem iM {α:Type} {f:Nat->Except Nat (α×Nat)} {L:List UInt8} {p q m:Nat} (h:aQ L p= .ok ((m:Int),q)) (hm:¬(L.length:Int)-(q:Int)<(m:Int)):bF f L p=ft (bI f m q) (λl q' => .ok ([]++l,q')):=by
 unfold bF;rw [aY h,if_neg (by omega),Int.toNat_natCast];cases bI f m q with
 |ok x=>rfl
 |error k=>rfl
theorem fL {α:Type} {f:Nat->Except Nat (α×Nat)} {L:List UInt8} {p q:Nat} {n:Int} (h:aQ L p= .ok (n,q)) (hm:n<0∨(L.length:Int)-(q:Int)<n):bF f L p= .error 9:=by
 unfold bF;rw [aY h,if_pos hm]
def snV (x:n7):Value:= .agg #[.int .i64 x.a,.int .i64 x.b,.int .i64 x.c,.int .i64 x.d]
def ouV (x:Ou):Value:= .agg #[.int .i64 x.a,.int .i64 x.b]
structure RB (B r:Nat) (L:List UInt8) (T:TypeId) (c2:Array Value) (w:World) (wr:World) (q:Nat) (c3:Array Value):Prop where
 rd:om B wr r L q
 lt:r<w.heap.size
 gr:w.grownBy wr (some r)
 b2:wr.heap[w.heap.size]? =some (.cells c2 T (0,0))
 b3:wr.heap[w.heap.size+1]? =some (.cells c3 T (0,0))
section
variable {B r : Nat} {L : List UInt8} {T : TypeId} {c2 : Array Value} {w wr w' : World} {q q' : Nat} {c3 : Array Value}
theorem RB.new (h:om B w r L q):∃W,W=(w.alloc (.cells c2 T)).alloc (.cells c3 T)/\RB B r L T c2 w W q c3:=by
 have af:=h.lt;have al:Below w.heap.size w (w.alloc (.cells c2 T)):=(Below.refl _ w).alloc (Nat.le_refl _) _;have ar:Below (w.alloc (.cells c2 T)).heap.size (w.alloc (.cells c2 T)) ((w.alloc (.cells c2 T)).alloc (.cells c3 T)):=(Below.refl _ _).alloc (Nat.le_refl _) _;have hb:=Below.ext al ar;refine ⟨_,rfl,h.ext hb,af,⟨hb.os,hb.tape,hb.output,hb.size,λi hi _=>hb.block i hi⟩,(ar.block _ (by simp)).trans (heap_alloc_new _ _),?_⟩;have:=heap_alloc_new (w.alloc (.cells c2 T)) (.cells c3 T)
 rwa [World.size_alloc] at this
theorem RB.sz (h:RB B r L T c2 w wr q c3):w.heap.size+2<=wr.heap.size:=(Array.getElem?_eq_some_iff.1 h.b3).1
theorem RB.call (h:RB B r L T c2 w wr q c3) (hR:om B w' r L q') (hg:wr.grownBy w' (some r)):RB B r L T c2 w w' q' c3:=
 have hs:=h.sz;have hl:=h.lt
 ⟨hR,h.lt,bD h.gr hg,(hg.block _ (by omega) (by simp;omega)).trans h.b2,(hg.block _ (by omega) (by simp;omega)).trans h.b3⟩
theorem RB.set (h:RB B r L T c2 w wr q c3) (o:Nat) (v:Value):RB B r L T c2 w (wr.setCell ⟨w.heap.size+1,o,none⟩ v) q (c3.setIfInBounds o v):=
 have hs:=h.sz;have hl:=h.lt;have hB:=h.rd.1;have hg:wr.grownBy (wr.setCell ⟨w.heap.size+1,o,none⟩ v) (some (w.heap.size+1)):=aL ⟨rfl,rfl,rfl,Nat.le_refl _,λ_ _ _=>rfl⟩
 ⟨h.rd.grown hg (λm hm=>by cases hm;omega),h.lt,⟨hg.os.trans h.gr.os,hg.tape.trans h.gr.tape,hg.output.trans h.gr.output,Nat.le_trans h.gr.size hg.size,λi hi fb=>(hg.block i (Nat.lt_of_lt_of_le hi h.gr.size) (by simp;omega)).trans (h.gr.block i hi fb)⟩,
  (hg.block _ (by omega) (by simp)).trans h.b2,heap_setCell_same _ _ o _ _ _ h.b3⟩
theorem RB.end_ (h:RB B r L T c2 w wr q c3) (cs:Array Value):om B (wr.setRow w.heap.size cs) r L q/\w.grownBy (wr.setRow w.heap.size cs) (some r):=
 have hs:=h.sz;have hl:=h.lt;have hB:=h.rd.1;have hg:=aC wr w.heap.size cs
 ⟨h.rd.grown hg (λm hm=>by cases hm;omega),⟨hg.os.trans h.gr.os,hg.tape.trans h.gr.tape,hg.output.trans h.gr.output,Nat.le_trans h.gr.size hg.size,λi hi fb=>(hg.block i (Nat.lt_of_lt_of_le hi h.gr.size) (by simp;omega)).trans (h.gr.block i hi fb)⟩⟩
theorem RB.cell (h:RB B r L T c2 w wr q c3) (o:Nat) {v:Value} (hv:c3[o]? =some v):wr.cell? ⟨w.heap.size+1,o,none⟩=some v:=by rw [cell_of_row _ _ _ _ _ _ h.b3];exact hv
theorem RB.frz (h:RB B r L T c2 w wr q c3) (o:Nat):wr.frozen? ⟨w.heap.size+1,o,none⟩=false:=frozen_of_row _ _ _ _ _ h.b3
end
end Go.Proofs.YtiblijmngokcgaaGreatDoor
