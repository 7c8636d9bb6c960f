import Derived.Test.YtiblijmngokcgaaGreatDoorMacZs
import Derived.Test.YtiblijmngokcgaaGreatDoorCs8Zs
import Derived.Test.YtiblijmngokcgaaGreatDoorG18Zs
import Derived.Test.YtiblijmngokcgaaGreatDoorStIZs
import Derived.Test.YtiblijmngokcgaaGreatDoorG22Zs
import Derived.Defers
import Derived.Recover
import Derived.Test.YtiblijmngokcgaaGreatDoorCodecCZs
import Derived.Lib.AppendZeros
namespace Go.Proofs.YtiblijmngokcgaaGreatDoor
open Go.RowKit
set_option maxRecDepth 100000
set_option linter.unusedVariables false
set_option linter.unusedSimpArgs false
structure SvIn (s:Stt):Prop where
 ok:SttOk s
 c:s.cells.length≤1000
 e:s.evs.length≤400
 sn:s.sent.length≤400
 o:s.outs.length≤400
theorem nE {α:Type} (l:List α) (b:α→List Int) (k:Nat) (h:∀a∈l,(b a).length≤k):(l.flatMap b).length≤l.length*k:=by
 induction l with
 |nil=>simp
 |cons a l ih=>
  have h1:=ih (fun x hx=>h x (List.mem_cons_of_mem _ hx))
  have h2:=h a (List.mem_cons_self ..)
  rw [List.flatMap_cons,List.length_append,List.length_cons,Nat.add_mul]
  omega
theorem rM (a b:List Int) (hb:∀z∈b,InR z) (hl:b.length≤1000):(aK (pgL (cN a b))).length≤20000:=by
 have hi:=qH (a:=a) hb (by omega)
 have hn:=lW a b
 have hc:cM b.length≤250:=by unfold cM;omega
 have h6:(pgL (cN a b)).length≤1+(cN a b).length*6:=by
  unfold pgL
  rw [List.length_append,List.length_singleton]
  have:=nE (cN a b) Pg.l 6 (fun p hp=>by
   obtain ⟨k,hk,rfl⟩:=lV hp
   have h4:(cA b k).length≤4:=by rw [gM];unfold dI;omega
   simp [Pg.l]
   omega)
  omega
 have h7:=cE (pgL (cN a b)) (fun z hz=>by
  unfold pgL at hz
  rcases List.mem_append.1 hz with hz|hz
  ·simp at hz
   subst hz
   exact ⟨by omega,by omega⟩
  ·obtain ⟨p,hp,hz⟩:=List.mem_flatMap.1 hz
   exact AU (hi p hp) z hz)
 omega
theorem IU {S:Nat→Prop} {w:World} {v:Value} {ps:List Pg} (h:Pgs S w v ps):Pgs (·<w.heap.size) w v ps:=by
 exact Tzc8
set_option maxHeartbeats 4000000 in
theorem sB (s u:Stt) (A1:Option Addr) (n1 c1:Nat) (A2:Option Addr) (n2 c2:Nat) (A3:Option Addr) (n3 c3:Nat) (A4:Option Addr) (n4 c4:Nat) (B1:Option Addr) (m1 d1:Nat) (B2:Option Addr) (m2 d2:Nat) (B3:Option Addr) (m3 d3:Nat) (B4:Option Addr) (m4 d4:Nat) (S1 S2:Nat→Prop) (w:World) (hM:StM S1 w s A1 n1 c1 A2 n2 c2 A3 n3 c3 A4 n4 c4) (hU:StM S2 w u B1 m1 d1 B2 m2 d2 B3 m3 d3 B4 m4 d4) (hs:SvIn s) (hx:ExtM s u):
 Calls Tryz.prog 50 #[.agg #[.slice A1 n1 c1,.slice A2 n2 c2,.slice A3 n3 c3,.slice A4 n4 c4],.agg #[.slice B1 m1 d1,.slice B2 m2 d2,.slice B3 m3 d3,.slice B4 m4 d4]] w fun e w' =>∃v,e= .returned v∧Bytes (fun _=>True) w' v (dN s u)∧Below w.heap.size w w' :=by
 obtain ⟨W,hW,hbW,SW,R0,R1⟩:∃W,W=(w.alloc (.cells #[.slice A1 n1 c1,.slice A2 n2 c2,.slice A3 n3 c3,.slice A4 n4 c4] 51)).alloc (.cells #[.slice B1 m1 d1,.slice B2 m2 d2,.slice B3 m3 d3,.slice B4 m4 d4] 51)∧Below w.heap.size w W∧RowKit.Hid (W.heap.size=w.heap.size+2)∧
  RowKit.Hid (W.heap[w.heap.size]? =some (.cells #[.slice A1 n1 c1,.slice A2 n2 c2,.slice A3 n3 c3,.slice A4 n4 c4] 51 (0,0)))∧RowKit.Hid (W.heap[w.heap.size+1]? =some (.cells #[.slice B1 m1 d1,.slice B2 m2 d2,.slice B3 m3 d3,.slice B4 m4 d4] 51 (0,0))):=by
  refine ⟨_,rfl,((Below.refl _ w).alloc (Nat.le_refl _) _).alloc (by simp) _,Lib.hid (by simp),Lib.hid ?_,Lib.hid ?_⟩
  ·exact Tzar
  ·exact Tzb0
 have hlt:w.heap.size+1<W.heap.size:=by have:=SW.out;omega
 have l1:=hM.1.len
 have l2:=hM.2.len
 have l3:=hM.3.len
 have l4:=hM.4.len
 have k2:=hU.2.len
 have k3:=hU.3.len
 have k4:=hU.4.len
 have x2:m2≤n2:=by have:=hx.e.length_le;omega
 have x3:m3≤n3:=by have:=hx.sn.length_le;omega
 have x4:m4≤n4:=by have:=hx.o.length_le;omega
 have b2:n2≤400:=by have:=hs.e;omega
 have b3:n3≤400:=by have:=hs.sn;omega
 have b4:n4≤400:=by have:=hs.o;omega
 have b1:n1≤1000:=by have:=hs.c;omega
 have y2:n2≤c2:=l2.2.1
 have y3:n3≤c3:=l3.2.1
 have y4:n4≤c4:=l4.2.1
 have z2:s.evs.length≤n2:=by omega
 have z3:s.sent.length≤n3:=by omega
 have z4:s.outs.length≤n4:=by omega
 have HK2:=Lib.hid k2.1
 have HK3:=Lib.hid k3.1
 have HK4:=Lib.hid k4.1
 have HL2:=Lib.hid l2.1
 have HL3:=Lib.hid l3.1
 have HL4:=Lib.hid l4.1
 have HS:=Lib.hid hs
 have hMW:=hM.ext hbW
 have hUW:=hU.ext hbW
 have HDF:=Lib.hid (GD B1 m1 d1 u.cells A1 n1 c1 s.cells W (hUW.1.mono (fun b h _=>h)) (hMW.1.mono (fun b h _=>h)) (by omega))
 have p0:W.cell? ⟨w.heap.size,0,none⟩=some (.slice A1 n1 c1):=aA R0.out 0 _ rfl
 have q0:W.cell? ⟨w.heap.size+1,0,none⟩=some (.slice B1 m1 d1):=aA R1.out 0 _ rfl
 clear l1 l2 l3 l4 k2 k3 k4 hM hU hx hs
 go_enter Tryz.func50,Tryz.ntmps50
 go_upto_region 1 with fail
 rw [←hW]
 clear hW
 go_wp2_with fail
 refine HDF.out.mono ?_
 rintro e w1 ⟨P,pm,pc,rfl,hP,g1⟩
 clear p0 q0
 have hpl:=hP.len
 have hd:pm≤250:=by have h1:=lW u.cells s.cells;have h2:=HS.out.c;unfold cM at h1;omega
 have HPU:=Lib.hid (uL none 0 0 [] (fun _=>True) w1 (Bytes.nil_ _ _) P pm pc (cN u.cells s.cells) (IU hP) (qH HS.out.ok.cells (by have:=HS.out.c;omega)) (by omega) (by omega))
 clear hpl hP
 go_wp2_with fail
 refine HPU.out.mono ?_
 rintro e w2 ⟨v2,rfl,hv2,g2⟩
 rw [List.nil_append] at hv2
 have hyl:=rM u.cells s.cells HS.out.ok.cells HS.out.c
 obtain ⟨C,cc,rfl,hc1,hc2,hcs⟩:=hv2
 obtain ⟨nn,hnn⟩:∃nn,nn=(aK (pgL (cN u.cells s.cells))).length:=⟨_,rfl⟩
 rw [←hnn] at hyl hc1 ⊢
 have hv2:Bytes (fun _=>True) w2 (.slice C nn cc) (aK (pgL (cN u.cells s.cells))):=⟨C,cc,by rw [hnn],by omega,hc2,hcs⟩
 have g12:=Below.ext g1 g2
 have RA:=Lib.hid ((g12.block w.heap.size (by omega)).trans R0.out)
 have RB:=Lib.hid ((g12.block (w.heap.size+1) hlt).trans R1.out)
 have hM2:=hMW.ext g12
 have hlo:StM (·<w2.heap.size) w2 s A1 n1 c1 A2 n2 c2 A3 n3 c3 A4 n4 c4:=⟨hM2.1.mono (fun b h _=>h),hM2.2.mono (fun b h _=>h),hM2.3.mono (fun b h _=>h),hM2.4.mono (fun b h _=>h)⟩
 have he2:=hlo.2
 have he3:=hlo.3
 have he4:=hlo.4
 obtain ⟨w3,hw3⟩:∃w3,w3=w2.drew:=⟨_,rfl⟩
 have g3:Below w2.heap.size w2 w3:=by rw [hw3];exact (Below.refl _ w2).drew
 clear hnn hcs hMW hM2 hlo hUW
 go_upto_region 2 with fail
 go_wp2_with fail
 refine aM ((fun w' =>w'.heap[w.heap.size]? =some (.cells #[.slice A1 n1 c1,.slice A2 n2 c2,.slice A3 n3 c3,.slice A4 n4 c4] 51 (0,0))∧w'.heap[w.heap.size+1]? =some (.cells #[.slice B1 m1 d1,.slice B2 m2 d2,.slice B3 m3 d3,.slice B4 m4 d4] 51 (0,0)))) (by kernel_rfl) (by kernel_rfl) (⟨RA.out,RB.out⟩) ?_
 refine TkB ?_
 refine aE (⟨w.heap.size,1,none⟩) (.slice A2 n2 c2) rfl rfl rfl (fun w' hw' =>aG (mO _) (aA hw'.1 1 _ rfl)) ?_
 refine TkI ?_
 refine TkB ?_
 refine aE (⟨w.heap.size+1,1,none⟩) (.slice B2 m2 d2) rfl rfl rfl (fun w' hw' =>aG (mO _) (aA hw'.2 1 _ rfl)) ?_
 refine TkI ?_
 refine TkB ?_
 refine mZ dS (m2) (n2) (c2) (n2-m2) (c2-m2) (s.evs.drop m2) rfl rfl rfl Tryz.underlying30 (by kernel_rfl) (by first|exact .inl ⟨rfl,rfl⟩|exact .inr ⟨_,_,_,rfl,rfl,by omega⟩) (by first|exact .inl ⟨rfl,rfl,rfl⟩|exact .inr ⟨_,_,_,rfl,rfl,by omega⟩) (by first|exact .inl ⟨rfl,rfl⟩|exact .inr ⟨_,_,_,rfl,rfl,by omega⟩) (he2) (by omega) (by omega) (by omega) (by omega) (by omega) (by omega) (by first|rfl|(simp;done)|exact (List.take_of_length_le (by simp;omega)).symm) ?_
 intro D2 hD2 hE2
 refine TkI ?_
 refine TkB ?_
 refine aE (⟨w.heap.size,2,none⟩) (.slice A3 n3 c3) rfl rfl rfl (fun w' hw' =>aG (oO _) (aA hw'.1 2 _ rfl)) ?_
 refine TkI ?_
 refine TkB ?_
 refine aE (⟨w.heap.size+1,2,none⟩) (.slice B3 m3 d3) rfl rfl rfl (fun w' hw' =>aG (oO _) (aA hw'.2 2 _ rfl)) ?_
 refine TkI ?_
 refine TkB ?_
 refine mZ eF (m3) (n3) (c3) (n3-m3) (c3-m3) (s.sent.drop m3) rfl rfl rfl Tryz.underlying48 (by kernel_rfl) (by first|exact .inl ⟨rfl,rfl⟩|exact .inr ⟨_,_,_,rfl,rfl,by omega⟩) (by first|exact .inl ⟨rfl,rfl,rfl⟩|exact .inr ⟨_,_,_,rfl,rfl,by omega⟩) (by first|exact .inl ⟨rfl,rfl⟩|exact .inr ⟨_,_,_,rfl,rfl,by omega⟩) (he3) (by omega) (by omega) (by omega) (by omega) (by omega) (by omega) (by first|rfl|(simp;done)|exact (List.take_of_length_le (by simp;omega)).symm) ?_
 intro D3 hD3 hE3
 refine TkI ?_
 refine TkB ?_
 refine aE (⟨w.heap.size,3,none⟩) (.slice A4 n4 c4) rfl rfl rfl (fun w' hw' =>aG (oP _) (aA hw'.1 3 _ rfl)) ?_
 refine TkI ?_
 refine TkB ?_
 refine aE (⟨w.heap.size+1,3,none⟩) (.slice B4 m4 d4) rfl rfl rfl (fun w' hw' =>aG (oP _) (aA hw'.2 3 _ rfl)) ?_
 refine TkI ?_
 refine TkB ?_
 refine mZ eG (m4) (n4) (c4) (n4-m4) (c4-m4) (s.outs.drop m4) rfl rfl rfl Tryz.underlying49 (by kernel_rfl) (by first|exact .inl ⟨rfl,rfl⟩|exact .inr ⟨_,_,_,rfl,rfl,by omega⟩) (by first|exact .inl ⟨rfl,rfl,rfl⟩|exact .inr ⟨_,_,_,rfl,rfl,by omega⟩) (by first|exact .inl ⟨rfl,rfl⟩|exact .inr ⟨_,_,_,rfl,rfl,by omega⟩) (he4) (by omega) (by omega) (by omega) (by omega) (by omega) (by omega) (by first|rfl|(simp;done)|exact (List.take_of_length_le (by simp;omega)).symm) ?_
 intro D4 hD4 hE4
 refine TkI ?_
 refine TkB ?_
 rw [←hw3]
 clear hw3
 have HV3:=Lib.hid (hv2.ext g3)
 have RA3:=Lib.hid ((g3.block w.heap.size (by have:=g12.size;omega)).trans RA.out)
 have RB3:=Lib.hid ((g3.block (w.heap.size+1) (by have:=g12.size;omega)).trans RB.out)
 have hps:=nT C nn cc (aK (pgL (cN u.cells s.cells))) _ w3 HV3.out ⟨[],s.evs.drop m2,s.sent.drop m3,s.outs.drop m4⟩ none D2 D3 D4 0 0 (n2-m2) (c2-m2) (n3-m3) (c3-m3) (n4-m4) (c4-m4) (Recs.nil_ _ _) ((hD2.ext g3).mono (fun b h _=>h)) ((hD3.ext g3).mono (fun b h _=>h)) ((hD4.ext g3).mono (fun b h _=>h)) ⟨by simp,fun e he=>HS.out.ok.evs e (List.mem_of_mem_drop he),fun e he=>HS.out.ok.sent e (List.mem_of_mem_drop he),fun e he=>HS.out.ok.outs e (List.mem_of_mem_drop he),by simp⟩ (by omega) (by omega) (by omega) (by omega)
 have HPS:=Lib.hid hps
 clear hps hv2 hD2 hD3 hD4 he2 he3 he4
 refine aL rfl ?_
 go_wp2_with fail
 refine aI (⟨RA3.out,RB3.out⟩) ?_
 refine TkB ?_
 refine aL rfl ?_
 go_wp2_with fail
 refine HPS.out.mono ?_
 rintro e w4 ⟨v4,rfl,hv4,g4⟩
 have s3:=g3.size
 have s12:=g12.size
 go_wp2_with fail
 refine aI (⟨(g4.block w.heap.size (by omega)).trans RA3.out,(g4.block (w.heap.size+1) (by omega)).trans RB3.out⟩) ?_
 refine TkB ?_
 refine aZ ?_
 go_wp2
 go_ret
 have hv5:Bytes (fun _=>True) w4 v4 (dN s u):=by
  have e:dN s u=aK (pgL (cN u.cells s.cells))++aK (Stt.l ⟨[],s.evs.drop m2,s.sent.drop m3,s.outs.drop m4⟩):=by unfold dN dO;rw [HK2.out,HK3.out,HK4.out]
  rw [e]
  exact hv4
 exact ⟨v4,rfl,hv5,Below.ext hbW (Below.ext g12 (Below.ext g3 g4))⟩
end Go.Proofs.YtiblijmngokcgaaGreatDoor
namespace Go.Proofs.YtiblijmngokcgaaGreatDoor
open Go.RowKit
set_option maxRecDepth 100000
set_option linter.unusedVariables false
set_option linter.unusedSimpArgs false
def DkO (S:Nat→Prop) (n:Nat) (w' :World) (r:Except Nat (List Fil)) (e:Ending):Prop:=
 match r with
 | .ok fs=>∃A c,e= .returned (.tuple #[.agg #[.slice A n c],.int .i64 0])∧Dsk S w' (.slice A n c) fs
 | .error k=>k≠0∧e= .returned (.tuple #[.agg #[.slice none 0 0],.int .i64 (k:Int)])
theorem zN (w:World) (a b c:Array Value) (ta tb tc:TypeId):∃W,W=((w.alloc (.cells a ta)).alloc (.cells b tb)).alloc (.cells c tc)∧Below w.heap.size w W∧RowKit.Hid (W.heap.size=w.heap.size+3)∧
 RowKit.Hid (W.heap[w.heap.size]? =some (.cells a ta (0,0)))∧RowKit.Hid (W.heap[w.heap.size+1]? =some (.cells b tb (0,0)))∧RowKit.Hid (W.heap[w.heap.size+2]? =some (.cells c tc (0,0))):=by
 obtain ⟨W1,h1,_,k1,s1,r1⟩:=bP w w a ta (Below.refl _ _)
 obtain ⟨W2,h2,_,k2,s2,r2⟩:=bP W1 W1 b tb (Below.refl _ _)
 obtain ⟨W3,h3,_,k3,s3,r3⟩:=bP W2 W2 c tc (Below.refl _ _)
 have e1:=s1.out
 have e2:=s2.out
 have e3:=s3.out
 refine ⟨W3,by rw [h3,h2,h1],Below.ext k1 (Below.ext k2 k3),Lib.hid (by omega),Lib.hid ?_,Lib.hid ?_,Lib.hid ?_⟩
 ·exact ((Below.ext k2 k3).block w.heap.size (by omega)).trans r1.out
 ·have:=(k3.block W1.heap.size (by omega)).trans r2.out
  rw [e1] at this
  exact this
 ·have:=r3.out
  rw [e2,e1] at this
  exact this
set_option maxHeartbeats 4000000 in
theorem rN (A:Option Addr) (n c:Nat) (fs:List Fil) (S:Nat→Prop) (w:World) (hD:Dsk S w (.slice A n c) fs) (hn:n≤1000) (k:Nat) (hk:k<n) (h:Hd) (hi:∀z∈h.l,InR z) (B:Option Addr) (nb cb:Nat) (body:List UInt8) (Sb:Nat→Prop) (hb:Bytes Sb w (.slice B nb cb) body) (hbl:nb≤100000000):
 Calls Tryz.prog 51 #[.agg #[.slice A n c],.int .i64 (k:Int),.agg #[.int .i64 h.kind,.int .i64 h.stamp,.int .i64 h.base,.int .i64 h.under],.slice B nb cb] w fun e w' =>DkO (fun b=>S b∨w.heap.size≤b) n w' (if 4096<body.length then .error 5 else .ok (fs.set k ⟨[],ckF h body⟩)) e∧Below w.heap.size w w' :=by
 obtain ⟨W,hW,hbW,SW,R0,R1,R2⟩:=zN w #[.slice A n c] #[.int .i64 h.kind,.int .i64 h.stamp,.int .i64 h.base,.int .i64 h.under] #[.slice none 0 0] 36 90 36
 have hlt:w.heap.size+2<W.heap.size:=by have:=SW.out;omega
 have hlen:=hD.len
 have HBL:=Lib.hid hb.len.1
 have hD0:Dsk (fun b=>S b∧b<w.heap.size) W (.slice A n c) fs:=(hD.mono (fun b h1 h2=>⟨h2,h1⟩)).ext hbW
 have HHB:=Lib.hid (zC h hi W)
 have HI:=Lib.hid hi
 clear hD hi
 go_enter Tryz.func51,Tryz.ntmps51
 go_upto_region 1 with fail
 rw [←hW]
 clear hW
 go_wp2_with (refine aD (t:=90) (A:=⟨w.heap.size+1,0,none⟩) rfl rfl rfl (aB R1.out Tryz.underlying90 rfl (by kernel_rfl)) ?_)
 refine HHB.out.mono ?_
 rintro e w1 ⟨v1,rfl,hv1,b1⟩
 have HSE:=Lib.hid (uG v1 (aK h.l) _ w1 hv1 (by have:=cE h.l HI.out;have e:h.l.length=4:=rfl;omega))
 clear hv1
 go_wp2_with fail
 refine HSE.out.mono ?_
 rintro e w2 ⟨v2,rfl,ho2,b2⟩
 have hy2:=ho2.bytes
 obtain ⟨A2,c2,rfl,hc21,hc22,hcs2⟩:=hy2
 obtain ⟨m2,hm2⟩:∃m,m=(cX (aK h.l)).length:=⟨_,rfl⟩
 rw [←hm2] at ho2 ⊢
 have hm2b:m2≤48:=by rw [hm2,eD];have:=cE h.l HI.out;have e:h.l.length=4:=rfl;omega
 have y12:=Below.ext b1 b2
 have hb2:=Below.ext hbW y12
 have R02:=Lib.hid ((y12.block w.heap.size (by omega)).trans R0.out)
 have R22:=Lib.hid ((y12.block (w.heap.size+2) hlt).trans R2.out)
 have hD2:=hD0.ext y12
 have hy2b:Bytes _ w2 (.slice B nb cb) body:=hb.ext hb2
 have sz1:=b1.size
 have sz2:=b2.size
 clear hm2 hc21 hc22 hcs2 hD0 hb
 by_cases hl:4096<body.length
 ·have FIN:=Lib.hid hl
  have HSL:=Lib.hid (AF (.slice B nb cb) body _ w2 hy2b hl)
  clear hl hy2b
  go_wp2_with fail
  refine HSL.out.mono ?_
  rintro e w3 ⟨rfl,rfl⟩
  go_wp2_with (refine aC rfl 36 _ _ rfl (w.heap.size+2) 36 _ _ rfl rfl R22.out (by kernel_rfl) rfl (by simp [Value.oneCell']) ?_)
  refine bodyPost_ret (bI rfl rfl (aB (setRow_heap _ _ _ _ _ _ R22.out) Tryz.underlying36 rfl (by kernel_rfl))) rfl ?_
  exact ⟨⟨by omega,rfl⟩,hb2.grown (aJ _ _ _) hb2.size (fun o e=>by cases e;omega)⟩
 have FIN:=Lib.hid hl
 have HSB:=Lib.hid (uG (.slice B nb cb) body _ w2 hy2b (by omega))
 have hnb:nb≤4096:=by have:=HBL.out;omega
 clear hl hy2b
 go_wp2_with fail
 refine HSB.out.mono ?_
 rintro e w3 ⟨v3,rfl,ho3,b3⟩
 have hy3:=ho3.bytes
 obtain ⟨A3,c3,rfl,hc31,hc32,hcs3⟩:=hy3
 obtain ⟨m3,hm3⟩:∃m,m=(cX body).length:=⟨_,rfl⟩
 rw [←hm3] at ho3 ⊢
 have hm3b:m3≤4104:=by rw [hm3,eD];have:=HBL.out;omega
 have ho23:=ho2.ext b3
 have hb3:=Below.ext hb2 b3
 have R03:=Lib.hid ((b3.block w.heap.size (by omega)).trans R02.out)
 have R23:=Lib.hid ((b3.block (w.heap.size+2) (by omega)).trans R22.out)
 have hD3:=hD2.ext b3
 have sz3:=b3.size
 have HRP:=Lib.hid (qR A n c fs _ w3 hD3 hn k hk none 0 0 [] (fun _=>True) (Recs.nil_ _ _) (by omega))
 clear hm3 hc31 hc32 hcs3 hD2 hD3 ho2
 go_wp2_with (refine aD (t:=36) (A:=⟨w.heap.size,0,none⟩) rfl rfl rfl (aB R03.out Tryz.underlying36 rfl (by kernel_rfl)) ?_)
 refine HRP.out.mono ?_
 rintro e w4 ⟨A4,c4,rfl,hD4,b4⟩
 have hb4:=Below.ext hb3 b4
 have sz4:=b4.size
 have R04:=Lib.hid ((b4.block w.heap.size (by omega)).trans R03.out)
 have R24:=Lib.hid ((b4.block (w.heap.size+2) (by omega)).trans R23.out)
 obtain ⟨w5,hw5⟩:∃w5,w5=w4.setRow w.heap.size #[.slice A4 n c4]:=⟨_,rfl⟩
 have g5:w4.grownBy w5 (some w.heap.size):=by rw [hw5];exact aJ _ _ _
 have k5:Keep (fun b=>(S b∧b<w.heap.size)∨w.heap.size+3≤b) w4 w5:=fun b hb hs=>g5.block b hb (by simp;omega)
 have R05:=Lib.hid (show w5.heap[w.heap.size]? =some (.cells #[.slice A4 n c4] 36 (0,0)) by rw [hw5];exact setRow_heap _ _ _ _ _ _ R04.out)
 have R25:=Lib.hid ((g5.block (w.heap.size+2) (by omega) (by simp)).trans R24.out)
 have sz5:w4.heap.size≤w5.heap.size:=g5.size
 have hb5:Below w.heap.size w w5:=hb4.grown g5 hb4.size (fun o e=>by cases e;omega)
 have hD5:Dsk (fun b=>(S b∧b<w.heap.size)∨w.heap.size+3≤b) w5 (.slice A4 n c4) (fs.set k ⟨[],[]⟩):=(hD4.mono (fun b _ h=>h.imp id (fun h=>by omega))).keep k5
 have o2:Recs eV (fun b=>(S b∧b<w.heap.size)∨w.heap.size+3≤b) w5 (.slice A2 m2 c2) (cX (aK h.l)):=(((ho23.ext b4).bytes.by_).mono (fun b _ h=>Or.inr (by have:=h.1;have:=SW.out;omega))).keep k5
 have o3:Recs eV (fun b=>(S b∧b<w.heap.size)∨w.heap.size+3≤b) w5 (.slice A3 m3 c3) (cX body):=(((ho3.ext b4).bytes.by_).mono (fun b _ h=>Or.inr (by have:=h.1;have:=SW.out;omega))).keep k5
 obtain ⟨w6,hw6⟩:∃w6,w6=w5.drew:=⟨_,rfl⟩
 have b6:Below w5.heap.size w5 w6:=by rw [hw6];exact (Below.refl _ w5).drew
 obtain ⟨W7,hW7,_,k7,S7,R7⟩:=bP w6 w6 #[.slice A2 m2 c2,.slice A3 m3 c3] 22 (Below.refl _ _)
 obtain ⟨b7,hb7⟩:∃b,b=w6.heap.size:=⟨_,rfl⟩
 rw [←hb7] at R7
 have HB7:=Lib.hid hb7
 have l7:b7<W7.heap.size:=by have:=S7.out;omega
 have y57:=Below.ext b6 k7
 have HCO:=Lib.hid (kN b7 A2 A3 m2 c2 m3 c3 _ _ _ _ W7 (aA R7.out 0 _ rfl) (aA R7.out 1 _ rfl) (o2.ext y57) (o3.ext y57) (by omega))
 have R07:=Lib.hid ((y57.block w.heap.size (by omega)).trans R05.out)
 have R27:=Lib.hid ((y57.block (w.heap.size+2) (by omega)).trans R25.out)
 have hD7:=hD5.ext y57
 have hb7w:=Below.ext hb5 y57
 have sz7:=y57.size
 clear hb7 hD4 hD5 o2 o3 ho23 ho3 k5 g5
 go_upto_region 10 with (refine aC rfl 36 _ _ rfl w.heap.size 36 _ _ rfl rfl R04.out (by kernel_rfl) rfl (by simp [Value.oneCell']) ?_)
 rw [←hw5]
 clear hw5
 go_wp2_with fail
 refine aM ((fun w' =>w'.heap[w.heap.size]? =some (.cells #[.slice A4 n c4] 36 (0,0)))) (by kernel_rfl) (by kernel_rfl) (R05.out) ?_
 refine TkA ?_
 refine aE (⟨w.heap.size,0,none⟩) (.agg #[.slice A4 n c4]) rfl rfl rfl (fun w' hw' =>aB hw' Tryz.underlying36 rfl (by kernel_rfl)) ?_
 refine TkI ?_
 refine TkA ?_
 rw [←hw6]
 clear hw6
 refine aL rfl ?_
 go_wp2_with fail
 rw [←hW7,←HB7.out]
 clear hW7
 go_wp2_with fail
 refine aI (R07.out) ?_
 refine TkA ?_
 refine aL rfl ?_
 go_wp2_with fail
 refine HCO.out.mono ?_
 rintro e w8 ⟨A8,c8,rfl,ho8,b8⟩
 have R08:=Lib.hid ((b8.block w.heap.size (by omega)).trans R07.out)
 have R28:=Lib.hid ((b8.block (w.heap.size+2) (by omega)).trans R27.out)
 have hD8:=hD7.ext b8
 have hb8:=Below.ext hb7w b8
 have sz8:=b8.size
 obtain ⟨m8,hm8⟩:∃m,m=m2+m3:=⟨_,rfl⟩
 rw [←hm8] at ho8 ⊢
 have HAP:=Lib.hid (DH A4 n c4 (fs.set k ⟨[],[]⟩) _ w8 hD8 hn k ⟨[],[]⟩ (by rw [List.getElem?_set_self (by omega)]) A8 m8 c8 (cX (aK h.l)++cX body) (ho8.by_.mono (fun b _ h=>Or.inr (by omega))) (by simp;omega))
 rw [List.set_set] at HAP
 clear hm8 ho8 hD7 hD8
 go_wp2_with fail
 refine aI (R08.out) ?_
 refine TkA ?_
 refine aL rfl ?_
 go_wp2_with fail
 refine HAP.out.mono ?_
 rintro e w9 ⟨A9,c9,rfl,hD9,b9⟩
 have R09:=Lib.hid ((b9.block w.heap.size (by omega)).trans R08.out)
 have R29:=Lib.hid ((b9.block (w.heap.size+2) (by omega)).trans R28.out)
 have hb9:=Below.ext hb8 b9
 go_wp2_with fail
 refine aI (R09.out) ?_
 refine TkA ?_
 refine aL rfl ?_
 refine aC rfl 36 _ _ rfl (w.heap.size+2) 36 _ _ rfl rfl R29.out (by kernel_rfl) rfl (by simp [Value.oneCell']) ?_
 refine aI ((setRow_other _ _ _ _ (by omega)).trans R09.out) ?_
 refine TkI ?_
 refine TkA ?_
 refine aZ ?_
 go_wp2
 refine bodyPost_ret (bI rfl rfl (aB (setRow_heap _ _ _ _ _ _ R29.out) Tryz.underlying36 rfl (by kernel_rfl))) rfl ?_
 have gE:=aJ w9 (w.heap.size+2) #[.slice A9 n c9]
 refine ⟨⟨A9,c9,rfl,?_⟩,hb9.grown gE hb9.size (fun o e=>by cases e;omega)⟩
 have hD10:=hD9.mono (S' :=fun b=>(S b∧b<w.heap.size)∨w.heap.size+3≤b) (fun b _ h=>by rcases h with h|h;exact h;exact .inr (by omega))
 have hD11:=hD10.keep (w' :=w9.setRow (w.heap.size+2) #[.slice A9 n c9]) (fun b hb hs=>gE.block b hb (by simp;omega))
 exact hD11.mono (fun b _ h=>h.imp (fun h=>h.1) (fun h=>by omega))
end Go.Proofs.YtiblijmngokcgaaGreatDoor
namespace Go.Proofs.YtiblijmngokcgaaGreatDoor
open Go.RowKit
set_option maxRecDepth 100000
set_option linter.unusedVariables false
set_option linter.unusedSimpArgs false
def EY:Value:= .iface 174 (.agg #[])
def yU:List PanicEntry:=[{v:=EY,recovered:=false}]
def kA (base:Nat) (w' :World) (x:Option Stt) (e:Ending):Prop:=
 match x with
 |some s=>∃E1 p1 q1 E2 p2 q2 E3 p3 q3 E4 p4 q4,e= .returned (.agg #[.slice E1 p1 q1,.slice E2 p2 q2,.slice E3 p3 q3,.slice E4 p4 q4])∧StM (base≤·) w' s E1 p1 q1 E2 p2 q2 E3 p3 q3 E4 p4 q4
 |none=>e= .panicked yU
set_option maxHeartbeats 4000000 in
theorem qP (A:Option Addr) (n c:Nat) (L:List UInt8) (S:Nat→Prop) (w:World) (hv:Bytes S w (.slice A n c) L) (hn:n≤100000000) (k:Nat) (hk:k≤n):
 Calls Tryz.prog 74 #[.slice A n c,.int .i64 (k:Int)] w fun e w' =>kA w.heap.size w' (cR L k) e∧Below w.heap.size w w' :=by
 have hln:=hv.len.1
 obtain ⟨W,hW,bW,kW,SW,R0⟩:=bP w w #[.slice none 0 0,.slice none 0 0,.slice none 0 0,.slice none 0 0] 51 (Below.refl _ _)
 have hlt:w.heap.size<W.heap.size:=by have:=SW.out;omega
 have hst:=sD A n c (k:Int) L S W (hv.ext bW) hn
 have hat:fM eH L (k:Int)=eH L k:=by unfold fM;rw [if_neg (by omega),Int.toNat_natCast]
 rw [hat] at hst
 have HLN:=Lib.hid hln
 clear hat hv hln
 cases hr:eH L k with
 |error x=>
  have hx0:((x:Int) != 0)=true:=by
   have:=IN L k x hr
   simpa using this
  have FIN:=Lib.hid (show cR L k=none by unfold cR;rw [hr])
  rw [hr] at hst
  unfold jM at hst
  dsimp only at hst
  have Hst:=Lib.hid hst
  clear hst hr
  obtain ⟨W3,hW3⟩:∃x:Nat,x=0:=⟨_,rfl⟩
  clear hW3
  go_enter Tryz.func74,Tryz.ntmps74
  go_upto_region 1 with fail
  rw [←hW]
  clear hW
  go_wp2_with fail
  refine Hst.out.mono ?_
  rintro e w1 ⟨rfl,b1⟩
  have b1a:Below w.heap.size w (w1.alloc (.cells #[.slice none 0 0,.slice none 0 0,.slice none 0 0,.slice none 0 0] 51)):=(Below.ext bW b1).alloc (Below.ext bW b1).size _
  go_upto_region 2 with (refine aF rfl 51 _ _ rfl 51 _ #[.slice none 0 0,.slice none 0 0,.slice none 0 0,.slice none 0 0] rfl rfl (by kernel_rfl) rfl (by simp [Value.oneCell']) ?_)
  go_wp2
  refine ⟨rfl,?_,b1a⟩
  rw [FIN.out]
  rfl
 |ok sq=>
  obtain ⟨s,q⟩:=sq
  rw [hr] at hst
  unfold jM at hst
  dsimp only at hst
  have Hst:=Lib.hid hst
  clear hst
  go_enter Tryz.func74,Tryz.ntmps74
  go_upto_region 1 with fail
  rw [←hW]
  clear hW
  go_wp2_with fail
  refine Hst.out.mono ?_
  rintro e w1 ⟨⟨v,rfl,F1,r1,F2,r2,F3,r3,F4,r4,rfl,o1,o2,o3,o4⟩,b1⟩
  obtain ⟨W3,hW3,_,k3,S3,R3⟩:=bP w1 w1 #[.slice F1 s.cells.length r1,.slice F2 s.evs.length r2,.slice F3 s.sent.length r3,.slice F4 s.outs.length r4] 51 (Below.refl _ _)
  obtain ⟨bx,hbx⟩:∃b,b=w1.heap.size:=⟨_,rfl⟩
  rw [←hbx] at R3
  have HBX:=Lib.hid hbx
  have s1:=b1.size
  have b3:=Below.ext b1 k3
  have hb3:=Below.ext bW b3
  have R03:=Lib.hid ((b3.block w.heap.size hlt).trans R0.out)
  have O1:=o1.recs.ext k3
  have O2:=o2.recs.ext k3
  have O3:=o3.recs.ext k3
  have O4:=o4.recs.ext k3
  clear hbx o1 o2 o3 o4
  by_cases hqn:q=n
  ·have dq:((q:Int) != (n:Int))=false:=by simp [hqn]
   have FIN:=Lib.hid (show cR L k=some s by unfold cR;rw [hr];dsimp only;rw [if_pos (by rw [HLN.out];exact hqn)])
   clear hqn hr
   go_upto_region 2 with (refine aF rfl 51 _ _ rfl 51 _ #[.slice F1 s.cells.length r1,.slice F2 s.evs.length r2,.slice F3 s.sent.length r3,.slice F4 s.outs.length r4] rfl rfl (by kernel_rfl) rfl (by simp [Value.oneCell']) ?_)
   try dsimp only
   rw [←hW3,←HBX.out]
   clear hW3
   try simp only [Act.put]
   go_wp2_with (first|(refine aD (t:=51) (A:=⟨bx,0,none⟩) rfl rfl rfl (aB R3.out Tryz.underlying51 rfl (by kernel_rfl)) ?_)|(refine aC rfl 51 _ _ rfl (w.heap.size) 51 _ _ rfl rfl R03.out (by kernel_rfl) rfl (by simp [Value.oneCell']) ?_))
   refine bodyPost_ret (bH rfl rfl (aB (setRow_heap _ _ _ _ _ _ R03.out) Tryz.underlying51 rfl (by kernel_rfl))) rfl ?_
   rw [FIN.out]
   have gE:=aJ W3 w.heap.size #[.slice F1 s.cells.length r1,.slice F2 s.evs.length r2,.slice F3 s.sent.length r3,.slice F4 s.outs.length r4]
   have kE:Keep (fun b=>w.heap.size+1≤b) W3 (W3.setRow w.heap.size #[.slice F1 s.cells.length r1,.slice F2 s.evs.length r2,.slice F3 s.sent.length r3,.slice F4 s.outs.length r4]):=fun b hb hs=>gE.block b hb (by simp;omega)
   have mm:∀b,b<W3.heap.size→W.heap.size≤b→w.heap.size+1≤b:=fun b _ h=>by omega
   refine ⟨⟨F1,_,r1,F2,_,r2,F3,_,r3,F4,_,r4,rfl,⟨?_,?_,?_,?_⟩⟩,hb3.grown gE hb3.size (fun o e=>by cases e;omega)⟩
   ·exact ((O1.mono (fun b hb h=>mm b hb h.1)).keep kE).mono (fun b _ h=>by omega)
   ·exact ((O2.mono (fun b hb h=>mm b hb h.1)).keep kE).mono (fun b _ h=>by omega)
   ·exact ((O3.mono (fun b hb h=>mm b hb h.1)).keep kE).mono (fun b _ h=>by omega)
   ·exact ((O4.mono (fun b hb h=>mm b hb h.1)).keep kE).mono (fun b _ h=>by omega)
  ·have dq:((q:Int) != (n:Int))=true:=by simp;omega
   have FIN:=Lib.hid (show cR L k=none by unfold cR;rw [hr];dsimp only;rw [if_neg (fun h=>hqn (by rw [←HLN.out];exact h))])
   clear hqn hr
   go_upto_region 2 with (refine aF rfl 51 _ _ rfl 51 _ #[.slice F1 s.cells.length r1,.slice F2 s.evs.length r2,.slice F3 s.sent.length r3,.slice F4 s.outs.length r4] rfl rfl (by kernel_rfl) rfl (by simp [Value.oneCell']) ?_)
   try dsimp only
   rw [←hW3,←HBX.out]
   clear hW3
   try simp only [Act.put]
   go_wp2
   refine ⟨rfl,?_,hb3⟩
   rw [FIN.out]
   rfl
theorem wX (p q:Addr) (w:World):CallsD Tryz.prog 132 #[.pointer (some p),.pointer (some q)] .returning w fun e u' w' =>e= .returned (.tuple #[])∧u' = .returning∧w' =w:=by
 refine callsD_of_wpS Tryz.func132 rfl fun c₀ cs hu=> ?_
 apply wpS_seq
 apply wpS_region
 generalize hQ:Exit.thenS _ _=Q0
 simp [wpOpsS,go_sem,recoverD,hu,Tryz.ntmps132,Array.replicate]
 subst hQ
 refine wpS_of_wp ?_
 go_wp2
 cases c₀
 simp_all [bodyPostS,results,Tryz.results132]
set_option maxHeartbeats 1000000 in
theorem wY (b2 b3:Nat) (x2:Array Value) (x3:Int) (w:World) (h2:w.heap[b2]? =some (.cells x2 51 (0,0))) (hx2:x2.size=4) (h3:w.heap[b3]? =some (.cells #[.int .i64 x3] 37 (0,0))) (hne:b2≠b3):
 CallsD Tryz.prog 132 #[.pointer (some ⟨b2,0,none⟩),.pointer (some ⟨b3,0,none⟩)] (.panicking yU) w fun e u' w' =>e= .returned (.tuple #[])∧u' = .panicking [{v:=EY,recovered:=true}]∧w'.heap[b2]? =some (.cells #[.slice none 0 0,.slice none 0 0,.slice none 0 0,.slice none 0 0] 51 (0,0))∧w'.cell? ⟨b3,0,none⟩=some (.int .i64 9)∧(∀B,B≤b2→B≤b3→B≤w.heap.size→Below B w w'):=by
 have H2:=Lib.hid h2
 have w3:(w.setRow b2 #[.slice none 0 0,.slice none 0 0,.slice none 0 0,.slice none 0 0]).heap[b3]? =some (.cells #[.int .i64 x3] 37 (0,0)):=(setRow_other _ _ _ _ (Ne.symm hne)).trans h3
 have w2:(w.setRow b2 #[.slice none 0 0,.slice none 0 0,.slice none 0 0,.slice none 0 0]).heap[b2]? =some (.cells #[.slice none 0 0,.slice none 0 0,.slice none 0 0,.slice none 0 0] 51 (0,0)):=setRow_heap _ _ _ _ _ _ h2
 have c3:(w.setRow b2 #[.slice none 0 0,.slice none 0 0,.slice none 0 0,.slice none 0 0]).cell? ⟨b3,0,none⟩=some (.int .i64 x3):=by rw [cell_of_row _ _ _ _ _ _ w3];rfl
 have f3:=frozen_of_row _ _ 0 _ _ w3
 have W3:=Lib.hid w3
 have W2:=Lib.hid w2
 clear h2 h3 w2 w3
 unfold yU
 refine callsD_of_wpS Tryz.func132 rfl fun c₀ cs hu=> ?_
 apply wpS_seq
 apply wpS_region
 generalize hQ:Exit.thenS _ _=Q0
 simp [wpOpsS,go_sem,recoverD,hu,Tryz.ntmps132,Array.replicate]
 subst hQ
 refine wpS_of_wp ?_
 unfold EY
 go_wp2_with (refine aC rfl 51 _ _ rfl b2 51 _ _ rfl rfl H2.out (by kernel_rfl) (by rw [hx2];rfl) (by simp [Value.oneCell']) ?_)
 refine ⟨rfl,_,rfl,_,results_none rfl _ _ _,rfl,rfl,?_,?_,?_⟩
 ·exact (heap_setCell_other _ _ _ _ hne).trans W2.out
 ·rw [cell_of_row _ _ _ _ _ _ (heap_setCell_same _ b3 0 _ _ _ W3.out)];rfl
 ·intro B hB2 hB3 hBw
  exact Below.setCell (p:=⟨b3,0,none⟩) (Below.setRow ((Below.refl _ _).mono hBw) hB2 _) hB3 _
theorem pK {P:Program} {fn:Func} {tmps:Array Value} {w:World} {a b:Nat} {t u:TypeId} {A B:Addr} {x y:Value} (h:fn.results= #[.cell a t,.cell b u]) (ha:tmps.getD a undef= .pointer (some A)) (hb:tmps.getD b undef= .pointer (some B)) (hl:(loadVar t A).run P w= .ok x w) (hm:(loadVar u B).run P w= .ok y w):(results fn tmps).run P w= .ok (.tuple #[x,y]) w:=by
 have ha' :tmps[a]?.getD undef= .pointer (some A):=by simpa using ha
 have hb' :tmps[b]?.getD undef= .pointer (some B):=by simpa using hb
 simp [results,h,asAddr,ha',hb',hl,hm]
def GQ (base:Nat) (w' :World) (x:Option Stt) (e:Ending):Prop:=
 match x with
 |some s=>∃E1 p1 q1 E2 p2 q2 E3 p3 q3 E4 p4 q4,e= .returned (.tuple #[.agg #[.slice E1 p1 q1,.slice E2 p2 q2,.slice E3 p3 q3,.slice E4 p4 q4],.int .i64 0])∧StM (base≤·) w' s E1 p1 q1 E2 p2 q2 E3 p3 q3 E4 p4 q4
 |none=>e= .returned (.tuple #[.agg #[.slice none 0 0,.slice none 0 0,.slice none 0 0,.slice none 0 0],.int .i64 9])
set_option maxHeartbeats 4000000 in
theorem pS (f:FuncId) (caps:Array Value) (x:Option Stt) (w:World) (hf:∀w,(callFunc f caps).run Tryz.prog w= .ok (.enter f caps) w) (h:∀w',Below w.heap.size w w'→Calls Tryz.prog f caps w' fun e w2=>kA w'.heap.size w2 x e∧Below w'.heap.size w' w2):
 Calls Tryz.prog 72 #[.func (.func f) #[] caps] w fun e w' =>GQ w.heap.size w' x e∧Below w.heap.size w w' :=by
 have hmf:∀(fn:Fn) (first cap:Array Value) (w:World),(Instr.makeFunc fn first cap).run Tryz.prog w= .ok (.func fn first cap) w:=fun _ _ _ _=>rfl
 obtain ⟨W,hW,hbW,SW,R0,R1⟩:∃W,W=(w.alloc (.cells #[.slice none 0 0,.slice none 0 0,.slice none 0 0,.slice none 0 0] 51)).alloc (.cells #[.int .i64 0] 37)∧Below w.heap.size w W∧RowKit.Hid (W.heap.size=w.heap.size+2)∧
  RowKit.Hid (W.heap[w.heap.size]? =some (.cells #[.slice none 0 0,.slice none 0 0,.slice none 0 0,.slice none 0 0] 51 (0,0)))∧RowKit.Hid (W.heap[w.heap.size+1]? =some (.cells #[.int .i64 0] 37 (0,0))):=by
  refine ⟨_,rfl,((Below.refl _ w).alloc (Nat.le_refl _) _).alloc (by simp) _,Lib.hid (by simp),Lib.hid ?_,Lib.hid ?_⟩
  ·exact Tzar
  ·have:=heap_alloc_new (w.alloc (.cells #[.slice none 0 0,.slice none 0 0,.slice none 0 0,.slice none 0 0] 51)) (.cells #[.int .i64 0] 37)
   rw [World.size_alloc] at this
   exact this
 have hlt:w.heap.size+1<W.heap.size:=by have:=SW.out;omega
 have H:=Lib.hid (h W hbW)
 clear h
 go_enter_defers Tryz.func72,Tryz.ntmps72
 go_wp2_with fail
 try rw [←hW]
 clear hW
 refine H.out.mono ?_
 rintro e w1 ⟨hg,b1⟩
 have R01:=(b1.block w.heap.size (by omega)).trans R0.out
 have R11:=(b1.block (w.heap.size+1) hlt).trans R1.out
 have hb1:=Below.ext hbW b1
 have hbs:=hb1.size
 unfold kA at hg
 cases x with
 |none=>
  dsimp only at hg
  subst hg
  have Hcat:=Lib.hid (wY w.heap.size (w.heap.size+1) _ _ w1 R01 rfl R11 (by omega))
  clear R01 R11
  go_wp2
  refine leaves_cons (f:=132) (args:= #[.pointer (some ⟨w.heap.size,0,none⟩),.pointer (some ⟨w.heap.size+1,0,none⟩)]) (by simp [yU]) (by simp [go_sem]) ?_
  refine Hcat.out.mono ?_
  rintro e u' w2 ⟨rfl,rfl,g2,g3,hbb⟩
  refine eQ rfl (pK rfl rfl rfl (aB g2 Tryz.underlying51 rfl (by kernel_rfl)) (aG (by simp [isAgg,run_underlying Tryz.underlying37]) g3)) ?_
  exact ⟨rfl,Below.trans hb1 (hbb _ (Nat.le_refl _) (by omega) hbs)⟩
 |some s=>
  dsimp only at hg
  obtain ⟨E1,p1,q1,E2,p2,q2,E3,p3,q3,E4,p4,q4,rfl,hM⟩:=hg
  have Q0:=Lib.hid R01
  have w2r:(w1.setRow w.heap.size #[.slice E1 p1 q1,.slice E2 p2 q2,.slice E3 p3 q3,.slice E4 p4 q4]).heap[w.heap.size+1]? =some (.cells #[.int .i64 0] 37 (0,0)):=(setRow_other _ _ _ _ (by omega)).trans R11
  have c1:(w1.setRow w.heap.size #[.slice E1 p1 q1,.slice E2 p2 q2,.slice E3 p3 q3,.slice E4 p4 q4]).cell? ⟨w.heap.size+1,0,none⟩=some (.int .i64 0):=by rw [cell_of_row _ _ _ _ _ _ w2r];rfl
  have f1:=frozen_of_row _ _ 0 _ _ w2r
  obtain ⟨w3,hw3⟩:∃w3,w3=(w1.setRow w.heap.size #[.slice E1 p1 q1,.slice E2 p2 q2,.slice E3 p3 q3,.slice E4 p4 q4]).setCell ⟨w.heap.size+1,0,none⟩ (.int .i64 0):=⟨_,rfl⟩
  have r0:w3.heap[w.heap.size]? =some (.cells #[.slice E1 p1 q1,.slice E2 p2 q2,.slice E3 p3 q3,.slice E4 p4 q4] 51 (0,0)):=by rw [hw3];exact (heap_setCell_other _ _ _ _ (by simp)).trans (setRow_heap _ _ _ _ _ _ R01)
  have r1:w3.cell? ⟨w.heap.size+1,0,none⟩=some (.int .i64 0):=by rw [hw3,cell_of_row _ _ _ _ _ _ (heap_setCell_same _ (w.heap.size+1) 0 _ _ _ w2r)];rfl
  have hb3:Below w.heap.size w w3:=by rw [hw3];exact Below.setCell (p:=⟨w.heap.size+1,0,none⟩) (Below.setRow hb1 (Nat.le_refl _) _) (by show _≤w.heap.size+1;omega) _
  have kE:Keep (fun b=>W.heap.size≤b) w1 w3:=fun b hb hs=>by rw [hw3];exact (heap_setCell_other _ _ _ _ (by show b≠w.heap.size+1;omega)).trans (setRow_other _ _ _ _ (by omega))
  have hM3:StM (w.heap.size≤·) w3 s E1 p1 q1 E2 p2 q2 E3 p3 q3 E4 p4 q4:=⟨(hM.1.keep kE).mono (fun b _ h=>by omega),(hM.2.keep kE).mono (fun b _ h=>by omega),(hM.3.keep kE).mono (fun b _ h=>by omega),(hM.4.keep kE).mono (fun b _ h=>by omega)⟩
  have HM3:=Lib.hid hM3
  have HB3:=Lib.hid hb3
  have R0' :=Lib.hid r0
  have R1' :=Lib.hid r1
  clear R01 R11 w2r r0 r1 hb3 kE hM3 hM
  go_wp2_with (refine aC rfl 51 _ _ rfl (w.heap.size) 51 _ _ rfl rfl Q0.out (by kernel_rfl) rfl (by simp [Value.oneCell']) ?_)
  rw [←hw3]
  refine leaves_cons (f:=132) (args:= #[.pointer (some ⟨w.heap.size,0,none⟩),.pointer (some ⟨w.heap.size+1,0,none⟩)]) (by simp) (by simp [go_sem]) ?_
  refine (wX _ _ w3).mono ?_
  rintro e u' w4 ⟨rfl,rfl,rfl⟩
  refine eQ rfl (pK rfl rfl rfl (aB R0'.out Tryz.underlying51 rfl (by kernel_rfl)) (aG (by simp [isAgg,run_underlying Tryz.underlying37]) R1'.out)) ?_
  exact ⟨⟨E1,p1,q1,E2,p2,q2,E3,p3,q3,E4,p4,q4,rfl,HM3.out⟩,HB3.out⟩
end Go.Proofs.YtiblijmngokcgaaGreatDoor
namespace Go.Proofs.YtiblijmngokcgaaGreatDoor
open Go.RowKit
set_option maxRecDepth 100000
set_option linter.unusedVariables false
theorem KD (n:Nat) (h0:0<n) (hb:n*56≤140737488355328) (w:World):∃cap W,(Builtin.append_ #[30,3] 30 #[.slice none 0 0,.int .i64 (n:Int)]).run Tryz.prog w= .ok (.slice (some ⟨w.heap.size,0,none⟩) n cap) W∧
 OwnR cQ 7 W w.heap.size 78 (.slice (some ⟨w.heap.size,0,none⟩) 0 cap) []∧n≤cap∧cap≤9223372036854775807∧Below w.heap.size w W:=by
 obtain ⟨i,hi,hz,hs,hby⟩:=info_parts rG
 have hn:n≤140737488355328:=by omega
 have h:=Lib.run_append_nil_zeros (P:=Tryz.prog) w 30 3 30 78 i (.agg #[.int .i64 0,.int .i64 0,.int .i64 0,.int .i64 0,.int .i64 0,.int .i64 0,.int .i64 0]) .i64 .i64 Tryz.underlying30 Tryz.underlying3 hi hz n h0 (by rw [hs];omega) (by omega) (by rw [hby];omega)
 have hg:=grownCap_ge w n 0 78
 have hm:=grownCap_le_maxLen w n 0 78 (by unfold maxLen;omega)
 refine ⟨_,_,h,?_,hg,by unfold maxLen at hm;exact hm,((Below.refl _ w).drew).alloc (Nat.le_refl _) _⟩
 refine ⟨rfl,.inr ⟨w.heap.size,_,_,rfl,Nat.le_refl _,heap_alloc_new w.drew _,by simp,hm,?_,by simp⟩⟩
 rw [Array.size_append,size_zeroCells,size_zeroCells,show (Value.cells (.agg #[.int .i64 0,.int .i64 0,.int .i64 0,.int .i64 0,.int .i64 0,.int .i64 0,.int .i64 0])).size=7 from rfl,←Nat.add_mul]
 congr 1
 omega
set_option maxHeartbeats 1000000 in
theorem MN (n:Nat) (hb:n*56≤140737488355328) (w:World):
 Calls Tryz.prog 167 #[.slice none 0 0,.int .i64 (n:Int)] w fun e w' =>∃A c,e= .returned (.slice A 0 c)∧OwnR cQ 7 w' w.heap.size 78 (.slice A 0 c) []∧Below w.heap.size w w' :=by
 have hn:n≤140737488355328:=by omega
 by_cases h0:0<n
 ·obtain ⟨cap,W,hrun,hown,h1,h2,hbw⟩:=KD n h0 hb w
  have Hrun:=Lib.hid hrun
  clear hrun
  have d1:decide (0<n)=true:=by simpa using h0
  go_enter Tryz.func167,Tryz.ntmps167
  exact Tzby
 ·obtain rfl:n=0:=by omega
  go_enter Tryz.func167,Tryz.ntmps167
  go_wp2
  go_ret
  exact ⟨none,0,rfl,OwnR.nil_ _ _ _,Below.refl _ _⟩
set_option maxHeartbeats 2000000 in
theorem JS (g:Nat) (A1 A2:Option Addr) (n1 c1 n2 c2:Nat) (l1 l2:List Ev) (S1 S2:Nat→Prop) (w:World) (h0:w.cell? ⟨g,0,none⟩=some (.slice A1 n1 c1)) (h1:w.cell? ⟨g,1,none⟩=some (.slice A2 n2 c2))
 (r1:Recs cQ S1 w (.slice A1 n1 c1) l1) (r2:Recs cQ S2 w (.slice A2 n2 c2) l2) (hb:(n1+n2)*56≤140737488355328):
 Calls Tryz.prog 134 #[.slice (some ⟨g,0,none⟩) 2 2] w fun e w' =>∃A c,e= .returned (.slice A (n1+n2) c)∧OwnR cQ 7 w' w.heap.size 78 (.slice A (n1+n2) c) (l1++l2)∧Below w.heap.size w w' :=by
 have hn:n1+n2≤140737488355328:=by omega
 have hgl:g<w.heap.size:=block_lt_of_cell h0
 obtain ⟨hl1,hl2,hl3⟩:=r1.len
 obtain ⟨hm1,hm2,hm3⟩:=r2.len
 have Hl1:=Lib.hid hl1
 have Hm1:=Lib.hid hm1
 clear hl1 hm1
 go_enter Tryz.func134,Tryz.ntmps134
 go_wp2
 go_loop [3,11] (fun s i=>∃j:Nat,j≤2∧i= .int .i64 j∧s= .int .i64 ((if j=0 then 0 else if j=1 then n1 else n1+n2:Nat):Int)) (fun _ i=>2-(intOf i).toNat)
 case atStart=>exact ⟨0,by omega,rfl,rfl⟩
 case round=>
  obtain ⟨j,hj,rfl,rfl⟩:=hrel
  obtain rfl|rfl|rfl:j=0∨j=1∨j=2:=by omega
  ·exact Tzcf
  ·exact Tzb8
  ·simp only [show (2:Nat)=0↔False by decide,show (2:Nat)=1↔False by decide,if_false]
   go_wp2_with fail
   rw [←Int.natCast_add]
   refine (MN (n1+n2) hb w).mono ?_
   rintro e w1 ⟨A,c,rfl,hown,hb1⟩
   have h0' :=(hb1.cell (p:=⟨g,0,none⟩) hgl).trans h0
   have h1' :=(hb1.cell (p:=⟨g,1,none⟩) hgl).trans h1
   clear h0 h1
   have hsz1:=hb1.size
   go_wp2
   go_loopw [6,27] (fun v i wr=>∃(j n' :Nat) (A' :Option Addr) (c' :Nat),j≤2∧i= .int .i64 j∧v= .slice A' n' c'∧n'≤n1+n2∧OwnR cQ 7 wr w.heap.size 78 (.slice A' n' c') (if j=0 then [] else if j=1 then l1 else l1++l2)∧Below w.heap.size w wr) (fun _ i _=>2-(intOf i).toNat)
   case atStart=>exact ⟨0,0,A,c,by omega,rfl,rfl,by omega,hown,hb1⟩
   case round=>
    obtain ⟨j,n',A',c',hj,rfl,rfl,hn',hown',hbr⟩:=hrel
    have q0:=(hbr.cell (p:=⟨g,0,none⟩) hgl).trans ((hb1.cell (p:=⟨g,0,none⟩) hgl).symm.trans h0')
    have q1:=(hbr.cell (p:=⟨g,1,none⟩) hgl).trans ((hb1.cell (p:=⟨g,1,none⟩) hgl).symm.trans h1')
    have hszr:=hbr.size
    clear h0' h1'
    obtain rfl|rfl|rfl:j=0∨j=1∨j=2:=by omega
    ·simp only [if_true] at hown'
     have hlen:=hown'.len.1
     simp at hlen
     subst hlen
     go_wp2_with (refine aV (o:=⟨some 33,_,_,_,_,_⟩) dS iI (.agg #[.int .i64 0,.int .i64 0,.int .i64 0,.int .i64 0,.int .i64 0,.int .i64 0,.int .i64 0]) 56 _ _ 30 78 w.heap.size [] l1 A1 n1 c1 (.slice A' 0 c') n1 rfl rfl Tryz.underlying30 rG rfl (by omega) rfl rfl hown' (r1.ext hbr) (by simp) (by simp;omega) (by simp;omega) hszr ?_;intro A9 c9 w9 hown9 hgr9 hat9 hc91 hc92)
     exact Tzbk
    ·simp only [if_true,Nat.one_ne_zero,if_false] at hown'
     have hlen:=hown'.len.1
     rw [Hl1.out] at hlen
     subst hlen
     go_wp2_with (refine aV (o:=⟨some 33,_,_,_,_,_⟩) dS iI (.agg #[.int .i64 0,.int .i64 0,.int .i64 0,.int .i64 0,.int .i64 0,.int .i64 0,.int .i64 0]) 56 _ _ 30 78 w.heap.size l1 l2 A2 n2 c2 (.slice A' n1 c') (n1+n2) rfl rfl Tryz.underlying30 rG rfl (by omega) rfl rfl hown' (r2.ext hbr) (by rw [Hl1.out]) (by rw [Hl1.out];exact hb) (by rw [Hl1.out];omega) hszr ?_;intro A9 c9 w9 hown9 hgr9 hat9 hc91 hc92)
     exact Tzbj
    ·exact Tzbd
end Go.Proofs.YtiblijmngokcgaaGreatDoor
namespace Go.Proofs.YtiblijmngokcgaaGreatDoor
open Go.RowKit
set_option maxRecDepth 100000
set_option linter.unusedVariables false
theorem JZ (n:Nat) (h0:0<n) (hb:n*32≤140737488355328) (w:World):∃cap W,(Builtin.append_ #[48,3] 48 #[.slice none 0 0,.int .i64 (n:Int)]).run Tryz.prog w= .ok (.slice (some ⟨w.heap.size,0,none⟩) n cap) W∧
 OwnR dK 4 W w.heap.size 127 (.slice (some ⟨w.heap.size,0,none⟩) 0 cap) []∧n≤cap∧cap≤9223372036854775807∧Below w.heap.size w W:=by
 obtain ⟨i,hi,hz,hs,hby⟩:=info_parts rE
 have hn:n≤140737488355328:=by omega
 have h:=Lib.run_append_nil_zeros (P:=Tryz.prog) w 48 3 48 127 i (.agg #[.int .i64 0,.int .i64 0,.int .i64 0,.int .i64 0]) .i64 .i64 Tryz.underlying48 Tryz.underlying3 hi hz n h0 (by rw [hs];omega) (by omega) (by rw [hby];omega)
 have hg:=grownCap_ge w n 0 127
 have hm:=grownCap_le_maxLen w n 0 127 (by unfold maxLen;omega)
 refine ⟨_,_,h,?_,hg,by unfold maxLen at hm;exact hm,((Below.refl _ w).drew).alloc (Nat.le_refl _) _⟩
 refine ⟨rfl,.inr ⟨w.heap.size,_,_,rfl,Nat.le_refl _,heap_alloc_new w.drew _,by simp,hm,?_,by simp⟩⟩
 rw [Array.size_append,size_zeroCells,size_zeroCells,show (Value.cells (.agg #[.int .i64 0,.int .i64 0,.int .i64 0,.int .i64 0])).size=4 from rfl,←Nat.add_mul]
 congr 1
 omega
set_option maxHeartbeats 1000000 in
theorem ML (n:Nat) (hb:n*32≤140737488355328) (w:World):
 Calls Tryz.prog 168 #[.slice none 0 0,.int .i64 (n:Int)] w fun e w' =>∃A c,e= .returned (.slice A 0 c)∧OwnR dK 4 w' w.heap.size 127 (.slice A 0 c) []∧Below w.heap.size w w' :=by
 have hn:n≤140737488355328:=by omega
 by_cases h0:0<n
 ·obtain ⟨cap,W,hrun,hown,h1,h2,hbw⟩:=JZ n h0 hb w
  have Hrun:=Lib.hid hrun
  clear hrun
  have d1:decide (0<n)=true:=by simpa using h0
  go_enter Tryz.func168,Tryz.ntmps168
  exact Tzby
 ·obtain rfl:n=0:=by omega
  go_enter Tryz.func168,Tryz.ntmps168
  go_wp2
  go_ret
  exact ⟨none,0,rfl,OwnR.nil_ _ _ _,Below.refl _ _⟩
set_option maxHeartbeats 2000000 in
theorem JQ (g:Nat) (A1 A2:Option Addr) (n1 c1 n2 c2:Nat) (l1 l2:List Snd) (S1 S2:Nat→Prop) (w:World) (h0:w.cell? ⟨g,0,none⟩=some (.slice A1 n1 c1)) (h1:w.cell? ⟨g,1,none⟩=some (.slice A2 n2 c2))
 (r1:Recs dK S1 w (.slice A1 n1 c1) l1) (r2:Recs dK S2 w (.slice A2 n2 c2) l2) (hb:(n1+n2)*32≤140737488355328):
 Calls Tryz.prog 135 #[.slice (some ⟨g,0,none⟩) 2 2] w fun e w' =>∃A c,e= .returned (.slice A (n1+n2) c)∧OwnR dK 4 w' w.heap.size 127 (.slice A (n1+n2) c) (l1++l2)∧Below w.heap.size w w' :=by
 have hn:n1+n2≤140737488355328:=by omega
 have hgl:g<w.heap.size:=block_lt_of_cell h0
 obtain ⟨hl1,hl2,hl3⟩:=r1.len
 obtain ⟨hm1,hm2,hm3⟩:=r2.len
 have Hl1:=Lib.hid hl1
 have Hm1:=Lib.hid hm1
 clear hl1 hm1
 go_enter Tryz.func135,Tryz.ntmps135
 go_wp2
 go_loop [3,11] (fun s i=>∃j:Nat,j≤2∧i= .int .i64 j∧s= .int .i64 ((if j=0 then 0 else if j=1 then n1 else n1+n2:Nat):Int)) (fun _ i=>2-(intOf i).toNat)
 case atStart=>exact ⟨0,by omega,rfl,rfl⟩
 case round=>
  obtain ⟨j,hj,rfl,rfl⟩:=hrel
  obtain rfl|rfl|rfl:j=0∨j=1∨j=2:=by omega
  ·exact Tzcf
  ·exact Tzb8
  ·simp only [show (2:Nat)=0↔False by decide,show (2:Nat)=1↔False by decide,if_false]
   go_wp2_with fail
   rw [←Int.natCast_add]
   refine (ML (n1+n2) hb w).mono ?_
   rintro e w1 ⟨A,c,rfl,hown,hb1⟩
   have h0' :=(hb1.cell (p:=⟨g,0,none⟩) hgl).trans h0
   have h1' :=(hb1.cell (p:=⟨g,1,none⟩) hgl).trans h1
   clear h0 h1
   have hsz1:=hb1.size
   go_wp2
   go_loopw [6,27] (fun v i wr=>∃(j n' :Nat) (A' :Option Addr) (c' :Nat),j≤2∧i= .int .i64 j∧v= .slice A' n' c'∧n'≤n1+n2∧OwnR dK 4 wr w.heap.size 127 (.slice A' n' c') (if j=0 then [] else if j=1 then l1 else l1++l2)∧Below w.heap.size w wr) (fun _ i _=>2-(intOf i).toNat)
   case atStart=>exact ⟨0,0,A,c,by omega,rfl,rfl,by omega,hown,hb1⟩
   case round=>
    obtain ⟨j,n',A',c',hj,rfl,rfl,hn',hown',hbr⟩:=hrel
    have q0:=(hbr.cell (p:=⟨g,0,none⟩) hgl).trans ((hb1.cell (p:=⟨g,0,none⟩) hgl).symm.trans h0')
    have q1:=(hbr.cell (p:=⟨g,1,none⟩) hgl).trans ((hb1.cell (p:=⟨g,1,none⟩) hgl).symm.trans h1')
    have hszr:=hbr.size
    clear h0' h1'
    obtain rfl|rfl|rfl:j=0∨j=1∨j=2:=by omega
    ·simp only [if_true] at hown'
     have hlen:=hown'.len.1
     simp at hlen
     subst hlen
     go_wp2_with (refine aV (o:=⟨some 33,_,_,_,_,_⟩) eF jW (.agg #[.int .i64 0,.int .i64 0,.int .i64 0,.int .i64 0]) 32 _ _ 48 127 w.heap.size [] l1 A1 n1 c1 (.slice A' 0 c') n1 rfl rfl Tryz.underlying48 rE rfl (by omega) rfl rfl hown' (r1.ext hbr) (by simp) (by simp;omega) (by simp;omega) hszr ?_;intro A9 c9 w9 hown9 hgr9 hat9 hc91 hc92)
     exact Tzbk
    ·simp only [if_true,Nat.one_ne_zero,if_false] at hown'
     have hlen:=hown'.len.1
     rw [Hl1.out] at hlen
     subst hlen
     go_wp2_with (refine aV (o:=⟨some 33,_,_,_,_,_⟩) eF jW (.agg #[.int .i64 0,.int .i64 0,.int .i64 0,.int .i64 0]) 32 _ _ 48 127 w.heap.size l1 l2 A2 n2 c2 (.slice A' n1 c') (n1+n2) rfl rfl Tryz.underlying48 rE rfl (by omega) rfl rfl hown' (r2.ext hbr) (by rw [Hl1.out]) (by rw [Hl1.out];exact hb) (by rw [Hl1.out];omega) hszr ?_;intro A9 c9 w9 hown9 hgr9 hat9 hc91 hc92)
     exact Tzbj
    ·exact Tzbd
end Go.Proofs.YtiblijmngokcgaaGreatDoor
