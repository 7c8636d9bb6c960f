import Derived.Test.YtiblijmngokcgaaGreatDoorExtLCkptstoreDropsZs
import Derived.Test.YtiblijmngokcgaaGreatDoorCs21Zs
namespace Go.Proofs.YtiblijmngokcgaaGreatDoor
open Go.RowKit
set_option maxRecDepth 100000
set_option linter.unusedVariables false
set_option linter.unusedSimpArgs false
def encBl (b:Bool):List Value:=[.bool b]
theorem encBl_len (b:Bool):(encBl b).length=1:=rfl
theorem infoBl:(Tryz.prog.info? 4).map (fun i=>(i.zero,i.size,i.bytes))=some (some (.bool false),1,1):=by kernel_rfl
theorem mkBl (n:Nat) (hn:n≤1000) (w:World):(Instr.makeSlice 70 (.int .i64 (n:Int)) (.int .i64 (n:Int))).run Tryz.prog w= .ok (.slice (some ⟨w.heap.size,0,none⟩) n n) (w.alloc (.cells (madeCells (encBl false).toArray (n*1)) 4)):=by
 obtain ⟨i,hi,hz,hs,hb⟩:=info_parts infoBl
 have h:=run_make (P:=Tryz.prog) w 70 4 i (.bool false) Tryz.underlying70 hi hz .i64 .i64 n n (by omega) (by omega) (by rw [hb];omega) (by omega)
 rw [h,hs]
 simp only [Int.toNat_natCast]
 rfl
theorem mkOwnBl (n:Nat) (hn:n≤1000) (w:World):OwnR encBl 1 (w.alloc (.cells (madeCells (encBl false).toArray (n*1)) 4)) w.heap.size 4 (.slice (some ⟨w.heap.size,0,none⟩) n n) (List.replicate n false):=by
 unfold OwnR
 rw [List.length_replicate]
 refine ⟨by rw [fN encBl_len];simp,.inr ⟨w.heap.size,n,_,rfl,Nat.le_refl _,heap_alloc_new w _,Nat.le_refl _,by unfold maxLen;omega,by simp [madeCells],?_⟩⟩
 rw [CO encBl_len false (by omega) n]
 exact List.take_of_length_le (by rw [fN encBl_len];simp)
theorem OwnR.cellBl {w:World} {base:Nat} {e:TypeId} {g n c:Nat} {l:List Bool} (h:OwnR encBl 1 w base e (.slice (some ⟨g,0,none⟩) n c) l) {j:Nat} (hj:j<n):∃b,l[j]? =some b∧w.cell? ⟨g,j,none⟩=some (.bool b)∧w.frozen? ⟨g,j,none⟩=false:=by
 have hl:=h.len.1
 obtain ⟨b,off,x,e1,_,_,hx,hc⟩:=h.recs.at_ encBl_len (j:=j) (by omega) (by omega)
 cases e1
 have h2:=hc 0 _ rfl
 refine ⟨x,hx,by simpa using h2,?_⟩
 subst hl
 exact World.ownsRow.frozenAt h _
theorem OwnR.setBl {w:World} {base:Nat} {e:TypeId} {g n c:Nat} {l:List Bool} (h:OwnR encBl 1 w base e (.slice (some ⟨g,0,none⟩) n c) l) (j:Nat) (x:Bool):OwnR encBl 1 (w.setCell ⟨g,j,none⟩ (.bool x)) base e (.slice (some ⟨g,0,none⟩) n c) (l.set j x):=by
 have hl:=h.len.1
 have hf:∀k:List Bool,k.flatMap encBl=k.map (fun z=>Value.bool z):=fun k=>by
  induction k with
  |nil=>rfl
  |cons a k ih=>rw [List.flatMap_cons,ih,List.map_cons];rfl
 unfold OwnR at*
 rw [List.length_set,hf,List.map_set,←hf]
 subst hl
 exact (World.ownsRow.stored h _ _).1
def hdBase (fs:List Fil) (z:Int):Int:=match cF (cH fs z) with| .ok (h,_)=>h.base| .error _=>0
noncomputable def chainM (fs:List Fil):Nat→List Bool→Int→List Bool
 |0,bs,_=>bs
 |m+1,bs,z=>if 0≤z∧bs[z.toNat]? =some false then (match ldC fs z with| .ok _=>chainM fs m (bs.set z.toNat true) (hdBase fs z)| .error _=>bs) else bs
noncomputable def marksM (fs:List Fil) (n:Nat) (zs:List Int):List Bool:=zs.foldl (fun bs z=>chainM fs (bs.count false) bs z) (List.replicate n false)
def idxTo (bs:List Bool):Nat→List Int
 |0=> []
 |j+1=>idxTo bs j++(if bs[j]? =some true then [(j:Int)] else [])
theorem idxTo_len (bs:List Bool) (j:Nat):(idxTo bs j).length≤j:=by
 induction j with
 |zero=>simp [idxTo]
 |succ j ih=>
  unfold idxTo
  rw [List.length_append]
  split<;>simp<;>omega
theorem marksM_step {fs:List Fil} {n k:Nat} {zs:List Int} {z:Int} (h:zs[k]? =some z):marksM fs n (zs.take (k+1))=chainM fs ((marksM fs n (zs.take k)).count false) (marksM fs n (zs.take k)) z:=by
 unfold marksM
 rw [List.take_add_one,h,List.foldl_append]
 rfl
theorem chain_out {fs:List Fil} {m:Nat} {bs:List Bool} {z:Int} (h:z<0∨bs[z.toNat]?≠some false):chainM fs m bs z=bs:=by
 cases m with
 |zero=>rfl
 |succ m=>
  unfold chainM
  rw [if_neg (by rintro ⟨h1,h2⟩;rcases h with h|h;omega;exact h h2)]
theorem count_set {bs:List Bool} {j:Nat} (h:bs[j]? =some false):bs.count false=(bs.set j true).count false+1:=by
 induction bs generalizing j with
 |nil=>simp at h
 |cons b bs ih=>
  cases j with
  |zero=>
   simp at h
   subst h
   simp
  |succ j=>
   have:=ih (j:=j) (by simpa using h)
   rw [List.set_cons_succ,List.count_cons,List.count_cons,this]
   omega
theorem chain_err {fs:List Fil} {bs:List Bool} {z:Int} {e:Nat} (h:ldC fs z= .error e) (m:Nat):chainM fs m bs z=bs:=by
 cases m with
 |zero=>rfl
 |succ m=>
  unfold chainM
  split
  ·rw [h]
  ·rfl
theorem chain_go {fs:List Fil} {bs:List Bool} {j:Nat} {s:Stt} (h:ldC fs (j:Int)= .ok s) (hb:bs[j]? =some false):chainM fs (bs.count false) bs (j:Int)=chainM fs ((bs.set j true).count false) (bs.set j true) (hdBase fs (j:Int)):=by
 rw [count_set hb,chainM,if_pos ⟨by omega,by simpa using hb⟩,h]
 rfl
theorem hdBase_in {fs:List Fil} {z:Int}:InR (hdBase fs z):=by
 unfold hdBase
 split
 ·rename_i h q e
  exact (nD e).1 h.base (by simp [Hd.l])
 ·exact ⟨by omega,by omega⟩
set_option maxHeartbeats 8000000 in
theorem needed_any (A:Option Addr) (n c:Nat) (fs:List Fil) (S:Nat→Prop) (w:World) (hD:Dsk S w (.slice A n c) fs) (hn:n≤1000) (hf:iY fs) (L:Option Addr) (ln lc:Nat) (zs:List Int) (Sl:Nat→Prop) (hE:Recs bJ Sl w (.slice L ln lc) zs) (hin:∀z∈zs,InR z):
 Calls Tryz.prog 36 #[.agg #[.slice A n c],.slice L ln lc] w fun e w' =>∃A' k c',e= .returned (.slice A' k c')∧OwnR bJ 1 w' w.heap.size 3 (.slice A' k c') (idxTo (marksM fs n zs) n)∧Below w.heap.size w w' :=by
 have HF:=Lib.hid hf
 have HLEN:=Lib.hid hD.len.1
 have hlE:=hE.len
 have HLE:=Lib.hid hlE.1
 have hle2:=hlE.2
 have HIN:=Lib.hid hin
 obtain ⟨W,hW,bW,kW,SW,R0⟩:=bP w w #[.slice A n c] 36 (Below.refl _ _)
 have sW:w.heap.size<W.heap.size:=by have:=SW.out;omega
 have q0:W.cell? ⟨w.heap.size,0,none⟩=some (.slice A n c):=aA R0.out 0 _ rfl
 have hDW:=hD.ext kW
 have hEW:=hE.ext kW
 have HMK:=Lib.hid (mkBl n hn W)
 have hmk:=mkBl n hn W
 have ho1:=mkOwnBl n hn W
 obtain ⟨W1,hW1⟩:∃x,x=W.alloc (.cells (madeCells (encBl false).toArray (n*1)) 4):=⟨_,rfl⟩
 rw [←hW1] at ho1 hmk
 have k1:Below W.heap.size W W1:=by rw [hW1];exact (Below.refl _ _).alloc (Nat.le_refl _) _
 have s1:W1.heap.size=W.heap.size+1:=by rw [hW1];simp
 obtain ⟨gm,hgm⟩:∃g,g=W.heap.size:=⟨_,rfl⟩
 have lgm:gm<W1.heap.size:=by omega
 have mgm:w.heap.size<gm:=by omega
 have D1:=(hDW.mono (S' :=fun b=>b<gm) (fun b h _=>by omega)).ext k1
 have E1:=(hEW.mono (S' :=fun b=>b<gm) (fun b h _=>by omega)).ext k1
 have R01:=Lib.hid ((k1.block w.heap.size sW).trans R0.out)
 have B1:=Below.ext kW k1
 rw [←hgm] at ho1 hmk
 have HGM:=Lib.hid hgm
 clear hE hD hf hin hlE hDW hEW s1 hW1 hgm HMK
 go_enter Tryz.func36,Tryz.ntmps36
 go_upto_region 1 with fail
 rw [←hW]
 clear hW
 go_wp2
 clear hmk q0
 go_loopg [23] (ln+1) (fun gk i wr=>∃(k:Nat) (bs:List Bool),i= .int .i64 (k:Int)∧k≤ln∧ln+1≤k+gk∧RowKit.Hid (bs=marksM fs n (zs.take k))∧OwnR encBl 1 wr gm 4 (.slice (some ⟨gm,0,none⟩) n n) bs∧W1.grownBy wr (some gm))
 case atStart=>exact ⟨0,_,rfl,by omega,by omega,Lib.hid rfl,ho1,bC _ _⟩
 case round=>
  obtain ⟨k,bs,rfl,hk,hgk,HB,hO,hgr⟩:=hrel
  have szr:W1.heap.size≤wr.heap.size:=hgr.size
  have hbl:=hO.len.1
  by_cases hlt:k<ln
  ·obtain ⟨cb,co,z,rfl,_,hcb,hcx,hcc⟩:=(E1.keep (fun b hb hs=>hgr.block b hb (by simp;omega))).at_ dH (j:=k) (by have:=HLE.out;omega) (by omega)
   have e0:wr.cell? ⟨cb,co+k,none⟩=some (.int .i64 z):=by have:=hcc 0 _ rfl;simpa using this
   have hzi:=HIN.out z (List.mem_of_getElem? hcx)
   have hst:=marksM_step (fs:=fs) (n:=n) hcx
   rw [←HB.out] at hst
   have HST:=Lib.hid hst
   obtain ⟨g0,hg0⟩:∃g0,g0=gk:=⟨_,rfl⟩
   rw [←hg0] at hgk
   have HG0:=Lib.hid hg0
   have hcnt:=List.count_le_length (a:=false) (l:=bs)
   clear hg0 hcx hcc hst
   unfold InR at hzi
   go_wp2_with fail
   go_loopg [7] (n+1) (fun gj v wr=>∃(z1:Int) (bs1:List Bool),v= .int .i64 z1∧InR z1∧bs1.count false+1≤gj∧RowKit.Hid (chainM fs (bs1.count false) bs1 z1=marksM fs n (zs.take (k+1)))∧OwnR encBl 1 wr gm 4 (.slice (some ⟨gm,0,none⟩) n n) bs1∧W1.grownBy wr (some gm))
   case atStart=>exact ⟨z,bs,rfl,hzi,by omega,Lib.hid HST.out.symm,hO,hgr⟩
   case round=>
    clear e0 hgr hO hcnt hbl
    obtain ⟨z1,bs1,rfl,hz1,hgj,HT,hO2,hgr2⟩:=hrel
    obtain ⟨g1,hg1⟩:∃g1,g1=gk:=⟨_,rfl⟩
    rw [←hg1] at hgj
    have HG1:=Lib.hid hg1
    clear hg1
    unfold InR at hz1
    have szr2:W1.heap.size≤wr.heap.size:=hgr2.size
    have hbl:=hO2.len.1
    by_cases h0:z1<0
    ·have d0:decide (0≤z1)=false:=by simp;omega
     have HN:=Lib.hid (show bs1=marksM fs n (zs.take (k+1)) by rw [←HT.out];exact (chain_out (.inl h0)).symm)
     clear h0
     go_wp2
     go_roundg (g0-1)
     case rel=>exact ⟨k+1,bs1,by go_num,by omega,by omega,HN,hO2,hgr2⟩
     case measure=>have:=HG0.out;omega
    obtain ⟨j,rfl⟩:=Int.eq_ofNat_of_zero_le (show 0≤z1 by omega)
    by_cases h1:j<n
    case neg=>
     have d1:decide (j<n)=false:=by simpa using h1
     have HN:=Lib.hid (show bs1=marksM fs n (zs.take (k+1)) by rw [←HT.out];exact (chain_out (.inr (by rw [Int.toNat_natCast,List.getElem?_eq_none (by omega)];simp))).symm)
     clear h1 h0
     go_wp2
     go_roundg (g0-1)
     case rel=>exact ⟨k+1,bs1,by go_num,by omega,by omega,HN,hO2,hgr2⟩
     case measure=>have:=HG0.out;omega
    obtain ⟨b,hb,hbc,hbf⟩:=hO2.cellBl h1
    cases b with
    |true=>
     have HN:=Lib.hid (show bs1=marksM fs n (zs.take (k+1)) by rw [←HT.out];exact (chain_out (.inr (by rw [Int.toNat_natCast,hb];simp))).symm)
     clear hb h0
     go_wp2
     go_roundg (g0-1)
     case rel=>exact ⟨k+1,bs1,by go_num,by omega,by omega,HN,hO2,hgr2⟩
     case measure=>have:=HG0.out;omega
    |false=>
     have R02:=Lib.hid ((hgr2.block w.heap.size (by omega) (by simp;omega)).trans R01.out)
     have D2:=D1.keep (w' :=wr) (fun b hb hs=>hgr2.block b hb (by simp;omega))
     have HLD:=Lib.hid ((kY fs HF.out _ _ _ (uY fs (j:Int)) (by have:=HLEN.out;omega)).2 A n c _ wr D2 hn)
     have HB1:=Lib.hid hb
     clear hb h0
     go_wp2_with (refine aD (t:=36) (A:=⟨w.heap.size,0,none⟩) rfl rfl rfl (aB R02.out Tryz.underlying36 rfl (by kernel_rfl)) ?_)
     refine HLD.out.mono ?_
     rintro e w3 ⟨hld,b3⟩
     have s3:=b3.size
     have hO3:=hO2.ext b3
     have gr3:W1.grownBy w3 (some gm):=aH hgr2 (aQ b3 _)
     cases hr:ldC fs (j:Int) with
     |error x0=>
      rw [hr] at hld
      unfold LdO at hld
      dsimp only at hld
      obtain ⟨hx0,rfl⟩:=hld
      have dx:((x0:Int) != 0)=true:=by simpa using hx0
      have HN:=Lib.hid (show bs1=marksM fs n (zs.take (k+1)) by rw [←HT.out];exact (chain_err hr _).symm)
      clear hr hx0
      obtain ⟨W4,hW4,_,kg,Sg,Rg⟩:=bP w3 w3 #[.slice none 0 0,.slice none 0 0,.slice none 0 0,.slice none 0 0] 51 (Below.refl _ _)
      obtain ⟨bg,hbg⟩:∃b,b=w3.heap.size:=⟨_,rfl⟩
      rw [←hbg] at Rg
      have HBg:=Lib.hid hbg
      have lg:bg<W4.heap.size:=by have:=Sg.out;omega
      have mg:w3.heap.size≤bg:=by omega
      have gr4:W1.grownBy W4 (some gm):=aH gr3 (aQ kg _)
      have hO4:=hO3.ext kg
      clear hbg
      go_wp2_with (refine aF rfl 51 _ _ rfl 51 _ _ rfl rfl (by kernel_rfl) rfl (by simp [Value.oneCell']) ?_)
      try dsimp only
      try rw [←hW4]
      go_roundg (g0-1)
      case rel=>exact ⟨k+1,bs1,by go_num,by omega,by omega,HN,hO4,gr4⟩
      case measure=>have:=HG0.out;omega
     |ok s=>
      rw [hr] at hld
      unfold LdO at hld
      dsimp only at hld
      obtain ⟨E1_,p1,q1,E2,p2,q2,E3,p3,q3,E4,p4,q4,rfl,hU⟩:=hld
      have hgo:=chain_go hr HB1.out
      rw [HT.out] at hgo
      have HGO:=Lib.hid hgo.symm
      have hct:=count_set HB1.out
      clear hr hU hgo
      obtain ⟨W4,hW4,_,kg,Sg,Rg⟩:=bP w3 w3 #[.slice E1_ p1 q1,.slice E2 p2 q2,.slice E3 p3 q3,.slice E4 p4 q4] 51 (Below.refl _ _)
      obtain ⟨bg,hbg⟩:∃b,b=w3.heap.size:=⟨_,rfl⟩
      rw [←hbg] at Rg
      have HBg:=Lib.hid hbg
      have lg:bg<W4.heap.size:=by have:=Sg.out;omega
      have mg:w3.heap.size≤bg:=by omega
      have hO4:=hO3.ext kg
      have gr4:W1.grownBy W4 (some gm):=aH gr3 (aQ kg _)
      obtain ⟨b',hb',hbc4,hbf4⟩:=hO4.cellBl h1
      obtain ⟨W5,hW5⟩:∃x,x=W4.setCell ⟨gm,j,none⟩ (.bool true):=⟨_,rfl⟩
      have hO5:=hO4.setBl j true
      rw [←hW5] at hO5
      have gr5:W1.grownBy W5 (some gm):=by rw [hW5];exact aO gr4
      have R05:=Lib.hid ((gr5.block w.heap.size (by omega) (by simp;omega)).trans R01.out)
      have D5:=D1.keep (w' :=W5) (fun b hb hs=>gr5.block b hb (by simp;omega))
      have HBE:=Lib.hid (iW A n c fs _ W5 D5 hn (j:Int) HF.out)
      have s5:W1.heap.size≤W5.heap.size:=gr5.size
      clear hb' hO3 gr3 hO2 hgr2 hbc hbf D2 R02
      go_upto_region 7 with (refine aF rfl 51 _ _ rfl 51 _ _ rfl rfl (by kernel_rfl) rfl (by simp [Value.oneCell']) ?_)
      try dsimp only
      rw [←hW4,←HBg.out]
      clear hW4
      try simp only [Act.put]
      clear hbg
      go_upto_region 9 with fail
      rw [←hW5]
      clear hW5 hbc4 hbf4 hO4 gr4
      go_wp2_with (refine aD (t:=36) (A:=⟨w.heap.size,0,none⟩) rfl rfl rfl (aB R05.out Tryz.underlying36 rfl (by kernel_rfl)) ?_)
      refine HBE.out.mono ?_
      rintro e w6 ⟨g',V,qq,x,rfl,hbo,b6⟩
      have s6:=b6.size
      have hbase:g'.base=hdBase fs (j:Int):=by
       unfold hdBase
       rcases hbo with ⟨p,hhd,_⟩|⟨hhd,hx0,rfl,_⟩
       ·rw [hhd]
       ·rw [hhd]
      have hbi:=hdBase_in (fs:=fs) (z:=(j:Int))
      have hgo2:=HGO.out
      rw [←hbase] at hbi hgo2
      have HG2:=Lib.hid hgo2
      clear hbo hbase hgo2
      obtain ⟨W7,hW7,_,ke,Se,Re⟩:=bP w6 w6 #[.int .i64 g'.kind,.int .i64 g'.stamp,.int .i64 g'.base,.int .i64 g'.under] 90 (Below.refl _ _)
      obtain ⟨be,hbe⟩:∃b,b=w6.heap.size:=⟨_,rfl⟩
      rw [←hbe] at Re
      have HBe:=Lib.hid hbe
      have le:be<W7.heap.size:=by have:=Se.out;omega
      have me:w6.heap.size≤be:=by omega
      have hO7:=hO5.ext (Below.ext b6 ke)
      have gr7:W1.grownBy W7 (some gm):=aH gr5 (aQ (Below.ext b6 ke) _)
      have qe:W7.cell? ⟨be,2,none⟩=some (.int .i64 g'.base):=aA Re.out 2 _ rfl
      go_upto_region 10 with (refine aF rfl 90 _ _ rfl 90 _ _ rfl rfl (by kernel_rfl) rfl (by simp [Value.oneCell']) ?_)
      try dsimp only
      rw [←hW7,←HBe.out]
      clear hW7 hbe
      try simp only [Act.put]
      go_wp2
      go_roundg (g1-1)
      case rel=>exact ⟨g'.base,bs1.set j true,rfl,hbi,by omega,HG2,hO7,gr7⟩
      case measure=>have:=HG1.out;omega
  ·obtain rfl:k=ln:=by omega
   have FIN:=Lib.hid (show marksM fs n zs=bs by
    have h:=HB.out
    rw [List.take_of_length_le (by have:=HLE.out;omega)] at h
    exact h.symm)
   obtain ⟨wq,hwq⟩:∃x,x=wr:=⟨_,rfl⟩
   subst hwq
   clear HB
   go_wp2
   go_loopw [14,66] (fun v i w2=>∃(j m:Nat) (A' :Option Addr) (c' :Nat),i= .int .i64 (j:Int)∧j≤n∧v= .slice A' m c'∧m≤j∧OwnR bJ 1 w2 wq.heap.size 3 (.slice A' m c') (idxTo bs j)∧Below wq.heap.size wq w2) (fun _ i _=>n-(intOf i).toNat)
   case atStart=>exact ⟨0,0,none,0,rfl,by omega,rfl,by omega,OwnR.nil_ _ _ _,Below.refl _ _⟩
   case round=>
    obtain ⟨j,m,A',c',rfl,hj,rfl,hmj,hO9,hb9⟩:=hrel
    have s9:=hb9.size
    by_cases hjn:j<n
    ·obtain ⟨b,hb,hbc,_⟩:=(hO.ext hb9).cellBl hjn
     have hl9:=hO9.len.1
     have hstep:idxTo bs (j+1)=idxTo bs j++(if bs[j]? =some true then [(j:Int)] else []):=rfl
     rw [hb] at hstep
     cases b with
     |false=>
      have HST:=Lib.hid (show idxTo bs (j+1)=idxTo bs j by rw [hstep];simp)
      clear hstep hb
      go_wp2
      go_roundw
      case rel=>exact ⟨j+1,m,A',c',by go_num,by omega,rfl,by omega,by rw [HST.out];exact hO9,hb9⟩
      case measure=>simp [intOf];omega
     |true=>
      have HST:=Lib.hid (show idxTo bs (j+1)=idxTo bs j++ [(j:Int)] by rw [hstep];simp)
      have hO2:=hO9.ext ((Below.refl _ wr).alloc (Nat.le_refl _) (.cells #[.int .i64 (j:Int)] 3))
      have hone:Recs bJ (fun _=>True) (wr.alloc (.cells #[.int .i64 (j:Int)] 3)) (.slice (some ⟨wr.heap.size,0,none⟩) 1 1) [(j:Int)]:=⟨_,1,rfl,by simp,by simp [maxLen],Cs.lit _ _ _ _ _ trivial rfl⟩
      clear hstep hb
      go_wp2_with (refine aV (o:=⟨some 75,_,_,_,_,_⟩) dH jG (.int .i64 0) 8 _ _ 23 3 wq.heap.size (idxTo bs j) [(j:Int)] (some ⟨wr.heap.size,0,none⟩) 1 1 (.slice A' m c') (m+1) rfl rfl Tryz.underlying23 oZ rfl (by omega) rfl rfl hO2 hone (by rw [hl9]) (by omega) (by omega) (by simp;omega) ?_;intro A5 c5 w5 hown5 hgr5 hat5 hc51 hc52)
      have b5:Below wq.heap.size wq w5:=(hb9.alloc (by omega) _).grown hgr5 (by simp;omega) (fun o e=>(World.ownsRow.lt hO2 o e).1)
      go_roundw
      case rel=>exact ⟨j+1,m+1,A5,c5,by go_num,by omega,rfl,by omega,by rw [HST.out];exact hown5,b5⟩
      case measure=>simp [intOf];omega
    ·obtain rfl:j=n:=by omega
     go_wp2
     go_ret
     rw [FIN.out]
     have sq:W1.heap.size≤wq.heap.size:=szr
     have BQ9_:Below w.heap.size w wq:=B1.grown hgr B1.size (fun o e=>by cases e;omega)
     exact ⟨_,_,_,rfl,hO9.weak BQ9_.size,Below.ext BQ9_ hb9⟩
end Go.Proofs.YtiblijmngokcgaaGreatDoor
