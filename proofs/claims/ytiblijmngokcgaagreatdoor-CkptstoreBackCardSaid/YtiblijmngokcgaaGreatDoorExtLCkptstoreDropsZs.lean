import Derived.Test.YtiblijmngokcgaaGreatDoorG31Zs
import Derived.Test.YtiblijmngokcgaaGreatDoorG20Zs
namespace Go.Proofs.YtiblijmngokcgaaGreatDoor
open Go.RowKit
set_option maxRecDepth 100000
set_option linter.unusedVariables false
theorem StB.dlen {s u:Stt} (h:StB s):(dN s u).length≤4096:=by
 have h1:=JF (E:=s.evs.drop u.evs.length) (S:=s.sent.drop u.sent.length) (O:=s.outs.drop u.outs.length) h.i (fun _ h=>List.mem_of_mem_drop h) (fun _ h=>List.mem_of_mem_drop h) (fun _ h=>List.mem_of_mem_drop h) (by have:=h.e;simp;omega) (by simp) (by simp)
 have h2:=MC (a:=u.cells) h.i.c h.c
 have h3:=lW u.cells s.cells
 unfold cM at h3
 have hc:=h.c
 have hn:=h.i.n
 have he:=h.e
 have n1:=tW 0 (by omega)
 have n2:=tW (s.evs.drop u.evs.length).length (by simp;omega)
 have n3:=tW (s.sent.drop u.sent.length).length (by simp;omega)
 have n4:=tW (s.outs.drop u.outs.length).length (by simp;omega)
 have hd:(aK (dO s u).l).length=(aK [((0:Nat):Int)]).length+0+(aK [((s.evs.drop u.evs.length).length:Int)]).length+(aK ((s.evs.drop u.evs.length).flatMap Ev.l)).length+(aK [((s.sent.drop u.sent.length).length:Int)]).length+(aK ((s.sent.drop u.sent.length).flatMap Snd.l)).length+(aK [((s.outs.drop u.outs.length).length:Int)]).length+(aK ((s.outs.drop u.outs.length).flatMap Ou.l)).length:=by
  simp only [Stt.l,dO,oJ]
  rfl
 unfold dN
 rw [List.length_append]
 omega
theorem infoDisk:(Tryz.prog.info? 36).map (fun i=>(i.zero,i.size,i.bytes))=some (some (.agg #[.slice none 0 0]),1,24):=by kernel_rfl
theorem alloc_disk (ρ:Operand→Value) (o:Oper) (w:World) (ho:o.op= .alloc 36):(execOp ρ o).run Tryz.prog w= .ok (.value (.pointer (some ⟨w.heap.size,0,none⟩))) (w.alloc (.cells #[.slice none 0 0] 36)):=by
 obtain ⟨i,hi,hz,_⟩:=info_parts infoDisk
 have:=uJ hi hz ρ o w ho
 exact this
end Go.Proofs.YtiblijmngokcgaaGreatDoor
