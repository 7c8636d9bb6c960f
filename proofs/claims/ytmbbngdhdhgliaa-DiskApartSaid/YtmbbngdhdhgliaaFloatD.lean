/-
  Floating allocs of disks.
-/
import Derived.Test.YtmbbngdhdhgliaaFloat
import Derived.Test.YtmbbngdhdhgliaaDiskB
namespace Go.Proofs.Ytmbbngdhdhgliaa
open Go.RowKit
set_option linter.unusedVariables false
theorem infoDisk : (Try.prog.info? 24).map (fun i => (i.zero, i.size, i.bytes)) = some (some (.agg #[.slice none 0 0]), 1, 24) := by kernel_rfl
theorem alloc_disk (ρ : Operand → Value) (o : Oper) (w : World) (ho : o.op = .alloc 24) : (execOp ρ o).run Try.prog w = .ok (.value (.pointer (some ⟨w.heap.size, 0, none⟩))) (w.alloc (.cells #[.slice none 0 0] 24)) := by
  obtain ⟨i, hi, hz, _⟩ := info_parts infoDisk
  have := run_alloc_op hi hz ρ o w ho
  exact this
end Go.Proofs.Ytmbbngdhdhgliaa
