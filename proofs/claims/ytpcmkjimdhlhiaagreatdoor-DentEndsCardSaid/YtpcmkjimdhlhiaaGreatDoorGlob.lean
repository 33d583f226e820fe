import Derived.Test.YtpcmkjimdhlhiaaGreatDoorProg
import Derived.WalkKit
import Derived.Below
import Derived.KernelRfl
namespace Go.Proofs.YtpcmkjimdhlhiaaGreatDoor.P
open Go.RowKit
/-- The cell of internal/bytealg.MaxLen holds a number. -/
structure GlobOk (w : World) : Prop where
  out : ∃ m : Int, w.cell? ⟨0, 0, none⟩ = some (.int .i64 m)
theorem GlobOk.below {w w1 : World} (h : GlobOk w) (hb : Below w.heap.size w w1) : GlobOk w1 := by
  obtain ⟨m, hm⟩ := h.out
  exact ⟨m, (hb.cell (World.block_lt_of_cell? w _ hm)).trans hm⟩
end Go.Proofs.YtpcmkjimdhlhiaaGreatDoor.P
