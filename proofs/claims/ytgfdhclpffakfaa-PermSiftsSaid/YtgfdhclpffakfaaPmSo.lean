/- slices.Sort on a row of the call's own. -/
import Derived.Test.YtgfdhclpffakfaaPmR
import Derived.Test.YtgfdhclpffakfaaShelfS
import Derived.Sort.OwnSortedInts
namespace Go.Proofs.Ytgfdhclpffakfaa
set_option linter.unusedVariables false
set_option linter.unusedSimpArgs false
open Go.RowKit

theorem sortOK : SortOK := by
  intro w base v l hv h1 h2
  rcases hv.2 with ⟨_, h0⟩ | ⟨g, cap, cur, rfl, hbase, hb, c1, c2, c3, c4⟩
  · omega
  · have c4' : cur.toList.take l.length = l.map (Value.int .i64) := by simpa [ints] using c4
    have hg : g < w.heap.size := (Array.getElem?_eq_some_iff.1 hb).1
    refine (Try.slices_Sort_int g 0 cap l w (holds_of_blockI hb c4') hg (by omega)).mono ?_
    rintro e w' ⟨rfl, n, os, rfl⟩
    have hl : (l.mergeSort fun x y => decide (x ≤ y)).length = l.length := List.length_mergeSort _
    exact ⟨rfl, ownsRow_sortedI hl hbase hb c1 c2 c3, grownBy_sortedI _⟩
end Go.Proofs.Ytgfdhclpffakfaa
