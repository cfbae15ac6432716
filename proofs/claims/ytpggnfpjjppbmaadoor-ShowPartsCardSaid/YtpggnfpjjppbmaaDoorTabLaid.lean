/- The library's table of powers of ten, off the row's own condition. -/
import Derived.Test.YtpggnfpjjppbmaaDoorItoa
import Derived.Test.YtpggnfpjjppbmaaDoorRows
import Derived.LaidMore
import Derived.Stop.Joined
import Derived.Lib.LaidTab
set_option maxRecDepth 100000
namespace Go.Proofs.YtpggnfpjjppbmaaDoor
open Go.ChangeShapes Go.WideShapes Go.RowKit
theorem tab_laid {W : World} (h : laidMetH Tryd.prog [("math/bits.deBruijn32tab", Rows.laid_math_bits_deBruijn32tab), ("math/bits.deBruijn64tab", Rows.laid_math_bits_deBruijn64tab), ("internal/strconv.uint64pow10", Rows.laid_internal_strconv_uint64pow10)] W) : Tab W := by
  rw [MakeChecks.laidMetH_plain _ _ _ (by kernel_rfl)] at h
  obtain ⟨ps, ⟨g0, t0, cs0, f0, p0, q0, hg0, ht0, hv0, hd0, ⟨g1, t1, cs1, f1, p1, q1, hg1, ht1, hv1, hd1, ⟨g2, t2, cs2, f2, p2, q2, hg2, ht2, hv2, hd2, _, _⟩, _⟩, _⟩, _⟩ := h
  have hg : Tryd.prog.globalNamed "internal/strconv.uint64pow10" = some 1 := by kernel_rfl
  have ht : (Tryd.prog.globals[1]?).map (·.type) = some 112 := by kernel_rfl
  obtain rfl := Option.some.inj (hg.symm.trans hg2)
  obtain rfl := Option.some.inj (ht.symm.trans ht2)
  have hc := Lib.cells_of_tab (zs := Lib.pow10Tab) (k := .u64) Tryd.underlying112 Tryd.underlying101 (by kernel_rfl) (by kernel_rfl) hd2
  unfold Tab Lib.TabIs
  rw [hv2, ← hc]
end Go.Proofs.YtpggnfpjjppbmaaDoor
