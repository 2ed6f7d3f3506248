/- What the row lists: the table of the powers of ten. -/
import Derived.Test.YtpolblaahifjiaaDoorGivefmt
import Derived.Test.YtpolblaahifjiaaDoorRows
import Derived.Lib.LaidTab
import Derived.Stop.LaidErr
namespace Go.Proofs.YtpolblaahifjiaaDoor.Fmt
open Go Go.RowKit Go.Proofs
theorem tabDatum : (Rows.laid_internal_strconv_uint64pow10 : DataW Unit) = Lib.tabData .u64 Lib.pow10Tab := rfl
theorem tab_of_laid {W : World} (hL : laidMet Tryd.prog [("math/bits.deBruijn32tab", Rows.laid_math_bits_deBruijn32tab), ("math/bits.deBruijn64tab", Rows.laid_math_bits_deBruijn64tab), ("internal/strconv.uint64pow10", Rows.laid_internal_strconv_uint64pow10)] W) : Tab W := by
  have h := hL.tail.tail
  rw [tabDatum] at h
  exact Lib.tabIs_of_head globalTab (by kernel_rfl) Tryd.underlying88 Tryd.underlying57 (by kernel_rfl) (by kernel_rfl) h
end Go.Proofs.YtpolblaahifjiaaDoor.Fmt
