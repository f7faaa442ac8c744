/- The tie of ConsoleLimits' row to the program's text, each fact by itself (kernel memory). -/
import Derived.Test.YtjianicbagcekaaGreatDoorRows
import Derived.LaidByTextLater
import Derived.SevenTiedAt
namespace Go.Proofs.YtjianicbagcekaaGreatDoor
open Go
theorem qt_pin : Tryz.pinned.checked.prog.pinnedFits "unicode/utf8.first" = true := by kernel_rfl
theorem qt_unsafe : Tryz.pinned.checked.prog.headLifts.contains "ownunsafe" = false := by kernel_rfl
theorem qt_fits : Tryz.pinned.checked.prog.listedFits [("unicode/utf8.first", Rows.laid_unicode_utf8_first), ("unicode/utf8.acceptRanges", Rows.laid_unicode_utf8_acceptRanges), ("internal/strconv.uint64pow10", Rows.laid_internal_strconv_uint64pow10), ("math/bits.deBruijn32tab", Rows.laid_math_bits_deBruijn32tab), ("math/bits.deBruijn64tab", Rows.laid_math_bits_deBruijn64tab)] = true := by
  unfold Program.listedFits
  rw [qt_unsafe]
  kernel_rfl
abbrev qt_laid : List (String × DataW Unit) := [("unicode/utf8.acceptRanges", Rows.laid_unicode_utf8_acceptRanges), ("internal/strconv.uint64pow10", Rows.laid_internal_strconv_uint64pow10), ("math/bits.deBruijn32tab", Rows.laid_math_bits_deBruijn32tab), ("math/bits.deBruijn64tab", Rows.laid_math_bits_deBruijn64tab)]
theorem qt_1 : Tryz.prog.worded (varsWordLater true) = true := by kernel_rfl
theorem qt_2 : Tryz.prog.worded (varsWordLater !true) = false := by kernel_rfl
theorem qt_3 : Tryz.prog.worded rootWordLater = true := by kernel_rfl
theorem qt_4 : qt_laid.map (fun x => Tryz.prog.kindOfLater x.1) = [LaidKind.data, .data, .data, .data].map some := by kernel_rfl
theorem qt_5 : (Tryz.prog.funcNamed "gosem.cut.vars").isSome = true := by kernel_rfl
theorem qt_6 : varsNamedLaterB Tryz.prog (varsId Tryz.prog) qt_laid = true := by kernel_rfl
end Go.Proofs.YtjianicbagcekaaGreatDoor
