/- slices.Sort and slices.Compact of ints, by the library's contracts. Conditions: none. -/
import Derived.Test.YtaklmbhfmpdinaaGreatKCore3
import Derived.Test.YtaklmbhfmpdinaaGreatLaySort
import Derived.Test.YtaklmbhfmpdinaaGreatLayComp
import Derived.Shelf.Sort.Plain
import Derived.Shelf.Slices.In.SortNone
import Derived.Shelf.Slices.CompactI
set_option linter.unusedSimpArgs false
set_option linter.unusedVariables false
namespace Go.Proofs.YtaklmbhfmpdinaaGreat
open Go Go.RowKit Go.Inl
theorem sortOk : SortOk Tryz.prog 56 := ⟨fun b cap zs w h1 h2 h3 => Any.slices_Sort_int lays189 b 0 cap zs w h1 h2 h3, fun p cap w => Any.slices_Sort_int_none lays189 p cap w⟩
theorem compOk : CompOk Tryz.prog 57 := ⟨fun b cap zs w h1 h2 h3 => Any.slices_Compact_int laysB20 b 0 cap zs w h1 h2 h3, fun p cap w => Any.slices_Compact_int_empty laysB20 p cap w⟩
end Go.Proofs.YtaklmbhfmpdinaaGreat
