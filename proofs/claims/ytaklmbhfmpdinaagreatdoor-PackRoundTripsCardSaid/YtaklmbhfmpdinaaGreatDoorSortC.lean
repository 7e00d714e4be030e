/- slices.Sort and slices.Compact of ints, by the library's contracts. Conditions: none. -/
import Derived.Test.YtaklmbhfmpdinaaGreatDoorKCore3
import Derived.Test.YtaklmbhfmpdinaaGreatDoorLaySort
import Derived.Test.YtaklmbhfmpdinaaGreatDoorLayComp
import Derived.Shelf.Sort.Plain
import Derived.Shelf.Slices.In.SortNone
import Derived.Shelf.Slices.CompactI
namespace Go.Proofs.YtaklmbhfmpdinaaGreatDoor
open Go Go.RowKit Go.Inl
theorem sortOk : SortOk Tryz.prog 73 := ⟨fun b cap zs w h1 h2 h3 => Any.slices_Sort_int lays189 b 0 cap zs w h1 h2 h3, fun p cap w => Any.slices_Sort_int_none lays189 p cap w⟩
theorem compOk : CompOk Tryz.prog 74 := ⟨fun b cap zs w h1 h2 h3 => Any.slices_Compact_int laysB20 b 0 cap zs w h1 h2 h3, fun p cap w => Any.slices_Compact_int_empty laysB20 p cap w⟩

end Go.Proofs.YtaklmbhfmpdinaaGreatDoor

