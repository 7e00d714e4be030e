/- Slices of patches and of raw patches, as they stand in memory. Conditions: none. -/
import Derived.Test.YtaklmbhfmpdinaaKRef6
namespace Go.Proofs.Ytaklmbhfmpdinaa
open Go Go.RowKit Go.Inl
end Go.Proofs.Ytaklmbhfmpdinaa
