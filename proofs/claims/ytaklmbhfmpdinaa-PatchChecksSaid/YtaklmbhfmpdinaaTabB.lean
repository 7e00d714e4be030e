/- Bounds of the table of package normal. Conditions: none. -/
import Derived.Test.YtaklmbhfmpdinaaKCore2
namespace Go.Inl

end Go.Inl
