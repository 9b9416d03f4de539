/- Words that the kit's print wrote for this seat, cut down by a program of this session: theorems that no text of this claim names are left out; each under its theorem's own conditions. -/
import Derived.ChangeSlices
import Derived.SizedLaws
import Derived.Test.YtdcabfonjmeajaaOrderZ5
namespace Go.Proofs.YtdcabfonjmeajaaW.PrintWords
open Go.ChangeShapes Go.WideShapes
end Go.Proofs.YtdcabfonjmeajaaW.PrintWords
