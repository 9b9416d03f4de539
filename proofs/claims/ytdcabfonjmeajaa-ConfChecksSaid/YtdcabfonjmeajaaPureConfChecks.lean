/- The law ConfChecks holds of the printed functions; no condition beyond the law's own. -/
import Derived.Test.YtdcabfonjmeajaaConfRConfChecks
import Derived.Test.YtdcabfonjmeajaaConfCfg
import Derived.Test.YtdcabfonjmeajaaConfS3
set_option linter.unusedVariables false
set_option linter.unusedSimpArgs false
namespace Go.Proofs.Ytdcabfonjmeajaa.Pure
open Go.RowKit Go.Proofs.YtdcabfonjmeajaaW.PrintWords Go.Proofs.YtdcabfonjmeajaaW.PrintLast Go.Proofs.YtdcabfonjmeajaaW.PrintMore Go.Proofs.Ytdcabfonjmeajaa.PConf

open Classical in
theorem ConfChecks : boarderlaw13_ConfChecks.Pure := by
  intro a b nets _
  refine Ev.rounds (Ev.bind (boarderlaw13_Great_s a b nets) (f := fun k t340 => (if t340 = true then ((boarderlaw13_knows.f k).bind fun t341 => (some t341)) else ((conf_Check.f k a b nets).bind fun t342 => ((boarderref13_Check.f k a b nets).bind fun t343 => (if t342 = t343 then ((boarderlaw13_knows.f k).bind fun t344 => (some t344)) else (none)))))) ?_)
  have hk : Ev (fun k => (boarderlaw13_knows.f k).bind fun t => some t) true := Ev.bind boarderlaw13_knows_s (f := fun _ t => some t) Ev.some'
  by_cases h : Sm nets
  · refine Ev.neg (by rw [decide_eq_true_iff]; exact fun h2 => h2 h) (Ev.bind (conf_Check_s a b nets h) (f := fun k t342 => ((boarderref13_Check.f k a b nets).bind fun t343 => (if t342 = t343 then ((boarderlaw13_knows.f k).bind fun t344 => (some t344)) else (none)))) (Ev.bind (boarderref13_Check_s a b nets h) (f := fun k t343 => (if checkI a b nets = t343 then ((boarderlaw13_knows.f k).bind fun t344 => (some t344)) else (none))) (Ev.pos rfl hk)))
  · exact Ev.pos (by rw [decide_eq_true_iff]; exact h) hk

end Go.Proofs.Ytdcabfonjmeajaa.Pure
