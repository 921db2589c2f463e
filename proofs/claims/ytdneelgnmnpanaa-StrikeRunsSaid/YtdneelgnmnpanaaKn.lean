/- What the laws ask of the chapter's examples: it is so. No conditions. -/
import Derived.Test.YtdneelgnmnpanaaP50
namespace Go.Proofs.Ytdneelgnmnpanaa.P
open Go.RowKit Go.Proofs.YtdneelgnmnpanaaW.PrintWords
theorem known_ev : Ev (fun k => verditerlaw04_known.f k) true := Ev.of (fun k => verditerlaw04_known.mono k) (k := 40) (by decide +kernel)
end Go.Proofs.Ytdneelgnmnpanaa.P
