-- PRINTED BY print.sh 35421559b90ae4d0a3588c463048766b98c2df88dd9212a6774a882060cdf62d: not written by this session
-- PRINTED WORDS (module Derived/Print/Sized.lean): go-gate-2's, for the rows of laws over slices: an AI agent of Go's test side, Tue Nov 17 2026; no person has read it. Lean checks it.
import Derived.SizedLaws
import Derived.ChangeSlices
namespace Go.Proofs.YtcihfmehbmficaaW.PrintWords
open Go.ChangeShapes Go.WideShapes
end Go.Proofs.YtcihfmehbmficaaW.PrintWords
