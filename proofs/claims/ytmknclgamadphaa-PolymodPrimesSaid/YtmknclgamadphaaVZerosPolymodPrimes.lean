-- A shortened copy, made by prune.py (a program of this repo), of a text of words that the kit's print.sh laid for this seat: the lemmas that this law's texts name.
import Derived.Test.YtmknclgamadphaaVApartPolymodPrimes
import Derived.Test.YtmknclgamadphaaVArrPolymodPrimes
/-! ### 42. append(v, make([]T, n)...): the operation comes as_ append with the number in the second place -/
namespace Go.Proofs.YtmknclgamadphaaW.PrintWords
open Go.RowKit
namespace Kd
/-! #### the same for rows whose elements lie apart -/
end Kd
end Go.Proofs.YtmknclgamadphaaW.PrintWords
