-- A shortened copy, made by prune.py (a program of this repo), of a text of words that the kit's print.sh laid for this seat: the lemmas that this law's texts name.
import Derived.Test.YtmknclgamadphaaVWordsPolymodPrimes
/-! ### 41. Arrays '[n]T' as_ values: a kind (a field, an element of a row), an element read, an element set -/
namespace Go.Proofs.YtmknclgamadphaaW.PrintWords
open Go.RowKit
namespace Kd
end Kd
end Go.Proofs.YtmknclgamadphaaW.PrintWords
