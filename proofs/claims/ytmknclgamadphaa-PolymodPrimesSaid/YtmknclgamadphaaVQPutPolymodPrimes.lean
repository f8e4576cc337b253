-- A shortened copy, made by prune.py (a program of this repo), of a text of words that the kit's print.sh laid for this seat: the lemmas that this law's texts name.
import Derived.Test.YtmknclgamadphaaVWordsPolymodPrimes
import Derived.Test.YtmknclgamadphaaVLastPolymodPrimes
/-! ### 39. Stores into a row that may begin inside its block (Q): Q_form, Q_elem, Q_seg; scalars: Q_cell, Q_putg -/
namespace Go.Proofs.YtmknclgamadphaaW.PrintWords
open Go.RowKit
namespace Kd
end Kd
end Go.Proofs.YtmknclgamadphaaW.PrintWords
