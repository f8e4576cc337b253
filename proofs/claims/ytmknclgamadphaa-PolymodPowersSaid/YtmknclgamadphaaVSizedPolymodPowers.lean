-- A shortened copy, made by prune.py (a program of this repo), of a text of words that the kit's print.sh laid for this seat: the lemmas that this law's texts name.
import Derived.SizedLaws
import Derived.ChangeSlices
namespace Go.Proofs.YtmknclgamadphaaW.PrintWords
open Go.ChangeShapes Go.WideShapes
end Go.Proofs.YtmknclgamadphaaW.PrintWords
