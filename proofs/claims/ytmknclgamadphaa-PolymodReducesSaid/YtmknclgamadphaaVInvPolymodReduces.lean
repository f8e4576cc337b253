-- A shortened copy, made by a program of this repo, of a text of words that the kit's print.sh laid for this seat: the lemmas that this law's texts need.
import Derived.Test.YtmknclgamadphaaVTabPolymodReduces
namespace Go.Proofs.YtmknclgamadphaaW.PrintLast
end Go.Proofs.YtmknclgamadphaaW.PrintLast
