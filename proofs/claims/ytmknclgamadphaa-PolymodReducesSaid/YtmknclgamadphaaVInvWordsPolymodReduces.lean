-- A shortened copy, made by a program of this repo, of a text of words that the kit's print.sh laid for this seat: the lemmas that this law's texts need.
import Derived.Test.YtmknclgamadphaaVInvPolymodReduces
import Derived.Test.YtmknclgamadphaaVFootNePolymodReduces
namespace Go.Proofs.YtmknclgamadphaaW.PrintWords
open Go.RowKit
end Go.Proofs.YtmknclgamadphaaW.PrintWords
namespace Go.Proofs.YtmknclgamadphaaW.PrintLast
end Go.Proofs.YtmknclgamadphaaW.PrintLast
