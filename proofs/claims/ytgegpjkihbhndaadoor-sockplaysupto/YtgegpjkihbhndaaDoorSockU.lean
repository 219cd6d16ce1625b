/- What is proved: SockPlays returns true for every room and every script, and leaves its arguments as they were. Conditions: those of the row that the card ties: the arguments hold together at most 1048576 values and letters; the 18 errors of package api lie as the program lays them. -/
import Derived.Test.YtgegpjkihbhndaaDoorCard3b
import Derived.Test.YtgegpjkihbhndaaDoorLaw3m
namespace Go.Proofs.YtgegpjkihbhndaaDoor
theorem sockPlays_upto_holds : Rows.SockPlaysUptoCardSaid := cardUpto law3_loop
#print axioms sockPlays_upto_holds
end Go.Proofs.YtgegpjkihbhndaaDoor
