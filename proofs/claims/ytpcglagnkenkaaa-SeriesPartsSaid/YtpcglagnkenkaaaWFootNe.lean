-- shortened by a program of this session (wip/tool/words.py) out of the words that the print has laid
import Derived.Test.YtpcglagnkenkaaaWN
/-! ### 52. A row that stays read whatever happens to a block (a set of blocks) doesn't lie there -/
namespace Go.Proofs.YtpcglagnkenkaaaW.PrintWords
open Go.RowKit
namespace Kd
section
variable {α : Type} {d : Kd α} {W : World} {g n : Nat} {S ok : Nat → Prop} {A : Option Addr} {ad : Addr} {xs : List α}
end
end Kd
end Go.Proofs.YtpcglagnkenkaaaW.PrintWords
