-- shortened by a program of this session (wip/tool/words.py) out of the words that the print has laid
import Derived.Test.YtpcglagnkenkaaaWInv
import Derived.Test.YtpcglagnkenkaaaWFootNe
namespace Go.Proofs.YtpcglagnkenkaaaW.PrintWords
open Go.RowKit
end Go.Proofs.YtpcglagnkenkaaaW.PrintWords
namespace Go.Proofs.YtpcglagnkenkaaaW.PrintLast
section
variable {ops : Array Oper} {a : Act} {o og : Oper} {g : Nat} {t : Tmp} {u : Bool}
end
end Go.Proofs.YtpcglagnkenkaaaW.PrintLast
