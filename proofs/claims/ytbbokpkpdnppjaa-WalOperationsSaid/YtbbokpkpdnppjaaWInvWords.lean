/- Texts of one proof. -/
import Derived.Test.YtbbokpkpdnppjaaWNEv
import Derived.Test.YtbbokpkpdnppjaaWInv
namespace Go.Proofs.YtbbokpkpdnppjaaW.PrintWords
open Go.RowKit
namespace Kd
section
variable {α : Type} {d : Kd α} {W : World} {g n : Nat} {S ok : Nat → Prop} {A : Option Addr} {ad : Addr} {xs : List α}
end
end Kd
end Go.Proofs.YtbbokpkpdnppjaaW.PrintWords
namespace Go.Proofs.YtbbokpkpdnppjaaW.PrintWords
open Go.RowKit
section
variable {w w' u : World} {m B g : Nat} {o : Obj} {row : Option Nat} {S : Nat → Prop} {a : Addr} {v : Value}
end
namespace Kd
section
variable {α : Type} {d : Kd α} {e base n m : Nat} {ok : Nat → Prop} {w w' : World} {v : Value} {A : Option Addr} {xs : List α}
end
end Kd
end Go.Proofs.YtbbokpkpdnppjaaW.PrintWords
namespace Go.Proofs.YtbbokpkpdnppjaaW.PrintWords
open Go.RowKit
end Go.Proofs.YtbbokpkpdnppjaaW.PrintWords
namespace Go.Proofs.YtbbokpkpdnppjaaW.PrintLast
section
variable {ops : Array Oper} {a : Act} {o og : Oper} {g : Nat} {t : Tmp} {u : Bool}
end
end Go.Proofs.YtbbokpkpdnppjaaW.PrintLast
