/- A part of the proof: what a machine of our own over the model's code answers is what the model does; no condition. -/
import Derived.Test.YtglejgncbghngaaGreatDoorIoA
import Derived.Test.YtglejgncbghngaaGreatDoorIoB
import Derived.Test.YtglejgncbghngaaGreatDoorIoC
set_option linter.all false
open Go Go.Av Go.Proofs
set_option maxRecDepth 1000000
set_option linter.all false
namespace Go.Av
noncomputable def fsAbT0 [Tok] (l : List Rem) (k : Nat) : Option AFun := ifb (Nat.beq k 10) (some (.sem (withinL l))) (ifb (Nat.beq k 22) (some (.sem (withinL l))) (fsAbI0 k))
noncomputable def fsAbT1 [Tok] (l : List Rem) (k : Nat) : Option AFun := ifb (Nat.beq k 10) (some (.sem (withinL l))) (ifb (Nat.beq k 22) (some (.sem (withinL l))) (fsAbI1 k))
noncomputable def fsAbT2 [Tok] (l : List Rem) (k : Nat) : Option AFun := ifb (Nat.beq k 10) (some (.sem (withinL l))) (ifb (Nat.beq k 22) (some (.sem (withinL l))) (fsAbI2 k))
noncomputable def fsAbT3 [Tok] (l : List Rem) (k : Nat) : Option AFun := ifb (Nat.beq k 10) (some (.sem (withinL l))) (ifb (Nat.beq k 22) (some (.sem (withinL l))) (fsAbI3 k))
noncomputable def fsAbT4 [Tok] (l : List Rem) (k : Nat) : Option AFun := ifb (Nat.beq k 10) (some (.sem (withinL l))) (ifb (Nat.beq k 22) (some (.sem (withinL l))) (fsAbI4 k))
end Go.Av
