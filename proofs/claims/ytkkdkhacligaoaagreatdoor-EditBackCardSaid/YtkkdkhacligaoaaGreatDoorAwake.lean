import Derived.Test.YtkkdkhacligaoaaGreatDoorBase
import Derived.Test.YtkkdkhacligaoaaGreatDoorMc
namespace Go.Proofs.YtkkdkhacligaoaaGreatDoor.law
set_option maxRecDepth 100000 in
theorem awake : PI.Run C0 10 [] (PI.boolP true) := PI.run_of (k := 400) (by kernel_rfl)
end Go.Proofs.YtkkdkhacligaoaaGreatDoor.law
