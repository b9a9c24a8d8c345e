/- The example that each statement checks first, evaluated: its result is true. -/
import Derived.Test.YtngljfgicoflaaaGreatDoorGuardFillEvalS2
set_option linter.all false
section
open Go Go.Kx Go.Proofs
namespace Gx
set_option maxRecDepth 20000
theorem awake_ev:evT (evCallF Tryz.prog ett eft eext eT2 1000000 100) 4=true:=by kernel_rfl
theorem awake_fn:Fn Tryz.prog 4 ⟨0,[],[],[],0,.c (.b true),[],[]⟩:=Fn.ofEv (ev_ok eT2_ok) awake_ev
end Gx
end
