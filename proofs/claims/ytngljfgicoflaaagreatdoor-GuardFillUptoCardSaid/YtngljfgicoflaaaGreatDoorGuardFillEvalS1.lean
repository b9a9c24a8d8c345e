/- The example that each statement checks first, evaluated: one part. -/
import Derived.Test.YtngljfgicoflaaaGreatDoorGuardFillEval
set_option linter.all false
section
open Go Go.Kx Go.Proofs
namespace Gx
set_option maxRecDepth 20000
def es1:Sm:=⟨9,[.c (.s (str [112,114,111,116,111,99,111,108,32,80,40,65,41,32,123,32,109,101,115,115,97,103,101,32,97,40,120,58,32,105,110,116,32,48,46,46,57,41,59,32,109,101,115,115,97,103,101,32,98,40,121,58,32,105,110,116,32,48,46,46,57,44,32,122,58,32,105,110,116,32,48,46,46,57,41,32,119,104,101,114,101,32,121,32,62,32,97,46,120,32,97,110,100,32,122,32,62,61,32,121,59,32,125]))],[],0,.t [.inl (.sp 428 0 1 4),.inl (.i .i64 (0:Int)),.inl (.i .i64 (0:Int))],[(428,.arr [.s (str [80]),.sp 206 0 1 1,.sp 420 0 2 3,.nil] 4 40),
  (420,.arr [.s (str [97]),.sp 248 0 1 4,.nil,.s (str [98]),.sp 318 0 2 4,.sp 414 0 2 9] 3 102),
  (414,.arr [.i .i64 (2:Int),.s (str []),.s (str [121]),.i .i64 (0:Int),.s (str [62]),.i .i64 (2:Int),.s (str [97]),.s (str [120]),.i .i64 (0:Int),.i .i64 (2:Int),.s (str []),.s (str [122]),.i .i64 (0:Int),.s (str [62,61]),.i .i64 (2:Int),.s (str []),.s (str [121]),.i .i64 (0:Int)] 9 115),
  (318,.arr [.s (str [121]),.i .i64 (1:Int),.i .i64 (0:Int),.i .i64 (9:Int),.s (str [122]),.i .i64 (1:Int),.i .i64 (0:Int),.i .i64 (9:Int)] 4 68),
  (248,.arr [.s (str [120]),.i .i64 (1:Int),.i .i64 (0:Int),.i .i64 (9:Int)] 4 68),
  (206,.arr [.s (str [65])] 1 9)],657⟩
theorem es1_b:smB (evCallF Tryz.prog ett eft eext noC 1000000 100) es1=true:=by kernel_rfl
noncomputable def eT1:Cal:=smC es1 noC
theorem eT1_ok:CalOk Tryz.prog eT1:=smC_ok (ev_ok noC_ok) es1_b noC_ok
end Gx
end
