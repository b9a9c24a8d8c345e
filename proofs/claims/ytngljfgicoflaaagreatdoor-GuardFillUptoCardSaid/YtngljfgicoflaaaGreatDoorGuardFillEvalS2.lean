/- The example that each statement checks first, evaluated: one part. -/
import Derived.Test.YtngljfgicoflaaaGreatDoorGuardFillEvalS1
set_option linter.all false
section
open Go Go.Kx Go.Proofs
namespace Gx
set_option maxRecDepth 20000
def es2:Sm:=⟨10,[.c (.sp 420 0 2 3)],[(428,.arr [.s (str [80]),.sp 206 0 1 1,.sp 420 0 2 3,.nil] 4 40),
  (420,.arr [.s (str [97]),.sp 248 0 1 4,.nil,.s (str [98]),.sp 318 0 2 4,.sp 414 0 2 9] 3 102),
  (414,.arr [.i .i64 (2:Int),.s (str []),.s (str [121]),.i .i64 (0:Int),.s (str [62]),.i .i64 (2:Int),.s (str [97]),.s (str [120]),.i .i64 (0:Int),.i .i64 (2:Int),.s (str []),.s (str [122]),.i .i64 (0:Int),.s (str [62,61]),.i .i64 (2:Int),.s (str []),.s (str [121]),.i .i64 (0:Int)] 9 115),
  (318,.arr [.s (str [121]),.i .i64 (1:Int),.i .i64 (0:Int),.i .i64 (9:Int),.s (str [122]),.i .i64 (1:Int),.i .i64 (0:Int),.i .i64 (9:Int)] 4 68),
  (248,.arr [.s (str [120]),.i .i64 (1:Int),.i .i64 (0:Int),.i .i64 (9:Int)] 4 68),
  (206,.arr [.s (str [65])] 1 9)],657,.t [.inl (.sp 949 0 2 5),.inl (.s (str [])),.inl (.i .i64 (0:Int))],[(949,.arr [.s (str [97]),.sp 942 0 1 4,.i .i64 (0:Int),.nil,.nil,.s (str [98]),.sp 947 0 2 4,.i .i64 (1:Int),.sp 991 0 2 3,.nil] 5 51),
  (991,.arr [.i .i64 (0:Int),.i .i64 (1:Int),.i .i64 (-1:Int),.i .i64 (1:Int),.i .i64 (2:Int),.i .i64 (0:Int)] 3 59),
  (947,.arr [.s (str [121]),.i .i64 (1:Int),.i .i64 (0:Int),.i .i64 (9:Int),.s (str [122]),.i .i64 (1:Int),.i .i64 (0:Int),.i .i64 (9:Int)] 4 68),
  (942,.arr [.s (str [120]),.i .i64 (1:Int),.i .i64 (0:Int),.i .i64 (9:Int)] 4 68),
  (428,.arr [.s (str [80]),.sp 206 0 1 1,.sp 420 0 2 3,.nil] 4 40),
  (420,.arr [.s (str [97]),.sp 248 0 1 4,.nil,.s (str [98]),.sp 318 0 2 4,.sp 414 0 2 9] 3 102),
  (414,.arr [.i .i64 (2:Int),.s (str []),.s (str [121]),.i .i64 (0:Int),.s (str [62]),.i .i64 (2:Int),.s (str [97]),.s (str [120]),.i .i64 (0:Int),.i .i64 (2:Int),.s (str []),.s (str [122]),.i .i64 (0:Int),.s (str [62,61]),.i .i64 (2:Int),.s (str []),.s (str [121]),.i .i64 (0:Int)] 9 115),
  (318,.arr [.s (str [121]),.i .i64 (1:Int),.i .i64 (0:Int),.i .i64 (9:Int),.s (str [122]),.i .i64 (1:Int),.i .i64 (0:Int),.i .i64 (9:Int)] 4 68),
  (248,.arr [.s (str [120]),.i .i64 (1:Int),.i .i64 (0:Int),.i .i64 (9:Int)] 4 68),
  (206,.arr [.s (str [65])] 1 9)],994⟩
theorem es2_b:smB (evCallF Tryz.prog ett eft eext eT1 1000000 100) es2=true:=by kernel_rfl
noncomputable def eT2:Cal:=smC es2 eT1
theorem eT2_ok:CalOk Tryz.prog eT2:=smC_ok (ev_ok eT1_ok) es2_b eT1_ok
end Gx
end
