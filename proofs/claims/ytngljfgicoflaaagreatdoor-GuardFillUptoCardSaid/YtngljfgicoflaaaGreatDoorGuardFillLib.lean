/- A function of the library, by the contract that is proved once for all programs. -/
import Derived.Shelf.Strings.Repeat
import Derived.Test.YtngljfgicoflaaaGreatDoorProg
import Derived.Test.YtngljfgicoflaaaGreatDoorGuardFillCore4
set_option linter.all false
section
open Go Go.Kx Go.Proofs
namespace Gx
set_option maxRecDepth 20000
def rpRen:Go.Shelf.Ren:=⟨fun x=>match x with
  | 105=>19
  | 212=>57
  | 99=>58
  | 165=>59
  | 166=>60
  | 170=>61
  | 169=>62
  | 263=>111
  | 264=>112
  | 206=>113
  | 240=>114
  | 241=>115
  | 276=>166
  | 277=>167
  | n=>n,fun x=>match x with
  | 9=>9
  | 3=>3
  | 4=>4
  | 20=>20
  | 0=>0
  | 46=>127
  | 109=>128
  | 5=>5
  | 72=>134
  | 76=>138
  | 51=>181
  | 146=>182
  | 53=>184
  | 148=>185
  | 70=>131
  | 37=>132
  | 75=>137
  | 127=>187
  | 164=>231
  | 80=>141
  | n=>n,fun x=>x⟩
theorem rpLays:Go.Proofs.Lays.n105 Go.Proofs.Tryz.prog rpRen :=
  { mixed:=by kernel_rfl,
    f99:=Eq.trans Go.Proofs.Tryz.func58 (congrArg some (by kernel_rfl)),
    f105:=Eq.trans Go.Proofs.Tryz.func19 (congrArg some (by kernel_rfl)),
    f165:=Eq.trans Go.Proofs.Tryz.func59 (congrArg some (by kernel_rfl)),
    f166:=Eq.trans Go.Proofs.Tryz.func60 (congrArg some (by kernel_rfl)),
    f169:=Eq.trans Go.Proofs.Tryz.func62 (congrArg some (by kernel_rfl)),
    f170:=Eq.trans Go.Proofs.Tryz.func61 (congrArg some (by kernel_rfl)),
    f206:=Eq.trans Go.Proofs.Tryz.func113 (congrArg some (by kernel_rfl)),
    f212:=Eq.trans Go.Proofs.Tryz.func57 (congrArg some (by kernel_rfl)),
    f240:=Eq.trans Go.Proofs.Tryz.func114 (congrArg some (by kernel_rfl)),
    f241:=Eq.trans Go.Proofs.Tryz.func115 (congrArg some (by kernel_rfl)),
    f263:=Eq.trans Go.Proofs.Tryz.func111 (congrArg some (by kernel_rfl)),
    f264:=Eq.trans Go.Proofs.Tryz.func112 (congrArg some (by kernel_rfl)),
    f276:=Eq.trans Go.Proofs.Tryz.func166 (congrArg some (by kernel_rfl)),
    f277:=Eq.trans Go.Proofs.Tryz.func167 (congrArg some (by kernel_rfl)),
    t0:=Go.Proofs.Tryz.underlying0,
    a0:=Go.Proofs.Tryz.isAgg0,
    z0:=Go.Proofs.Tryz.sizeOf0,
    v0:=Go.Proofs.Tryz.zeroValue0,
    t3:=Go.Proofs.Tryz.underlying3,
    a3:=Go.Proofs.Tryz.isAgg3,
    z3:=Go.Proofs.Tryz.sizeOf3,
    v3:=Go.Proofs.Tryz.zeroValue3,
    t4:=Go.Proofs.Tryz.underlying4,
    a4:=Go.Proofs.Tryz.isAgg4,
    z4:=Go.Proofs.Tryz.sizeOf4,
    v4:=Go.Proofs.Tryz.zeroValue4,
    t5:=Go.Proofs.Tryz.underlying5,
    a5:=Go.Proofs.Tryz.isAgg5,
    z5:=Go.Proofs.Tryz.sizeOf5,
    v5:=Go.Proofs.Tryz.zeroValue5,
    t9:=Go.Proofs.Tryz.underlying9,
    a9:=Go.Proofs.Tryz.isAgg9,
    z9:=Go.Proofs.Tryz.sizeOf9,
    v9:=Go.Proofs.Tryz.zeroValue9,
    t20:=Go.Proofs.Tryz.underlying20,
    a20:=Go.Proofs.Tryz.isAgg20,
    z20:=Go.Proofs.Tryz.sizeOf20,
    v20:=Go.Proofs.Tryz.zeroValue20,
    t37:=Go.Proofs.Tryz.underlying132,
    a37:=Go.Proofs.Tryz.isAgg132,
    z37:=Go.Proofs.Tryz.sizeOf132,
    v37:=Go.Proofs.Tryz.zeroValue132,
    t46:=Go.Proofs.Tryz.underlying127,
    a46:=Go.Proofs.Tryz.isAgg127,
    z46:=Go.Proofs.Tryz.sizeOf127,
    v46:=Go.Proofs.Tryz.zeroValue127,
    t51:=Go.Proofs.Tryz.underlying181,
    a51:=Go.Proofs.Tryz.isAgg181,
    z51:=Go.Proofs.Tryz.sizeOf181,
    v51:=Go.Proofs.Tryz.zeroValue181,
    t53:=Go.Proofs.Tryz.underlying184,
    a53:=Go.Proofs.Tryz.isAgg184,
    z53:=Go.Proofs.Tryz.sizeOf184,
    v53:=Go.Proofs.Tryz.zeroValue184,
    t70:=Go.Proofs.Tryz.underlying131,
    a70:=Go.Proofs.Tryz.isAgg131,
    z70:=Go.Proofs.Tryz.sizeOf131,
    v70:=Go.Proofs.Tryz.zeroValue131,
    t72:=Go.Proofs.Tryz.underlying134,
    a72:=Go.Proofs.Tryz.isAgg134,
    z72:=Go.Proofs.Tryz.sizeOf134,
    v72:=Go.Proofs.Tryz.zeroValue134,
    t75:=Go.Proofs.Tryz.underlying137,
    a75:=Go.Proofs.Tryz.isAgg137,
    z75:=Go.Proofs.Tryz.sizeOf137,
    v75:=Go.Proofs.Tryz.zeroValue137,
    t76:=Go.Proofs.Tryz.underlying138,
    a76:=Go.Proofs.Tryz.isAgg138,
    z76:=Go.Proofs.Tryz.sizeOf138,
    v76:=Go.Proofs.Tryz.zeroValue138,
    t109:=Go.Proofs.Tryz.underlying128,
    a109:=Go.Proofs.Tryz.isAgg128,
    z109:=Go.Proofs.Tryz.sizeOf128,
    v109:=Go.Proofs.Tryz.zeroValue128,
    t127:=Go.Proofs.Tryz.underlying187,
    a127:=Go.Proofs.Tryz.isAgg187,
    z127:=Go.Proofs.Tryz.sizeOf187,
    v127:=Go.Proofs.Tryz.zeroValue187,
    t146:=Go.Proofs.Tryz.underlying182,
    a146:=Go.Proofs.Tryz.isAgg182,
    z146:=Go.Proofs.Tryz.sizeOf182,
    v146:=Go.Proofs.Tryz.zeroValue182,
    t148:=Go.Proofs.Tryz.underlying185,
    a148:=Go.Proofs.Tryz.isAgg185,
    z148:=Go.Proofs.Tryz.sizeOf185,
    v148:=Go.Proofs.Tryz.zeroValue185,
    t164:=Go.Proofs.Tryz.underlying231,
    a164:=Go.Proofs.Tryz.isAgg231,
    z164:=Go.Proofs.Tryz.sizeOf231,
    v164:=Go.Proofs.Tryz.zeroValue231 }
theorem rpExtra:Builder.Extra Tryz.prog rpRen where
  sizeBuilder:=by kernel_rfl
  liesBuilder:=by kernel_rfl
  t5:=rpLays.t5
  a5:=rpLays.a5
  z5:=rpLays.z5
  v5:=rpLays.v5
  infoByte:=by kernel_rfl
  cellsByte:=by kernel_rfl
  sizeByte:=by kernel_rfl
  neB5:=by decide
/-- So many copies of a text: the text of the library, walked once for all. -/
theorem repeat_fn (s:ByteArray) (c:Nat) (hc:c≤9223372036854775807) (hlen:s.size * c≤140737488355328):Fn Tryz.prog 19 ⟨0,[.c (.s s),.c (.i .i64 (c:Int))],[],[],0,.c (.s ⟨(Go.Lib.repeatL s.data.toList c).toArray⟩),[],[]⟩:=by
  refine ⟨⟨Tryz.f19,Tryz.func19,rfl,rfl⟩,fun E F w hp=>?_⟩
  refine (Any.strings_Repeat rpLays rpExtra s c w hc hlen).mono ?_
  rintro e w' ⟨rfl,hb⟩
  exact ⟨E,F,rfl,{
    env:=fun k hk=>absurd hk (Nat.not_lt_zero k)
    one:=hp.one
    V:=fun k f h=>(nomatch h)
    M:=fun k m h=>(nomatch h)
    dis:=fun k k' m m' h=>(nomatch h)
    mF:=fun k m h=>(nomatch h)
    fresh:=fun k m h=>(nomatch h)
    F0:=fun _ h=>h
    F1:=fun _ h=>.inl h
    Fs:=fun b h=>Nat.lt_of_lt_of_le (hp.hF b h) hb.size
    ext:=⟨hb.os,hb.tape,hb.output,hb.size,fun b hz=>hb.block b hz.1⟩ }⟩
end Gx
end
