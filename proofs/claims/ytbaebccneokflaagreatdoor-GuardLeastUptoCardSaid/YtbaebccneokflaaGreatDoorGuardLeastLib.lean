/- A function of the library, by the contract that is proved once for all programs. -/
import Derived.Shelf.Strings.Repeat
import Derived.Test.YtbaebccneokflaaGreatDoorProg
import Derived.Test.YtbaebccneokflaaGreatDoorGuardLeastCore4
set_option linter.all false
section
open Go Go.Kx Go.Proofs
namespace Gx
set_option maxRecDepth 20000
def rpRen:Go.Shelf.Ren:=⟨fun x=>match x with
  | 105=>39
  | 212=>87
  | 99=>88
  | 165=>89
  | 166=>90
  | 170=>91
  | 169=>92
  | 263=>149
  | 264=>150
  | 206=>151
  | 240=>152
  | 241=>153
  | 276=>214
  | 277=>215
  | n=>n,fun x=>match x with
  | 9=>9
  | 3=>3
  | 4=>4
  | 20=>20
  | 0=>0
  | 46=>161
  | 109=>162
  | 5=>5
  | 72=>168
  | 76=>172
  | 51=>225
  | 146=>226
  | 53=>228
  | 148=>229
  | 70=>165
  | 37=>166
  | 75=>171
  | 127=>231
  | 164=>281
  | 80=>175
  | n=>n,fun x=>x⟩
theorem rpLays:Lays.n105 Tryz.prog rpRen :=
  { mixed:=by kernel_rfl,f99:=Eq.trans Tryz.func88 (congrArg some (by kernel_rfl)),f105:=Eq.trans Tryz.func39 (congrArg some (by kernel_rfl)),f165:=Eq.trans Tryz.func89 (congrArg some (by kernel_rfl)),f166:=Eq.trans Tryz.func90 (congrArg some (by kernel_rfl)),f169:=Eq.trans Tryz.func92 (congrArg some (by kernel_rfl)),f170:=Eq.trans Tryz.func91 (congrArg some (by kernel_rfl)),f206:=Eq.trans Tryz.func151 (congrArg some (by kernel_rfl)),f212:=Eq.trans Tryz.func87 (congrArg some (by kernel_rfl)),f240:=Eq.trans Tryz.func152 (congrArg some (by kernel_rfl)),f241:=Eq.trans Tryz.func153 (congrArg some (by kernel_rfl)),f263:=Eq.trans Tryz.func149 (congrArg some (by kernel_rfl)),f264:=Eq.trans Tryz.func150 (congrArg some (by kernel_rfl)),f276:=Eq.trans Tryz.func214 (congrArg some (by kernel_rfl)),f277:=Eq.trans Tryz.func215 (congrArg some (by kernel_rfl)),t0:=Tryz.underlying0,a0:=Tryz.isAgg0,z0:=Tryz.sizeOf0,v0:=Tryz.zeroValue0,t3:=Tryz.underlying3,a3:=Tryz.isAgg3,z3:=Tryz.sizeOf3,v3:=Tryz.zeroValue3,t4:=Tryz.underlying4,a4:=Tryz.isAgg4,z4:=Tryz.sizeOf4,v4:=Tryz.zeroValue4,t5:=Tryz.underlying5,a5:=Tryz.isAgg5,z5:=Tryz.sizeOf5,v5:=Tryz.zeroValue5,t9:=Tryz.underlying9,a9:=Tryz.isAgg9,z9:=Tryz.sizeOf9,v9:=Tryz.zeroValue9,t20:=Tryz.underlying20,a20:=Tryz.isAgg20,z20:=Tryz.sizeOf20,v20:=Tryz.zeroValue20,t37:=Tryz.underlying166,a37:=Tryz.isAgg166,z37:=Tryz.sizeOf166,v37:=Tryz.zeroValue166,t46:=Tryz.underlying161,a46:=Tryz.isAgg161,z46:=Tryz.sizeOf161,v46:=Tryz.zeroValue161,t51:=Tryz.underlying225,a51:=Tryz.isAgg225,z51:=Tryz.sizeOf225,v51:=Tryz.zeroValue225,t53:=Tryz.underlying228,a53:=Tryz.isAgg228,z53:=Tryz.sizeOf228,v53:=Tryz.zeroValue228,t70:=Tryz.underlying165,a70:=Tryz.isAgg165,z70:=Tryz.sizeOf165,v70:=Tryz.zeroValue165,t72:=Tryz.underlying168,a72:=Tryz.isAgg168,z72:=Tryz.sizeOf168,v72:=Tryz.zeroValue168,t75:=Tryz.underlying171,a75:=Tryz.isAgg171,z75:=Tryz.sizeOf171,v75:=Tryz.zeroValue171,t76:=Tryz.underlying172,a76:=Tryz.isAgg172,z76:=Tryz.sizeOf172,v76:=Tryz.zeroValue172,t109:=Tryz.underlying162,a109:=Tryz.isAgg162,z109:=Tryz.sizeOf162,v109:=Tryz.zeroValue162,t127:=Tryz.underlying231,a127:=Tryz.isAgg231,z127:=Tryz.sizeOf231,v127:=Tryz.zeroValue231,t146:=Tryz.underlying226,a146:=Tryz.isAgg226,z146:=Tryz.sizeOf226,v146:=Tryz.zeroValue226,t148:=Tryz.underlying229,a148:=Tryz.isAgg229,z148:=Tryz.sizeOf229,v148:=Tryz.zeroValue229,t164:=Tryz.underlying281,a164:=Tryz.isAgg281,z164:=Tryz.sizeOf281,v164:=Tryz.zeroValue281 }
theorem rpExtra:Builder.Extra Tryz.prog rpRen where
  sizeBuilder:=by kernel_rfl
  liesBuilder:=by kernel_rfl
  t5:=rpLays.t5
  a5:=rpLays.a5
  z5:=rpLays.z5
  v5:=rpLays.v5
  infoByte:=by kernel_rfl
  cellsByte:=by kernel_rfl
  sizeByte:=by kernel_rfl
  neB5:=by decide
/-- So many copies of a text: the text of the library, walked once for all. -/
theorem repeat_fn (s:ByteArray) (c:Nat) (hc:c≤9223372036854775807) (hlen:s.size * c≤140737488355328):Fn Tryz.prog 39 ⟨0,[.c (.s s),.c (.i .i64 (c:Int))],[],[],0,.c (.s ⟨(Go.Lib.repeatL s.data.toList c).toArray⟩),[],[]⟩:=by
  refine ⟨⟨Tryz.f39,Tryz.func39,rfl,rfl⟩,fun E F w hp=>?_⟩
  refine (Any.strings_Repeat rpLays rpExtra s c w hc hlen).mono ?_
  rintro e w' ⟨rfl,hb⟩
  exact ⟨E,F,rfl,{
    env:=fun k hk=>absurd hk (Nat.not_lt_zero k)
    one:=hp.one
    V:=fun k f h=>(nomatch h)
    M:=fun k m h=>(nomatch h)
    dis:=fun k k' m m' h=>(nomatch h)
    mF:=fun k m h=>(nomatch h)
    fresh:=fun k m h=>(nomatch h)
    F0:=fun _ h=>h
    F1:=fun _ h=>.inl h
    Fs:=fun b h=>Nat.lt_of_lt_of_le (hp.hF b h) hb.size
    ext:=⟨hb.os,hb.tape,hb.output,hb.size,fun b hz=>hb.block b hz.1⟩ }⟩
end Gx
end
