/- Functions of the library, by the contracts that are proved once for all programs. -/
import Derived.Shelf.Strconv.Itoa3
import Derived.Shelf.Strings.OnBuilder
import Derived.Shelf.Sort.Plain
import Derived.Shelf.Slices.In.SortNone
import Derived.Shelf.Slices.CompactS
import Derived.Shelf.Strings.Search3
import Derived.Shelf.Strings.Repeat
import Derived.Test.YtknelkokbekhnaaGreatDoorProg
import Derived.Test.YtknelkokbekhnaaGreatDoorNamesRenamePure
set_option linter.all false
section
open Go Go.Kx Go.Proofs
namespace Gx
set_option maxRecDepth 20000
def itRen:Go.Shelf.Ren:=⟨fun x=>match x with
  | 171=>110
  | 243=>144
  | 246=>166
  | 283=>173
  | 284=>174
  | 285=>175
  | 286=>176
  | 129=>138
  | 317=>179
  | 318=>180
  | 319=>181
  | 320=>182
  | 337=>183
  | 338=>184
  | n=>n,fun x=>match x with
  | 3=>3
  | 9=>9
  | 2=>2
  | 4=>4
  | 171=>220
  | 0=>0
  | 53=>191
  | 37=>132
  | 5=>5
  | 173=>222
  | 212=>225
  | 51=>189
  | 20=>20
  | 213=>226
  | 46=>157
  | 232=>231
  | 233=>232
  | n=>n,fun x=>match x with
  | 17=>1
  | 18=>4
  | 19=>5
  | n=>n⟩
theorem itLays:Go.Proofs.LaysM.n171 Go.Proofs.Tryz.prog itRen :=
  { mixed:=by kernel_rfl,
    f129:=Eq.trans Go.Proofs.Tryz.func138 (congrArg some (by kernel_rfl)),
    f171:=Eq.trans Go.Proofs.Tryz.func110 (congrArg some (by kernel_rfl)),
    f243:=Eq.trans Go.Proofs.Tryz.func144 (congrArg some (by kernel_rfl)),
    f246:=Eq.trans Go.Proofs.Tryz.func166 (congrArg some (by kernel_rfl)),
    f283:=Eq.trans Go.Proofs.Tryz.func173 (congrArg some (by kernel_rfl)),
    f284:=Eq.trans Go.Proofs.Tryz.func174 (congrArg some (by kernel_rfl)),
    f285:=Eq.trans Go.Proofs.Tryz.func175 (congrArg some (by kernel_rfl)),
    f286:=Eq.trans Go.Proofs.Tryz.func176 (congrArg some (by kernel_rfl)),
    f317:=Eq.trans Go.Proofs.Tryz.func179 (congrArg some (by kernel_rfl)),
    f318:=Eq.trans Go.Proofs.Tryz.func180 (congrArg some (by kernel_rfl)),
    f319:=Eq.trans Go.Proofs.Tryz.func181 (congrArg some (by kernel_rfl)),
    f320:=Eq.trans Go.Proofs.Tryz.func182 (congrArg some (by kernel_rfl)),
    f337:=Eq.trans Go.Proofs.Tryz.func183 (congrArg some (by kernel_rfl)),
    f338:=Eq.trans Go.Proofs.Tryz.func184 (congrArg some (by kernel_rfl)),
    t0:=Go.Proofs.Tryz.underlying0,
    a0:=Go.Proofs.Tryz.isAgg0,
    z0:=Go.Proofs.Tryz.sizeOf0,
    v0:=Go.Proofs.Tryz.zeroValue0,
    t2:=Go.Proofs.Tryz.underlying2,
    a2:=Go.Proofs.Tryz.isAgg2,
    z2:=Go.Proofs.Tryz.sizeOf2,
    v2:=Go.Proofs.Tryz.zeroValue2,
    t3:=Go.Proofs.Tryz.underlying3,
    a3:=Go.Proofs.Tryz.isAgg3,
    z3:=Go.Proofs.Tryz.sizeOf3,
    v3:=Go.Proofs.Tryz.zeroValue3,
    t4:=Go.Proofs.Tryz.underlying4,
    a4:=Go.Proofs.Tryz.isAgg4,
    z4:=Go.Proofs.Tryz.sizeOf4,
    v4:=Go.Proofs.Tryz.zeroValue4,
    t5:=Go.Proofs.Tryz.underlying5,
    a5:=Go.Proofs.Tryz.isAgg5,
    z5:=Go.Proofs.Tryz.sizeOf5,
    v5:=Go.Proofs.Tryz.zeroValue5,
    t9:=Go.Proofs.Tryz.underlying9,
    a9:=Go.Proofs.Tryz.isAgg9,
    z9:=Go.Proofs.Tryz.sizeOf9,
    v9:=Go.Proofs.Tryz.zeroValue9,
    t20:=Go.Proofs.Tryz.underlying20,
    a20:=Go.Proofs.Tryz.isAgg20,
    z20:=Go.Proofs.Tryz.sizeOf20,
    v20:=Go.Proofs.Tryz.zeroValue20,
    t37:=Go.Proofs.Tryz.underlying132,
    a37:=Go.Proofs.Tryz.isAgg132,
    z37:=Go.Proofs.Tryz.sizeOf132,
    v37:=Go.Proofs.Tryz.zeroValue132,
    t46:=Go.Proofs.Tryz.underlying157,
    a46:=Go.Proofs.Tryz.isAgg157,
    z46:=Go.Proofs.Tryz.sizeOf157,
    v46:=Go.Proofs.Tryz.zeroValue157,
    t51:=Go.Proofs.Tryz.underlying189,
    a51:=Go.Proofs.Tryz.isAgg189,
    z51:=Go.Proofs.Tryz.sizeOf189,
    v51:=Go.Proofs.Tryz.zeroValue189,
    t53:=Go.Proofs.Tryz.underlying191,
    a53:=Go.Proofs.Tryz.isAgg191,
    z53:=Go.Proofs.Tryz.sizeOf191,
    v53:=Go.Proofs.Tryz.zeroValue191,
    t171:=Go.Proofs.Tryz.underlying220,
    a171:=Go.Proofs.Tryz.isAgg220,
    z171:=Go.Proofs.Tryz.sizeOf220,
    v171:=Go.Proofs.Tryz.zeroValue220,
    t173:=Go.Proofs.Tryz.underlying222,
    a173:=Go.Proofs.Tryz.isAgg222,
    z173:=Go.Proofs.Tryz.sizeOf222,
    v173:=Go.Proofs.Tryz.zeroValue222,
    t212:=Go.Proofs.Tryz.underlying225,
    a212:=Go.Proofs.Tryz.isAgg225,
    z212:=Go.Proofs.Tryz.sizeOf225,
    v212:=Go.Proofs.Tryz.zeroValue225,
    t213:=Go.Proofs.Tryz.underlying226,
    a213:=Go.Proofs.Tryz.isAgg226,
    z213:=Go.Proofs.Tryz.sizeOf226,
    t232:=Go.Proofs.Tryz.underlying231,
    a232:=Go.Proofs.Tryz.isAgg231,
    z232:=Go.Proofs.Tryz.sizeOf231,
    v232:=Go.Proofs.Tryz.zeroValue231,
    t233:=Go.Proofs.Tryz.underlying232,
    a233:=Go.Proofs.Tryz.isAgg232,
    z233:=Go.Proofs.Tryz.sizeOf232,
    v233:=Go.Proofs.Tryz.zeroValue232,
    g17:=by kernel_rfl,
    g18:=by kernel_rfl,
    g19:=by kernel_rfl,
    i0:=by kernel_rfl,
    i2:=by kernel_rfl,
    i3:=by kernel_rfl,
    i4:=by kernel_rfl,
    i5:=by kernel_rfl,
    i9:=by kernel_rfl,
    i20:=by kernel_rfl,
    i37:=by kernel_rfl,
    i46:=by kernel_rfl,
    i51:=by kernel_rfl,
    i53:=by kernel_rfl,
    i171:=by kernel_rfl,
    i173:=by kernel_rfl,
    i212:=by kernel_rfl,
    i232:=by kernel_rfl,
    i233:=by kernel_rfl,
    m17:=by kernel_rfl,
    m18:=by kernel_rfl,
    m19:=by kernel_rfl }
instance LxT:LxP:=⟨True⟩
theorem digN_eq:∀ (f u:Nat),u < 10 ^ (f+1)→digN (f+1) u=Go.Lib.decDigits u:=by
  intro f
  induction f with
  | zero =>
    intro u h
    have h:u < 10:=by simpa using h
    rw [Go.Lib.decDigits,dif_pos h]
    unfold digN
    have:Nat.blt u 10=true:=by unfold Nat.blt;exact Nat.ble_eq_true_of_le h
    rw [this];rfl
  | succ f ih =>
    intro u h
    rw [Go.Lib.decDigits]
    unfold digN
    by_cases c:u < 10
    · rw [dif_pos c]
      have:Nat.blt u 10=true:=by unfold Nat.blt;exact Nat.ble_eq_true_of_le c
      rw [this];rfl
    · rw [dif_neg c]
      have:Nat.blt u 10=false:=by
        cases hb:Nat.blt u 10 with
        | false=>rfl
        | true=>exact absurd (blt_lt hb) c
      rw [this,cond_false,ih (u / 10) (by rw [Nat.pow_succ] at h;omega)]
theorem itoaS_eq (n:Int) (h0:-9223372036854775808≤n) (h1:n≤9223372036854775807):itoaS n=⟨(Go.Lib.itoa n).toArray⟩:=by
  unfold itoaS Go.Lib.itoa
  by_cases c:n < 0
  · rw [decide_eq_true c,if_pos c,cond_true,digN_eq 24 _ (by omega)]
  · rw [decide_eq_false c,if_neg c,cond_false,digN_eq 24 _ (by omega)]
abbrev powT:AbsR:=tabM (tabG Tryz.prog 1 "internal/strconv.uint64pow10" .u64 Go.Lib.pow10Tab) 0
/-- A number's numeral: the text of the library, walked once for all. -/
theorem itoa_fn (n:Int) (h0:-9223372036854775808≤n) (h1:n≤9223372036854775807):Fn Tryz.prog 110 ⟨1,[.c (.i .i64 n)],[],[(0,.abs powT)],1,.c (.s (itoaS n)),[],[(0,.abs powT)]⟩:=by
  refine ⟨⟨Tryz.f110,Tryz.func110,rfl,rfl⟩,fun E F w hp=>?_⟩
  have hT0:powT.ok F w:=hp.M 0 (.abs powT) rfl
  have hT:F 1∧Tryz.prog.globalNamed "internal/strconv.uint64pow10"=some 1∧Go.Lib.TabIs Tryz.prog w "internal/strconv.uint64pow10" .u64 Go.Lib.pow10Tab:=hT0.1
  refine (Any.strconv_Itoa itLays n h0 h1 w hT.2.2).mono ?_
  rintro e w' ⟨rfl,k,os,rfl⟩
  have hold:∀ b,b < w.heap.size→(Go.Sort.grow (w.drewN k) os).heap[b]? = w.heap[b]? := fun b hb=>Go.Sort.heap_grow_old (w.drewN k) os hb
  have hsz:w.heap.size≤(Go.Sort.grow (w.drewN k) os).heap.size:=by
    show w.heap.size≤(w.heap++os).size
    simp
  refine ⟨E,F,by rw [itoaS_eq n h0 h1];rfl,{
    env:=fun k hk=>⟨rfl,rfl⟩
    one:=hp.one
    V:=fun k f h=>(nomatch h)
    M:=fun k m h=>by
      rw [look_cons] at h
      split at h
      · cases h
        exact powT.mono (F:=F) (w:=w) ⟨fun _ h=>h,fun b hb=>hold b (hp.hF b hb)⟩ (fun b h=>h.elim) hT0
      · cases h
    dis:=fun k k' m m' h h' hne=>by
      rw [look_cons] at h
      split at h
      · cases h;exact fun b hb=>hb.elim
      · cases h
    mF:=fun k m h b hb=>by
      rw [look_cons] at h
      split at h
      · cases h;exact hb.elim
      · cases h
    fresh:=fun k m h hf b hb=>by
      rw [look_cons] at h
      split at h
      · cases h;exact hb.elim
      · cases h
    F0:=fun _ h=>h
    F1:=fun _ h=>.inl h
    Fs:=fun b h=>Nat.lt_of_lt_of_le (hp.hF b h) (hsz)
    ext:=⟨rfl,rfl,⟨rfl,.inl trivial⟩,hsz,fun b hb=>hold b hb.1⟩ }⟩
end Gx
end
section
open Go Go.Kx Go.Proofs
namespace Gx
set_option maxRecDepth 20000
def jnRen:Go.Shelf.Ren:=⟨fun x=>match x with
  | 156=>75
  | 165=>109
  | 166=>107
  | 169=>78
  | 240=>140
  | 241=>143
  | 276=>162
  | 277=>165
  | n=>n,fun x=>match x with
  | 31=>25
  | 9=>9
  | 3=>3
  | 4=>4
  | 0=>0
  | 20=>20
  | 72=>134
  | 76=>163
  | 70=>131
  | 37=>132
  | 75=>162
  | 127=>169
  | 164=>206
  | 5=>5
  | 80=>141
  | n=>n,fun x=>x⟩
theorem jnLays:Go.Proofs.Lays.n156 Go.Proofs.Tryz.prog jnRen :=
  { mixed:=by kernel_rfl,
    f156:=Eq.trans Go.Proofs.Tryz.func75 (congrArg some (by kernel_rfl)),
    f165:=Eq.trans Go.Proofs.Tryz.func109 (congrArg some (by kernel_rfl)),
    f166:=Eq.trans Go.Proofs.Tryz.func107 (congrArg some (by kernel_rfl)),
    f169:=Eq.trans Go.Proofs.Tryz.func78 (congrArg some (by kernel_rfl)),
    f240:=Eq.trans Go.Proofs.Tryz.func140 (congrArg some (by kernel_rfl)),
    f241:=Eq.trans Go.Proofs.Tryz.func143 (congrArg some (by kernel_rfl)),
    f276:=Eq.trans Go.Proofs.Tryz.func162 (congrArg some (by kernel_rfl)),
    f277:=Eq.trans Go.Proofs.Tryz.func165 (congrArg some (by kernel_rfl)),
    t0:=Go.Proofs.Tryz.underlying0,
    a0:=Go.Proofs.Tryz.isAgg0,
    z0:=Go.Proofs.Tryz.sizeOf0,
    v0:=Go.Proofs.Tryz.zeroValue0,
    t3:=Go.Proofs.Tryz.underlying3,
    a3:=Go.Proofs.Tryz.isAgg3,
    z3:=Go.Proofs.Tryz.sizeOf3,
    v3:=Go.Proofs.Tryz.zeroValue3,
    t4:=Go.Proofs.Tryz.underlying4,
    a4:=Go.Proofs.Tryz.isAgg4,
    z4:=Go.Proofs.Tryz.sizeOf4,
    v4:=Go.Proofs.Tryz.zeroValue4,
    t9:=Go.Proofs.Tryz.underlying9,
    a9:=Go.Proofs.Tryz.isAgg9,
    z9:=Go.Proofs.Tryz.sizeOf9,
    v9:=Go.Proofs.Tryz.zeroValue9,
    t20:=Go.Proofs.Tryz.underlying20,
    a20:=Go.Proofs.Tryz.isAgg20,
    z20:=Go.Proofs.Tryz.sizeOf20,
    v20:=Go.Proofs.Tryz.zeroValue20,
    t31:=Go.Proofs.Tryz.underlying25,
    a31:=Go.Proofs.Tryz.isAgg25,
    z31:=Go.Proofs.Tryz.sizeOf25,
    v31:=Go.Proofs.Tryz.zeroValue25,
    t37:=Go.Proofs.Tryz.underlying132,
    a37:=Go.Proofs.Tryz.isAgg132,
    z37:=Go.Proofs.Tryz.sizeOf132,
    v37:=Go.Proofs.Tryz.zeroValue132,
    t70:=Go.Proofs.Tryz.underlying131,
    a70:=Go.Proofs.Tryz.isAgg131,
    z70:=Go.Proofs.Tryz.sizeOf131,
    v70:=Go.Proofs.Tryz.zeroValue131,
    t72:=Go.Proofs.Tryz.underlying134,
    a72:=Go.Proofs.Tryz.isAgg134,
    z72:=Go.Proofs.Tryz.sizeOf134,
    v72:=Go.Proofs.Tryz.zeroValue134,
    t75:=Go.Proofs.Tryz.underlying162,
    a75:=Go.Proofs.Tryz.isAgg162,
    z75:=Go.Proofs.Tryz.sizeOf162,
    v75:=Go.Proofs.Tryz.zeroValue162,
    t76:=Go.Proofs.Tryz.underlying163,
    a76:=Go.Proofs.Tryz.isAgg163,
    z76:=Go.Proofs.Tryz.sizeOf163,
    v76:=Go.Proofs.Tryz.zeroValue163,
    t127:=Go.Proofs.Tryz.underlying169,
    a127:=Go.Proofs.Tryz.isAgg169,
    z127:=Go.Proofs.Tryz.sizeOf169,
    v127:=Go.Proofs.Tryz.zeroValue169,
    t164:=Go.Proofs.Tryz.underlying206,
    a164:=Go.Proofs.Tryz.isAgg206,
    z164:=Go.Proofs.Tryz.sizeOf206,
    v164:=Go.Proofs.Tryz.zeroValue206 }
theorem jnExtra:Builder.Extra Tryz.prog jnRen where
  sizeBuilder:=by kernel_rfl
  liesBuilder:=by kernel_rfl
  t5:=Tryz.underlying5
  a5:=Tryz.isAgg5
  z5:=Tryz.sizeOf5
  v5:=Tryz.zeroValue5
  infoByte:=by kernel_rfl
  cellsByte:=by kernel_rfl
  sizeByte:=by kernel_rfl
  neB5:=by decide
theorem joinL_eq (sep:List UInt8):∀ xs:List (List UInt8),joinL sep xs=Go.Lib.join xs sep
  | []=>rfl
  | x::r=>(Go.Lib.join_cons x r sep).symm
/-- Texts, one behind the other: the text of the library, walked once for all. -/
theorem join_fn (xs:List ByteArray) (sep:ByteArray) (hN:xs.length≤140737488355328) (hlen:(joinL sep.data.toList (xs.map (·.data.toList))).length≤140737488355328) :
    Fn Tryz.prog 75 ⟨1,[.c (.sl 0),.c (.s sep)],[(0,.sl rS xs)],[],1,.c (.s ⟨(joinL sep.data.toList (xs.map (·.data.toList))).toArray⟩),[],[]⟩:=by
  refine ⟨⟨Tryz.f75,Tryz.func75,rfl,rfl⟩,fun E F w hp=>?_⟩
  have hV:=hp.V 0 (.sl rS xs) rfl
  have key:Calls Tryz.prog 75 #[E.ρ 0,.string sep] w fun e w'=>e=.returned (.string ⟨(joinL sep.data.toList (xs.map (·.data.toList))).toArray⟩)∧Go.RowKit.Below w.heap.size w w':=by
    rw [joinL_eq] at hlen ⊢
    rcases hV with ⟨rfl,a,c,hv⟩ | ⟨b,off,cap,arr,el,fz,hv,hc,hF,hh,hr⟩
    · rw [hv]
      refine (Any.strings_Join_none jnLays jnExtra a c sep w).mono ?_
      rintro e w' ⟨rfl,rfl⟩
      exact ⟨rfl,Go.RowKit.Below.refl _ _⟩
    · rw [hv]
      refine Any.strings_Join jnLays jnExtra b off cap xs sep w (fun j x hx=>?_) (hp.hF b hF) hN hc hlen
      obtain ⟨vs,hvs,hrow⟩:=hr j x hx
      have hvs:vs=[.string x]:=hvs
      subst hvs
      have:=hrow 0 (.string x) rfl
      unfold World.cell?
      rw [hh]
      simpa [rS] using this
  refine key.mono ?_
  rintro e w' ⟨rfl,hb⟩
  exact ⟨E,F,rfl,{
    env:=fun k hk=>⟨rfl,rfl⟩
    one:=hp.one
    V:=fun k f h=>(nomatch h)
    M:=fun k m h=>(nomatch h)
    dis:=fun k k' m m' h=>(nomatch h)
    mF:=fun k m h=>(nomatch h)
    fresh:=fun k m h=>(nomatch h)
    F0:=fun _ h=>h
    F1:=fun _ h=>.inl h
    Fs:=fun b h=>Nat.lt_of_lt_of_le (hp.hF b h) hb.size
    ext:=⟨hb.os,hb.tape,⟨hb.output,.inl trivial⟩,hb.size,fun b hz=>hb.block b hz.1⟩ }⟩
end Gx
end
section
open Go Go.Kx Go.Proofs
namespace Gx
set_option maxRecDepth 20000
def soRen:Go.Shelf.Ren:=⟨fun x=>match x with
  | 190=>62
  | 125=>101
  | 258=>100
  | 128=>137
  | 129=>138
  | 302=>128
  | 303=>129
  | 304=>130
  | 305=>131
  | 306=>132
  | 307=>133
  | 308=>134
  | 309=>135
  | 310=>136
  | 333=>154
  | 329=>155
  | 330=>156
  | 334=>157
  | 335=>158
  | 336=>159
  | 344=>169
  | n=>n,fun x=>match x with
  | 31=>25
  | 9=>9
  | 3=>3
  | 46=>157
  | 0=>0
  | 51=>189
  | 53=>191
  | 4=>4
  | 183=>182
  | 182=>181
  | 131=>186
  | 5=>5
  | 218=>200
  | 222=>84
  | 228=>214
  | 229=>215
  | n=>n,fun x=>x⟩
theorem soLays:Go.Proofs.Lays.n190 Go.Proofs.Tryz.prog soRen :=
  { mixed:=by kernel_rfl,
    f125:=Eq.trans Go.Proofs.Tryz.func101 (congrArg some (by kernel_rfl)),
    f128:=Eq.trans Go.Proofs.Tryz.func137 (congrArg some (by kernel_rfl)),
    f129:=Eq.trans Go.Proofs.Tryz.func138 (congrArg some (by kernel_rfl)),
    f190:=Eq.trans Go.Proofs.Tryz.func62 (congrArg some (by kernel_rfl)),
    f258:=Eq.trans Go.Proofs.Tryz.func100 (congrArg some (by kernel_rfl)),
    f302:=Eq.trans Go.Proofs.Tryz.func128 (congrArg some (by kernel_rfl)),
    f303:=Eq.trans Go.Proofs.Tryz.func129 (congrArg some (by kernel_rfl)),
    f304:=Eq.trans Go.Proofs.Tryz.func130 (congrArg some (by kernel_rfl)),
    f305:=Eq.trans Go.Proofs.Tryz.func131 (congrArg some (by kernel_rfl)),
    f306:=Eq.trans Go.Proofs.Tryz.func132 (congrArg some (by kernel_rfl)),
    f307:=Eq.trans Go.Proofs.Tryz.func133 (congrArg some (by kernel_rfl)),
    f308:=Eq.trans Go.Proofs.Tryz.func134 (congrArg some (by kernel_rfl)),
    f309:=Eq.trans Go.Proofs.Tryz.func135 (congrArg some (by kernel_rfl)),
    f310:=Eq.trans Go.Proofs.Tryz.func136 (congrArg some (by kernel_rfl)),
    f329:=Eq.trans Go.Proofs.Tryz.func155 (congrArg some (by kernel_rfl)),
    f330:=Eq.trans Go.Proofs.Tryz.func156 (congrArg some (by kernel_rfl)),
    f333:=Eq.trans Go.Proofs.Tryz.func154 (congrArg some (by kernel_rfl)),
    f334:=Eq.trans Go.Proofs.Tryz.func157 (congrArg some (by kernel_rfl)),
    f335:=Eq.trans Go.Proofs.Tryz.func158 (congrArg some (by kernel_rfl)),
    f336:=Eq.trans Go.Proofs.Tryz.func159 (congrArg some (by kernel_rfl)),
    f344:=Eq.trans Go.Proofs.Tryz.func169 (congrArg some (by kernel_rfl)),
    t0:=Go.Proofs.Tryz.underlying0,
    a0:=Go.Proofs.Tryz.isAgg0,
    z0:=Go.Proofs.Tryz.sizeOf0,
    v0:=Go.Proofs.Tryz.zeroValue0,
    t3:=Go.Proofs.Tryz.underlying3,
    a3:=Go.Proofs.Tryz.isAgg3,
    z3:=Go.Proofs.Tryz.sizeOf3,
    v3:=Go.Proofs.Tryz.zeroValue3,
    t4:=Go.Proofs.Tryz.underlying4,
    a4:=Go.Proofs.Tryz.isAgg4,
    z4:=Go.Proofs.Tryz.sizeOf4,
    v4:=Go.Proofs.Tryz.zeroValue4,
    t5:=Go.Proofs.Tryz.underlying5,
    a5:=Go.Proofs.Tryz.isAgg5,
    z5:=Go.Proofs.Tryz.sizeOf5,
    v5:=Go.Proofs.Tryz.zeroValue5,
    t9:=Go.Proofs.Tryz.underlying9,
    a9:=Go.Proofs.Tryz.isAgg9,
    z9:=Go.Proofs.Tryz.sizeOf9,
    v9:=Go.Proofs.Tryz.zeroValue9,
    t31:=Go.Proofs.Tryz.underlying25,
    a31:=Go.Proofs.Tryz.isAgg25,
    z31:=Go.Proofs.Tryz.sizeOf25,
    v31:=Go.Proofs.Tryz.zeroValue25,
    t46:=Go.Proofs.Tryz.underlying157,
    a46:=Go.Proofs.Tryz.isAgg157,
    z46:=Go.Proofs.Tryz.sizeOf157,
    v46:=Go.Proofs.Tryz.zeroValue157,
    t51:=Go.Proofs.Tryz.underlying189,
    a51:=Go.Proofs.Tryz.isAgg189,
    z51:=Go.Proofs.Tryz.sizeOf189,
    v51:=Go.Proofs.Tryz.zeroValue189,
    t53:=Go.Proofs.Tryz.underlying191,
    a53:=Go.Proofs.Tryz.isAgg191,
    z53:=Go.Proofs.Tryz.sizeOf191,
    v53:=Go.Proofs.Tryz.zeroValue191,
    t131:=Go.Proofs.Tryz.underlying186,
    a131:=Go.Proofs.Tryz.isAgg186,
    z131:=Go.Proofs.Tryz.sizeOf186,
    v131:=Go.Proofs.Tryz.zeroValue186,
    t182:=Go.Proofs.Tryz.underlying181,
    a182:=Go.Proofs.Tryz.isAgg181,
    z182:=Go.Proofs.Tryz.sizeOf181,
    v182:=Go.Proofs.Tryz.zeroValue181,
    t183:=Go.Proofs.Tryz.underlying182,
    a183:=Go.Proofs.Tryz.isAgg182,
    z183:=Go.Proofs.Tryz.sizeOf182,
    v183:=Go.Proofs.Tryz.zeroValue182,
    t218:=Go.Proofs.Tryz.underlying200,
    a218:=Go.Proofs.Tryz.isAgg200,
    z218:=Go.Proofs.Tryz.sizeOf200,
    v218:=Go.Proofs.Tryz.zeroValue200,
    t222:=Go.Proofs.Tryz.underlying84,
    a222:=Go.Proofs.Tryz.isAgg84,
    z222:=Go.Proofs.Tryz.sizeOf84,
    v222:=Go.Proofs.Tryz.zeroValue84,
    t228:=Go.Proofs.Tryz.underlying214,
    a228:=Go.Proofs.Tryz.isAgg214,
    z228:=Go.Proofs.Tryz.sizeOf214,
    v228:=Go.Proofs.Tryz.zeroValue214,
    t229:=Go.Proofs.Tryz.underlying215,
    a229:=Go.Proofs.Tryz.isAgg215,
    z229:=Go.Proofs.Tryz.sizeOf215,
    v229:=Go.Proofs.Tryz.zeroValue215 }
variable [LxP]
theorem sort_fn (xs:List ByteArray) (hN:xs.length < 4611686018427387904):Fn Tryz.prog 62 ⟨1,[.c (.sl 0)],[],[(0,.own rS xs false)],1,.t [],[],[(0,.own rS (sortS xs) false)]⟩:=by
  refine mutFn ⟨Tryz.f62,Tryz.func62,rfl,rfl⟩ (sortS_len xs) (fun b off cap w hH hb hc=>?_) (fun _ p cap w=>Any.slices_Sort_string_none soLays p cap w)
  have:=Any.slices_Sort_string soLays b off cap (txs xs) w hH hb (by simpa [txs] using hN)
  rw [← txs_sortS] at this
  have e1:(txs xs).length=xs.length:=by simp [txs]
  rw [e1] at this
  exact this
end Gx
end
section
open Go Go.Kx Go.Proofs
namespace Gx
set_option maxRecDepth 20000
def coRen:Go.Shelf.Ren:=⟨fun x=>match x with
  | 194=>63
  | n=>n,fun x=>match x with
  | 31=>25
  | 9=>9
  | 3=>3
  | 4=>4
  | 0=>0
  | n=>n,fun x=>x⟩
theorem coLays:Go.Proofs.Lays.n194 Go.Proofs.Tryz.prog coRen :=
  { mixed:=by kernel_rfl,
    f194:=Eq.trans Go.Proofs.Tryz.func63 (congrArg some (by kernel_rfl)),
    t0:=Go.Proofs.Tryz.underlying0,
    a0:=Go.Proofs.Tryz.isAgg0,
    z0:=Go.Proofs.Tryz.sizeOf0,
    v0:=Go.Proofs.Tryz.zeroValue0,
    t3:=Go.Proofs.Tryz.underlying3,
    a3:=Go.Proofs.Tryz.isAgg3,
    z3:=Go.Proofs.Tryz.sizeOf3,
    v3:=Go.Proofs.Tryz.zeroValue3,
    t4:=Go.Proofs.Tryz.underlying4,
    a4:=Go.Proofs.Tryz.isAgg4,
    z4:=Go.Proofs.Tryz.sizeOf4,
    v4:=Go.Proofs.Tryz.zeroValue4,
    t9:=Go.Proofs.Tryz.underlying9,
    a9:=Go.Proofs.Tryz.isAgg9,
    z9:=Go.Proofs.Tryz.sizeOf9,
    v9:=Go.Proofs.Tryz.zeroValue9,
    t31:=Go.Proofs.Tryz.underlying25,
    a31:=Go.Proofs.Tryz.isAgg25,
    z31:=Go.Proofs.Tryz.sizeOf25,
    v31:=Go.Proofs.Tryz.zeroValue25 }
variable [LxP]
theorem compact_fn (xs:List ByteArray) (hN:xs.length≤9223372036854775807):Fn Tryz.prog 63 ⟨1,[.c (.sl 0)],[],[(0,.own rS xs false)],2,.c (.sl 1),[],[(1,.own rS (compS xs) false),(0,.gone)]⟩:=by
  refine takeFn ⟨Tryz.f63,Tryz.func63,rfl,rfl⟩ (compS_len xs) (fun b off cap w hH hb hc=>?_) (fun _ p cap w=>Any.slices_Compact_string_empty coLays p cap w)
  have:=Any.slices_Compact_string coLays b off cap (txs xs) w hH (by simpa [txs] using hN) (by simpa [txs] using hc)
  rw [← txs_compS] at this
  have e1:(txs xs).length=xs.length:=by simp [txs]
  have e2:(txs (compS xs)).length=(compS xs).length:=by simp [txs]
  rw [e1,e2] at this
  refine this.mono ?_
  rintro e w' ⟨rfl,q,rfl⟩
  refine ⟨rfl,q,#[],_,(Go.Sort.grow_empty _).symm,?_,?_⟩
  · have:=compS_len xs
    simp only [List.length_append,List.length_replicate,e2];omega
  · intro i x hx
    have hi:i < (compS xs).length:=(List.getElem?_eq_some_iff.1 hx).1
    rw [List.getElem?_append_left (by rw [e2];exact hi)]
    simp [txs,hx]
end Gx
end
section
open Go Go.Kx Go.Proofs
namespace Gx
set_option maxRecDepth 20000
def ctRen:Go.Shelf.Ren:=⟨fun x=>match x with
  | 144=>15
  | 143=>37
  | 219=>79
  | 217=>113
  | 225=>114
  | 224=>115
  | 267=>116
  | 266=>145
  | 314=>146
  | n=>n,fun x=>match x with
  | 9=>9
  | 4=>4
  | 3=>3
  | 5=>5
  | 46=>157
  | 146=>196
  | 51=>189
  | n=>n,fun x=>match x with
  | 1=>0
  | n=>n⟩
theorem ctLays:Go.Proofs.Lays.n144 Go.Proofs.Tryz.prog ctRen :=
  { mixed:=by kernel_rfl,
    f143:=Eq.trans Go.Proofs.Tryz.func37 (congrArg some (by kernel_rfl)),
    f144:=Eq.trans Go.Proofs.Tryz.func15 (congrArg some (by kernel_rfl)),
    f217:=Eq.trans Go.Proofs.Tryz.func113 (congrArg some (by kernel_rfl)),
    f219:=Eq.trans Go.Proofs.Tryz.func79 (congrArg some (by kernel_rfl)),
    f224:=Eq.trans Go.Proofs.Tryz.func115 (congrArg some (by kernel_rfl)),
    f225:=Eq.trans Go.Proofs.Tryz.func114 (congrArg some (by kernel_rfl)),
    f266:=Eq.trans Go.Proofs.Tryz.func145 (congrArg some (by kernel_rfl)),
    f267:=Eq.trans Go.Proofs.Tryz.func116 (congrArg some (by kernel_rfl)),
    f314:=Eq.trans Go.Proofs.Tryz.func146 (congrArg some (by kernel_rfl)),
    t3:=Go.Proofs.Tryz.underlying3,
    a3:=Go.Proofs.Tryz.isAgg3,
    z3:=Go.Proofs.Tryz.sizeOf3,
    v3:=Go.Proofs.Tryz.zeroValue3,
    t4:=Go.Proofs.Tryz.underlying4,
    a4:=Go.Proofs.Tryz.isAgg4,
    z4:=Go.Proofs.Tryz.sizeOf4,
    v4:=Go.Proofs.Tryz.zeroValue4,
    t5:=Go.Proofs.Tryz.underlying5,
    a5:=Go.Proofs.Tryz.isAgg5,
    z5:=Go.Proofs.Tryz.sizeOf5,
    v5:=Go.Proofs.Tryz.zeroValue5,
    t9:=Go.Proofs.Tryz.underlying9,
    a9:=Go.Proofs.Tryz.isAgg9,
    z9:=Go.Proofs.Tryz.sizeOf9,
    v9:=Go.Proofs.Tryz.zeroValue9,
    t46:=Go.Proofs.Tryz.underlying157,
    a46:=Go.Proofs.Tryz.isAgg157,
    z46:=Go.Proofs.Tryz.sizeOf157,
    v46:=Go.Proofs.Tryz.zeroValue157,
    t51:=Go.Proofs.Tryz.underlying189,
    a51:=Go.Proofs.Tryz.isAgg189,
    z51:=Go.Proofs.Tryz.sizeOf189,
    v51:=Go.Proofs.Tryz.zeroValue189,
    t146:=Go.Proofs.Tryz.underlying196,
    a146:=Go.Proofs.Tryz.isAgg196,
    z146:=Go.Proofs.Tryz.sizeOf196,
    v146:=Go.Proofs.Tryz.zeroValue196,
    g1:=by kernel_rfl }
theorem contains_fn (s t:ByteArray) (hs:(s.size:Int) < 4294967281):Fn Tryz.prog 15 ⟨1,[.c (.s s),.c (.s t)],[],[(0,.abs powT)],1,.c (.b (Go.Lib.contains s.data.toList t.data.toList)),[],[(0,.abs powT)]⟩:=by
  refine ⟨⟨Tryz.f15,Tryz.func15,rfl,rfl⟩,fun E F w hp=>?_⟩
  have hM:(powT.ok F w):=hp.M 0 (.abs powT) rfl
  obtain ⟨_,_,m,hm⟩:=hM
  refine (Any.strings_Contains ctLays s t m w (by omega) hm).mono ?_
  rintro e w' ⟨rfl,rfl⟩
  refine ⟨E,F,rfl,{
    env:=fun k hk=>⟨rfl,rfl⟩
    one:=hp.one
    V:=fun k f h=>(nomatch h)
    M:=fun k m h=>by
      rw [look_cons] at h
      split at h
      · cases h
        exact hp.M 0 (.abs powT) rfl
      · cases h
    dis:=fun k k' m m' h h' hne=>by
      rw [look_cons] at h
      split at h
      · cases h;exact fun b hb=>hb.elim
      · cases h
    mF:=fun k m h b hb=>by
      rw [look_cons] at h
      split at h
      · cases h;exact hb.elim
      · cases h
    fresh:=fun k m h hf b hb=>by
      rw [look_cons] at h
      split at h
      · cases h;exact hb.elim
      · cases h
    F0:=fun _ h=>h
    F1:=fun _ h=>.inl h
    Fs:=fun b h=>hp.hF b h
    ext:=⟨rfl,rfl,⟨rfl,.inl trivial⟩,Nat.le_refl _,fun b hb=>rfl⟩ }⟩
theorem hasS_ct (N:Nat) (s t:ByteArray) (r:Bool) (h:hasS s t=some r):Fn Tryz.prog 15 ⟨1,[.c (.s s),.c (.s t)],[],[(0,.abs powT)],1,.c (.b r),[],[(0,.abs powT)]⟩:=by
  unfold hasS at h
  cases hb:decide ((s.size:Int) < 4294967281) with
  | false=>rw [hb] at h;cases h
  | true =>
    rw [hb] at h
    simp only [cond_true,Option.some.injEq] at h
    subst h
    exact contains_fn s t (of_decide_eq_true hb)
end Gx
end
section
open Go Go.Kx Go.Proofs
namespace Gx
set_option maxRecDepth 20000
def rpRen:Go.Shelf.Ren:=⟨fun x=>match x with
  | 105=>108
  | 212=>141
  | 99=>118
  | 165=>109
  | 166=>107
  | 170=>142
  | 169=>78
  | 263=>163
  | 264=>164
  | 206=>148
  | 240=>140
  | 241=>143
  | 276=>162
  | 277=>165
  | n=>n,fun x=>match x with
  | 9=>9
  | 3=>3
  | 4=>4
  | 20=>20
  | 0=>0
  | 46=>157
  | 109=>193
  | 5=>5
  | 72=>134
  | 76=>163
  | 51=>189
  | 146=>196
  | 53=>191
  | 148=>209
  | 70=>131
  | 37=>132
  | 75=>162
  | 127=>169
  | 164=>206
  | 80=>141
  | n=>n,fun x=>x⟩
theorem rpLays:Go.Proofs.Lays.n105 Go.Proofs.Tryz.prog rpRen :=
  { mixed:=by kernel_rfl,
    f99:=Eq.trans Go.Proofs.Tryz.func118 (congrArg some (by kernel_rfl)),
    f105:=Eq.trans Go.Proofs.Tryz.func108 (congrArg some (by kernel_rfl)),
    f165:=Eq.trans Go.Proofs.Tryz.func109 (congrArg some (by kernel_rfl)),
    f166:=Eq.trans Go.Proofs.Tryz.func107 (congrArg some (by kernel_rfl)),
    f169:=Eq.trans Go.Proofs.Tryz.func78 (congrArg some (by kernel_rfl)),
    f170:=Eq.trans Go.Proofs.Tryz.func142 (congrArg some (by kernel_rfl)),
    f206:=Eq.trans Go.Proofs.Tryz.func148 (congrArg some (by kernel_rfl)),
    f212:=Eq.trans Go.Proofs.Tryz.func141 (congrArg some (by kernel_rfl)),
    f240:=Eq.trans Go.Proofs.Tryz.func140 (congrArg some (by kernel_rfl)),
    f241:=Eq.trans Go.Proofs.Tryz.func143 (congrArg some (by kernel_rfl)),
    f263:=Eq.trans Go.Proofs.Tryz.func163 (congrArg some (by kernel_rfl)),
    f264:=Eq.trans Go.Proofs.Tryz.func164 (congrArg some (by kernel_rfl)),
    f276:=Eq.trans Go.Proofs.Tryz.func162 (congrArg some (by kernel_rfl)),
    f277:=Eq.trans Go.Proofs.Tryz.func165 (congrArg some (by kernel_rfl)),
    t0:=Go.Proofs.Tryz.underlying0,
    a0:=Go.Proofs.Tryz.isAgg0,
    z0:=Go.Proofs.Tryz.sizeOf0,
    v0:=Go.Proofs.Tryz.zeroValue0,
    t3:=Go.Proofs.Tryz.underlying3,
    a3:=Go.Proofs.Tryz.isAgg3,
    z3:=Go.Proofs.Tryz.sizeOf3,
    v3:=Go.Proofs.Tryz.zeroValue3,
    t4:=Go.Proofs.Tryz.underlying4,
    a4:=Go.Proofs.Tryz.isAgg4,
    z4:=Go.Proofs.Tryz.sizeOf4,
    v4:=Go.Proofs.Tryz.zeroValue4,
    t5:=Go.Proofs.Tryz.underlying5,
    a5:=Go.Proofs.Tryz.isAgg5,
    z5:=Go.Proofs.Tryz.sizeOf5,
    v5:=Go.Proofs.Tryz.zeroValue5,
    t9:=Go.Proofs.Tryz.underlying9,
    a9:=Go.Proofs.Tryz.isAgg9,
    z9:=Go.Proofs.Tryz.sizeOf9,
    v9:=Go.Proofs.Tryz.zeroValue9,
    t20:=Go.Proofs.Tryz.underlying20,
    a20:=Go.Proofs.Tryz.isAgg20,
    z20:=Go.Proofs.Tryz.sizeOf20,
    v20:=Go.Proofs.Tryz.zeroValue20,
    t37:=Go.Proofs.Tryz.underlying132,
    a37:=Go.Proofs.Tryz.isAgg132,
    z37:=Go.Proofs.Tryz.sizeOf132,
    v37:=Go.Proofs.Tryz.zeroValue132,
    t46:=Go.Proofs.Tryz.underlying157,
    a46:=Go.Proofs.Tryz.isAgg157,
    z46:=Go.Proofs.Tryz.sizeOf157,
    v46:=Go.Proofs.Tryz.zeroValue157,
    t51:=Go.Proofs.Tryz.underlying189,
    a51:=Go.Proofs.Tryz.isAgg189,
    z51:=Go.Proofs.Tryz.sizeOf189,
    v51:=Go.Proofs.Tryz.zeroValue189,
    t53:=Go.Proofs.Tryz.underlying191,
    a53:=Go.Proofs.Tryz.isAgg191,
    z53:=Go.Proofs.Tryz.sizeOf191,
    v53:=Go.Proofs.Tryz.zeroValue191,
    t70:=Go.Proofs.Tryz.underlying131,
    a70:=Go.Proofs.Tryz.isAgg131,
    z70:=Go.Proofs.Tryz.sizeOf131,
    v70:=Go.Proofs.Tryz.zeroValue131,
    t72:=Go.Proofs.Tryz.underlying134,
    a72:=Go.Proofs.Tryz.isAgg134,
    z72:=Go.Proofs.Tryz.sizeOf134,
    v72:=Go.Proofs.Tryz.zeroValue134,
    t75:=Go.Proofs.Tryz.underlying162,
    a75:=Go.Proofs.Tryz.isAgg162,
    z75:=Go.Proofs.Tryz.sizeOf162,
    v75:=Go.Proofs.Tryz.zeroValue162,
    t76:=Go.Proofs.Tryz.underlying163,
    a76:=Go.Proofs.Tryz.isAgg163,
    z76:=Go.Proofs.Tryz.sizeOf163,
    v76:=Go.Proofs.Tryz.zeroValue163,
    t109:=Go.Proofs.Tryz.underlying193,
    a109:=Go.Proofs.Tryz.isAgg193,
    z109:=Go.Proofs.Tryz.sizeOf193,
    v109:=Go.Proofs.Tryz.zeroValue193,
    t127:=Go.Proofs.Tryz.underlying169,
    a127:=Go.Proofs.Tryz.isAgg169,
    z127:=Go.Proofs.Tryz.sizeOf169,
    v127:=Go.Proofs.Tryz.zeroValue169,
    t146:=Go.Proofs.Tryz.underlying196,
    a146:=Go.Proofs.Tryz.isAgg196,
    z146:=Go.Proofs.Tryz.sizeOf196,
    v146:=Go.Proofs.Tryz.zeroValue196,
    t148:=Go.Proofs.Tryz.underlying209,
    a148:=Go.Proofs.Tryz.isAgg209,
    z148:=Go.Proofs.Tryz.sizeOf209,
    v148:=Go.Proofs.Tryz.zeroValue209,
    t164:=Go.Proofs.Tryz.underlying206,
    a164:=Go.Proofs.Tryz.isAgg206,
    z164:=Go.Proofs.Tryz.sizeOf206,
    v164:=Go.Proofs.Tryz.zeroValue206 }
theorem rpExtra:Builder.Extra Tryz.prog rpRen where
  sizeBuilder:=by kernel_rfl
  liesBuilder:=by kernel_rfl
  t5:=rpLays.t5
  a5:=rpLays.a5
  z5:=rpLays.z5
  v5:=rpLays.v5
  infoByte:=by kernel_rfl
  cellsByte:=by kernel_rfl
  sizeByte:=by kernel_rfl
  neB5:=by decide
/-- So many copies of a text: the text of the library, walked once for all. -/
theorem repeat_fn (s:ByteArray) (c:Nat) (hc:c≤9223372036854775807) (hlen:s.size * c≤140737488355328):Fn Tryz.prog 108 ⟨0,[.c (.s s),.c (.i .i64 (c:Int))],[],[],0,.c (.s ⟨(Go.Lib.repeatL s.data.toList c).toArray⟩),[],[]⟩:=by
  refine ⟨⟨Tryz.f108,Tryz.func108,rfl,rfl⟩,fun E F w hp=>?_⟩
  refine (Any.strings_Repeat rpLays rpExtra s c w hc hlen).mono ?_
  rintro e w' ⟨rfl,hb⟩
  exact ⟨E,F,rfl,{
    env:=fun k hk=>absurd hk (Nat.not_lt_zero k)
    one:=hp.one
    V:=fun k f h=>(nomatch h)
    M:=fun k m h=>(nomatch h)
    dis:=fun k k' m m' h=>(nomatch h)
    mF:=fun k m h=>(nomatch h)
    fresh:=fun k m h=>(nomatch h)
    F0:=fun _ h=>h
    F1:=fun _ h=>.inl h
    Fs:=fun b h=>Nat.lt_of_lt_of_le (hp.hF b h) hb.size
    ext:=⟨hb.os,hb.tape,⟨hb.output,.inl trivial⟩,hb.size,fun b hz=>hb.block b hz.1⟩ }⟩
end Gx
end
