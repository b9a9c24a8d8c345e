/- Functions of the library, by the contracts that are proved once for all programs. -/
import Derived.Shelf.Strconv.Itoa3
import Derived.Shelf.Strings.OnBuilder
import Derived.Shelf.Sort.Plain
import Derived.Shelf.Slices.In.SortNone
import Derived.Shelf.Slices.CompactS
import Derived.Shelf.Strings.Repeat
import Derived.Test.YthmedickagkdoaaGreatDoorProg
import Derived.Test.YthmedickagkdoaaGreatDoorGuardDeclsPure
set_option linter.all false
section
open Go Go.Kx Go.Proofs
namespace Gx
set_option maxRecDepth 20000
def Zpr:Go.Shelf.Ren:=⟨fun x=>match x with
  | 171=>198
  | 243=>229
  | 246=>244
  | 283=>249
  | 284=>250
  | 285=>251
  | 286=>252
  | 129=>214
  | 317=>253
  | 318=>254
  | 319=>255
  | 320=>256
  | 337=>257
  | 338=>258
  | n=>n,fun x=>match x with
  | 3=>3
  | 9=>9
  | 2=>2
  | 4=>4
  | 171=>307
  | 0=>0
  | 53=>252
  | 37=>185
  | 5=>5
  | 173=>309
  | 212=>316
  | 51=>249
  | 20=>20
  | 213=>317
  | 46=>180
  | 232=>318
  | 233=>319
  | n=>n,fun x=>match x with
  | 17=>3
  | 18=>4
  | 19=>5
  | n=>n⟩
theorem Zpq:Go.Proofs.LaysM.n171 Go.Proofs.Tryz.prog Zpr :=
  { mixed:=by kernel_rfl,
    f129:=Eq.trans Go.Proofs.Tryz.func214 (congrArg some (by kernel_rfl)),
    f171:=Eq.trans Go.Proofs.Tryz.func198 (congrArg some (by kernel_rfl)),
    f243:=Eq.trans Go.Proofs.Tryz.func229 (congrArg some (by kernel_rfl)),
    f246:=Eq.trans Go.Proofs.Tryz.func244 (congrArg some (by kernel_rfl)),
    f283:=Eq.trans Go.Proofs.Tryz.func249 (congrArg some (by kernel_rfl)),
    f284:=Eq.trans Go.Proofs.Tryz.func250 (congrArg some (by kernel_rfl)),
    f285:=Eq.trans Go.Proofs.Tryz.func251 (congrArg some (by kernel_rfl)),
    f286:=Eq.trans Go.Proofs.Tryz.func252 (congrArg some (by kernel_rfl)),
    f317:=Eq.trans Go.Proofs.Tryz.func253 (congrArg some (by kernel_rfl)),
    f318:=Eq.trans Go.Proofs.Tryz.func254 (congrArg some (by kernel_rfl)),
    f319:=Eq.trans Go.Proofs.Tryz.func255 (congrArg some (by kernel_rfl)),
    f320:=Eq.trans Go.Proofs.Tryz.func256 (congrArg some (by kernel_rfl)),
    f337:=Eq.trans Go.Proofs.Tryz.func257 (congrArg some (by kernel_rfl)),
    f338:=Eq.trans Go.Proofs.Tryz.func258 (congrArg some (by kernel_rfl)),
    t0:=Go.Proofs.Tryz.underlying0,
    a0:=Go.Proofs.Tryz.isAgg0,
    z0:=Go.Proofs.Tryz.sizeOf0,
    v0:=Go.Proofs.Tryz.zeroValue0,
    t2:=Go.Proofs.Tryz.underlying2,
    a2:=Go.Proofs.Tryz.isAgg2,
    z2:=Go.Proofs.Tryz.sizeOf2,
    v2:=Go.Proofs.Tryz.zeroValue2,
    t3:=Go.Proofs.Tryz.underlying3,
    a3:=Go.Proofs.Tryz.isAgg3,
    z3:=Go.Proofs.Tryz.sizeOf3,
    v3:=Go.Proofs.Tryz.zeroValue3,
    t4:=Go.Proofs.Tryz.underlying4,
    a4:=Go.Proofs.Tryz.isAgg4,
    z4:=Go.Proofs.Tryz.sizeOf4,
    v4:=Go.Proofs.Tryz.zeroValue4,
    t5:=Go.Proofs.Tryz.underlying5,
    a5:=Go.Proofs.Tryz.isAgg5,
    z5:=Go.Proofs.Tryz.sizeOf5,
    v5:=Go.Proofs.Tryz.zeroValue5,
    t9:=Go.Proofs.Tryz.underlying9,
    a9:=Go.Proofs.Tryz.isAgg9,
    z9:=Go.Proofs.Tryz.sizeOf9,
    v9:=Go.Proofs.Tryz.zeroValue9,
    t20:=Go.Proofs.Tryz.underlying20,
    a20:=Go.Proofs.Tryz.isAgg20,
    z20:=Go.Proofs.Tryz.sizeOf20,
    v20:=Go.Proofs.Tryz.zeroValue20,
    t37:=Go.Proofs.Tryz.underlying185,
    a37:=Go.Proofs.Tryz.isAgg185,
    z37:=Go.Proofs.Tryz.sizeOf185,
    v37:=Go.Proofs.Tryz.zeroValue185,
    t46:=Go.Proofs.Tryz.underlying180,
    a46:=Go.Proofs.Tryz.isAgg180,
    z46:=Go.Proofs.Tryz.sizeOf180,
    v46:=Go.Proofs.Tryz.zeroValue180,
    t51:=Go.Proofs.Tryz.underlying249,
    a51:=Go.Proofs.Tryz.isAgg249,
    z51:=Go.Proofs.Tryz.sizeOf249,
    v51:=Go.Proofs.Tryz.zeroValue249,
    t53:=Go.Proofs.Tryz.underlying252,
    a53:=Go.Proofs.Tryz.isAgg252,
    z53:=Go.Proofs.Tryz.sizeOf252,
    v53:=Go.Proofs.Tryz.zeroValue252,
    t171:=Go.Proofs.Tryz.underlying307,
    a171:=Go.Proofs.Tryz.isAgg307,
    z171:=Go.Proofs.Tryz.sizeOf307,
    v171:=Go.Proofs.Tryz.zeroValue307,
    t173:=Go.Proofs.Tryz.underlying309,
    a173:=Go.Proofs.Tryz.isAgg309,
    z173:=Go.Proofs.Tryz.sizeOf309,
    v173:=Go.Proofs.Tryz.zeroValue309,
    t212:=Go.Proofs.Tryz.underlying316,
    a212:=Go.Proofs.Tryz.isAgg316,
    z212:=Go.Proofs.Tryz.sizeOf316,
    v212:=Go.Proofs.Tryz.zeroValue316,
    t213:=Go.Proofs.Tryz.underlying317,
    a213:=Go.Proofs.Tryz.isAgg317,
    z213:=Go.Proofs.Tryz.sizeOf317,
    t232:=Go.Proofs.Tryz.underlying318,
    a232:=Go.Proofs.Tryz.isAgg318,
    z232:=Go.Proofs.Tryz.sizeOf318,
    v232:=Go.Proofs.Tryz.zeroValue318,
    t233:=Go.Proofs.Tryz.underlying319,
    a233:=Go.Proofs.Tryz.isAgg319,
    z233:=Go.Proofs.Tryz.sizeOf319,
    v233:=Go.Proofs.Tryz.zeroValue319,
    g17:=by kernel_rfl,
    g18:=by kernel_rfl,
    g19:=by kernel_rfl,
    i0:=by kernel_rfl,
    i2:=by kernel_rfl,
    i3:=by kernel_rfl,
    i4:=by kernel_rfl,
    i5:=by kernel_rfl,
    i9:=by kernel_rfl,
    i20:=by kernel_rfl,
    i37:=by kernel_rfl,
    i46:=by kernel_rfl,
    i51:=by kernel_rfl,
    i53:=by kernel_rfl,
    i171:=by kernel_rfl,
    i173:=by kernel_rfl,
    i212:=by kernel_rfl,
    i232:=by kernel_rfl,
    i233:=by kernel_rfl,
    m17:=by kernel_rfl,
    m18:=by kernel_rfl,
    m19:=by kernel_rfl }
instance LxT:LxP:=⟨True⟩
theorem Zi6:∀ (f u:Nat),u < 10 ^ (f+1)->V6 (f+1) u=Go.Lib.decDigits u:=by
  intro f
  induction f with
  | zero =>
    intro u h
    have h:u < 10:=by simpa using h
    rw [Go.Lib.decDigits,dif_pos h]
    unfold V6
    have:Nat.blt u 10=true:=by unfold Nat.blt;exact Nat.ble_eq_true_of_le h
    rw [this];rfl
  | succ f ih =>
    intro u h
    rw [Go.Lib.decDigits]
    unfold V6
    by_cases c:u < 10
    · rw [dif_pos c]
      have:Nat.blt u 10=true:=by unfold Nat.blt;exact Nat.ble_eq_true_of_le c
      rw [this];rfl
    · rw [dif_neg c]
      have:Nat.blt u 10=false:=by
        cases hb:Nat.blt u 10 with
        | false=>rfl
        | true=>exact absurd (YT hb) c
      rw [this,cond_false,ih (u / 10) (by rw [Nat.pow_succ] at h;omega)]
theorem Zps (n:Int) (h0:-9223372036854775808<=n) (h1:n<=9223372036854775807):UM n=⟨(Go.Lib.itoa n).toArray⟩:=by
  unfold UM Go.Lib.itoa
  by_cases c:n < 0
  · rw [decide_eq_true c,if_pos c,cond_true,Zi6 24 _ (by omega)]
  · rw [decide_eq_false c,if_neg c,cond_false,Zi6 24 _ (by omega)]
abbrev powT:MC:=Zly Tryz.prog 3 "internal/strconv.uint64pow10" .u64 Go.Lib.pow10Tab
/-- A number's numeral: the text of the library, walked once for all. -/
theorem Zpt (n:Int) (h0:-9223372036854775808<=n) (h1:n<=9223372036854775807):Fn Tryz.prog 198 ⟨1,[.c (.i .i64 n)],[],[(0,.abs powT)],1,.c (.s (UM n)),[],[(0,.abs powT)]⟩:=by
  refine ⟨⟨Tryz.f198,Tryz.func198,rfl,rfl⟩,fun E F w hp=>?_⟩
  have hT:F 3/\Tryz.prog.globalNamed "internal/strconv.uint64pow10"=some 3/\Go.Lib.TabIs Tryz.prog w "internal/strconv.uint64pow10" .u64 Go.Lib.pow10Tab:=hp.M 0 (.abs powT) rfl
  refine (Any.strconv_Itoa Zpq n h0 h1 w hT.2.2).mono ?_
  rintro e w' ⟨rfl,k,os,rfl⟩
  have hold:∀ b,b < w.heap.size->(Go.Sort.grow (w.drewN k) os).heap[b]? = w.heap[b]? := fun b hb=>Go.Sort.heap_grow_old (w.drewN k) os hb
  have hsz:w.heap.size<=(Go.Sort.grow (w.drewN k) os).heap.size:=by
    show w.heap.size<=(w.heap++os).size
    simp
  refine ⟨E,F,by rw [Zps n h0 h1];rfl,{
    env:=fun k hk=>⟨rfl,rfl⟩
    one:=hp.one
    V:=fun k f h=>(nomatch h)
    M:=fun k m h=>by
      rw [YG] at h
      split at h
      · cases h
        exact powT.mono (F:=F) (w:=w) ⟨fun _ h=>h,fun b hb=>hold b (hp.hF b hb)⟩ (fun b h=>h.elim) hT
      · cases h
    dis:=fun k k' m m' h h' hne=>by
      rw [YG] at h
      split at h
      · cases h;exact fun b hb=>hb.elim
      · cases h
    mF:=fun k m h b hb=>by
      rw [YG] at h
      split at h
      · cases h;exact hb.elim
      · cases h
    fresh:=fun k m h hf b hb=>by
      rw [YG] at h
      split at h
      · cases h;exact hb.elim
      · cases h
    F0:=fun _ h=>h
    F1:=fun _ h=>.inl h
    Fs:=fun b h=>Zh (hp.hF b h) (hsz)
    ext:=⟨rfl,rfl,⟨rfl,.inl trivial⟩,hsz,fun b hb=>hold b hb.1⟩ }⟩
end Gx
end
section
open Go Go.Kx Go.Proofs
namespace Gx
set_option maxRecDepth 20000
def ZjS:Go.Shelf.Ren:=⟨fun x=>match x with
  | 156=>157
  | 165=>96
  | 166=>97
  | 169=>99
  | 240=>168
  | 241=>169
  | 276=>202
  | 277=>203
  | n=>n,fun x=>match x with
  | 31=>23
  | 9=>9
  | 3=>3
  | 4=>4
  | 0=>0
  | 20=>20
  | 72=>187
  | 76=>191
  | 70=>184
  | 37=>185
  | 75=>190
  | 127=>255
  | 164=>276
  | 5=>5
  | 80=>165
  | n=>n,fun x=>x⟩
theorem ZjR:Go.Proofs.Lays.n156 Go.Proofs.Tryz.prog ZjS :=
  { mixed:=by kernel_rfl,
    f156:=Eq.trans Go.Proofs.Tryz.func157 (congrArg some (by kernel_rfl)),
    f165:=Eq.trans Go.Proofs.Tryz.func96 (congrArg some (by kernel_rfl)),
    f166:=Eq.trans Go.Proofs.Tryz.func97 (congrArg some (by kernel_rfl)),
    f169:=Eq.trans Go.Proofs.Tryz.func99 (congrArg some (by kernel_rfl)),
    f240:=Eq.trans Go.Proofs.Tryz.func168 (congrArg some (by kernel_rfl)),
    f241:=Eq.trans Go.Proofs.Tryz.func169 (congrArg some (by kernel_rfl)),
    f276:=Eq.trans Go.Proofs.Tryz.func202 (congrArg some (by kernel_rfl)),
    f277:=Eq.trans Go.Proofs.Tryz.func203 (congrArg some (by kernel_rfl)),
    t0:=Go.Proofs.Tryz.underlying0,
    a0:=Go.Proofs.Tryz.isAgg0,
    z0:=Go.Proofs.Tryz.sizeOf0,
    v0:=Go.Proofs.Tryz.zeroValue0,
    t3:=Go.Proofs.Tryz.underlying3,
    a3:=Go.Proofs.Tryz.isAgg3,
    z3:=Go.Proofs.Tryz.sizeOf3,
    v3:=Go.Proofs.Tryz.zeroValue3,
    t4:=Go.Proofs.Tryz.underlying4,
    a4:=Go.Proofs.Tryz.isAgg4,
    z4:=Go.Proofs.Tryz.sizeOf4,
    v4:=Go.Proofs.Tryz.zeroValue4,
    t9:=Go.Proofs.Tryz.underlying9,
    a9:=Go.Proofs.Tryz.isAgg9,
    z9:=Go.Proofs.Tryz.sizeOf9,
    v9:=Go.Proofs.Tryz.zeroValue9,
    t20:=Go.Proofs.Tryz.underlying20,
    a20:=Go.Proofs.Tryz.isAgg20,
    z20:=Go.Proofs.Tryz.sizeOf20,
    v20:=Go.Proofs.Tryz.zeroValue20,
    t31:=Go.Proofs.Tryz.underlying23,
    a31:=Go.Proofs.Tryz.isAgg23,
    z31:=Go.Proofs.Tryz.sizeOf23,
    v31:=Go.Proofs.Tryz.zeroValue23,
    t37:=Go.Proofs.Tryz.underlying185,
    a37:=Go.Proofs.Tryz.isAgg185,
    z37:=Go.Proofs.Tryz.sizeOf185,
    v37:=Go.Proofs.Tryz.zeroValue185,
    t70:=Go.Proofs.Tryz.underlying184,
    a70:=Go.Proofs.Tryz.isAgg184,
    z70:=Go.Proofs.Tryz.sizeOf184,
    v70:=Go.Proofs.Tryz.zeroValue184,
    t72:=Go.Proofs.Tryz.underlying187,
    a72:=Go.Proofs.Tryz.isAgg187,
    z72:=Go.Proofs.Tryz.sizeOf187,
    v72:=Go.Proofs.Tryz.zeroValue187,
    t75:=Go.Proofs.Tryz.underlying190,
    a75:=Go.Proofs.Tryz.isAgg190,
    z75:=Go.Proofs.Tryz.sizeOf190,
    v75:=Go.Proofs.Tryz.zeroValue190,
    t76:=Go.Proofs.Tryz.underlying191,
    a76:=Go.Proofs.Tryz.isAgg191,
    z76:=Go.Proofs.Tryz.sizeOf191,
    v76:=Go.Proofs.Tryz.zeroValue191,
    t127:=Go.Proofs.Tryz.underlying255,
    a127:=Go.Proofs.Tryz.isAgg255,
    z127:=Go.Proofs.Tryz.sizeOf255,
    v127:=Go.Proofs.Tryz.zeroValue255,
    t164:=Go.Proofs.Tryz.underlying276,
    a164:=Go.Proofs.Tryz.isAgg276,
    z164:=Go.Proofs.Tryz.sizeOf276,
    v164:=Go.Proofs.Tryz.zeroValue276 }
theorem ZjQ:Builder.Extra Tryz.prog ZjS where
  sizeBuilder:=by kernel_rfl
  liesBuilder:=by kernel_rfl
  t5:=Tryz.underlying5
  a5:=Tryz.isAgg5
  z5:=Tryz.sizeOf5
  v5:=Tryz.zeroValue5
  infoByte:=by kernel_rfl
  cellsByte:=by kernel_rfl
  sizeByte:=by kernel_rfl
  neB5:=by decide
theorem ZpL (sep:List UInt8):∀ xs:List (List UInt8),Wq sep xs=Go.Lib.join xs sep
  | []=>rfl
  | x::r=>(Go.Lib.join_cons x r sep).symm
/-- Texts, one behind the other: the text of the library, walked once for all. -/
theorem ZpM (xs:List ByteArray) (sep:ByteArray) (hN:xs.length<=140737488355328) (hlen:(Wq sep.data.toList (xs.map (·.data.toList))).length<=140737488355328) :
    Fn Tryz.prog 157 ⟨1,[.c (.sl 0),.c (.s sep)],[(0,.sl rS xs)],[],1,.c (.s ⟨(Wq sep.data.toList (xs.map (·.data.toList))).toArray⟩),[],[]⟩:=by
  refine ⟨⟨Tryz.f157,Tryz.func157,rfl,rfl⟩,fun E F w hp=>?_⟩
  have hV:=hp.V 0 (.sl rS xs) rfl
  have key:Calls Tryz.prog 157 #[E.ρ 0,.string sep] w fun e w'=>e=.returned (.string ⟨(Wq sep.data.toList (xs.map (·.data.toList))).toArray⟩)/\Go.RowKit.Below w.heap.size w w':=by
    rw [ZpL] at hlen ⊢
    rcases hV with ⟨rfl,a,c,hv⟩ | ⟨b,off,cap,arr,el,fz,hv,hc,hF,hh,hr⟩
    · rw [hv]
      refine (Any.strings_Join_none ZjR ZjQ a c sep w).mono ?_
      rintro e w' ⟨rfl,rfl⟩
      exact ⟨rfl,Go.RowKit.Below.refl _ _⟩
    · rw [hv]
      refine Any.strings_Join ZjR ZjQ b off cap xs sep w (fun j x hx=>?_) (hp.hF b hF) hN hc hlen
      have ⟨vs,hvs,hrow⟩:=hr j x hx
      have hvs:vs=[.string x]:=hvs
      subst hvs
      have:=hrow 0 (.string x) rfl
      unfold World.cell?
      rw [hh]
      simpa [rS] using this
  refine key.mono ?_
  rintro e w' ⟨rfl,hb⟩
  exact ⟨E,F,rfl,{
    env:=fun k hk=>⟨rfl,rfl⟩
    one:=hp.one
    V:=fun k f h=>(nomatch h)
    M:=fun k m h=>(nomatch h)
    dis:=fun k k' m m' h=>(nomatch h)
    mF:=fun k m h=>(nomatch h)
    fresh:=fun k m h=>(nomatch h)
    F0:=fun _ h=>h
    F1:=fun _ h=>.inl h
    Fs:=fun b h=>Zh (hp.hF b h) hb.size
    ext:=⟨hb.os,hb.tape,⟨hb.output,.inl trivial⟩,hb.size,fun b hz=>hb.block b hz.1⟩ }⟩
end Gx
end
section
open Go Go.Kx Go.Proofs
namespace Gx
set_option maxRecDepth 20000
def Zsi:Go.Shelf.Ren:=⟨fun x=>match x with
  | 190=>117
  | 125=>177
  | 258=>176
  | 128=>213
  | 129=>214
  | 302=>204
  | 303=>205
  | 304=>206
  | 305=>207
  | 306=>208
  | 307=>209
  | 308=>210
  | 309=>211
  | 310=>212
  | 333=>231
  | 329=>232
  | 330=>233
  | 334=>234
  | 335=>235
  | 336=>236
  | 344=>245
  | n=>n,fun x=>match x with
  | 31=>23
  | 9=>9
  | 3=>3
  | 46=>180
  | 0=>0
  | 51=>249
  | 53=>252
  | 4=>4
  | 183=>281
  | 182=>280
  | 131=>285
  | 5=>5
  | 218=>294
  | 222=>170
  | 228=>303
  | 229=>304
  | n=>n,fun x=>x⟩
theorem Zlo:Go.Proofs.Lays.n190 Go.Proofs.Tryz.prog Zsi :=
  { mixed:=by kernel_rfl,
    f125:=Eq.trans Go.Proofs.Tryz.func177 (congrArg some (by kernel_rfl)),
    f128:=Eq.trans Go.Proofs.Tryz.func213 (congrArg some (by kernel_rfl)),
    f129:=Eq.trans Go.Proofs.Tryz.func214 (congrArg some (by kernel_rfl)),
    f190:=Eq.trans Go.Proofs.Tryz.func117 (congrArg some (by kernel_rfl)),
    f258:=Eq.trans Go.Proofs.Tryz.func176 (congrArg some (by kernel_rfl)),
    f302:=Eq.trans Go.Proofs.Tryz.func204 (congrArg some (by kernel_rfl)),
    f303:=Eq.trans Go.Proofs.Tryz.func205 (congrArg some (by kernel_rfl)),
    f304:=Eq.trans Go.Proofs.Tryz.func206 (congrArg some (by kernel_rfl)),
    f305:=Eq.trans Go.Proofs.Tryz.func207 (congrArg some (by kernel_rfl)),
    f306:=Eq.trans Go.Proofs.Tryz.func208 (congrArg some (by kernel_rfl)),
    f307:=Eq.trans Go.Proofs.Tryz.func209 (congrArg some (by kernel_rfl)),
    f308:=Eq.trans Go.Proofs.Tryz.func210 (congrArg some (by kernel_rfl)),
    f309:=Eq.trans Go.Proofs.Tryz.func211 (congrArg some (by kernel_rfl)),
    f310:=Eq.trans Go.Proofs.Tryz.func212 (congrArg some (by kernel_rfl)),
    f329:=Eq.trans Go.Proofs.Tryz.func232 (congrArg some (by kernel_rfl)),
    f330:=Eq.trans Go.Proofs.Tryz.func233 (congrArg some (by kernel_rfl)),
    f333:=Eq.trans Go.Proofs.Tryz.func231 (congrArg some (by kernel_rfl)),
    f334:=Eq.trans Go.Proofs.Tryz.func234 (congrArg some (by kernel_rfl)),
    f335:=Eq.trans Go.Proofs.Tryz.func235 (congrArg some (by kernel_rfl)),
    f336:=Eq.trans Go.Proofs.Tryz.func236 (congrArg some (by kernel_rfl)),
    f344:=Eq.trans Go.Proofs.Tryz.func245 (congrArg some (by kernel_rfl)),
    t0:=Go.Proofs.Tryz.underlying0,
    a0:=Go.Proofs.Tryz.isAgg0,
    z0:=Go.Proofs.Tryz.sizeOf0,
    v0:=Go.Proofs.Tryz.zeroValue0,
    t3:=Go.Proofs.Tryz.underlying3,
    a3:=Go.Proofs.Tryz.isAgg3,
    z3:=Go.Proofs.Tryz.sizeOf3,
    v3:=Go.Proofs.Tryz.zeroValue3,
    t4:=Go.Proofs.Tryz.underlying4,
    a4:=Go.Proofs.Tryz.isAgg4,
    z4:=Go.Proofs.Tryz.sizeOf4,
    v4:=Go.Proofs.Tryz.zeroValue4,
    t5:=Go.Proofs.Tryz.underlying5,
    a5:=Go.Proofs.Tryz.isAgg5,
    z5:=Go.Proofs.Tryz.sizeOf5,
    v5:=Go.Proofs.Tryz.zeroValue5,
    t9:=Go.Proofs.Tryz.underlying9,
    a9:=Go.Proofs.Tryz.isAgg9,
    z9:=Go.Proofs.Tryz.sizeOf9,
    v9:=Go.Proofs.Tryz.zeroValue9,
    t31:=Go.Proofs.Tryz.underlying23,
    a31:=Go.Proofs.Tryz.isAgg23,
    z31:=Go.Proofs.Tryz.sizeOf23,
    v31:=Go.Proofs.Tryz.zeroValue23,
    t46:=Go.Proofs.Tryz.underlying180,
    a46:=Go.Proofs.Tryz.isAgg180,
    z46:=Go.Proofs.Tryz.sizeOf180,
    v46:=Go.Proofs.Tryz.zeroValue180,
    t51:=Go.Proofs.Tryz.underlying249,
    a51:=Go.Proofs.Tryz.isAgg249,
    z51:=Go.Proofs.Tryz.sizeOf249,
    v51:=Go.Proofs.Tryz.zeroValue249,
    t53:=Go.Proofs.Tryz.underlying252,
    a53:=Go.Proofs.Tryz.isAgg252,
    z53:=Go.Proofs.Tryz.sizeOf252,
    v53:=Go.Proofs.Tryz.zeroValue252,
    t131:=Go.Proofs.Tryz.underlying285,
    a131:=Go.Proofs.Tryz.isAgg285,
    z131:=Go.Proofs.Tryz.sizeOf285,
    v131:=Go.Proofs.Tryz.zeroValue285,
    t182:=Go.Proofs.Tryz.underlying280,
    a182:=Go.Proofs.Tryz.isAgg280,
    z182:=Go.Proofs.Tryz.sizeOf280,
    v182:=Go.Proofs.Tryz.zeroValue280,
    t183:=Go.Proofs.Tryz.underlying281,
    a183:=Go.Proofs.Tryz.isAgg281,
    z183:=Go.Proofs.Tryz.sizeOf281,
    v183:=Go.Proofs.Tryz.zeroValue281,
    t218:=Go.Proofs.Tryz.underlying294,
    a218:=Go.Proofs.Tryz.isAgg294,
    z218:=Go.Proofs.Tryz.sizeOf294,
    v218:=Go.Proofs.Tryz.zeroValue294,
    t222:=Go.Proofs.Tryz.underlying170,
    a222:=Go.Proofs.Tryz.isAgg170,
    z222:=Go.Proofs.Tryz.sizeOf170,
    v222:=Go.Proofs.Tryz.zeroValue170,
    t228:=Go.Proofs.Tryz.underlying303,
    a228:=Go.Proofs.Tryz.isAgg303,
    z228:=Go.Proofs.Tryz.sizeOf303,
    v228:=Go.Proofs.Tryz.zeroValue303,
    t229:=Go.Proofs.Tryz.underlying304,
    a229:=Go.Proofs.Tryz.isAgg304,
    z229:=Go.Proofs.Tryz.sizeOf304,
    v229:=Go.Proofs.Tryz.zeroValue304 }
variable [LxP]
theorem Zsj (xs:List ByteArray) (hN:xs.length < 4611686018427387904):Fn Tryz.prog 117 ⟨1,[.c (.sl 0)],[],[(0,.own rS xs false)],1,.t [],[],[(0,.own rS (Sj xs) false)]⟩:=by
  refine Zqo ⟨Tryz.f117,Tryz.func117,rfl,rfl⟩ (ZfK xs) (fun b off cap w hH hb hc=>?_) (fun _ p cap w=>Any.slices_Sort_string_none Zlo p cap w)
  have:=Any.slices_Sort_string Zlo b off cap (Xk xs) w hH hb (by simpa [Xk] using hN)
  rw [<- ZlH] at this
  have e1:(Xk xs).length=xs.length:=by simp [Xk]
  rw [e1] at this
  exact this
end Gx
end
section
open Go Go.Kx Go.Proofs
namespace Gx
set_option maxRecDepth 20000
def Zn1:Go.Shelf.Ren:=⟨fun x=>match x with
  | 194=>118
  | n=>n,fun x=>match x with
  | 31=>23
  | 9=>9
  | 3=>3
  | 4=>4
  | 0=>0
  | n=>n,fun x=>x⟩
theorem Zit:Go.Proofs.Lays.n194 Go.Proofs.Tryz.prog Zn1 :=
  { mixed:=by kernel_rfl,
    f194:=Eq.trans Go.Proofs.Tryz.func118 (congrArg some (by kernel_rfl)),
    t0:=Go.Proofs.Tryz.underlying0,
    a0:=Go.Proofs.Tryz.isAgg0,
    z0:=Go.Proofs.Tryz.sizeOf0,
    v0:=Go.Proofs.Tryz.zeroValue0,
    t3:=Go.Proofs.Tryz.underlying3,
    a3:=Go.Proofs.Tryz.isAgg3,
    z3:=Go.Proofs.Tryz.sizeOf3,
    v3:=Go.Proofs.Tryz.zeroValue3,
    t4:=Go.Proofs.Tryz.underlying4,
    a4:=Go.Proofs.Tryz.isAgg4,
    z4:=Go.Proofs.Tryz.sizeOf4,
    v4:=Go.Proofs.Tryz.zeroValue4,
    t9:=Go.Proofs.Tryz.underlying9,
    a9:=Go.Proofs.Tryz.isAgg9,
    z9:=Go.Proofs.Tryz.sizeOf9,
    v9:=Go.Proofs.Tryz.zeroValue9,
    t31:=Go.Proofs.Tryz.underlying23,
    a31:=Go.Proofs.Tryz.isAgg23,
    z31:=Go.Proofs.Tryz.sizeOf23,
    v31:=Go.Proofs.Tryz.zeroValue23 }
variable [LxP]
theorem Zn2 (xs:List ByteArray) (hN:xs.length<=9223372036854775807):Fn Tryz.prog 118 ⟨1,[.c (.sl 0)],[],[(0,.own rS xs false)],2,.c (.sl 1),[],[(1,.own rS (Tj xs) false),(0,.gone)]⟩:=by
  refine Zsz ⟨Tryz.f118,Tryz.func118,rfl,rfl⟩ (B8 xs) (fun b off cap w hH hb hc=>?_) (fun _ p cap w=>Any.slices_Compact_string_empty Zit p cap w)
  have:=Any.slices_Compact_string Zit b off cap (Xk xs) w hH (by simpa [Xk] using hN) (by simpa [Xk] using hc)
  rw [<- ZfR] at this
  have e1:(Xk xs).length=xs.length:=by simp [Xk]
  have e2:(Xk (Tj xs)).length=(Tj xs).length:=by simp [Xk]
  rw [e1,e2] at this
  refine this.mono ?_
  rintro e w' ⟨rfl,q,rfl⟩
  refine ⟨rfl,q,#[],_,(Go.Sort.grow_empty _).symm,?_,?_⟩
  · have:=B8 xs
    simp only [List.length_append,List.length_replicate,e2];omega
  · intro i x hx
    have hi:i < (Tj xs).length:=(List.getElem?_eq_some_iff.1 hx).1
    rw [Zm (by rw [e2];exact hi)]
    simp [Xk,hx]
end Gx
end
section
open Go Go.Kx Go.Proofs
namespace Gx
set_option maxRecDepth 20000
def Zk6:Go.Shelf.Ren:=⟨fun x=>match x with
  | 105=>38
  | 212=>94
  | 99=>95
  | 165=>96
  | 166=>97
  | 170=>98
  | 169=>99
  | 263=>165
  | 264=>166
  | 206=>167
  | 240=>168
  | 241=>169
  | 276=>202
  | 277=>203
  | n=>n,fun x=>match x with
  | 9=>9
  | 3=>3
  | 4=>4
  | 20=>20
  | 0=>0
  | 46=>180
  | 109=>181
  | 5=>5
  | 72=>187
  | 76=>191
  | 51=>249
  | 146=>250
  | 53=>252
  | 148=>253
  | 70=>184
  | 37=>185
  | 75=>190
  | 127=>255
  | 164=>276
  | 80=>165
  | n=>n,fun x=>x⟩
theorem rpLays:Go.Proofs.Lays.n105 Go.Proofs.Tryz.prog Zk6 :=
  { mixed:=by kernel_rfl,
    f99:=Eq.trans Go.Proofs.Tryz.func95 (congrArg some (by kernel_rfl)),
    f105:=Eq.trans Go.Proofs.Tryz.func38 (congrArg some (by kernel_rfl)),
    f165:=Eq.trans Go.Proofs.Tryz.func96 (congrArg some (by kernel_rfl)),
    f166:=Eq.trans Go.Proofs.Tryz.func97 (congrArg some (by kernel_rfl)),
    f169:=Eq.trans Go.Proofs.Tryz.func99 (congrArg some (by kernel_rfl)),
    f170:=Eq.trans Go.Proofs.Tryz.func98 (congrArg some (by kernel_rfl)),
    f206:=Eq.trans Go.Proofs.Tryz.func167 (congrArg some (by kernel_rfl)),
    f212:=Eq.trans Go.Proofs.Tryz.func94 (congrArg some (by kernel_rfl)),
    f240:=Eq.trans Go.Proofs.Tryz.func168 (congrArg some (by kernel_rfl)),
    f241:=Eq.trans Go.Proofs.Tryz.func169 (congrArg some (by kernel_rfl)),
    f263:=Eq.trans Go.Proofs.Tryz.func165 (congrArg some (by kernel_rfl)),
    f264:=Eq.trans Go.Proofs.Tryz.func166 (congrArg some (by kernel_rfl)),
    f276:=Eq.trans Go.Proofs.Tryz.func202 (congrArg some (by kernel_rfl)),
    f277:=Eq.trans Go.Proofs.Tryz.func203 (congrArg some (by kernel_rfl)),
    t0:=Go.Proofs.Tryz.underlying0,
    a0:=Go.Proofs.Tryz.isAgg0,
    z0:=Go.Proofs.Tryz.sizeOf0,
    v0:=Go.Proofs.Tryz.zeroValue0,
    t3:=Go.Proofs.Tryz.underlying3,
    a3:=Go.Proofs.Tryz.isAgg3,
    z3:=Go.Proofs.Tryz.sizeOf3,
    v3:=Go.Proofs.Tryz.zeroValue3,
    t4:=Go.Proofs.Tryz.underlying4,
    a4:=Go.Proofs.Tryz.isAgg4,
    z4:=Go.Proofs.Tryz.sizeOf4,
    v4:=Go.Proofs.Tryz.zeroValue4,
    t5:=Go.Proofs.Tryz.underlying5,
    a5:=Go.Proofs.Tryz.isAgg5,
    z5:=Go.Proofs.Tryz.sizeOf5,
    v5:=Go.Proofs.Tryz.zeroValue5,
    t9:=Go.Proofs.Tryz.underlying9,
    a9:=Go.Proofs.Tryz.isAgg9,
    z9:=Go.Proofs.Tryz.sizeOf9,
    v9:=Go.Proofs.Tryz.zeroValue9,
    t20:=Go.Proofs.Tryz.underlying20,
    a20:=Go.Proofs.Tryz.isAgg20,
    z20:=Go.Proofs.Tryz.sizeOf20,
    v20:=Go.Proofs.Tryz.zeroValue20,
    t37:=Go.Proofs.Tryz.underlying185,
    a37:=Go.Proofs.Tryz.isAgg185,
    z37:=Go.Proofs.Tryz.sizeOf185,
    v37:=Go.Proofs.Tryz.zeroValue185,
    t46:=Go.Proofs.Tryz.underlying180,
    a46:=Go.Proofs.Tryz.isAgg180,
    z46:=Go.Proofs.Tryz.sizeOf180,
    v46:=Go.Proofs.Tryz.zeroValue180,
    t51:=Go.Proofs.Tryz.underlying249,
    a51:=Go.Proofs.Tryz.isAgg249,
    z51:=Go.Proofs.Tryz.sizeOf249,
    v51:=Go.Proofs.Tryz.zeroValue249,
    t53:=Go.Proofs.Tryz.underlying252,
    a53:=Go.Proofs.Tryz.isAgg252,
    z53:=Go.Proofs.Tryz.sizeOf252,
    v53:=Go.Proofs.Tryz.zeroValue252,
    t70:=Go.Proofs.Tryz.underlying184,
    a70:=Go.Proofs.Tryz.isAgg184,
    z70:=Go.Proofs.Tryz.sizeOf184,
    v70:=Go.Proofs.Tryz.zeroValue184,
    t72:=Go.Proofs.Tryz.underlying187,
    a72:=Go.Proofs.Tryz.isAgg187,
    z72:=Go.Proofs.Tryz.sizeOf187,
    v72:=Go.Proofs.Tryz.zeroValue187,
    t75:=Go.Proofs.Tryz.underlying190,
    a75:=Go.Proofs.Tryz.isAgg190,
    z75:=Go.Proofs.Tryz.sizeOf190,
    v75:=Go.Proofs.Tryz.zeroValue190,
    t76:=Go.Proofs.Tryz.underlying191,
    a76:=Go.Proofs.Tryz.isAgg191,
    z76:=Go.Proofs.Tryz.sizeOf191,
    v76:=Go.Proofs.Tryz.zeroValue191,
    t109:=Go.Proofs.Tryz.underlying181,
    a109:=Go.Proofs.Tryz.isAgg181,
    z109:=Go.Proofs.Tryz.sizeOf181,
    v109:=Go.Proofs.Tryz.zeroValue181,
    t127:=Go.Proofs.Tryz.underlying255,
    a127:=Go.Proofs.Tryz.isAgg255,
    z127:=Go.Proofs.Tryz.sizeOf255,
    v127:=Go.Proofs.Tryz.zeroValue255,
    t146:=Go.Proofs.Tryz.underlying250,
    a146:=Go.Proofs.Tryz.isAgg250,
    z146:=Go.Proofs.Tryz.sizeOf250,
    v146:=Go.Proofs.Tryz.zeroValue250,
    t148:=Go.Proofs.Tryz.underlying253,
    a148:=Go.Proofs.Tryz.isAgg253,
    z148:=Go.Proofs.Tryz.sizeOf253,
    v148:=Go.Proofs.Tryz.zeroValue253,
    t164:=Go.Proofs.Tryz.underlying276,
    a164:=Go.Proofs.Tryz.isAgg276,
    z164:=Go.Proofs.Tryz.sizeOf276,
    v164:=Go.Proofs.Tryz.zeroValue276 }
theorem ZrW:Builder.Extra Tryz.prog Zk6 where
  sizeBuilder:=by kernel_rfl
  liesBuilder:=by kernel_rfl
  t5:=rpLays.t5
  a5:=rpLays.a5
  z5:=rpLays.z5
  v5:=rpLays.v5
  infoByte:=by kernel_rfl
  cellsByte:=by kernel_rfl
  sizeByte:=by kernel_rfl
  neB5:=by decide
/-- So many copies of a text: the text of the library, walked once for all. -/
theorem ZrM (s:ByteArray) (c:Nat) (hc:c<=9223372036854775807) (hlen:s.size * c<=140737488355328):Fn Tryz.prog 38 ⟨0,[.c (.s s),.c (.i .i64 (c:Int))],[],[],0,.c (.s ⟨(Go.Lib.repeatL s.data.toList c).toArray⟩),[],[]⟩:=by
  refine ⟨⟨Tryz.f38,Tryz.func38,rfl,rfl⟩,fun E F w hp=>?_⟩
  refine (Any.strings_Repeat rpLays ZrW s c w hc hlen).mono ?_
  rintro e w' ⟨rfl,hb⟩
  exact ⟨E,F,rfl,{
    env:=fun k hk=>absurd hk (Nat.not_lt_zero k)
    one:=hp.one
    V:=fun k f h=>(nomatch h)
    M:=fun k m h=>(nomatch h)
    dis:=fun k k' m m' h=>(nomatch h)
    mF:=fun k m h=>(nomatch h)
    fresh:=fun k m h=>(nomatch h)
    F0:=fun _ h=>h
    F1:=fun _ h=>.inl h
    Fs:=fun b h=>Zh (hp.hF b h) hb.size
    ext:=⟨hb.os,hb.tape,⟨hb.output,.inl trivial⟩,hb.size,fun b hz=>hb.block b hz.1⟩ }⟩
end Gx
end
