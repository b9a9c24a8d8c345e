/- Functions of the library, by the contracts that are proved once for all programs. -/
import Derived.Shelf.Strconv.Itoa3
import Derived.Shelf.Strings.OnBuilder
import Derived.Shelf.Sort.Plain
import Derived.Shelf.Slices.In.SortNone
import Derived.Shelf.Slices.CompactS
import Derived.Shelf.Strings.Repeat
import Derived.Test.YtnlleampnlmdlaaGreatDoorProg
import Derived.Test.YtnlleampnlmdlaaGreatDoorExpandProblemsPure
set_option linter.all false
section
open Go Go.Kx Go.Proofs
namespace Gx
set_option maxRecDepth 20000
def Znz:Go.Shelf.Ren:=⟨fun x=>match x with
  | 171=>155
  | 243=>192
  | 246=>217
  | 283=>226
  | 284=>227
  | 285=>228
  | 286=>229
  | 129=>177
  | 317=>233
  | 318=>234
  | 319=>235
  | 320=>236
  | 337=>237
  | 338=>238
  | n=>n,fun x=>match x with
  | 3=>3
  | 9=>9
  | 2=>2
  | 4=>4
  | 171=>275
  | 0=>0
  | 53=>244
  | 37=>173
  | 5=>5
  | 173=>277
  | 212=>281
  | 51=>242
  | 20=>20
  | 213=>282
  | 46=>197
  | 232=>287
  | 233=>288
  | n=>n,fun x=>match x with
  | 17=>1
  | 18=>4
  | 19=>5
  | n=>n⟩
theorem Zny:Go.Proofs.LaysM.n171 Go.Proofs.Tryz.prog Znz :=
  { mixed:=by kernel_rfl,
    f129:=Eq.trans Go.Proofs.Tryz.func177 (congrArg some (by kernel_rfl)),
    f171:=Eq.trans Go.Proofs.Tryz.func155 (congrArg some (by kernel_rfl)),
    f243:=Eq.trans Go.Proofs.Tryz.func192 (congrArg some (by kernel_rfl)),
    f246:=Eq.trans Go.Proofs.Tryz.func217 (congrArg some (by kernel_rfl)),
    f283:=Eq.trans Go.Proofs.Tryz.func226 (congrArg some (by kernel_rfl)),
    f284:=Eq.trans Go.Proofs.Tryz.func227 (congrArg some (by kernel_rfl)),
    f285:=Eq.trans Go.Proofs.Tryz.func228 (congrArg some (by kernel_rfl)),
    f286:=Eq.trans Go.Proofs.Tryz.func229 (congrArg some (by kernel_rfl)),
    f317:=Eq.trans Go.Proofs.Tryz.func233 (congrArg some (by kernel_rfl)),
    f318:=Eq.trans Go.Proofs.Tryz.func234 (congrArg some (by kernel_rfl)),
    f319:=Eq.trans Go.Proofs.Tryz.func235 (congrArg some (by kernel_rfl)),
    f320:=Eq.trans Go.Proofs.Tryz.func236 (congrArg some (by kernel_rfl)),
    f337:=Eq.trans Go.Proofs.Tryz.func237 (congrArg some (by kernel_rfl)),
    f338:=Eq.trans Go.Proofs.Tryz.func238 (congrArg some (by kernel_rfl)),
    t0:=Go.Proofs.Tryz.underlying0,
    a0:=Go.Proofs.Tryz.isAgg0,
    z0:=Go.Proofs.Tryz.sizeOf0,
    v0:=Go.Proofs.Tryz.zeroValue0,
    t2:=Go.Proofs.Tryz.underlying2,
    a2:=Go.Proofs.Tryz.isAgg2,
    z2:=Go.Proofs.Tryz.sizeOf2,
    v2:=Go.Proofs.Tryz.zeroValue2,
    t3:=Go.Proofs.Tryz.underlying3,
    a3:=Go.Proofs.Tryz.isAgg3,
    z3:=Go.Proofs.Tryz.sizeOf3,
    v3:=Go.Proofs.Tryz.zeroValue3,
    t4:=Go.Proofs.Tryz.underlying4,
    a4:=Go.Proofs.Tryz.isAgg4,
    z4:=Go.Proofs.Tryz.sizeOf4,
    v4:=Go.Proofs.Tryz.zeroValue4,
    t5:=Go.Proofs.Tryz.underlying5,
    a5:=Go.Proofs.Tryz.isAgg5,
    z5:=Go.Proofs.Tryz.sizeOf5,
    v5:=Go.Proofs.Tryz.zeroValue5,
    t9:=Go.Proofs.Tryz.underlying9,
    a9:=Go.Proofs.Tryz.isAgg9,
    z9:=Go.Proofs.Tryz.sizeOf9,
    v9:=Go.Proofs.Tryz.zeroValue9,
    t20:=Go.Proofs.Tryz.underlying20,
    a20:=Go.Proofs.Tryz.isAgg20,
    z20:=Go.Proofs.Tryz.sizeOf20,
    v20:=Go.Proofs.Tryz.zeroValue20,
    t37:=Go.Proofs.Tryz.underlying173,
    a37:=Go.Proofs.Tryz.isAgg173,
    z37:=Go.Proofs.Tryz.sizeOf173,
    v37:=Go.Proofs.Tryz.zeroValue173,
    t46:=Go.Proofs.Tryz.underlying197,
    a46:=Go.Proofs.Tryz.isAgg197,
    z46:=Go.Proofs.Tryz.sizeOf197,
    v46:=Go.Proofs.Tryz.zeroValue197,
    t51:=Go.Proofs.Tryz.underlying242,
    a51:=Go.Proofs.Tryz.isAgg242,
    z51:=Go.Proofs.Tryz.sizeOf242,
    v51:=Go.Proofs.Tryz.zeroValue242,
    t53:=Go.Proofs.Tryz.underlying244,
    a53:=Go.Proofs.Tryz.isAgg244,
    z53:=Go.Proofs.Tryz.sizeOf244,
    v53:=Go.Proofs.Tryz.zeroValue244,
    t171:=Go.Proofs.Tryz.underlying275,
    a171:=Go.Proofs.Tryz.isAgg275,
    z171:=Go.Proofs.Tryz.sizeOf275,
    v171:=Go.Proofs.Tryz.zeroValue275,
    t173:=Go.Proofs.Tryz.underlying277,
    a173:=Go.Proofs.Tryz.isAgg277,
    z173:=Go.Proofs.Tryz.sizeOf277,
    v173:=Go.Proofs.Tryz.zeroValue277,
    t212:=Go.Proofs.Tryz.underlying281,
    a212:=Go.Proofs.Tryz.isAgg281,
    z212:=Go.Proofs.Tryz.sizeOf281,
    v212:=Go.Proofs.Tryz.zeroValue281,
    t213:=Go.Proofs.Tryz.underlying282,
    a213:=Go.Proofs.Tryz.isAgg282,
    z213:=Go.Proofs.Tryz.sizeOf282,
    t232:=Go.Proofs.Tryz.underlying287,
    a232:=Go.Proofs.Tryz.isAgg287,
    z232:=Go.Proofs.Tryz.sizeOf287,
    v232:=Go.Proofs.Tryz.zeroValue287,
    t233:=Go.Proofs.Tryz.underlying288,
    a233:=Go.Proofs.Tryz.isAgg288,
    z233:=Go.Proofs.Tryz.sizeOf288,
    v233:=Go.Proofs.Tryz.zeroValue288,
    g17:=by kernel_rfl,
    g18:=by kernel_rfl,
    g19:=by kernel_rfl,
    i0:=by kernel_rfl,
    i2:=by kernel_rfl,
    i3:=by kernel_rfl,
    i4:=by kernel_rfl,
    i5:=by kernel_rfl,
    i9:=by kernel_rfl,
    i20:=by kernel_rfl,
    i37:=by kernel_rfl,
    i46:=by kernel_rfl,
    i51:=by kernel_rfl,
    i53:=by kernel_rfl,
    i171:=by kernel_rfl,
    i173:=by kernel_rfl,
    i212:=by kernel_rfl,
    i232:=by kernel_rfl,
    i233:=by kernel_rfl,
    m17:=by kernel_rfl,
    m18:=by kernel_rfl,
    m19:=by kernel_rfl }
instance LxT:LxP:=⟨True⟩
theorem ZhH:∀ (f u:Nat),u < 10 ^ (f+1)->VL (f+1) u=Go.Lib.decDigits u:=by
  intro f
  induction f with
  | zero =>
    intro u h
    have h:u < 10:=by simpa using h
    rw [Go.Lib.decDigits,dif_pos h]
    unfold VL
    have:Nat.blt u 10=true:=by unfold Nat.blt;exact Nat.ble_eq_true_of_le h
    rw [this];rfl
  | succ f ih =>
    intro u h
    rw [Go.Lib.decDigits]
    unfold VL
    by_cases c:u < 10
    · rw [dif_pos c]
      have:Nat.blt u 10=true:=by unfold Nat.blt;exact Nat.ble_eq_true_of_le c
      rw [this];rfl
    · rw [dif_neg c]
      have:Nat.blt u 10=false:=by
        cases hb:Nat.blt u 10 with
        | false=>rfl
        | true=>exact absurd (YO hb) c
      rw [this,cond_false,ih (u / 10) (by rw [Nat.pow_succ] at h;omega)]
theorem ZnA (n:Int) (h0:-9223372036854775808<=n) (h1:n<=9223372036854775807):UF n=⟨(Go.Lib.itoa n).toArray⟩:=by
  unfold UF Go.Lib.itoa
  by_cases c:n < 0
  · rw [decide_eq_true c,if_pos c,cond_true,ZhH 24 _ (by omega)]
  · rw [decide_eq_false c,if_neg c,cond_false,ZhH 24 _ (by omega)]
abbrev powT:Mv:=Zj2 Tryz.prog 1 "internal/strconv.uint64pow10" .u64 Go.Lib.pow10Tab
/-- A number's numeral: the text of the library, walked once for all. -/
theorem ZnB (n:Int) (h0:-9223372036854775808<=n) (h1:n<=9223372036854775807):Fn Tryz.prog 155 ⟨1,[.c (.i .i64 n)],[],[(0,.abs powT)],1,.c (.s (UF n)),[],[(0,.abs powT)]⟩:=by
  refine ⟨⟨Tryz.f155,Tryz.func155,rfl,rfl⟩,fun E F w hp=>?_⟩
  have hT:F 1/\Tryz.prog.globalNamed "internal/strconv.uint64pow10"=some 1/\Go.Lib.TabIs Tryz.prog w "internal/strconv.uint64pow10" .u64 Go.Lib.pow10Tab:=hp.M 0 (.abs powT) rfl
  refine (Any.strconv_Itoa Zny n h0 h1 w hT.2.2).mono ?_
  rintro e w' ⟨rfl,k,os,rfl⟩
  have hold:∀ b,b < w.heap.size->(Go.Sort.grow (w.drewN k) os).heap[b]? = w.heap[b]? := fun b hb=>Go.Sort.heap_grow_old (w.drewN k) os hb
  have hsz:w.heap.size<=(Go.Sort.grow (w.drewN k) os).heap.size:=by
    show w.heap.size<=(w.heap++os).size
    simp
  refine ⟨E,F,by rw [ZnA n h0 h1];rfl,{
    env:=fun k hk=>⟨rfl,rfl⟩
    one:=hp.one
    V:=fun k f h=>(nomatch h)
    M:=fun k m h=>by
      rw [YD] at h
      split at h
      · cases h
        exact powT.mono (F:=F) (w:=w) ⟨fun _ h=>h,fun b hb=>hold b (hp.hF b hb)⟩ (fun b h=>h.elim) hT
      · cases h
    dis:=fun k k' m m' h h' hne=>by
      rw [YD] at h
      split at h
      · cases h;exact fun b hb=>hb.elim
      · cases h
    mF:=fun k m h b hb=>by
      rw [YD] at h
      split at h
      · cases h;exact hb.elim
      · cases h
    fresh:=fun k m h hf b hb=>by
      rw [YD] at h
      split at h
      · cases h;exact hb.elim
      · cases h
    F0:=fun _ h=>h
    F1:=fun _ h=>.inl h
    Fs:=fun b h=>Zh (hp.hF b h) (hsz)
    ext:=⟨rfl,rfl,⟨rfl,.inl trivial⟩,hsz,fun b hb=>hold b hb.1⟩ }⟩
end Gx
end
section
open Go Go.Kx Go.Proofs
namespace Gx
set_option maxRecDepth 20000
def Zil:Go.Shelf.Ren:=⟨fun x=>match x with
  | 156=>105
  | 165=>154
  | 166=>152
  | 169=>108
  | 240=>188
  | 241=>191
  | 276=>213
  | 277=>216
  | n=>n,fun x=>match x with
  | 31=>24
  | 9=>9
  | 3=>3
  | 4=>4
  | 0=>0
  | 20=>20
  | 72=>175
  | 76=>218
  | 70=>172
  | 37=>173
  | 75=>217
  | 127=>224
  | 164=>262
  | 5=>5
  | 80=>161
  | n=>n,fun x=>x⟩
theorem Zik:Go.Proofs.Lays.n156 Go.Proofs.Tryz.prog Zil :=
  { mixed:=by kernel_rfl,
    f156:=Eq.trans Go.Proofs.Tryz.func105 (congrArg some (by kernel_rfl)),
    f165:=Eq.trans Go.Proofs.Tryz.func154 (congrArg some (by kernel_rfl)),
    f166:=Eq.trans Go.Proofs.Tryz.func152 (congrArg some (by kernel_rfl)),
    f169:=Eq.trans Go.Proofs.Tryz.func108 (congrArg some (by kernel_rfl)),
    f240:=Eq.trans Go.Proofs.Tryz.func188 (congrArg some (by kernel_rfl)),
    f241:=Eq.trans Go.Proofs.Tryz.func191 (congrArg some (by kernel_rfl)),
    f276:=Eq.trans Go.Proofs.Tryz.func213 (congrArg some (by kernel_rfl)),
    f277:=Eq.trans Go.Proofs.Tryz.func216 (congrArg some (by kernel_rfl)),
    t0:=Go.Proofs.Tryz.underlying0,
    a0:=Go.Proofs.Tryz.isAgg0,
    z0:=Go.Proofs.Tryz.sizeOf0,
    v0:=Go.Proofs.Tryz.zeroValue0,
    t3:=Go.Proofs.Tryz.underlying3,
    a3:=Go.Proofs.Tryz.isAgg3,
    z3:=Go.Proofs.Tryz.sizeOf3,
    v3:=Go.Proofs.Tryz.zeroValue3,
    t4:=Go.Proofs.Tryz.underlying4,
    a4:=Go.Proofs.Tryz.isAgg4,
    z4:=Go.Proofs.Tryz.sizeOf4,
    v4:=Go.Proofs.Tryz.zeroValue4,
    t9:=Go.Proofs.Tryz.underlying9,
    a9:=Go.Proofs.Tryz.isAgg9,
    z9:=Go.Proofs.Tryz.sizeOf9,
    v9:=Go.Proofs.Tryz.zeroValue9,
    t20:=Go.Proofs.Tryz.underlying20,
    a20:=Go.Proofs.Tryz.isAgg20,
    z20:=Go.Proofs.Tryz.sizeOf20,
    v20:=Go.Proofs.Tryz.zeroValue20,
    t31:=Go.Proofs.Tryz.underlying24,
    a31:=Go.Proofs.Tryz.isAgg24,
    z31:=Go.Proofs.Tryz.sizeOf24,
    v31:=Go.Proofs.Tryz.zeroValue24,
    t37:=Go.Proofs.Tryz.underlying173,
    a37:=Go.Proofs.Tryz.isAgg173,
    z37:=Go.Proofs.Tryz.sizeOf173,
    v37:=Go.Proofs.Tryz.zeroValue173,
    t70:=Go.Proofs.Tryz.underlying172,
    a70:=Go.Proofs.Tryz.isAgg172,
    z70:=Go.Proofs.Tryz.sizeOf172,
    v70:=Go.Proofs.Tryz.zeroValue172,
    t72:=Go.Proofs.Tryz.underlying175,
    a72:=Go.Proofs.Tryz.isAgg175,
    z72:=Go.Proofs.Tryz.sizeOf175,
    v72:=Go.Proofs.Tryz.zeroValue175,
    t75:=Go.Proofs.Tryz.underlying217,
    a75:=Go.Proofs.Tryz.isAgg217,
    z75:=Go.Proofs.Tryz.sizeOf217,
    v75:=Go.Proofs.Tryz.zeroValue217,
    t76:=Go.Proofs.Tryz.underlying218,
    a76:=Go.Proofs.Tryz.isAgg218,
    z76:=Go.Proofs.Tryz.sizeOf218,
    v76:=Go.Proofs.Tryz.zeroValue218,
    t127:=Go.Proofs.Tryz.underlying224,
    a127:=Go.Proofs.Tryz.isAgg224,
    z127:=Go.Proofs.Tryz.sizeOf224,
    v127:=Go.Proofs.Tryz.zeroValue224,
    t164:=Go.Proofs.Tryz.underlying262,
    a164:=Go.Proofs.Tryz.isAgg262,
    z164:=Go.Proofs.Tryz.sizeOf262,
    v164:=Go.Proofs.Tryz.zeroValue262 }
theorem Zij:Builder.Extra Tryz.prog Zil where
  sizeBuilder:=by kernel_rfl
  liesBuilder:=by kernel_rfl
  t5:=Tryz.underlying5
  a5:=Tryz.isAgg5
  z5:=Tryz.sizeOf5
  v5:=Tryz.zeroValue5
  infoByte:=by kernel_rfl
  cellsByte:=by kernel_rfl
  sizeByte:=by kernel_rfl
  neB5:=by decide
theorem ZnP (sep:List UInt8):∀ xs:List (List UInt8),X9 sep xs=Go.Lib.join xs sep
  | []=>rfl
  | x::r=>(Go.Lib.join_cons x r sep).symm
/-- Texts, one behind the other: the text of the library, walked once for all. -/
theorem ZnQ (xs:List ByteArray) (sep:ByteArray) (hN:xs.length<=140737488355328) (hlen:(X9 sep.data.toList (xs.map (·.data.toList))).length<=140737488355328) :
    Fn Tryz.prog 105 ⟨1,[.c (.sl 0),.c (.s sep)],[(0,.sl rS xs)],[],1,.c (.s ⟨(X9 sep.data.toList (xs.map (·.data.toList))).toArray⟩),[],[]⟩:=by
  refine ⟨⟨Tryz.f105,Tryz.func105,rfl,rfl⟩,fun E F w hp=>?_⟩
  have hV:=hp.V 0 (.sl rS xs) rfl
  have key:Calls Tryz.prog 105 #[E.ρ 0,.string sep] w fun e w'=>e=.returned (.string ⟨(X9 sep.data.toList (xs.map (·.data.toList))).toArray⟩)/\Go.RowKit.Below w.heap.size w w':=by
    rw [ZnP] at hlen ⊢
    rcases hV with ⟨rfl,a,c,hv⟩ | ⟨b,off,cap,arr,el,fz,hv,hc,hF,hh,hr⟩
    · rw [hv]
      refine (Any.strings_Join_none Zik Zij a c sep w).mono ?_
      rintro e w' ⟨rfl,rfl⟩
      exact ⟨rfl,Go.RowKit.Below.refl _ _⟩
    · rw [hv]
      refine Any.strings_Join Zik Zij b off cap xs sep w (fun j x hx=>?_) (hp.hF b hF) hN hc hlen
      have ⟨vs,hvs,hrow⟩:=hr j x hx
      have hvs:vs=[.string x]:=hvs
      subst hvs
      have:=hrow 0 (.string x) rfl
      unfold World.cell?
      rw [hh]
      simpa [rS] using this
  refine key.mono ?_
  rintro e w' ⟨rfl,hb⟩
  exact ⟨E,F,rfl,{
    env:=fun k hk=>⟨rfl,rfl⟩
    one:=hp.one
    V:=fun k f h=>(nomatch h)
    M:=fun k m h=>(nomatch h)
    dis:=fun k k' m m' h=>(nomatch h)
    mF:=fun k m h=>(nomatch h)
    fresh:=fun k m h=>(nomatch h)
    F0:=fun _ h=>h
    F1:=fun _ h=>.inl h
    Fs:=fun b h=>Zh (hp.hF b h) hb.size
    ext:=⟨hb.os,hb.tape,⟨hb.output,.inl trivial⟩,hb.size,fun b hz=>hb.block b hz.1⟩ }⟩
end Gx
end
section
open Go Go.Kx Go.Proofs
namespace Gx
set_option maxRecDepth 20000
def Zqx:Go.Shelf.Ren:=⟨fun x=>match x with
  | 190=>70
  | 125=>130
  | 258=>129
  | 128=>176
  | 129=>177
  | 302=>167
  | 303=>168
  | 304=>169
  | 305=>170
  | 306=>171
  | 307=>172
  | 308=>173
  | 309=>174
  | 310=>175
  | 333=>199
  | 329=>200
  | 330=>201
  | 334=>202
  | 335=>203
  | 336=>204
  | 344=>220
  | n=>n,fun x=>match x with
  | 31=>24
  | 9=>9
  | 3=>3
  | 46=>197
  | 0=>0
  | 51=>242
  | 53=>244
  | 4=>4
  | 183=>235
  | 182=>234
  | 131=>239
  | 5=>5
  | 218=>254
  | 222=>112
  | 228=>270
  | 229=>49
  | n=>n,fun x=>x⟩
theorem ZjS:Go.Proofs.Lays.n190 Go.Proofs.Tryz.prog Zqx :=
  { mixed:=by kernel_rfl,
    f125:=Eq.trans Go.Proofs.Tryz.func130 (congrArg some (by kernel_rfl)),
    f128:=Eq.trans Go.Proofs.Tryz.func176 (congrArg some (by kernel_rfl)),
    f129:=Eq.trans Go.Proofs.Tryz.func177 (congrArg some (by kernel_rfl)),
    f190:=Eq.trans Go.Proofs.Tryz.func70 (congrArg some (by kernel_rfl)),
    f258:=Eq.trans Go.Proofs.Tryz.func129 (congrArg some (by kernel_rfl)),
    f302:=Eq.trans Go.Proofs.Tryz.func167 (congrArg some (by kernel_rfl)),
    f303:=Eq.trans Go.Proofs.Tryz.func168 (congrArg some (by kernel_rfl)),
    f304:=Eq.trans Go.Proofs.Tryz.func169 (congrArg some (by kernel_rfl)),
    f305:=Eq.trans Go.Proofs.Tryz.func170 (congrArg some (by kernel_rfl)),
    f306:=Eq.trans Go.Proofs.Tryz.func171 (congrArg some (by kernel_rfl)),
    f307:=Eq.trans Go.Proofs.Tryz.func172 (congrArg some (by kernel_rfl)),
    f308:=Eq.trans Go.Proofs.Tryz.func173 (congrArg some (by kernel_rfl)),
    f309:=Eq.trans Go.Proofs.Tryz.func174 (congrArg some (by kernel_rfl)),
    f310:=Eq.trans Go.Proofs.Tryz.func175 (congrArg some (by kernel_rfl)),
    f329:=Eq.trans Go.Proofs.Tryz.func200 (congrArg some (by kernel_rfl)),
    f330:=Eq.trans Go.Proofs.Tryz.func201 (congrArg some (by kernel_rfl)),
    f333:=Eq.trans Go.Proofs.Tryz.func199 (congrArg some (by kernel_rfl)),
    f334:=Eq.trans Go.Proofs.Tryz.func202 (congrArg some (by kernel_rfl)),
    f335:=Eq.trans Go.Proofs.Tryz.func203 (congrArg some (by kernel_rfl)),
    f336:=Eq.trans Go.Proofs.Tryz.func204 (congrArg some (by kernel_rfl)),
    f344:=Eq.trans Go.Proofs.Tryz.func220 (congrArg some (by kernel_rfl)),
    t0:=Go.Proofs.Tryz.underlying0,
    a0:=Go.Proofs.Tryz.isAgg0,
    z0:=Go.Proofs.Tryz.sizeOf0,
    v0:=Go.Proofs.Tryz.zeroValue0,
    t3:=Go.Proofs.Tryz.underlying3,
    a3:=Go.Proofs.Tryz.isAgg3,
    z3:=Go.Proofs.Tryz.sizeOf3,
    v3:=Go.Proofs.Tryz.zeroValue3,
    t4:=Go.Proofs.Tryz.underlying4,
    a4:=Go.Proofs.Tryz.isAgg4,
    z4:=Go.Proofs.Tryz.sizeOf4,
    v4:=Go.Proofs.Tryz.zeroValue4,
    t5:=Go.Proofs.Tryz.underlying5,
    a5:=Go.Proofs.Tryz.isAgg5,
    z5:=Go.Proofs.Tryz.sizeOf5,
    v5:=Go.Proofs.Tryz.zeroValue5,
    t9:=Go.Proofs.Tryz.underlying9,
    a9:=Go.Proofs.Tryz.isAgg9,
    z9:=Go.Proofs.Tryz.sizeOf9,
    v9:=Go.Proofs.Tryz.zeroValue9,
    t31:=Go.Proofs.Tryz.underlying24,
    a31:=Go.Proofs.Tryz.isAgg24,
    z31:=Go.Proofs.Tryz.sizeOf24,
    v31:=Go.Proofs.Tryz.zeroValue24,
    t46:=Go.Proofs.Tryz.underlying197,
    a46:=Go.Proofs.Tryz.isAgg197,
    z46:=Go.Proofs.Tryz.sizeOf197,
    v46:=Go.Proofs.Tryz.zeroValue197,
    t51:=Go.Proofs.Tryz.underlying242,
    a51:=Go.Proofs.Tryz.isAgg242,
    z51:=Go.Proofs.Tryz.sizeOf242,
    v51:=Go.Proofs.Tryz.zeroValue242,
    t53:=Go.Proofs.Tryz.underlying244,
    a53:=Go.Proofs.Tryz.isAgg244,
    z53:=Go.Proofs.Tryz.sizeOf244,
    v53:=Go.Proofs.Tryz.zeroValue244,
    t131:=Go.Proofs.Tryz.underlying239,
    a131:=Go.Proofs.Tryz.isAgg239,
    z131:=Go.Proofs.Tryz.sizeOf239,
    v131:=Go.Proofs.Tryz.zeroValue239,
    t182:=Go.Proofs.Tryz.underlying234,
    a182:=Go.Proofs.Tryz.isAgg234,
    z182:=Go.Proofs.Tryz.sizeOf234,
    v182:=Go.Proofs.Tryz.zeroValue234,
    t183:=Go.Proofs.Tryz.underlying235,
    a183:=Go.Proofs.Tryz.isAgg235,
    z183:=Go.Proofs.Tryz.sizeOf235,
    v183:=Go.Proofs.Tryz.zeroValue235,
    t218:=Go.Proofs.Tryz.underlying254,
    a218:=Go.Proofs.Tryz.isAgg254,
    z218:=Go.Proofs.Tryz.sizeOf254,
    v218:=Go.Proofs.Tryz.zeroValue254,
    t222:=Go.Proofs.Tryz.underlying112,
    a222:=Go.Proofs.Tryz.isAgg112,
    z222:=Go.Proofs.Tryz.sizeOf112,
    v222:=Go.Proofs.Tryz.zeroValue112,
    t228:=Go.Proofs.Tryz.underlying270,
    a228:=Go.Proofs.Tryz.isAgg270,
    z228:=Go.Proofs.Tryz.sizeOf270,
    v228:=Go.Proofs.Tryz.zeroValue270,
    t229:=Go.Proofs.Tryz.underlying49,
    a229:=Go.Proofs.Tryz.isAgg49,
    z229:=Go.Proofs.Tryz.sizeOf49,
    v229:=Go.Proofs.Tryz.zeroValue49 }
variable [LxP]
theorem Zqy (xs:List ByteArray) (hN:xs.length < 4611686018427387904):Fn Tryz.prog 70 ⟨1,[.c (.sl 0)],[],[(0,.own rS xs false)],1,.t [],[],[(0,.own rS (TX xs) false)]⟩:=by
  refine Zov ⟨Tryz.f70,Tryz.func70,rfl,rfl⟩ (ZeO xs) (fun b off cap w hH hb hc=>?_) (fun _ p cap w=>Any.slices_Sort_string_none ZjS p cap w)
  have:=Any.slices_Sort_string ZjS b off cap (Y4 xs) w hH hb (by simpa [Y4] using hN)
  rw [<- Zka] at this
  have e1:(Y4 xs).length=xs.length:=by simp [Y4]
  rw [e1] at this
  exact this
end Gx
end
section
open Go Go.Kx Go.Proofs
namespace Gx
set_option maxRecDepth 20000
def Zmm:Go.Shelf.Ren:=⟨fun x=>match x with
  | 194=>71
  | n=>n,fun x=>match x with
  | 31=>24
  | 9=>9
  | 3=>3
  | 4=>4
  | 0=>0
  | n=>n,fun x=>x⟩
theorem Zg2:Go.Proofs.Lays.n194 Go.Proofs.Tryz.prog Zmm :=
  { mixed:=by kernel_rfl,
    f194:=Eq.trans Go.Proofs.Tryz.func71 (congrArg some (by kernel_rfl)),
    t0:=Go.Proofs.Tryz.underlying0,
    a0:=Go.Proofs.Tryz.isAgg0,
    z0:=Go.Proofs.Tryz.sizeOf0,
    v0:=Go.Proofs.Tryz.zeroValue0,
    t3:=Go.Proofs.Tryz.underlying3,
    a3:=Go.Proofs.Tryz.isAgg3,
    z3:=Go.Proofs.Tryz.sizeOf3,
    v3:=Go.Proofs.Tryz.zeroValue3,
    t4:=Go.Proofs.Tryz.underlying4,
    a4:=Go.Proofs.Tryz.isAgg4,
    z4:=Go.Proofs.Tryz.sizeOf4,
    v4:=Go.Proofs.Tryz.zeroValue4,
    t9:=Go.Proofs.Tryz.underlying9,
    a9:=Go.Proofs.Tryz.isAgg9,
    z9:=Go.Proofs.Tryz.sizeOf9,
    v9:=Go.Proofs.Tryz.zeroValue9,
    t31:=Go.Proofs.Tryz.underlying24,
    a31:=Go.Proofs.Tryz.isAgg24,
    z31:=Go.Proofs.Tryz.sizeOf24,
    v31:=Go.Proofs.Tryz.zeroValue24 }
variable [LxP]
theorem Zmo (xs:List ByteArray) (hN:xs.length<=9223372036854775807):Fn Tryz.prog 71 ⟨1,[.c (.sl 0)],[],[(0,.own rS xs false)],2,.c (.sl 1),[],[(1,.own rS (U5 xs) false),(0,.gone)]⟩:=by
  refine ZqR ⟨Tryz.f71,Tryz.func71,rfl,rfl⟩ (BE xs) (fun b off cap w hH hb hc=>?_) (fun _ p cap w=>Any.slices_Compact_string_empty Zg2 p cap w)
  have:=Any.slices_Compact_string Zg2 b off cap (Y4 xs) w hH (by simpa [Y4] using hN) (by simpa [Y4] using hc)
  rw [<- ZeT] at this
  have e1:(Y4 xs).length=xs.length:=by simp [Y4]
  have e2:(Y4 (U5 xs)).length=(U5 xs).length:=by simp [Y4]
  rw [e1,e2] at this
  refine this.mono ?_
  rintro e w' ⟨rfl,q,rfl⟩
  refine ⟨rfl,q,#[],_,(Go.Sort.grow_empty _).symm,?_,?_⟩
  · have:=BE xs
    simp only [List.length_append,List.length_replicate,e2];omega
  · intro i x hx
    have hi:i < (U5 xs).length:=(List.getElem?_eq_some_iff.1 hx).1
    rw [Zm (by rw [e2];exact hi)]
    simp [Y4,hx]
end Gx
end
section
open Go Go.Kx Go.Proofs
namespace Gx
set_option maxRecDepth 20000
def Zjz:Go.Shelf.Ren:=⟨fun x=>match x with
  | 105=>153
  | 212=>189
  | 99=>137
  | 165=>154
  | 166=>152
  | 170=>190
  | 169=>108
  | 263=>214
  | 264=>215
  | 206=>179
  | 240=>188
  | 241=>191
  | 276=>213
  | 277=>216
  | n=>n,fun x=>match x with
  | 9=>9
  | 3=>3
  | 4=>4
  | 20=>20
  | 0=>0
  | 46=>197
  | 109=>250
  | 5=>5
  | 72=>175
  | 76=>218
  | 51=>242
  | 146=>264
  | 53=>244
  | 148=>266
  | 70=>172
  | 37=>173
  | 75=>217
  | 127=>224
  | 164=>262
  | 80=>161
  | n=>n,fun x=>x⟩
theorem rpLays:Go.Proofs.Lays.n105 Go.Proofs.Tryz.prog Zjz :=
  { mixed:=by kernel_rfl,
    f99:=Eq.trans Go.Proofs.Tryz.func137 (congrArg some (by kernel_rfl)),
    f105:=Eq.trans Go.Proofs.Tryz.func153 (congrArg some (by kernel_rfl)),
    f165:=Eq.trans Go.Proofs.Tryz.func154 (congrArg some (by kernel_rfl)),
    f166:=Eq.trans Go.Proofs.Tryz.func152 (congrArg some (by kernel_rfl)),
    f169:=Eq.trans Go.Proofs.Tryz.func108 (congrArg some (by kernel_rfl)),
    f170:=Eq.trans Go.Proofs.Tryz.func190 (congrArg some (by kernel_rfl)),
    f206:=Eq.trans Go.Proofs.Tryz.func179 (congrArg some (by kernel_rfl)),
    f212:=Eq.trans Go.Proofs.Tryz.func189 (congrArg some (by kernel_rfl)),
    f240:=Eq.trans Go.Proofs.Tryz.func188 (congrArg some (by kernel_rfl)),
    f241:=Eq.trans Go.Proofs.Tryz.func191 (congrArg some (by kernel_rfl)),
    f263:=Eq.trans Go.Proofs.Tryz.func214 (congrArg some (by kernel_rfl)),
    f264:=Eq.trans Go.Proofs.Tryz.func215 (congrArg some (by kernel_rfl)),
    f276:=Eq.trans Go.Proofs.Tryz.func213 (congrArg some (by kernel_rfl)),
    f277:=Eq.trans Go.Proofs.Tryz.func216 (congrArg some (by kernel_rfl)),
    t0:=Go.Proofs.Tryz.underlying0,
    a0:=Go.Proofs.Tryz.isAgg0,
    z0:=Go.Proofs.Tryz.sizeOf0,
    v0:=Go.Proofs.Tryz.zeroValue0,
    t3:=Go.Proofs.Tryz.underlying3,
    a3:=Go.Proofs.Tryz.isAgg3,
    z3:=Go.Proofs.Tryz.sizeOf3,
    v3:=Go.Proofs.Tryz.zeroValue3,
    t4:=Go.Proofs.Tryz.underlying4,
    a4:=Go.Proofs.Tryz.isAgg4,
    z4:=Go.Proofs.Tryz.sizeOf4,
    v4:=Go.Proofs.Tryz.zeroValue4,
    t5:=Go.Proofs.Tryz.underlying5,
    a5:=Go.Proofs.Tryz.isAgg5,
    z5:=Go.Proofs.Tryz.sizeOf5,
    v5:=Go.Proofs.Tryz.zeroValue5,
    t9:=Go.Proofs.Tryz.underlying9,
    a9:=Go.Proofs.Tryz.isAgg9,
    z9:=Go.Proofs.Tryz.sizeOf9,
    v9:=Go.Proofs.Tryz.zeroValue9,
    t20:=Go.Proofs.Tryz.underlying20,
    a20:=Go.Proofs.Tryz.isAgg20,
    z20:=Go.Proofs.Tryz.sizeOf20,
    v20:=Go.Proofs.Tryz.zeroValue20,
    t37:=Go.Proofs.Tryz.underlying173,
    a37:=Go.Proofs.Tryz.isAgg173,
    z37:=Go.Proofs.Tryz.sizeOf173,
    v37:=Go.Proofs.Tryz.zeroValue173,
    t46:=Go.Proofs.Tryz.underlying197,
    a46:=Go.Proofs.Tryz.isAgg197,
    z46:=Go.Proofs.Tryz.sizeOf197,
    v46:=Go.Proofs.Tryz.zeroValue197,
    t51:=Go.Proofs.Tryz.underlying242,
    a51:=Go.Proofs.Tryz.isAgg242,
    z51:=Go.Proofs.Tryz.sizeOf242,
    v51:=Go.Proofs.Tryz.zeroValue242,
    t53:=Go.Proofs.Tryz.underlying244,
    a53:=Go.Proofs.Tryz.isAgg244,
    z53:=Go.Proofs.Tryz.sizeOf244,
    v53:=Go.Proofs.Tryz.zeroValue244,
    t70:=Go.Proofs.Tryz.underlying172,
    a70:=Go.Proofs.Tryz.isAgg172,
    z70:=Go.Proofs.Tryz.sizeOf172,
    v70:=Go.Proofs.Tryz.zeroValue172,
    t72:=Go.Proofs.Tryz.underlying175,
    a72:=Go.Proofs.Tryz.isAgg175,
    z72:=Go.Proofs.Tryz.sizeOf175,
    v72:=Go.Proofs.Tryz.zeroValue175,
    t75:=Go.Proofs.Tryz.underlying217,
    a75:=Go.Proofs.Tryz.isAgg217,
    z75:=Go.Proofs.Tryz.sizeOf217,
    v75:=Go.Proofs.Tryz.zeroValue217,
    t76:=Go.Proofs.Tryz.underlying218,
    a76:=Go.Proofs.Tryz.isAgg218,
    z76:=Go.Proofs.Tryz.sizeOf218,
    v76:=Go.Proofs.Tryz.zeroValue218,
    t109:=Go.Proofs.Tryz.underlying250,
    a109:=Go.Proofs.Tryz.isAgg250,
    z109:=Go.Proofs.Tryz.sizeOf250,
    v109:=Go.Proofs.Tryz.zeroValue250,
    t127:=Go.Proofs.Tryz.underlying224,
    a127:=Go.Proofs.Tryz.isAgg224,
    z127:=Go.Proofs.Tryz.sizeOf224,
    v127:=Go.Proofs.Tryz.zeroValue224,
    t146:=Go.Proofs.Tryz.underlying264,
    a146:=Go.Proofs.Tryz.isAgg264,
    z146:=Go.Proofs.Tryz.sizeOf264,
    v146:=Go.Proofs.Tryz.zeroValue264,
    t148:=Go.Proofs.Tryz.underlying266,
    a148:=Go.Proofs.Tryz.isAgg266,
    z148:=Go.Proofs.Tryz.sizeOf266,
    v148:=Go.Proofs.Tryz.zeroValue266,
    t164:=Go.Proofs.Tryz.underlying262,
    a164:=Go.Proofs.Tryz.isAgg262,
    z164:=Go.Proofs.Tryz.sizeOf262,
    v164:=Go.Proofs.Tryz.zeroValue262 }
theorem Zp9:Builder.Extra Tryz.prog Zjz where
  sizeBuilder:=by kernel_rfl
  liesBuilder:=by kernel_rfl
  t5:=rpLays.t5
  a5:=rpLays.a5
  z5:=rpLays.z5
  v5:=rpLays.v5
  infoByte:=by kernel_rfl
  cellsByte:=by kernel_rfl
  sizeByte:=by kernel_rfl
  neB5:=by decide
/-- So many copies of a text: the text of the library, walked once for all. -/
theorem ZpW (s:ByteArray) (c:Nat) (hc:c<=9223372036854775807) (hlen:s.size * c<=140737488355328):Fn Tryz.prog 153 ⟨0,[.c (.s s),.c (.i .i64 (c:Int))],[],[],0,.c (.s ⟨(Go.Lib.repeatL s.data.toList c).toArray⟩),[],[]⟩:=by
  refine ⟨⟨Tryz.f153,Tryz.func153,rfl,rfl⟩,fun E F w hp=>?_⟩
  refine (Any.strings_Repeat rpLays Zp9 s c w hc hlen).mono ?_
  rintro e w' ⟨rfl,hb⟩
  exact ⟨E,F,rfl,{
    env:=fun k hk=>absurd hk (Nat.not_lt_zero k)
    one:=hp.one
    V:=fun k f h=>(nomatch h)
    M:=fun k m h=>(nomatch h)
    dis:=fun k k' m m' h=>(nomatch h)
    mF:=fun k m h=>(nomatch h)
    fresh:=fun k m h=>(nomatch h)
    F0:=fun _ h=>h
    F1:=fun _ h=>.inl h
    Fs:=fun b h=>Zh (hp.hF b h) hb.size
    ext:=⟨hb.os,hb.tape,⟨hb.output,.inl trivial⟩,hb.size,fun b hz=>hb.block b hz.1⟩ }⟩
end Gx
end
