/- Functions of the library, by the contracts that are proved once for all programs. -/
import Derived.Shelf.Strconv.Itoa3
import Derived.Shelf.Strings.OnBuilder
import Derived.Shelf.Strings.Repeat
import Derived.Test.YteimgnlbpphmjaaGreatDoorProg
import Derived.Test.YteimgnlbpphmjaaGreatDoorSyntaxPrintPure
set_option linter.all false
section
open Go Go.Kx Go.Proofs
namespace Gx
set_option maxRecDepth 20000
def itRen:Go.Shelf.Ren:=⟨fun x=>match x with
  | 171=>131
  | 243=>161
  | 246=>176
  | 283=>180
  | 284=>181
  | 285=>182
  | 286=>183
  | 129=>186
  | 317=>185
  | 318=>187
  | 319=>188
  | 320=>189
  | 337=>190
  | 338=>191
  | n=>n,fun x=>match x with
  | 3=>3
  | 9=>9
  | 2=>2
  | 4=>4
  | 171=>214
  | 0=>0
  | 53=>209
  | 37=>47
  | 5=>5
  | 173=>217
  | 212=>225
  | 51=>206
  | 20=>20
  | 213=>226
  | 46=>194
  | 232=>229
  | 233=>230
  | n=>n,fun x=>match x with
  | 17=>3
  | 18=>4
  | 19=>5
  | n=>n⟩
theorem itLays:Go.Proofs.LaysM.n171 Go.Proofs.Tryz.prog itRen :=
  { mixed:=by kernel_rfl,
    f129:=Eq.trans Go.Proofs.Tryz.func186 (congrArg some (by kernel_rfl)),
    f171:=Eq.trans Go.Proofs.Tryz.func131 (congrArg some (by kernel_rfl)),
    f243:=Eq.trans Go.Proofs.Tryz.func161 (congrArg some (by kernel_rfl)),
    f246:=Eq.trans Go.Proofs.Tryz.func176 (congrArg some (by kernel_rfl)),
    f283:=Eq.trans Go.Proofs.Tryz.func180 (congrArg some (by kernel_rfl)),
    f284:=Eq.trans Go.Proofs.Tryz.func181 (congrArg some (by kernel_rfl)),
    f285:=Eq.trans Go.Proofs.Tryz.func182 (congrArg some (by kernel_rfl)),
    f286:=Eq.trans Go.Proofs.Tryz.func183 (congrArg some (by kernel_rfl)),
    f317:=Eq.trans Go.Proofs.Tryz.func185 (congrArg some (by kernel_rfl)),
    f318:=Eq.trans Go.Proofs.Tryz.func187 (congrArg some (by kernel_rfl)),
    f319:=Eq.trans Go.Proofs.Tryz.func188 (congrArg some (by kernel_rfl)),
    f320:=Eq.trans Go.Proofs.Tryz.func189 (congrArg some (by kernel_rfl)),
    f337:=Eq.trans Go.Proofs.Tryz.func190 (congrArg some (by kernel_rfl)),
    f338:=Eq.trans Go.Proofs.Tryz.func191 (congrArg some (by kernel_rfl)),
    t0:=Go.Proofs.Tryz.underlying0,
    a0:=Go.Proofs.Tryz.isAgg0,
    z0:=Go.Proofs.Tryz.sizeOf0,
    v0:=Go.Proofs.Tryz.zeroValue0,
    t2:=Go.Proofs.Tryz.underlying2,
    a2:=Go.Proofs.Tryz.isAgg2,
    z2:=Go.Proofs.Tryz.sizeOf2,
    v2:=Go.Proofs.Tryz.zeroValue2,
    t3:=Go.Proofs.Tryz.underlying3,
    a3:=Go.Proofs.Tryz.isAgg3,
    z3:=Go.Proofs.Tryz.sizeOf3,
    v3:=Go.Proofs.Tryz.zeroValue3,
    t4:=Go.Proofs.Tryz.underlying4,
    a4:=Go.Proofs.Tryz.isAgg4,
    z4:=Go.Proofs.Tryz.sizeOf4,
    v4:=Go.Proofs.Tryz.zeroValue4,
    t5:=Go.Proofs.Tryz.underlying5,
    a5:=Go.Proofs.Tryz.isAgg5,
    z5:=Go.Proofs.Tryz.sizeOf5,
    v5:=Go.Proofs.Tryz.zeroValue5,
    t9:=Go.Proofs.Tryz.underlying9,
    a9:=Go.Proofs.Tryz.isAgg9,
    z9:=Go.Proofs.Tryz.sizeOf9,
    v9:=Go.Proofs.Tryz.zeroValue9,
    t20:=Go.Proofs.Tryz.underlying20,
    a20:=Go.Proofs.Tryz.isAgg20,
    z20:=Go.Proofs.Tryz.sizeOf20,
    v20:=Go.Proofs.Tryz.zeroValue20,
    t37:=Go.Proofs.Tryz.underlying47,
    a37:=Go.Proofs.Tryz.isAgg47,
    z37:=Go.Proofs.Tryz.sizeOf47,
    v37:=Go.Proofs.Tryz.zeroValue47,
    t46:=Go.Proofs.Tryz.underlying194,
    a46:=Go.Proofs.Tryz.isAgg194,
    z46:=Go.Proofs.Tryz.sizeOf194,
    v46:=Go.Proofs.Tryz.zeroValue194,
    t51:=Go.Proofs.Tryz.underlying206,
    a51:=Go.Proofs.Tryz.isAgg206,
    z51:=Go.Proofs.Tryz.sizeOf206,
    v51:=Go.Proofs.Tryz.zeroValue206,
    t53:=Go.Proofs.Tryz.underlying209,
    a53:=Go.Proofs.Tryz.isAgg209,
    z53:=Go.Proofs.Tryz.sizeOf209,
    v53:=Go.Proofs.Tryz.zeroValue209,
    t171:=Go.Proofs.Tryz.underlying214,
    a171:=Go.Proofs.Tryz.isAgg214,
    z171:=Go.Proofs.Tryz.sizeOf214,
    v171:=Go.Proofs.Tryz.zeroValue214,
    t173:=Go.Proofs.Tryz.underlying217,
    a173:=Go.Proofs.Tryz.isAgg217,
    z173:=Go.Proofs.Tryz.sizeOf217,
    v173:=Go.Proofs.Tryz.zeroValue217,
    t212:=Go.Proofs.Tryz.underlying225,
    a212:=Go.Proofs.Tryz.isAgg225,
    z212:=Go.Proofs.Tryz.sizeOf225,
    v212:=Go.Proofs.Tryz.zeroValue225,
    t213:=Go.Proofs.Tryz.underlying226,
    a213:=Go.Proofs.Tryz.isAgg226,
    z213:=Go.Proofs.Tryz.sizeOf226,
    t232:=Go.Proofs.Tryz.underlying229,
    a232:=Go.Proofs.Tryz.isAgg229,
    z232:=Go.Proofs.Tryz.sizeOf229,
    v232:=Go.Proofs.Tryz.zeroValue229,
    t233:=Go.Proofs.Tryz.underlying230,
    a233:=Go.Proofs.Tryz.isAgg230,
    z233:=Go.Proofs.Tryz.sizeOf230,
    v233:=Go.Proofs.Tryz.zeroValue230,
    g17:=by kernel_rfl,
    g18:=by kernel_rfl,
    g19:=by kernel_rfl,
    i0:=by kernel_rfl,
    i2:=by kernel_rfl,
    i3:=by kernel_rfl,
    i4:=by kernel_rfl,
    i5:=by kernel_rfl,
    i9:=by kernel_rfl,
    i20:=by kernel_rfl,
    i37:=by kernel_rfl,
    i46:=by kernel_rfl,
    i51:=by kernel_rfl,
    i53:=by kernel_rfl,
    i171:=by kernel_rfl,
    i173:=by kernel_rfl,
    i212:=by kernel_rfl,
    i232:=by kernel_rfl,
    i233:=by kernel_rfl,
    m17:=by kernel_rfl,
    m18:=by kernel_rfl,
    m19:=by kernel_rfl }
instance LxT:LxP:=⟨True⟩
theorem digN_eq:∀ (f u:Nat),u < 10 ^ (f+1)→digN (f+1) u=Go.Lib.decDigits u:=by
  intro f
  induction f with
  | zero =>
    intro u h
    have h:u < 10:=by simpa using h
    rw [Go.Lib.decDigits,dif_pos h]
    unfold digN
    have:Nat.blt u 10=true:=by unfold Nat.blt;exact Nat.ble_eq_true_of_le h
    rw [this];rfl
  | succ f ih =>
    intro u h
    rw [Go.Lib.decDigits]
    unfold digN
    by_cases c:u < 10
    · rw [dif_pos c]
      have:Nat.blt u 10=true:=by unfold Nat.blt;exact Nat.ble_eq_true_of_le c
      rw [this];rfl
    · rw [dif_neg c]
      have:Nat.blt u 10=false:=by
        cases hb:Nat.blt u 10 with
        | false=>rfl
        | true=>exact absurd (blt_lt hb) c
      rw [this,cond_false,ih (u / 10) (by rw [Nat.pow_succ] at h;omega)]
theorem itoaS_eq (n:Int) (h0:-9223372036854775808≤n) (h1:n≤9223372036854775807):itoaS n=⟨(Go.Lib.itoa n).toArray⟩:=by
  unfold itoaS Go.Lib.itoa
  by_cases c:n < 0
  · rw [decide_eq_true c,if_pos c,cond_true,digN_eq 24 _ (by omega)]
  · rw [decide_eq_false c,if_neg c,cond_false,digN_eq 24 _ (by omega)]
abbrev powT:AbsR:=tabG Tryz.prog 3 "internal/strconv.uint64pow10" .u64 Go.Lib.pow10Tab
/-- A number's numeral: the text of the library, walked once for all. -/
theorem itoa_fn (n:Int) (h0:-9223372036854775808≤n) (h1:n≤9223372036854775807):Fn Tryz.prog 131 ⟨1,[.c (.i .i64 n)],[],[(0,.abs powT)],1,.c (.s (itoaS n)),[],[(0,.abs powT)]⟩:=by
  refine ⟨⟨Tryz.f131,Tryz.func131,rfl,rfl⟩,fun E F w hp=>?_⟩
  have hT:F 3∧Tryz.prog.globalNamed "internal/strconv.uint64pow10"=some 3∧Go.Lib.TabIs Tryz.prog w "internal/strconv.uint64pow10" .u64 Go.Lib.pow10Tab:=hp.M 0 (.abs powT) rfl
  refine (Any.strconv_Itoa itLays n h0 h1 w hT.2.2).mono ?_
  rintro e w' ⟨rfl,k,os,rfl⟩
  have hold:∀ b,b < w.heap.size→(Go.Sort.grow (w.drewN k) os).heap[b]? = w.heap[b]? := fun b hb=>Go.Sort.heap_grow_old (w.drewN k) os hb
  have hsz:w.heap.size≤(Go.Sort.grow (w.drewN k) os).heap.size:=by
    show w.heap.size≤(w.heap++os).size
    simp
  refine ⟨E,F,by rw [itoaS_eq n h0 h1];rfl,{
    env:=fun k hk=>⟨rfl,rfl⟩
    one:=hp.one
    V:=fun k f h=>(nomatch h)
    M:=fun k m h=>by
      rw [look_cons] at h
      split at h
      · cases h
        exact powT.mono (F:=F) (w:=w) ⟨fun _ h=>h,fun b hb=>hold b (hp.hF b hb)⟩ (fun b h=>h.elim) hT
      · cases h
    dis:=fun k k' m m' h h' hne=>by
      rw [look_cons] at h
      split at h
      · cases h;exact fun b hb=>hb.elim
      · cases h
    mF:=fun k m h b hb=>by
      rw [look_cons] at h
      split at h
      · cases h;exact hb.elim
      · cases h
    fresh:=fun k m h hf b hb=>by
      rw [look_cons] at h
      split at h
      · cases h;exact hb.elim
      · cases h
    F0:=fun _ h=>h
    F1:=fun _ h=>.inl h
    Fs:=fun b h=>Nat.lt_of_lt_of_le (hp.hF b h) (hsz)
    ext:=⟨rfl,rfl,⟨rfl,.inl trivial⟩,hsz,fun b hb=>hold b hb.1⟩ }⟩
end Gx
end
section
open Go Go.Kx Go.Proofs
namespace Gx
set_option maxRecDepth 20000
def jnRen:Go.Shelf.Ren:=⟨fun x=>match x with
  | 156=>80
  | 165=>130
  | 166=>128
  | 169=>83
  | 240=>149
  | 241=>160
  | 276=>170
  | 277=>175
  | n=>n,fun x=>match x with
  | 31=>48
  | 9=>9
  | 3=>3
  | 4=>4
  | 0=>0
  | 20=>20
  | 72=>135
  | 76=>175
  | 70=>133
  | 37=>47
  | 75=>161
  | 127=>181
  | 164=>202
  | 5=>5
  | 80=>110
  | n=>n,fun x=>x⟩
theorem jnLays:Go.Proofs.Lays.n156 Go.Proofs.Tryz.prog jnRen :=
  { mixed:=by kernel_rfl,
    f156:=Eq.trans Go.Proofs.Tryz.func80 (congrArg some (by kernel_rfl)),
    f165:=Eq.trans Go.Proofs.Tryz.func130 (congrArg some (by kernel_rfl)),
    f166:=Eq.trans Go.Proofs.Tryz.func128 (congrArg some (by kernel_rfl)),
    f169:=Eq.trans Go.Proofs.Tryz.func83 (congrArg some (by kernel_rfl)),
    f240:=Eq.trans Go.Proofs.Tryz.func149 (congrArg some (by kernel_rfl)),
    f241:=Eq.trans Go.Proofs.Tryz.func160 (congrArg some (by kernel_rfl)),
    f276:=Eq.trans Go.Proofs.Tryz.func170 (congrArg some (by kernel_rfl)),
    f277:=Eq.trans Go.Proofs.Tryz.func175 (congrArg some (by kernel_rfl)),
    t0:=Go.Proofs.Tryz.underlying0,
    a0:=Go.Proofs.Tryz.isAgg0,
    z0:=Go.Proofs.Tryz.sizeOf0,
    v0:=Go.Proofs.Tryz.zeroValue0,
    t3:=Go.Proofs.Tryz.underlying3,
    a3:=Go.Proofs.Tryz.isAgg3,
    z3:=Go.Proofs.Tryz.sizeOf3,
    v3:=Go.Proofs.Tryz.zeroValue3,
    t4:=Go.Proofs.Tryz.underlying4,
    a4:=Go.Proofs.Tryz.isAgg4,
    z4:=Go.Proofs.Tryz.sizeOf4,
    v4:=Go.Proofs.Tryz.zeroValue4,
    t9:=Go.Proofs.Tryz.underlying9,
    a9:=Go.Proofs.Tryz.isAgg9,
    z9:=Go.Proofs.Tryz.sizeOf9,
    v9:=Go.Proofs.Tryz.zeroValue9,
    t20:=Go.Proofs.Tryz.underlying20,
    a20:=Go.Proofs.Tryz.isAgg20,
    z20:=Go.Proofs.Tryz.sizeOf20,
    v20:=Go.Proofs.Tryz.zeroValue20,
    t31:=Go.Proofs.Tryz.underlying48,
    a31:=Go.Proofs.Tryz.isAgg48,
    z31:=Go.Proofs.Tryz.sizeOf48,
    v31:=Go.Proofs.Tryz.zeroValue48,
    t37:=Go.Proofs.Tryz.underlying47,
    a37:=Go.Proofs.Tryz.isAgg47,
    z37:=Go.Proofs.Tryz.sizeOf47,
    v37:=Go.Proofs.Tryz.zeroValue47,
    t70:=Go.Proofs.Tryz.underlying133,
    a70:=Go.Proofs.Tryz.isAgg133,
    z70:=Go.Proofs.Tryz.sizeOf133,
    v70:=Go.Proofs.Tryz.zeroValue133,
    t72:=Go.Proofs.Tryz.underlying135,
    a72:=Go.Proofs.Tryz.isAgg135,
    z72:=Go.Proofs.Tryz.sizeOf135,
    v72:=Go.Proofs.Tryz.zeroValue135,
    t75:=Go.Proofs.Tryz.underlying161,
    a75:=Go.Proofs.Tryz.isAgg161,
    z75:=Go.Proofs.Tryz.sizeOf161,
    v75:=Go.Proofs.Tryz.zeroValue161,
    t76:=Go.Proofs.Tryz.underlying175,
    a76:=Go.Proofs.Tryz.isAgg175,
    z76:=Go.Proofs.Tryz.sizeOf175,
    v76:=Go.Proofs.Tryz.zeroValue175,
    t127:=Go.Proofs.Tryz.underlying181,
    a127:=Go.Proofs.Tryz.isAgg181,
    z127:=Go.Proofs.Tryz.sizeOf181,
    v127:=Go.Proofs.Tryz.zeroValue181,
    t164:=Go.Proofs.Tryz.underlying202,
    a164:=Go.Proofs.Tryz.isAgg202,
    z164:=Go.Proofs.Tryz.sizeOf202,
    v164:=Go.Proofs.Tryz.zeroValue202 }
theorem jnExtra:Builder.Extra Tryz.prog jnRen where
  sizeBuilder:=by kernel_rfl
  liesBuilder:=by kernel_rfl
  t5:=Tryz.underlying5
  a5:=Tryz.isAgg5
  z5:=Tryz.sizeOf5
  v5:=Tryz.zeroValue5
  infoByte:=by kernel_rfl
  cellsByte:=by kernel_rfl
  sizeByte:=by kernel_rfl
  neB5:=by decide
theorem joinL_eq (sep:List UInt8):∀ xs:List (List UInt8),joinL sep xs=Go.Lib.join xs sep
  | []=>rfl
  | x::r=>(Go.Lib.join_cons x r sep).symm
/-- Texts, one behind the other: the text of the library, walked once for all. -/
theorem join_fn (xs:List ByteArray) (sep:ByteArray) (hN:xs.length≤140737488355328) (hlen:(joinL sep.data.toList (xs.map (·.data.toList))).length≤140737488355328) :
    Fn Tryz.prog 80 ⟨1,[.c (.sl 0),.c (.s sep)],[(0,.sl rS xs)],[],1,.c (.s ⟨(joinL sep.data.toList (xs.map (·.data.toList))).toArray⟩),[],[]⟩:=by
  refine ⟨⟨Tryz.f80,Tryz.func80,rfl,rfl⟩,fun E F w hp=>?_⟩
  have hV:=hp.V 0 (.sl rS xs) rfl
  have key:Calls Tryz.prog 80 #[E.ρ 0,.string sep] w fun e w'=>e=.returned (.string ⟨(joinL sep.data.toList (xs.map (·.data.toList))).toArray⟩)∧Go.RowKit.Below w.heap.size w w':=by
    rw [joinL_eq] at hlen ⊢
    rcases hV with ⟨rfl,a,c,hv⟩ | ⟨b,off,cap,arr,el,fz,hv,hc,hF,hh,hr⟩
    · rw [hv]
      refine (Any.strings_Join_none jnLays jnExtra a c sep w).mono ?_
      rintro e w' ⟨rfl,rfl⟩
      exact ⟨rfl,Go.RowKit.Below.refl _ _⟩
    · rw [hv]
      refine Any.strings_Join jnLays jnExtra b off cap xs sep w (fun j x hx=>?_) (hp.hF b hF) hN hc hlen
      obtain ⟨vs,hvs,hrow⟩:=hr j x hx
      have hvs:vs=[.string x]:=hvs
      subst hvs
      have:=hrow 0 (.string x) rfl
      unfold World.cell?
      rw [hh]
      simpa [rS] using this
  refine key.mono ?_
  rintro e w' ⟨rfl,hb⟩
  exact ⟨E,F,rfl,{
    env:=fun k hk=>⟨rfl,rfl⟩
    one:=hp.one
    V:=fun k f h=>(nomatch h)
    M:=fun k m h=>(nomatch h)
    dis:=fun k k' m m' h=>(nomatch h)
    mF:=fun k m h=>(nomatch h)
    fresh:=fun k m h=>(nomatch h)
    F0:=fun _ h=>h
    F1:=fun _ h=>.inl h
    Fs:=fun b h=>Nat.lt_of_lt_of_le (hp.hF b h) hb.size
    ext:=⟨hb.os,hb.tape,⟨hb.output,.inl trivial⟩,hb.size,fun b hz=>hb.block b hz.1⟩ }⟩
end Gx
end
section
open Go Go.Kx Go.Proofs
namespace Gx
set_option maxRecDepth 20000
def rpRen:Go.Shelf.Ren:=⟨fun x=>match x with
  | 105=>129
  | 212=>158
  | 99=>99
  | 165=>130
  | 166=>128
  | 170=>159
  | 169=>83
  | 263=>173
  | 264=>174
  | 206=>147
  | 240=>149
  | 241=>160
  | 276=>170
  | 277=>175
  | n=>n,fun x=>match x with
  | 9=>9
  | 3=>3
  | 4=>4
  | 20=>20
  | 0=>0
  | 46=>194
  | 109=>195
  | 5=>5
  | 72=>135
  | 76=>175
  | 51=>206
  | 146=>207
  | 53=>209
  | 148=>210
  | 70=>133
  | 37=>47
  | 75=>161
  | 127=>181
  | 164=>202
  | 80=>110
  | n=>n,fun x=>x⟩
theorem rpLays:Go.Proofs.Lays.n105 Go.Proofs.Tryz.prog rpRen :=
  { mixed:=by kernel_rfl,
    f99:=Eq.trans Go.Proofs.Tryz.func99 (congrArg some (by kernel_rfl)),
    f105:=Eq.trans Go.Proofs.Tryz.func129 (congrArg some (by kernel_rfl)),
    f165:=Eq.trans Go.Proofs.Tryz.func130 (congrArg some (by kernel_rfl)),
    f166:=Eq.trans Go.Proofs.Tryz.func128 (congrArg some (by kernel_rfl)),
    f169:=Eq.trans Go.Proofs.Tryz.func83 (congrArg some (by kernel_rfl)),
    f170:=Eq.trans Go.Proofs.Tryz.func159 (congrArg some (by kernel_rfl)),
    f206:=Eq.trans Go.Proofs.Tryz.func147 (congrArg some (by kernel_rfl)),
    f212:=Eq.trans Go.Proofs.Tryz.func158 (congrArg some (by kernel_rfl)),
    f240:=Eq.trans Go.Proofs.Tryz.func149 (congrArg some (by kernel_rfl)),
    f241:=Eq.trans Go.Proofs.Tryz.func160 (congrArg some (by kernel_rfl)),
    f263:=Eq.trans Go.Proofs.Tryz.func173 (congrArg some (by kernel_rfl)),
    f264:=Eq.trans Go.Proofs.Tryz.func174 (congrArg some (by kernel_rfl)),
    f276:=Eq.trans Go.Proofs.Tryz.func170 (congrArg some (by kernel_rfl)),
    f277:=Eq.trans Go.Proofs.Tryz.func175 (congrArg some (by kernel_rfl)),
    t0:=Go.Proofs.Tryz.underlying0,
    a0:=Go.Proofs.Tryz.isAgg0,
    z0:=Go.Proofs.Tryz.sizeOf0,
    v0:=Go.Proofs.Tryz.zeroValue0,
    t3:=Go.Proofs.Tryz.underlying3,
    a3:=Go.Proofs.Tryz.isAgg3,
    z3:=Go.Proofs.Tryz.sizeOf3,
    v3:=Go.Proofs.Tryz.zeroValue3,
    t4:=Go.Proofs.Tryz.underlying4,
    a4:=Go.Proofs.Tryz.isAgg4,
    z4:=Go.Proofs.Tryz.sizeOf4,
    v4:=Go.Proofs.Tryz.zeroValue4,
    t5:=Go.Proofs.Tryz.underlying5,
    a5:=Go.Proofs.Tryz.isAgg5,
    z5:=Go.Proofs.Tryz.sizeOf5,
    v5:=Go.Proofs.Tryz.zeroValue5,
    t9:=Go.Proofs.Tryz.underlying9,
    a9:=Go.Proofs.Tryz.isAgg9,
    z9:=Go.Proofs.Tryz.sizeOf9,
    v9:=Go.Proofs.Tryz.zeroValue9,
    t20:=Go.Proofs.Tryz.underlying20,
    a20:=Go.Proofs.Tryz.isAgg20,
    z20:=Go.Proofs.Tryz.sizeOf20,
    v20:=Go.Proofs.Tryz.zeroValue20,
    t37:=Go.Proofs.Tryz.underlying47,
    a37:=Go.Proofs.Tryz.isAgg47,
    z37:=Go.Proofs.Tryz.sizeOf47,
    v37:=Go.Proofs.Tryz.zeroValue47,
    t46:=Go.Proofs.Tryz.underlying194,
    a46:=Go.Proofs.Tryz.isAgg194,
    z46:=Go.Proofs.Tryz.sizeOf194,
    v46:=Go.Proofs.Tryz.zeroValue194,
    t51:=Go.Proofs.Tryz.underlying206,
    a51:=Go.Proofs.Tryz.isAgg206,
    z51:=Go.Proofs.Tryz.sizeOf206,
    v51:=Go.Proofs.Tryz.zeroValue206,
    t53:=Go.Proofs.Tryz.underlying209,
    a53:=Go.Proofs.Tryz.isAgg209,
    z53:=Go.Proofs.Tryz.sizeOf209,
    v53:=Go.Proofs.Tryz.zeroValue209,
    t70:=Go.Proofs.Tryz.underlying133,
    a70:=Go.Proofs.Tryz.isAgg133,
    z70:=Go.Proofs.Tryz.sizeOf133,
    v70:=Go.Proofs.Tryz.zeroValue133,
    t72:=Go.Proofs.Tryz.underlying135,
    a72:=Go.Proofs.Tryz.isAgg135,
    z72:=Go.Proofs.Tryz.sizeOf135,
    v72:=Go.Proofs.Tryz.zeroValue135,
    t75:=Go.Proofs.Tryz.underlying161,
    a75:=Go.Proofs.Tryz.isAgg161,
    z75:=Go.Proofs.Tryz.sizeOf161,
    v75:=Go.Proofs.Tryz.zeroValue161,
    t76:=Go.Proofs.Tryz.underlying175,
    a76:=Go.Proofs.Tryz.isAgg175,
    z76:=Go.Proofs.Tryz.sizeOf175,
    v76:=Go.Proofs.Tryz.zeroValue175,
    t109:=Go.Proofs.Tryz.underlying195,
    a109:=Go.Proofs.Tryz.isAgg195,
    z109:=Go.Proofs.Tryz.sizeOf195,
    v109:=Go.Proofs.Tryz.zeroValue195,
    t127:=Go.Proofs.Tryz.underlying181,
    a127:=Go.Proofs.Tryz.isAgg181,
    z127:=Go.Proofs.Tryz.sizeOf181,
    v127:=Go.Proofs.Tryz.zeroValue181,
    t146:=Go.Proofs.Tryz.underlying207,
    a146:=Go.Proofs.Tryz.isAgg207,
    z146:=Go.Proofs.Tryz.sizeOf207,
    v146:=Go.Proofs.Tryz.zeroValue207,
    t148:=Go.Proofs.Tryz.underlying210,
    a148:=Go.Proofs.Tryz.isAgg210,
    z148:=Go.Proofs.Tryz.sizeOf210,
    v148:=Go.Proofs.Tryz.zeroValue210,
    t164:=Go.Proofs.Tryz.underlying202,
    a164:=Go.Proofs.Tryz.isAgg202,
    z164:=Go.Proofs.Tryz.sizeOf202,
    v164:=Go.Proofs.Tryz.zeroValue202 }
theorem rpExtra:Builder.Extra Tryz.prog rpRen where
  sizeBuilder:=by kernel_rfl
  liesBuilder:=by kernel_rfl
  t5:=rpLays.t5
  a5:=rpLays.a5
  z5:=rpLays.z5
  v5:=rpLays.v5
  infoByte:=by kernel_rfl
  cellsByte:=by kernel_rfl
  sizeByte:=by kernel_rfl
  neB5:=by decide
/-- So many copies of a text: the text of the library, walked once for all. -/
theorem repeat_fn (s:ByteArray) (c:Nat) (hc:c≤9223372036854775807) (hlen:s.size * c≤140737488355328):Fn Tryz.prog 129 ⟨0,[.c (.s s),.c (.i .i64 (c:Int))],[],[],0,.c (.s ⟨(Go.Lib.repeatL s.data.toList c).toArray⟩),[],[]⟩:=by
  refine ⟨⟨Tryz.f129,Tryz.func129,rfl,rfl⟩,fun E F w hp=>?_⟩
  refine (Any.strings_Repeat rpLays rpExtra s c w hc hlen).mono ?_
  rintro e w' ⟨rfl,hb⟩
  exact ⟨E,F,rfl,{
    env:=fun k hk=>absurd hk (Nat.not_lt_zero k)
    one:=hp.one
    V:=fun k f h=>(nomatch h)
    M:=fun k m h=>(nomatch h)
    dis:=fun k k' m m' h=>(nomatch h)
    mF:=fun k m h=>(nomatch h)
    fresh:=fun k m h=>(nomatch h)
    F0:=fun _ h=>h
    F1:=fun _ h=>.inl h
    Fs:=fun b h=>Nat.lt_of_lt_of_le (hp.hF b h) hb.size
    ext:=⟨hb.os,hb.tape,⟨hb.output,.inl trivial⟩,hb.size,fun b hz=>hb.block b hz.1⟩ }⟩
end Gx
end
