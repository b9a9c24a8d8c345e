/- Functions of the library, by the contracts that are proved once for all programs. -/
import Derived.Shelf.Strconv.Itoa3
import Derived.Shelf.Strings.OnBuilder
import Derived.Shelf.Sort.Plain
import Derived.Shelf.Slices.In.SortNone
import Derived.Shelf.Slices.CompactS
import Derived.Shelf.Strings.Repeat
import Derived.Test.YtploppegiebboaaGreatDoorProg
import Derived.Test.YtploppegiebboaaGreatDoorFlowFormPure
set_option linter.all false
theorem eT {α:Type _} {x:Option α} {a b:α} (h:x=some a) (k:a=b:=by kernel_rfl):x=some b:=h.trans (congrArg some k)
open Go.Proofs.Tryz renaming prog→aB,underlying0→cW,underlying3→cX,underlying4→cY,underlying9→cZ,zeroValue0→cb,zeroValue3→cf,zeroValue4→cg,zeroValue9→cj,sizeOf0→cz,sizeOf3→dB,sizeOf4→dC,sizeOf9→dD,isAgg0→dJ,isAgg3→dK,isAgg4→dN,isAgg9→dO,underlying262→de,underlying284→df,underlying286→dh,prog→dj,zeroValue262→dq,zeroValue284→dt,zeroValue286→du,underlying5→eA,zeroValue5→eF,sizeOf262→eJ,sizeOf284→eL,sizeOf286→eM,isAgg262→eQ,isAgg284→eR,isAgg286→eS,sizeOf5→eg,isAgg5→ew,underlying20→e9,underlying43→fB,underlying22→fC,zeroValue20→fG,zeroValue43→fH,zeroValue22→fI,sizeOf20→fX,sizeOf43→fY,sizeOf22→fZ,func190→ft,isAgg20→fu,isAgg43→fv,isAgg22→fw,underlying193→gS,underlying195→gT,underlying229→gU,underlying230→gW,underlying259→gX,underlying293→gY,underlying277→gZ,underlying278→ga,underlying308→gb,underlying121→gd,underlying322→gg,underlying323→gh,zeroValue193→gk,zeroValue195→gl,zeroValue229→gm,zeroValue230→gn,zeroValue259→gp,zeroValue293→gq,underlying48→gr,zeroValue277→gu,zeroValue278→gv,zeroValue308→gw,zeroValue121→gx,zeroValue322→gy,zeroValue323→gz,zeroValue48→iB,sizeOf193→iM,sizeOf195→iN,sizeOf229→iO,sizeOf230→iP,sizeOf259→iQ,sizeOf293→iR,sizeOf277→iS,sizeOf278→iT,sizeOf308→iU,sizeOf121→iV,sizeOf322→iW,sizeOf323→iX,isAgg193→ia,isAgg195→ib,isAgg229→ic,isAgg230→ig,isAgg259→ij,isAgg293→il,sizeOf48→im,isAgg277→iq,isAgg278→ir,isAgg308→iu,isAgg121→iv,isAgg322→iw,isAgg323→iz,func150→jS,func148→jT,func161→jU,func178→jV,func200→jX,func214→jY,func159→jZ,func189→ja,func217→jb,func218→jc,isAgg48→jd,func96→jh
open Nat renaming blt→aN,ble_eq_true_of_le→ai
open Eq renaming trans→aa
open Go.Sort renaming grow→cM,heap_grow_old→eE
open Go.Shelf renaming Ren→fq
open Go.Lib renaming decDigits→iZ
section
open Go Go.Kx Go.Proofs
namespace Gx
set_option maxRecDepth 20000
def Zqw:fq:=⟨fun x=>match x with | 171=>151 | 243=>179 | 246=>215 | 283=>232 | 284=>233 | 285=>234 | 286=>235 | 129=>190 | 317=>241 | 318=>242 | 319=>243 | 320=>244 | 337=>245 | 338=>246 | n=>n,fun x=>match x with | 3=>3 | 9=>9 | 2=>2 | 4=>4 | 171=>318 | 0=>0 | 53=>286 | 37=>43 | 5=>5 | 173=>320 | 212=>329 | 51=>284 | 20=>20 | 213=>330 | 46=>262 | 232=>335 | 233=>336 | n=>n,fun x=>match x with | 17=>1 | 18=>4 | 19=>5 | n=>n⟩
theorem Zqu:Go.Proofs.LaysM.n171 dj Zqw :=
  { mixed:=by kernel_rfl,
    f129:=eT ft,
    f171:=eT Tryz.func151,
    f243:=eT Tryz.func179,
    f246:=eT Tryz.func215,
    f283:=eT Tryz.func232,
    f284:=eT Tryz.func233,
    f285:=eT Tryz.func234,
    f286:=eT Tryz.func235,
    f317:=eT Tryz.func241,
    f318:=eT Tryz.func242,
    f319:=eT Tryz.func243,
    f320:=eT Tryz.func244,
    f337:=eT Tryz.func245,
    f338:=eT Tryz.func246,
    t0:=cW,
    a0:=dJ,
    z0:=cz,
    v0:=cb,
    t2:=Go.Proofs.Tryz.underlying2,
    a2:=Go.Proofs.Tryz.isAgg2,
    z2:=Go.Proofs.Tryz.sizeOf2,
    v2:=Go.Proofs.Tryz.zeroValue2,
    t3:=cX,
    a3:=dK,
    z3:=dB,
    v3:=cf,
    t4:=cY,
    a4:=dN,
    z4:=dC,
    v4:=cg,
    t5:=eA,
    a5:=ew,
    z5:=eg,
    v5:=eF,
    t9:=cZ,
    a9:=dO,
    z9:=dD,
    v9:=cj,
    t20:=e9,
    a20:=fu,
    z20:=fX,
    v20:=fG,
    t37:=fB,
    a37:=fv,
    z37:=fY,
    v37:=fH,
    t46:=de,
    a46:=eQ,
    z46:=eJ,
    v46:=dq,
    t51:=df,
    a51:=eR,
    z51:=eL,
    v51:=dt,
    t53:=dh,
    a53:=eS,
    z53:=eM,
    v53:=du,
    t171:=Go.Proofs.Tryz.underlying318,
    a171:=Go.Proofs.Tryz.isAgg318,
    z171:=Go.Proofs.Tryz.sizeOf318,
    v171:=Go.Proofs.Tryz.zeroValue318,
    t173:=Go.Proofs.Tryz.underlying320,
    a173:=Go.Proofs.Tryz.isAgg320,
    z173:=Go.Proofs.Tryz.sizeOf320,
    v173:=Go.Proofs.Tryz.zeroValue320,
    t212:=Go.Proofs.Tryz.underlying329,
    a212:=Go.Proofs.Tryz.isAgg329,
    z212:=Go.Proofs.Tryz.sizeOf329,
    v212:=Go.Proofs.Tryz.zeroValue329,
    t213:=Go.Proofs.Tryz.underlying330,
    a213:=Go.Proofs.Tryz.isAgg330,
    z213:=Go.Proofs.Tryz.sizeOf330,
    t232:=Go.Proofs.Tryz.underlying335,
    a232:=Go.Proofs.Tryz.isAgg335,
    z232:=Go.Proofs.Tryz.sizeOf335,
    v232:=Go.Proofs.Tryz.zeroValue335,
    t233:=Go.Proofs.Tryz.underlying336,
    a233:=Go.Proofs.Tryz.isAgg336,
    z233:=Go.Proofs.Tryz.sizeOf336,
    v233:=Go.Proofs.Tryz.zeroValue336,
    g17:=by kernel_rfl,
    g18:=by kernel_rfl,
    g19:=by kernel_rfl,
    i0:=by kernel_rfl,
    i2:=by kernel_rfl,
    i3:=by kernel_rfl,
    i4:=by kernel_rfl,
    i5:=by kernel_rfl,
    i9:=by kernel_rfl,
    i20:=by kernel_rfl,
    i37:=by kernel_rfl,
    i46:=by kernel_rfl,
    i51:=by kernel_rfl,
    i53:=by kernel_rfl,
    i171:=by kernel_rfl,
    i173:=by kernel_rfl,
    i212:=by kernel_rfl,
    i232:=by kernel_rfl,
    i233:=by kernel_rfl,
    m17:=by kernel_rfl,
    m18:=by kernel_rfl,
    m19:=by kernel_rfl }
instance LxT:kg:=⟨True⟩
theorem ZiW:∀ (f u:Nat),u < 10 ^ (f+1)->SM (f+1) u=iZ u:=by
  intro f
  induction f with
  | zero =>
    intro u h
    have h:u < 10:=by simpa using h
    rw [iZ,dif_pos h]
    unfold SM
    have:aN u 10=true:=by unfold aN;exact ai h
    rw [this];rfl
  | succ f ih =>
    intro u h
    rw [iZ]
    unfold SM
    by_cases c:u < 10
    · rw [dif_pos c]
      have:aN u 10=true:=by unfold aN;exact ai c
      rw [this];rfl
    · rw [dif_neg c]
      have:aN u 10=false:=by
        cases hb:aN u 10 with
        | false=>rfl
        | true=>exact absurd (Y8 hb) c
      rw [this,cond_false,ih (u / 10) (by rw [Nat.pow_succ] at h;omega)]
theorem Zqz (n:Int) (h0:-9223372036854775808<=n) (h1:n<=9223372036854775807):RL n=⟨(Go.Lib.itoa n).toArray⟩:=by
  unfold RL Go.Lib.itoa
  by_cases c:n < 0
  · rw [decide_eq_true c,if_pos c,cond_true,ZiW 24 _ (by omega)]
  · rw [decide_eq_false c,if_neg c,cond_false,ZiW 24 _ (by omega)]
abbrev kh:Sx:=Zl5 aB 1 "internal/strconv.uint64pow10" .u64 Go.Lib.pow10Tab
/-- A number's numeral: the text of the library, walked once for all. -/
theorem ZqA (n:Int) (h0:-9223372036854775808<=n) (h1:n<=9223372036854775807):Fn aB 151 ⟨1,[.c (.i .i64 n)],[],[(0,.abs kh)],1,.c (.s (RL n)),[],[(0,.abs kh)]⟩:=by
  refine ⟨⟨Tryz.f151,Tryz.func151,rfl,rfl⟩,fun E F w hp=>?_⟩
  have hT:F 1/\aB.globalNamed "internal/strconv.uint64pow10"=some 1/\Go.Lib.TabIs aB w "internal/strconv.uint64pow10" .u64 Go.Lib.pow10Tab:=hp.M 0 (.abs kh) rfl
  refine (Any.strconv_Itoa Zqu n h0 h1 w hT.2.2).mono ?_
  rintro e w' ⟨rfl,k,os,rfl⟩
  have hold:∀ b,b < w.heap.size->(cM (w.drewN k) os).heap[b]? = w.heap[b]? := fun b hb=>eE (w.drewN k) os hb
  have hsz:w.heap.size<=(cM (w.drewN k) os).heap.size:=by
    show w.heap.size<=(w.heap++os).size
    simp
  refine ⟨E,F,by rw [Zqz n h0 h1];rfl,{
    env:=fun k hk=>⟨rfl,rfl⟩
    one:=hp.one
    V:=fun k f h=>(nomatch h)
    M:=fun k m h=>by
      rw [YF] at h
      split at h
      · cases h
        exact kh.mono (F:=F) (w:=w) ⟨fun _ h=>h,fun b hb=>hold b (hp.hF b hb)⟩ (fun b h=>h.elim) hT
      · cases h
    dis:=fun k k' m m' h h' hne=>by
      rw [YF] at h
      split at h
      · cases h;exact fun b hb=>hb.elim
      · cases h
    mF:=fun k m h b hb=>by
      rw [YF] at h
      split at h
      · cases h;exact hb.elim
      · cases h
    fresh:=fun k m h hf b hb=>by
      rw [YF] at h
      split at h
      · cases h;exact hb.elim
      · cases h
    F0:=fun _ h=>h
    F1:=fun _ h=>.inl h
    Fs:=fun b h=>Zh (hp.hF b h) (hsz)
    ext:=⟨rfl,rfl,⟨rfl,.inl trivial⟩,hsz,fun b hb=>hold b hb.1⟩ }⟩
end Gx
end
section
open Go Go.Kx Go.Proofs
namespace Gx
set_option maxRecDepth 20000
def ZjZ:fq:=⟨fun x=>match x with | 156=>93 | 165=>150 | 166=>148 | 169=>96 | 240=>161 | 241=>178 | 276=>200 | 277=>214 | n=>n,fun x=>match x with | 31=>22 | 9=>9 | 3=>3 | 4=>4 | 0=>0 | 20=>20 | 72=>195 | 76=>230 | 70=>193 | 37=>43 | 75=>229 | 127=>259 | 164=>293 | 5=>5 | 80=>114 | n=>n,fun x=>x⟩
theorem ZjY:Go.Proofs.Lays.n156 dj ZjZ :=
  { mixed:=by kernel_rfl,
    f156:=eT Tryz.func93,
    f165:=eT jS,
    f166:=eT jT,
    f169:=eT jh,
    f240:=eT jU,
    f241:=eT jV,
    f276:=eT jX,
    f277:=eT jY,
    t0:=cW,
    a0:=dJ,
    z0:=cz,
    v0:=cb,
    t3:=cX,
    a3:=dK,
    z3:=dB,
    v3:=cf,
    t4:=cY,
    a4:=dN,
    z4:=dC,
    v4:=cg,
    t9:=cZ,
    a9:=dO,
    z9:=dD,
    v9:=cj,
    t20:=e9,
    a20:=fu,
    z20:=fX,
    v20:=fG,
    t31:=fC,
    a31:=fw,
    z31:=fZ,
    v31:=fI,
    t37:=fB,
    a37:=fv,
    z37:=fY,
    v37:=fH,
    t70:=gS,
    a70:=ia,
    z70:=iM,
    v70:=gk,
    t72:=gT,
    a72:=ib,
    z72:=iN,
    v72:=gl,
    t75:=gU,
    a75:=ic,
    z75:=iO,
    v75:=gm,
    t76:=gW,
    a76:=ig,
    z76:=iP,
    v76:=gn,
    t127:=gX,
    a127:=ij,
    z127:=iQ,
    v127:=gp,
    t164:=gY,
    a164:=il,
    z164:=iR,
    v164:=gq }
theorem ZjX:Builder.Extra aB ZjZ where
  sizeBuilder:=by kernel_rfl
  liesBuilder:=by kernel_rfl
  t5:=Tryz.underlying5
  a5:=Tryz.isAgg5
  z5:=Tryz.sizeOf5
  v5:=Tryz.zeroValue5
  infoByte:=by kernel_rfl
  cellsByte:=by kernel_rfl
  sizeByte:=by kernel_rfl
  neB5:=by decide
theorem ZqQ (sep:List UInt8):∀ xs:List (List UInt8),Vp sep xs=Go.Lib.join xs sep
  | []=>rfl
  | x::r=>(Go.Lib.join_cons x r sep).symm
/-- Texts, one behind the other: the text of the library, walked once for all. -/
theorem ZqR (xs:List ByteArray) (sep:ByteArray) (hN:xs.length<=140737488355328) (hlen:(Vp sep.data.toList (xs.map (·.data.toList))).length<=140737488355328) :
    Fn aB 93 ⟨1,[.c (.sl 0),.c (.s sep)],[(0,.sl rS xs)],[],1,.c (.s ⟨(Vp sep.data.toList (xs.map (·.data.toList))).toArray⟩),[],[]⟩:=by
  refine ⟨⟨Tryz.f93,Tryz.func93,rfl,rfl⟩,fun E F w hp=>?_⟩
  have hV:=hp.V 0 (.sl rS xs) rfl
  have key:Calls aB 93 #[E.ρ 0,.string sep] w fun e w'=>e=.returned (.string ⟨(Vp sep.data.toList (xs.map (·.data.toList))).toArray⟩)/\Go.RowKit.Below w.heap.size w w':=by
    rw [ZqQ] at hlen ⊢
    rcases hV with ⟨rfl,a,c,hv⟩ | ⟨b,off,cap,arr,el,fz,hv,hc,hF,hh,hr⟩
    · rw [hv]
      refine (Any.strings_Join_none ZjY ZjX a c sep w).mono ?_
      rintro e w' ⟨rfl,rfl⟩
      exact ⟨rfl,Go.RowKit.Below.refl _ _⟩
    · rw [hv]
      refine Any.strings_Join ZjY ZjX b off cap xs sep w (fun j x hx=>?_) (hp.hF b hF) hN hc hlen
      have ⟨vs,hvs,hrow⟩:=hr j x hx
      have hvs:vs=[.string x]:=hvs
      subst hvs
      have:=hrow 0 (.string x) rfl
      unfold World.cell?
      rw [hh]
      simpa [rS] using this
  refine key.mono ?_
  rintro e w' ⟨rfl,hb⟩
  exact ⟨E,F,rfl,{
    env:=fun k hk=>⟨rfl,rfl⟩
    one:=hp.one
    V:=fun k f h=>(nomatch h)
    M:=fun k m h=>(nomatch h)
    dis:=fun k k' m m' h=>(nomatch h)
    mF:=fun k m h=>(nomatch h)
    fresh:=fun k m h=>(nomatch h)
    F0:=fun _ h=>h
    F1:=fun _ h=>.inl h
    Fs:=fun b h=>Zh (hp.hF b h) hb.size
    ext:=⟨hb.os,hb.tape,⟨hb.output,.inl trivial⟩,hb.size,fun b hz=>hb.block b hz.1⟩ }⟩
end Gx
end
section
open Go Go.Kx Go.Proofs
namespace Gx
set_option maxRecDepth 20000
def Zt4:fq:=⟨fun x=>match x with | 190=>113 | 125=>159 | 258=>158 | 128=>189 | 129=>190 | 302=>180 | 303=>181 | 304=>182 | 305=>183 | 306=>184 | 307=>185 | 308=>186 | 309=>187 | 310=>188 | 333=>216 | 329=>217 | 330=>218 | 334=>219 | 335=>220 | 336=>221 | 344=>236 | n=>n,fun x=>match x with | 31=>22 | 9=>9 | 3=>3 | 46=>262 | 0=>0 | 51=>284 | 53=>286 | 4=>4 | 183=>278 | 182=>277 | 131=>48 | 5=>5 | 218=>308 | 222=>121 | 228=>322 | 229=>323 | n=>n,fun x=>x⟩
theorem ZlN:Go.Proofs.Lays.n190 dj Zt4 :=
  { mixed:=by kernel_rfl,
    f125:=eT jZ,
    f128:=eT ja,
    f129:=eT ft,
    f190:=eT Tryz.func113,
    f258:=eT Tryz.func158,
    f302:=eT Tryz.func180,
    f303:=eT Tryz.func181,
    f304:=eT Tryz.func182,
    f305:=eT Tryz.func183,
    f306:=eT Tryz.func184,
    f307:=eT Tryz.func185,
    f308:=eT Tryz.func186,
    f309:=eT Tryz.func187,
    f310:=eT Tryz.func188,
    f329:=eT jb,
    f330:=eT jc,
    f333:=eT Tryz.func216,
    f334:=eT Tryz.func219,
    f335:=eT Tryz.func220,
    f336:=eT Tryz.func221,
    f344:=eT Tryz.func236,
    t0:=cW,
    a0:=dJ,
    z0:=cz,
    v0:=cb,
    t3:=cX,
    a3:=dK,
    z3:=dB,
    v3:=cf,
    t4:=cY,
    a4:=dN,
    z4:=dC,
    v4:=cg,
    t5:=eA,
    a5:=ew,
    z5:=eg,
    v5:=eF,
    t9:=cZ,
    a9:=dO,
    z9:=dD,
    v9:=cj,
    t31:=fC,
    a31:=fw,
    z31:=fZ,
    v31:=fI,
    t46:=de,
    a46:=eQ,
    z46:=eJ,
    v46:=dq,
    t51:=df,
    a51:=eR,
    z51:=eL,
    v51:=dt,
    t53:=dh,
    a53:=eS,
    z53:=eM,
    v53:=du,
    t131:=gr,
    a131:=jd,
    z131:=im,
    v131:=iB,
    t182:=gZ,
    a182:=iq,
    z182:=iS,
    v182:=gu,
    t183:=ga,
    a183:=ir,
    z183:=iT,
    v183:=gv,
    t218:=gb,
    a218:=iu,
    z218:=iU,
    v218:=gw,
    t222:=gd,
    a222:=iv,
    z222:=iV,
    v222:=gx,
    t228:=gg,
    a228:=iw,
    z228:=iW,
    v228:=gy,
    t229:=gh,
    a229:=iz,
    z229:=iX,
    v229:=gz }
variable [kg]
theorem Zt6 (xs:List ByteArray) (hN:xs.length < 4611686018427387904):Fn aB 113 ⟨1,[.c (.sl 0)],[],[(0,.own rS xs false)],1,.t [],[],[(0,.own rS (S8 xs) false)]⟩:=by
  refine Zrz ⟨Tryz.f113,Tryz.func113,rfl,rfl⟩ (Zf8 xs) (fun b off cap w hH hb hc=>?_) (fun _ p cap w=>Any.slices_Sort_string_none ZlN p cap w)
  have:=Any.slices_Sort_string ZlN b off cap (XF xs) w hH hb (by simpa [XF] using hN)
  rw [<- Zmd] at this
  have e1:(XF xs).length=xs.length:=by simp [XF]
  rw [e1] at this
  exact this
end Gx
end
section
open Go Go.Kx Go.Proofs
namespace Gx
set_option maxRecDepth 20000
def ZtW:fq:=⟨fun x=>match x with | 189=>121 | 125=>159 | 257=>160 | 128=>189 | 129=>190 | 294=>191 | 295=>192 | 296=>193 | 297=>194 | 298=>195 | 299=>196 | 216=>197 | 300=>198 | 301=>199 | 328=>222 | 329=>217 | 330=>218 | 331=>223 | 332=>224 | 215=>225 | 343=>237 | n=>n,fun x=>match x with | 28=>42 | 3=>3 | 46=>262 | 0=>0 | 51=>284 | 53=>286 | 4=>4 | 183=>278 | 182=>277 | 131=>48 | 5=>5 | 9=>9 | 218=>308 | 222=>121 | 228=>322 | 229=>323 | n=>n,fun x=>x⟩
theorem ZlE:Go.Proofs.Lays.n189 dj ZtW :=
  { mixed:=by kernel_rfl,
    f125:=eT jZ,
    f128:=eT ja,
    f129:=eT ft,
    f189:=eT Tryz.func121,
    f215:=eT Tryz.func225,
    f216:=eT Tryz.func197,
    f257:=eT Tryz.func160,
    f294:=eT Tryz.func191,
    f295:=eT Tryz.func192,
    f296:=eT Tryz.func193,
    f297:=eT Tryz.func194,
    f298:=eT Tryz.func195,
    f299:=eT Tryz.func196,
    f300:=eT Tryz.func198,
    f301:=eT Tryz.func199,
    f328:=eT Tryz.func222,
    f329:=eT jb,
    f330:=eT jc,
    f331:=eT Tryz.func223,
    f332:=eT Tryz.func224,
    f343:=eT Tryz.func237,
    t0:=cW,
    a0:=dJ,
    z0:=cz,
    v0:=cb,
    t3:=cX,
    a3:=dK,
    z3:=dB,
    v3:=cf,
    t4:=cY,
    a4:=dN,
    z4:=dC,
    v4:=cg,
    t5:=eA,
    a5:=ew,
    z5:=eg,
    v5:=eF,
    t9:=cZ,
    a9:=dO,
    z9:=dD,
    v9:=cj,
    t28:=Go.Proofs.Tryz.underlying42,
    a28:=Go.Proofs.Tryz.isAgg42,
    z28:=Go.Proofs.Tryz.sizeOf42,
    v28:=Go.Proofs.Tryz.zeroValue42,
    t46:=de,
    a46:=eQ,
    z46:=eJ,
    v46:=dq,
    t51:=df,
    a51:=eR,
    z51:=eL,
    v51:=dt,
    t53:=dh,
    a53:=eS,
    z53:=eM,
    v53:=du,
    t131:=gr,
    a131:=jd,
    z131:=im,
    v131:=iB,
    t182:=gZ,
    a182:=iq,
    z182:=iS,
    v182:=gu,
    t183:=ga,
    a183:=ir,
    z183:=iT,
    v183:=gv,
    t218:=gb,
    a218:=iu,
    z218:=iU,
    v218:=gw,
    t222:=gd,
    a222:=iv,
    z222:=iV,
    v222:=gx,
    t228:=gg,
    a228:=iw,
    z228:=iW,
    v228:=gy,
    t229:=gh,
    a229:=iz,
    z229:=iX,
    v229:=gz }
variable [kg]
theorem Zt7 (xs:List Int) (hN:xs.length < 4611686018427387904):Fn aB 121 ⟨1,[.c (.sl 0)],[],[(0,.own (rI .i64) xs false)],1,.t [],[],[(0,.own (rI .i64) (R7 xs) false)]⟩:=by
  refine ZrA ⟨Tryz.f121,Tryz.func121,rfl,rfl⟩ (Zt5 xs) (fun b off cap w hH hb hc=>?_) (fun _ p cap w=>Any.slices_Sort_int_none ZlE p cap w)
  have:=Any.slices_Sort_int ZlE b off cap xs w hH hb hN
  rw [<- ZlO] at this
  exact this
end Gx
end
section
open Go Go.Kx Go.Proofs
namespace Gx
set_option maxRecDepth 20000
def ZoA:fq:=⟨fun x=>match x with | 194=>114 | n=>n,fun x=>match x with | 31=>22 | 9=>9 | 3=>3 | 4=>4 | 0=>0 | n=>n,fun x=>x⟩
theorem Zie:Go.Proofs.Lays.n194 dj ZoA :=
  { mixed:=by kernel_rfl,
    f194:=eT Tryz.func114,
    t0:=cW,
    a0:=dJ,
    z0:=cz,
    v0:=cb,
    t3:=cX,
    a3:=dK,
    z3:=dB,
    v3:=cf,
    t4:=cY,
    a4:=dN,
    z4:=dC,
    v4:=cg,
    t9:=cZ,
    a9:=dO,
    z9:=dD,
    v9:=cj,
    t31:=fC,
    a31:=fw,
    z31:=fZ,
    v31:=fI }
variable [kg]
theorem ZoB (xs:List ByteArray) (hN:xs.length<=9223372036854775807):Fn aB 114 ⟨1,[.c (.sl 0)],[],[(0,.own rS xs false)],2,.c (.sl 1),[],[(1,.own rS (TX xs) false),(0,.gone)]⟩:=by
  refine Zuq ⟨Tryz.f114,Tryz.func114,rfl,rfl⟩ (Zaw xs) (fun b off cap w hH hb hc=>?_) (fun _ p cap w=>Any.slices_Compact_string_empty Zie p cap w)
  have:=Any.slices_Compact_string Zie b off cap (XF xs) w hH (by simpa [XF] using hN) (by simpa [XF] using hc)
  rw [<- Zgf] at this
  have e1:(XF xs).length=xs.length:=by simp [XF]
  have e2:(XF (TX xs)).length=(TX xs).length:=by simp [XF]
  rw [e1,e2] at this
  refine this.mono ?_
  rintro e w' ⟨rfl,q,rfl⟩
  refine ⟨rfl,q,#[],_,(Go.Sort.grow_empty _).symm,?_,?_⟩
  · have:=Zaw xs
    simp only [List.length_append,List.length_replicate,e2];omega
  · intro i x hx
    have hi:i < (TX xs).length:=(List.getElem?_eq_some_iff.1 hx).1
    rw [Zo (by rw [e2];exact hi)]
    simp [XF,hx]
end Gx
end
section
open Go Go.Kx Go.Proofs
namespace Gx
set_option maxRecDepth 20000
def Zlk:fq:=⟨fun x=>match x with | 105=>149 | 212=>176 | 99=>72 | 165=>150 | 166=>148 | 170=>177 | 169=>96 | 263=>212 | 264=>213 | 206=>135 | 240=>161 | 241=>178 | 276=>200 | 277=>214 | n=>n,fun x=>match x with | 9=>9 | 3=>3 | 4=>4 | 20=>20 | 0=>0 | 46=>262 | 109=>274 | 5=>5 | 72=>195 | 76=>230 | 51=>284 | 146=>302 | 53=>286 | 148=>304 | 70=>193 | 37=>43 | 75=>229 | 127=>259 | 164=>293 | 80=>114 | n=>n,fun x=>x⟩
theorem rpLays:Go.Proofs.Lays.n105 dj Zlk :=
  { mixed:=by kernel_rfl,
    f99:=eT Tryz.func72,
    f105:=eT Tryz.func149,
    f165:=eT jS,
    f166:=eT jT,
    f169:=eT jh,
    f170:=eT Tryz.func177,
    f206:=eT Tryz.func135,
    f212:=eT Tryz.func176,
    f240:=eT jU,
    f241:=eT jV,
    f263:=eT Tryz.func212,
    f264:=eT Tryz.func213,
    f276:=eT jX,
    f277:=eT jY,
    t0:=cW,
    a0:=dJ,
    z0:=cz,
    v0:=cb,
    t3:=cX,
    a3:=dK,
    z3:=dB,
    v3:=cf,
    t4:=cY,
    a4:=dN,
    z4:=dC,
    v4:=cg,
    t5:=eA,
    a5:=ew,
    z5:=eg,
    v5:=eF,
    t9:=cZ,
    a9:=dO,
    z9:=dD,
    v9:=cj,
    t20:=e9,
    a20:=fu,
    z20:=fX,
    v20:=fG,
    t37:=fB,
    a37:=fv,
    z37:=fY,
    v37:=fH,
    t46:=de,
    a46:=eQ,
    z46:=eJ,
    v46:=dq,
    t51:=df,
    a51:=eR,
    z51:=eL,
    v51:=dt,
    t53:=dh,
    a53:=eS,
    z53:=eM,
    v53:=du,
    t70:=gS,
    a70:=ia,
    z70:=iM,
    v70:=gk,
    t72:=gT,
    a72:=ib,
    z72:=iN,
    v72:=gl,
    t75:=gU,
    a75:=ic,
    z75:=iO,
    v75:=gm,
    t76:=gW,
    a76:=ig,
    z76:=iP,
    v76:=gn,
    t109:=Go.Proofs.Tryz.underlying274,
    a109:=Go.Proofs.Tryz.isAgg274,
    z109:=Go.Proofs.Tryz.sizeOf274,
    v109:=Go.Proofs.Tryz.zeroValue274,
    t127:=gX,
    a127:=ij,
    z127:=iQ,
    v127:=gp,
    t146:=Go.Proofs.Tryz.underlying302,
    a146:=Go.Proofs.Tryz.isAgg302,
    z146:=Go.Proofs.Tryz.sizeOf302,
    v146:=Go.Proofs.Tryz.zeroValue302,
    t148:=Go.Proofs.Tryz.underlying304,
    a148:=Go.Proofs.Tryz.isAgg304,
    z148:=Go.Proofs.Tryz.sizeOf304,
    v148:=Go.Proofs.Tryz.zeroValue304,
    t164:=gY,
    a164:=il,
    z164:=iR,
    v164:=gq }
theorem ZtD:Builder.Extra aB Zlk where
  sizeBuilder:=by kernel_rfl
  liesBuilder:=by kernel_rfl
  t5:=rpLays.t5
  a5:=rpLays.a5
  z5:=rpLays.z5
  v5:=rpLays.v5
  infoByte:=by kernel_rfl
  cellsByte:=by kernel_rfl
  sizeByte:=by kernel_rfl
  neB5:=by decide
/-- So many copies of a text: the text of the library, walked once for all. -/
theorem Ztm (s:ByteArray) (c:Nat) (hc:c<=9223372036854775807) (hlen:s.size * c<=140737488355328):Fn aB 149 ⟨0,[.c (.s s),.c (.i .i64 (c:Int))],[],[],0,.c (.s ⟨(Go.Lib.repeatL s.data.toList c).toArray⟩),[],[]⟩:=by
  refine ⟨⟨Tryz.f149,Tryz.func149,rfl,rfl⟩,fun E F w hp=>?_⟩
  refine (Any.strings_Repeat rpLays ZtD s c w hc hlen).mono ?_
  rintro e w' ⟨rfl,hb⟩
  exact ⟨E,F,rfl,{
    env:=fun k hk=>absurd hk (Nat.not_lt_zero k)
    one:=hp.one
    V:=fun k f h=>(nomatch h)
    M:=fun k m h=>(nomatch h)
    dis:=fun k k' m m' h=>(nomatch h)
    mF:=fun k m h=>(nomatch h)
    fresh:=fun k m h=>(nomatch h)
    F0:=fun _ h=>h
    F1:=fun _ h=>.inl h
    Fs:=fun b h=>Zh (hp.hF b h) hb.size
    ext:=⟨hb.os,hb.tape,⟨hb.output,.inl trivial⟩,hb.size,fun b hz=>hb.block b hz.1⟩ }⟩
end Gx
end
