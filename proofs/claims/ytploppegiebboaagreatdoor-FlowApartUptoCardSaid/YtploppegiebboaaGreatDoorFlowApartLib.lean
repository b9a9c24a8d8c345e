/- Functions of the library, by the contracts that are proved once for all programs. -/
import Derived.Shelf.Strconv.Itoa3
import Derived.Shelf.Strings.OnBuilder
import Derived.Shelf.Sort.Plain
import Derived.Shelf.Slices.In.SortNone
import Derived.Shelf.Slices.CompactS
import Derived.Shelf.Strings.Repeat
import Derived.Test.YtploppegiebboaaGreatDoorProg
import Derived.Test.YtploppegiebboaaGreatDoorFlowApartPure
set_option linter.all false
theorem eT{α:Type _}{x:Option α}{a b:α}(h:x=some a)(k:a=b:=by kernel_rfl):x=some b:=h.trans (congrArg some k)
open Go.Proofs.Tryz renaming prog→aB,underlying0→cZ,underlying3→cf,underlying4→cg,underlying9→cj,zeroValue0→cn,zeroValue3→cq,zeroValue4→cr,zeroValue9→cu,sizeOf0→dJ,sizeOf3→dK,sizeOf4→dN,sizeOf9→dO,isAgg0→dS,isAgg3→dU,isAgg4→dW,isAgg9→dX,underlying262→dj,underlying284→dk,underlying286→dm,prog→dq,zeroValue262→dw,zeroValue284→dx,zeroValue286→dy,underlying5→eF,zeroValue5→eL,sizeOf262→eR,sizeOf284→eS,sizeOf286→eT,isAgg262→eX,isAgg284→eY,isAgg286→eZ,sizeOf5→ey,isAgg5→fD,underlying20→fG,underlying43→fH,underlying22→fI,zeroValue20→fM,zeroValue43→fN,zeroValue22→fO,sizeOf20→fi,sizeOf43→fj,sizeOf22→fk,func190→gA,isAgg20→gD,isAgg43→gF,isAgg22→gG,underlying193→gg,underlying195→gh,underlying229→gi,underlying230→gj,underlying259→gk,underlying293→gl,underlying277→gm,underlying278→gn,underlying308→gp,underlying121→gq,underlying322→gr,underlying323→gu,zeroValue193→gx,zeroValue195→gy,zeroValue229→gz,zeroValue230→hK,zeroValue259→hU,zeroValue293→hY,underlying48→iA,zeroValue277→iB,zeroValue278→iC,zeroValue308→iD,zeroValue121→iE,zeroValue322→iF,zeroValue323→iG,zeroValue48→iL,sizeOf193→iV,sizeOf195→iW,sizeOf229→iX,sizeOf230→iY,sizeOf259→iZ,sizeOf293→ia,sizeOf277→ib,sizeOf278→ic,sizeOf308→ig,sizeOf121→ij,sizeOf322→il,sizeOf323→im,isAgg193→iu,isAgg195→iv,isAgg229→iw,isAgg230→iz,isAgg259→jH,isAgg293→jI,sizeOf48→jJ,isAgg277→jK,isAgg278→jL,isAgg308→jO,isAgg121→jP,isAgg322→jQ,isAgg323→jR,func150→jc,func148→jd,func161→je,func178→jf,func200→jg,func214→jh,func159→ji,func189→jj,func217→jk,func218→jl,isAgg48→jm,func96→jr
open Nat renaming blt→aO,ble_eq_true_of_le→ai
open Eq renaming trans→aa
open Go.Sort renaming grow→cP,heap_grow_old→eJ
open Go.Shelf renaming Ren→fy
open Go.Lib renaming decDigits→ir
section
open Go Go.Kx Go.Proofs
namespace Gx
set_option maxRecDepth 20000
def ZqT:fy:=⟨fun x=>match x with|171=>151|243=>179|246=>215|283=>232|284=>233|285=>234|286=>235|129=>190|317=>241|318=>242|319=>243|320=>244|337=>245|338=>246|n=>n,fun x=>match x with|3=>3|9=>9|2=>2|4=>4|171=>318|0=>0|53=>286|37=>43|5=>5|173=>320|212=>329|51=>284|20=>20|213=>330|46=>262|232=>335|233=>336|n=>n,fun x=>match x with|17=>1|18=>4|19=>5|n=>n⟩
theorem ZqR:Go.Proofs.LaysM.n171 dq ZqT:=
  { mixed:=by kernel_rfl,
    f129:=eT gA,
    f171:=eT Tryz.func151,
    f243:=eT Tryz.func179,
    f246:=eT Tryz.func215,
    f283:=eT Tryz.func232,
    f284:=eT Tryz.func233,
    f285:=eT Tryz.func234,
    f286:=eT Tryz.func235,
    f317:=eT Tryz.func241,
    f318:=eT Tryz.func242,
    f319:=eT Tryz.func243,
    f320:=eT Tryz.func244,
    f337:=eT Tryz.func245,
    f338:=eT Tryz.func246,
    t0:=cZ,
    a0:=dS,
    z0:=dJ,
    v0:=cn,
    t2:=Go.Proofs.Tryz.underlying2,
    a2:=Go.Proofs.Tryz.isAgg2,
    z2:=Go.Proofs.Tryz.sizeOf2,
    v2:=Go.Proofs.Tryz.zeroValue2,
    t3:=cf,
    a3:=dU,
    z3:=dK,
    v3:=cq,
    t4:=cg,
    a4:=dW,
    z4:=dN,
    v4:=cr,
    t5:=eF,
    a5:=fD,
    z5:=ey,
    v5:=eL,
    t9:=cj,
    a9:=dX,
    z9:=dO,
    v9:=cu,
    t20:=fG,
    a20:=gD,
    z20:=fi,
    v20:=fM,
    t37:=fH,
    a37:=gF,
    z37:=fj,
    v37:=fN,
    t46:=dj,
    a46:=eX,
    z46:=eR,
    v46:=dw,
    t51:=dk,
    a51:=eY,
    z51:=eS,
    v51:=dx,
    t53:=dm,
    a53:=eZ,
    z53:=eT,
    v53:=dy,
    t171:=Go.Proofs.Tryz.underlying318,
    a171:=Go.Proofs.Tryz.isAgg318,
    z171:=Go.Proofs.Tryz.sizeOf318,
    v171:=Go.Proofs.Tryz.zeroValue318,
    t173:=Go.Proofs.Tryz.underlying320,
    a173:=Go.Proofs.Tryz.isAgg320,
    z173:=Go.Proofs.Tryz.sizeOf320,
    v173:=Go.Proofs.Tryz.zeroValue320,
    t212:=Go.Proofs.Tryz.underlying329,
    a212:=Go.Proofs.Tryz.isAgg329,
    z212:=Go.Proofs.Tryz.sizeOf329,
    v212:=Go.Proofs.Tryz.zeroValue329,
    t213:=Go.Proofs.Tryz.underlying330,
    a213:=Go.Proofs.Tryz.isAgg330,
    z213:=Go.Proofs.Tryz.sizeOf330,
    t232:=Go.Proofs.Tryz.underlying335,
    a232:=Go.Proofs.Tryz.isAgg335,
    z232:=Go.Proofs.Tryz.sizeOf335,
    v232:=Go.Proofs.Tryz.zeroValue335,
    t233:=Go.Proofs.Tryz.underlying336,
    a233:=Go.Proofs.Tryz.isAgg336,
    z233:=Go.Proofs.Tryz.sizeOf336,
    v233:=Go.Proofs.Tryz.zeroValue336,
    g17:=by kernel_rfl,
    g18:=by kernel_rfl,
    g19:=by kernel_rfl,
    i0:=by kernel_rfl,
    i2:=by kernel_rfl,
    i3:=by kernel_rfl,
    i4:=by kernel_rfl,
    i5:=by kernel_rfl,
    i9:=by kernel_rfl,
    i20:=by kernel_rfl,
    i37:=by kernel_rfl,
    i46:=by kernel_rfl,
    i51:=by kernel_rfl,
    i53:=by kernel_rfl,
    i171:=by kernel_rfl,
    i173:=by kernel_rfl,
    i212:=by kernel_rfl,
    i232:=by kernel_rfl,
    i233:=by kernel_rfl,
    m17:=by kernel_rfl,
    m18:=by kernel_rfl,
    m19:=by kernel_rfl }
instance LxT:kv:=⟨True⟩
theorem Zje:∀(f u:Nat),u<10 ^ (f+1)->SX (f+1) u=ir u:=by
  intro f
  induction f with
  |zero=>
    intro u h
    have h:u<10:=by simpa using h
    rw[ir,dif_pos h]
    unfold SX
    have:aO u 10=true:=by unfold aO;exact ai h
    rw[this];rfl
  |succ f ih=>
    intro u h
    rw[ir]
    unfold SX
    by_cases c:u<10
    · rw[dif_pos c]
      have:aO u 10=true:=by unfold aO;exact ai c
      rw[this];rfl
    · rw[dif_neg c]
      have:aO u 10=false:=by
        cases hb:aO u 10 with
        |false=>rfl
        |true=>exact absurd (Y9 hb) c
      rw[this,cond_false,ih (u/10) (by rw[Nat.pow_succ]at h;omega)]
theorem ZqW(n:Int)(h0:-9223372036854775808<=n)(h1:n<=9223372036854775807):RU n=⟨(Go.Lib.itoa n).toArray⟩:=by
  unfold RU Go.Lib.itoa
  by_cases c:n<0
  · rw[decide_eq_true c,if_pos c,cond_true,Zje 24 _ (by omega)]
  · rw[decide_eq_false c,if_neg c,cond_false,Zje 24 _ (by omega)]
abbrev kx:SH:=Zmu aB 1 "internal/strconv.uint64pow10" .u64 Go.Lib.pow10Tab
/-- A number's numeral: the text of the library, walked once for all. -/
theorem ZqX(n:Int)(h0:-9223372036854775808<=n)(h1:n<=9223372036854775807):Fn aB 151 ⟨1,[.c (.i .i64 n)],[],[(0,.abs kx)],1,.c (.s (RU n)),[],[(0,.abs kx)]⟩:=by
  refine⟨⟨Tryz.f151,Tryz.func151,rfl,rfl⟩,fun E F w hp=>?_⟩
  have hT:F 1/\aB.globalNamed "internal/strconv.uint64pow10"=some 1/\Go.Lib.TabIs aB w "internal/strconv.uint64pow10" .u64 Go.Lib.pow10Tab:=hp.M 0 (.abs kx) rfl
  refine (Any.strconv_Itoa ZqR n h0 h1 w hT.2.2).mono ?_
  rintro e w' ⟨rfl,k,os,rfl⟩
  have hold:∀b,b<w.heap.size->(cP (w.drewN k) os).heap[b]?=w.heap[b]?:= fun b hb=>eJ (w.drewN k) os hb
  have hsz:w.heap.size<=(cP (w.drewN k) os).heap.size:=by
    show w.heap.size<=(w.heap++os).size
    simp
  refine⟨E,F,by rw[ZqW n h0 h1];rfl,{
    env:=fun k hk=>⟨rfl,rfl⟩
    one:=hp.one
    V:=fun k f h=>(nomatch h)
    M:=fun k m h=>by
      rw[YF]at h
      split at h
      · cases h
        exact kx.mono (F:=F) (w:=w) ⟨fun _ h=>h,fun b hb=>hold b (hp.hF b hb)⟩ (fun b h=>h.elim) hT
      · cases h
    dis:=fun k k' m m' h h' hne=>by
      rw[YF]at h
      split at h
      · cases h;exact fun b hb=>hb.elim
      · cases h
    mF:=fun k m h b hb=>by
      rw[YF]at h
      split at h
      · cases h;exact hb.elim
      · cases h
    fresh:=fun k m h hf b hb=>by
      rw[YF]at h
      split at h
      · cases h;exact hb.elim
      · cases h
    F0:=fun _ h=>h
    F1:=fun _ h=>.inl h
    Fs:=fun b h=>Zh (hp.hF b h) (hsz)
    ext:=⟨rfl,rfl,⟨rfl,.inl trivial⟩,hsz,fun b hb=>hold b hb.1⟩ }⟩
end Gx
end
section
open Go Go.Kx Go.Proofs
namespace Gx
set_option maxRecDepth 20000
def Zkk:fy:=⟨fun x=>match x with|156=>93|165=>150|166=>148|169=>96|240=>161|241=>178|276=>200|277=>214|n=>n,fun x=>match x with|31=>22|9=>9|3=>3|4=>4|0=>0|20=>20|72=>195|76=>230|70=>193|37=>43|75=>229|127=>259|164=>293|5=>5|80=>114|n=>n,fun x=>x⟩
theorem Zkj:Go.Proofs.Lays.n156 dq Zkk:=
  { mixed:=by kernel_rfl,
    f156:=eT Tryz.func93,
    f165:=eT jc,
    f166:=eT jd,
    f169:=eT jr,
    f240:=eT je,
    f241:=eT jf,
    f276:=eT jg,
    f277:=eT jh,
    t0:=cZ,
    a0:=dS,
    z0:=dJ,
    v0:=cn,
    t3:=cf,
    a3:=dU,
    z3:=dK,
    v3:=cq,
    t4:=cg,
    a4:=dW,
    z4:=dN,
    v4:=cr,
    t9:=cj,
    a9:=dX,
    z9:=dO,
    v9:=cu,
    t20:=fG,
    a20:=gD,
    z20:=fi,
    v20:=fM,
    t31:=fI,
    a31:=gG,
    z31:=fk,
    v31:=fO,
    t37:=fH,
    a37:=gF,
    z37:=fj,
    v37:=fN,
    t70:=gg,
    a70:=iu,
    z70:=iV,
    v70:=gx,
    t72:=gh,
    a72:=iv,
    z72:=iW,
    v72:=gy,
    t75:=gi,
    a75:=iw,
    z75:=iX,
    v75:=gz,
    t76:=gj,
    a76:=iz,
    z76:=iY,
    v76:=hK,
    t127:=gk,
    a127:=jH,
    z127:=iZ,
    v127:=hU,
    t164:=gl,
    a164:=jI,
    z164:=ia,
    v164:=hY }
theorem Zki:Builder.Extra aB Zkk where
  sizeBuilder:=by kernel_rfl
  liesBuilder:=by kernel_rfl
  t5:=Tryz.underlying5
  a5:=Tryz.isAgg5
  z5:=Tryz.sizeOf5
  v5:=Tryz.zeroValue5
  infoByte:=by kernel_rfl
  cellsByte:=by kernel_rfl
  sizeByte:=by kernel_rfl
  neB5:=by decide
theorem Zrd(sep:List UInt8):∀xs:List (List UInt8),Vv sep xs=Go.Lib.join xs sep
  | []=>rfl
  |x::r=>(Go.Lib.join_cons x r sep).symm
/-- Texts, one behind the other: the text of the library, walked once for all. -/
theorem Zre(xs:List ByteArray)(sep:ByteArray)(hN:xs.length<=140737488355328)(hlen:(Vv sep.data.toList (xs.map (·.data.toList))).length<=140737488355328) :
    Fn aB 93 ⟨1,[.c (.sl 0),.c (.s sep)],[(0,.sl rS xs)],[],1,.c (.s ⟨(Vv sep.data.toList (xs.map (·.data.toList))).toArray⟩),[],[]⟩:=by
  refine⟨⟨Tryz.f93,Tryz.func93,rfl,rfl⟩,fun E F w hp=>?_⟩
  have hV:=hp.V 0 (.sl rS xs) rfl
  have key:Calls aB 93 #[E.ρ 0,.string sep] w fun e w'=>e=.returned (.string ⟨(Vv sep.data.toList (xs.map (·.data.toList))).toArray⟩)/\Go.RowKit.Below w.heap.size w w':=by
    rw[Zrd]at hlen ⊢
    rcases hV with⟨rfl,a,c,hv⟩|⟨b,off,cap,arr,el,fz,hv,hc,hF,hh,hr⟩
    · rw[hv]
      refine (Any.strings_Join_none Zkj Zki a c sep w).mono ?_
      rintro e w' ⟨rfl,rfl⟩
      exact⟨rfl,Go.RowKit.Below.refl _ _⟩
    · rw[hv]
      refine Any.strings_Join Zkj Zki b off cap xs sep w (fun j x hx=>?_) (hp.hF b hF) hN hc hlen
      have⟨vs,hvs,hrow⟩:=hr j x hx
      have hvs:vs=[.string x]:=hvs
      subst hvs
      have:=hrow 0 (.string x) rfl
      unfold World.cell?
      rw[hh]
      simpa[rS]using this
  refine key.mono ?_
  rintro e w' ⟨rfl,hb⟩
  exact⟨E,F,rfl,{
    env:=fun k hk=>⟨rfl,rfl⟩
    one:=hp.one
    V:=fun k f h=>(nomatch h)
    M:=fun k m h=>(nomatch h)
    dis:=fun k k' m m' h=>(nomatch h)
    mF:=fun k m h=>(nomatch h)
    fresh:=fun k m h=>(nomatch h)
    F0:=fun _ h=>h
    F1:=fun _ h=>.inl h
    Fs:=fun b h=>Zh (hp.hF b h) hb.size
    ext:=⟨hb.os,hb.tape,⟨hb.output,.inl trivial⟩,hb.size,fun b hz=>hb.block b hz.1⟩ }⟩
end Gx
end
section
open Go Go.Kx Go.Proofs
namespace Gx
set_option maxRecDepth 20000
def Zuq:fy:=⟨fun x=>match x with|190=>113|125=>159|258=>158|128=>189|129=>190|302=>180|303=>181|304=>182|305=>183|306=>184|307=>185|308=>186|309=>187|310=>188|333=>216|329=>217|330=>218|334=>219|335=>220|336=>221|344=>236|n=>n,fun x=>match x with|31=>22|9=>9|3=>3|46=>262|0=>0|51=>284|53=>286|4=>4|183=>278|182=>277|131=>48|5=>5|218=>308|222=>121|228=>322|229=>323|n=>n,fun x=>x⟩
theorem Zma:Go.Proofs.Lays.n190 dq Zuq:=
  { mixed:=by kernel_rfl,
    f125:=eT ji,
    f128:=eT jj,
    f129:=eT gA,
    f190:=eT Tryz.func113,
    f258:=eT Tryz.func158,
    f302:=eT Tryz.func180,
    f303:=eT Tryz.func181,
    f304:=eT Tryz.func182,
    f305:=eT Tryz.func183,
    f306:=eT Tryz.func184,
    f307:=eT Tryz.func185,
    f308:=eT Tryz.func186,
    f309:=eT Tryz.func187,
    f310:=eT Tryz.func188,
    f329:=eT jk,
    f330:=eT jl,
    f333:=eT Tryz.func216,
    f334:=eT Tryz.func219,
    f335:=eT Tryz.func220,
    f336:=eT Tryz.func221,
    f344:=eT Tryz.func236,
    t0:=cZ,
    a0:=dS,
    z0:=dJ,
    v0:=cn,
    t3:=cf,
    a3:=dU,
    z3:=dK,
    v3:=cq,
    t4:=cg,
    a4:=dW,
    z4:=dN,
    v4:=cr,
    t5:=eF,
    a5:=fD,
    z5:=ey,
    v5:=eL,
    t9:=cj,
    a9:=dX,
    z9:=dO,
    v9:=cu,
    t31:=fI,
    a31:=gG,
    z31:=fk,
    v31:=fO,
    t46:=dj,
    a46:=eX,
    z46:=eR,
    v46:=dw,
    t51:=dk,
    a51:=eY,
    z51:=eS,
    v51:=dx,
    t53:=dm,
    a53:=eZ,
    z53:=eT,
    v53:=dy,
    t131:=iA,
    a131:=jm,
    z131:=jJ,
    v131:=iL,
    t182:=gm,
    a182:=jK,
    z182:=ib,
    v182:=iB,
    t183:=gn,
    a183:=jL,
    z183:=ic,
    v183:=iC,
    t218:=gp,
    a218:=jO,
    z218:=ig,
    v218:=iD,
    t222:=gq,
    a222:=jP,
    z222:=ij,
    v222:=iE,
    t228:=gr,
    a228:=jQ,
    z228:=il,
    v228:=iF,
    t229:=gu,
    a229:=jR,
    z229:=im,
    v229:=iG }
variable [kv]
theorem Zus(xs:List ByteArray)(hN:xs.length<4611686018427387904):Fn aB 113 ⟨1,[.c (.sl 0)],[],[(0,.own rS xs false)],1,.t [],[],[(0,.own rS (Rj xs) false)]⟩:=by
  refine ZrY ⟨Tryz.f113,Tryz.func113,rfl,rfl⟩ (Zgr xs) (fun b off cap w hH hb hc=>?_) (fun _ p cap w=>Any.slices_Sort_string_none Zma p cap w)
  have:=Any.slices_Sort_string Zma b off cap (XG xs) w hH hb (by simpa[XG]using hN)
  rw[<-ZmC]at this
  have e1:(XG xs).length=xs.length:=by simp[XG]
  rw[e1]at this
  exact this
end Gx
end
section
open Go Go.Kx Go.Proofs
namespace Gx
set_option maxRecDepth 20000
def Zui:fy:=⟨fun x=>match x with|189=>121|125=>159|257=>160|128=>189|129=>190|294=>191|295=>192|296=>193|297=>194|298=>195|299=>196|216=>197|300=>198|301=>199|328=>222|329=>217|330=>218|331=>223|332=>224|215=>225|343=>237|n=>n,fun x=>match x with|28=>42|3=>3|46=>262|0=>0|51=>284|53=>286|4=>4|183=>278|182=>277|131=>48|5=>5|9=>9|218=>308|222=>121|228=>322|229=>323|n=>n,fun x=>x⟩
theorem Zl2:Go.Proofs.Lays.n189 dq Zui:=
  { mixed:=by kernel_rfl,
    f125:=eT ji,
    f128:=eT jj,
    f129:=eT gA,
    f189:=eT Tryz.func121,
    f215:=eT Tryz.func225,
    f216:=eT Tryz.func197,
    f257:=eT Tryz.func160,
    f294:=eT Tryz.func191,
    f295:=eT Tryz.func192,
    f296:=eT Tryz.func193,
    f297:=eT Tryz.func194,
    f298:=eT Tryz.func195,
    f299:=eT Tryz.func196,
    f300:=eT Tryz.func198,
    f301:=eT Tryz.func199,
    f328:=eT Tryz.func222,
    f329:=eT jk,
    f330:=eT jl,
    f331:=eT Tryz.func223,
    f332:=eT Tryz.func224,
    f343:=eT Tryz.func237,
    t0:=cZ,
    a0:=dS,
    z0:=dJ,
    v0:=cn,
    t3:=cf,
    a3:=dU,
    z3:=dK,
    v3:=cq,
    t4:=cg,
    a4:=dW,
    z4:=dN,
    v4:=cr,
    t5:=eF,
    a5:=fD,
    z5:=ey,
    v5:=eL,
    t9:=cj,
    a9:=dX,
    z9:=dO,
    v9:=cu,
    t28:=Go.Proofs.Tryz.underlying42,
    a28:=Go.Proofs.Tryz.isAgg42,
    z28:=Go.Proofs.Tryz.sizeOf42,
    v28:=Go.Proofs.Tryz.zeroValue42,
    t46:=dj,
    a46:=eX,
    z46:=eR,
    v46:=dw,
    t51:=dk,
    a51:=eY,
    z51:=eS,
    v51:=dx,
    t53:=dm,
    a53:=eZ,
    z53:=eT,
    v53:=dy,
    t131:=iA,
    a131:=jm,
    z131:=jJ,
    v131:=iL,
    t182:=gm,
    a182:=jK,
    z182:=ib,
    v182:=iB,
    t183:=gn,
    a183:=jL,
    z183:=ic,
    v183:=iC,
    t218:=gp,
    a218:=jO,
    z218:=ig,
    v218:=iD,
    t222:=gq,
    a222:=jP,
    z222:=ij,
    v222:=iE,
    t228:=gr,
    a228:=jQ,
    z228:=il,
    v228:=iF,
    t229:=gu,
    a229:=jR,
    z229:=im,
    v229:=iG }
variable [kv]
theorem Zut(xs:List Int)(hN:xs.length<4611686018427387904):Fn aB 121 ⟨1,[.c (.sl 0)],[],[(0,.own (rI .i64) xs false)],1,.t [],[],[(0,.own (rI .i64) (Qe xs) false)]⟩:=by
  refine ZrZ ⟨Tryz.f121,Tryz.func121,rfl,rfl⟩ (Zur xs) (fun b off cap w hH hb hc=>?_) (fun _ p cap w=>Any.slices_Sort_int_none Zl2 p cap w)
  have:=Any.slices_Sort_int Zl2 b off cap xs w hH hb hN
  rw[<-Zmb]at this
  exact this
end Gx
end
section
open Go Go.Kx Go.Proofs
namespace Gx
set_option maxRecDepth 20000
def ZoZ:fy:=⟨fun x=>match x with|194=>114|n=>n,fun x=>match x with|31=>22|9=>9|3=>3|4=>4|0=>0|n=>n,fun x=>x⟩
theorem Zix:Go.Proofs.Lays.n194 dq ZoZ:=
  { mixed:=by kernel_rfl,
    f194:=eT Tryz.func114,
    t0:=cZ,
    a0:=dS,
    z0:=dJ,
    v0:=cn,
    t3:=cf,
    a3:=dU,
    z3:=dK,
    v3:=cq,
    t4:=cg,
    a4:=dW,
    z4:=dN,
    v4:=cr,
    t9:=cj,
    a9:=dX,
    z9:=dO,
    v9:=cu,
    t31:=fI,
    a31:=gG,
    z31:=fk,
    v31:=fO }
variable [kv]
theorem Zo0(xs:List ByteArray)(hN:xs.length<=9223372036854775807):Fn aB 114 ⟨1,[.c (.sl 0)],[],[(0,.own rS xs false)],2,.c (.sl 1),[],[(1,.own rS (Sg xs) false),(0,.gone)]⟩:=by
  refine ZuM ⟨Tryz.f114,Tryz.func114,rfl,rfl⟩ (ZaM xs) (fun b off cap w hH hb hc=>?_) (fun _ p cap w=>Any.slices_Compact_string_empty Zix p cap w)
  have:=Any.slices_Compact_string Zix b off cap (XG xs) w hH (by simpa[XG]using hN) (by simpa[XG]using hc)
  rw[<-Zgy]at this
  have e1:(XG xs).length=xs.length:=by simp[XG]
  have e2:(XG (Sg xs)).length=(Sg xs).length:=by simp[XG]
  rw[e1,e2]at this
  refine this.mono ?_
  rintro e w' ⟨rfl,q,rfl⟩
  refine⟨rfl,q,#[],_,(Go.Sort.grow_empty _).symm,?_,?_⟩
  · have:=ZaM xs
    simp only[List.length_append,List.length_replicate,e2];omega
  · intro i x hx
    have hi:i<(Sg xs).length:=(List.getElem?_eq_some_iff.1 hx).1
    rw[Zo (by rw[e2];exact hi)]
    simp[XG,hx]
end Gx
end
section
open Go Go.Kx Go.Proofs
namespace Gx
set_option maxRecDepth 20000
def ZlK:fy:=⟨fun x=>match x with|105=>149|212=>176|99=>72|165=>150|166=>148|170=>177|169=>96|263=>212|264=>213|206=>135|240=>161|241=>178|276=>200|277=>214|n=>n,fun x=>match x with|9=>9|3=>3|4=>4|20=>20|0=>0|46=>262|109=>274|5=>5|72=>195|76=>230|51=>284|146=>302|53=>286|148=>304|70=>193|37=>43|75=>229|127=>259|164=>293|80=>114|n=>n,fun x=>x⟩
theorem rpLays:Go.Proofs.Lays.n105 dq ZlK:=
  { mixed:=by kernel_rfl,
    f99:=eT Tryz.func72,
    f105:=eT Tryz.func149,
    f165:=eT jc,
    f166:=eT jd,
    f169:=eT jr,
    f170:=eT Tryz.func177,
    f206:=eT Tryz.func135,
    f212:=eT Tryz.func176,
    f240:=eT je,
    f241:=eT jf,
    f263:=eT Tryz.func212,
    f264:=eT Tryz.func213,
    f276:=eT jg,
    f277:=eT jh,
    t0:=cZ,
    a0:=dS,
    z0:=dJ,
    v0:=cn,
    t3:=cf,
    a3:=dU,
    z3:=dK,
    v3:=cq,
    t4:=cg,
    a4:=dW,
    z4:=dN,
    v4:=cr,
    t5:=eF,
    a5:=fD,
    z5:=ey,
    v5:=eL,
    t9:=cj,
    a9:=dX,
    z9:=dO,
    v9:=cu,
    t20:=fG,
    a20:=gD,
    z20:=fi,
    v20:=fM,
    t37:=fH,
    a37:=gF,
    z37:=fj,
    v37:=fN,
    t46:=dj,
    a46:=eX,
    z46:=eR,
    v46:=dw,
    t51:=dk,
    a51:=eY,
    z51:=eS,
    v51:=dx,
    t53:=dm,
    a53:=eZ,
    z53:=eT,
    v53:=dy,
    t70:=gg,
    a70:=iu,
    z70:=iV,
    v70:=gx,
    t72:=gh,
    a72:=iv,
    z72:=iW,
    v72:=gy,
    t75:=gi,
    a75:=iw,
    z75:=iX,
    v75:=gz,
    t76:=gj,
    a76:=iz,
    z76:=iY,
    v76:=hK,
    t109:=Go.Proofs.Tryz.underlying274,
    a109:=Go.Proofs.Tryz.isAgg274,
    z109:=Go.Proofs.Tryz.sizeOf274,
    v109:=Go.Proofs.Tryz.zeroValue274,
    t127:=gk,
    a127:=jH,
    z127:=iZ,
    v127:=hU,
    t146:=Go.Proofs.Tryz.underlying302,
    a146:=Go.Proofs.Tryz.isAgg302,
    z146:=Go.Proofs.Tryz.sizeOf302,
    v146:=Go.Proofs.Tryz.zeroValue302,
    t148:=Go.Proofs.Tryz.underlying304,
    a148:=Go.Proofs.Tryz.isAgg304,
    z148:=Go.Proofs.Tryz.sizeOf304,
    v148:=Go.Proofs.Tryz.zeroValue304,
    t164:=gl,
    a164:=jI,
    z164:=ia,
    v164:=hY }
theorem ZtZ:Builder.Extra aB ZlK where
  sizeBuilder:=by kernel_rfl
  liesBuilder:=by kernel_rfl
  t5:=rpLays.t5
  a5:=rpLays.a5
  z5:=rpLays.z5
  v5:=rpLays.v5
  infoByte:=by kernel_rfl
  cellsByte:=by kernel_rfl
  sizeByte:=by kernel_rfl
  neB5:=by decide
/-- So many copies of a text: the text of the library, walked once for all. -/
theorem ZtI(s:ByteArray)(c:Nat)(hc:c<=9223372036854775807)(hlen:s.size*c<=140737488355328):Fn aB 149 ⟨0,[.c (.s s),.c (.i .i64 (c:Int))],[],[],0,.c (.s ⟨(Go.Lib.repeatL s.data.toList c).toArray⟩),[],[]⟩:=by
  refine⟨⟨Tryz.f149,Tryz.func149,rfl,rfl⟩,fun E F w hp=>?_⟩
  refine (Any.strings_Repeat rpLays ZtZ s c w hc hlen).mono ?_
  rintro e w' ⟨rfl,hb⟩
  exact⟨E,F,rfl,{
    env:=fun k hk=>absurd hk (Nat.not_lt_zero k)
    one:=hp.one
    V:=fun k f h=>(nomatch h)
    M:=fun k m h=>(nomatch h)
    dis:=fun k k' m m' h=>(nomatch h)
    mF:=fun k m h=>(nomatch h)
    fresh:=fun k m h=>(nomatch h)
    F0:=fun _ h=>h
    F1:=fun _ h=>.inl h
    Fs:=fun b h=>Zh (hp.hF b h) hb.size
    ext:=⟨hb.os,hb.tape,⟨hb.output,.inl trivial⟩,hb.size,fun b hz=>hb.block b hz.1⟩ }⟩
end Gx
end
