/- The plain law, part 3: what the functions compute answers as the statement says. -/
import Derived.Test.YtopoacpklgcfnaaGreatDoorExplainParsedPlain2
set_option linter.all false
section
namespace Gp
open Go Go.Kx Gx
def hdT (r:List Tok):Tok:=(r.head?).getD zt
theorem tk_drop (l:List Tok) (n:Nat):tk l n=hdT (l.drop n):=by unfold tk hdT;rw [List.head?_drop]
def Re {α:Type} (S:Pm α) (ts:List Tok) (x:α) (nx:Tok→Bool):Prop:=∀ (l:List Tok) (n:Nat) (r:List Tok),l.drop n=ts++r→nx (hdT r)=true→S l n=.ok x (n+ts.length)
abbrev nT:Tok→Bool:=fun _=>true
abbrev nN (s:List UInt8):Tok→Bool:=fun t => !isT (str s) t
theorem drop_more {l:List Tok} {n:Nat} {a b:List Tok} (h:l.drop n=a++b):l.drop (n+a.length)=b:=by rw [← List.drop_drop,h,List.drop_left]
theorem Re.bind {α β:Type} {S:Pm α} {T:α→Pm β} {t1 t2:List Tok} {a:α} {b:β} {n1 n2:Tok→Bool} (h1:Re S t1 a n1) (h2:Re (T a) t2 b n2) (hn:∀ r,n2 (hdT r)=true→n1 (hdT (t2++r))=true):Re (fun l n=>(S l n).bind fun a m=>T a l m) (t1++t2) b n2:=by
 intro l n r hl hr
 rw [aA] at hl
 show (S l n).bind _=_
 rw [h1 l n (t2++r) hl (hn r hr)]
 show T a l (n+t1.length)=_
 rw [h2 l _ r (drop_more hl) hr,lA,Nat.add_assoc]
theorem Re.bindT {α β:Type} {S:Pm α} {T:α→Pm β} {t1 t2:List Tok} {a:α} {b:β} {n2:Tok→Bool} (h1:Re S t1 a nT) (h2:Re (T a) t2 b n2):Re (fun l n=>(S l n).bind fun a m=>T a l m) (t1++t2) b n2:=h1.bind h2 fun _ _=>rfl
theorem Re.bindC {α β:Type} {S:Pm α} {T:α→Pm β} {t1 t2:List Tok} {c:Tok} {a:α} {b:β} {n1 n2:Tok→Bool} (h1:Re S t1 a n1) (h2:Re (T a) (c::t2) b n2) (hc:n1 c=true):Re (fun l n=>(S l n).bind fun a m=>T a l m) (t1++c::t2) b n2:=h1.bind h2 fun _ _=>hc
theorem Re.ret {α:Type} (b:α) (nx:Tok→Bool):Re (fun _ n=>.ok b n) [] b nx:=fun l n r _ _=>rfl
theorem Re.weak {α:Type} {S:Pm α} {ts:List Tok} {x:α} {n1 n2:Tok→Bool} (h:Re S ts x n1) (hn:∀ t,n2 t=true→n1 t=true):Re S ts x n2:=fun l n r hl hr=>h l n r hl (hn _ hr)
theorem Re.eqT {α:Type} {S S':Pm α} {ts ts':List Tok} {x x':α} {nx:Tok→Bool} (h:Re S ts x nx) (hS:S'=S) (ht:ts'=ts) (hx:x'=x):Re S' ts' x' nx:=by subst hS;subst ht;subst hx;exact h
theorem Re.takeT {α:Type} {s:ByteArray} {A C:Pm α} {t:Tok} {ts:List Tok} {x:α} {nx:Tok→Bool} (hi:isT s t=true) (h:Re A ts x nx):Re (fun l n=>bif isT s (tk l n) then A l (n+1) else C l n) (t::ts) x nx:=by
 intro l n r hl hr
 have ht:tk l n=t:=by rw [tk_drop,hl];rfl
 show (bif isT s (tk l n) then A l (n+1) else C l n)=_
 rw [ht,hi,cT,h l (n+1) r (drop_more (a:=[t]) hl) hr,List.length_cons]
 congr 1;omega
theorem Re.takeF {α:Type} {s:ByteArray} {A C:Pm α} {ts:List Tok} {x:α} {nx:Tok→Bool} (h:Re C ts x nx) (hi:∀ r,nx (hdT r)=true→isT s (hdT (ts++r))=false):Re (fun l n=>bif isT s (tk l n) then A l (n+1) else C l n) ts x nx:=by
 intro l n r hl hr
 show (bif isT s (tk l n) then A l (n+1) else C l n)=_
 rw [tk_drop,hl,hi r hr,cF]
 exact h l n r hl hr
theorem Re.takeN {α:Type} {s:ByteArray} {A C:Pm α} {t:Tok} {ts:List Tok} {x:α} {nx:Tok→Bool} (h:Re C (t::ts) x nx) (hi:isT s t=false):Re (fun l n=>bif isT s (tk l n) then A l (n+1) else C l n) (t::ts) x nx:=h.takeF fun _ _=>hi
theorem isT_W (s x:List UInt8):isT (str s) (Wt x)=(x==s):=by
 unfold isT
 show (true && eqStr (mkB x) (mkB s))=_
 rw [eqStr_mk];rfl
theorem isT_M (s x:List UInt8):isT (str s) (Mt x)=(x==s):=by
 unfold isT
 show (true && eqStr (mkB x) (mkB s))=_
 rw [eqStr_mk];rfl
theorem isW (s:List UInt8):isT (str s) (Wt s)=true:=by rw [isT_W];simp
theorem isM (s:List UInt8):isT (str s) (Mt s)=true:=by rw [isT_M];simp
theorem Re.wants {s:ByteArray} {t:Tok} (h:isT s t=true):Re (sWants s) [t] () nT:=by
 intro l n r hl _
 unfold sWants
 rw [tk_drop,hl,show hdT ([t]++r)=t from rfl,h];rfl
theorem Re.word {x:List UInt8} (h:isWord (mkB x)=true):Re sWord [Wt x] (mkB x) nT:=by
 intro l n r hl _
 unfold sWord
 rw [tk_drop,hl,show hdT ([Wt x]++r)=Wt x from rfl,show wordT (Wt x)=true by unfold wordT;simp [h]];rfl
theorem Re.wordB {s:ByteArray} (h:isWord s=true):Re sWord [Wt (bs s)] s nT:=by
 have:=Re.word (x:=bs s) (by rw [mkB_bs];exact h)
 rw [mkB_bs] at this;exact this
theorem Re.num (v:Int):Re sNum [Nt v] v nT:=by
 intro l n r hl _
 unfold sNum
 rw [tk_drop,hl];rfl
theorem Re.signed {v:Int} (h:Small v):Re sSigned (tkDig v) v nT:=by
 unfold Small at h
 unfold tkDig
 by_cases hn:v < 0
 ·rw [if_pos hn]
  have:=Re.takeT (s:=str [45]) (A:=fun l n=>(sNum l n).bind fun v m=>.ok (w64 (0-v)) m) (C:=sNum) (t:=Mt [45]) (isM _) ((Re.num (0-v)).bindT (T:=fun v _ m=>.ok (w64 (0-v)) m) (Re.ret _ nT))
  rw [w64_id (by omega) (by omega),show 0-(0-v)=v by omega] at this
  exact this
 ·rw [if_neg hn]
  exact (Re.num v).takeN (s:=str [45]) (A:=fun l n=>(sNum l n).bind fun v m=>.ok (w64 (0-v)) m) (t:=Nt v) rfl
theorem loop_rd {α β γ:Type} {s:ByteArray} {p:Pm α} {upd:β→α→β} {t:γ→List Tok} {v:γ→α} {np nx:Tok→Bool} {st:Tok} (hst:isT s st=true) (hnp:np st=true) (hx:∀ t,nx t=true→np t=true∧isT s t=false):∀ (xs:List γ) (F:Nat) (acc:β),(∀ x∈xs,Re p (t x) (v x) np)→xs.length < F →
  Re (sLoop s p upd F acc) ((xs.map fun x=>[st]++t x).flatten) (xs.foldl (fun a x=>upd a (v x)) acc) nx
 | [],F,acc,_,hF=>by
  obtain ⟨F,rfl⟩:∃ m,F=m+1:=⟨F-1,by simp at hF;omega⟩
  exact (Re.ret acc nx).takeF (s:=s) (A:=fun l n=>(p l n).bind fun a m=>sLoop s p upd F (upd acc a) l m) (fun r hr=>(hx _ hr).2)
 | x::xs,F,acc,hp,hF=>by
  obtain ⟨F,rfl⟩:∃ m,F=m+1:=⟨F-1,by simp at hF;omega⟩
  have ih:=loop_rd (upd:=upd) hst hnp hx xs F (upd acc (v x)) (fun y hy=>hp y (List.mem_cons_of_mem _ hy)) (by simp at hF;omega)
  have hb:=(hp x (List.mem_cons_self ..)).bind (T:=fun a l m=>sLoop s p upd F (upd acc a) l m) ih (fun r hr=>by
   cases xs with
   | nil=>exact (hx _ hr).1
   | cons y ys=>exact hnp)
  exact (Re.takeT (s:=s) (A:=fun l n=>(p l n).bind fun a m=>sLoop s p upd F (upd acc a) l m) (C:=fun l n=>.ok acc n) hst hb).eqT rfl (by simp) rfl
theorem sepK_map {γ:Type} (st:Tok) (t:γ→List Tok) (x:γ) (xs:List γ):sepK [st] ((x::xs).map t)=t x++(xs.map fun x=>[st]++t x).flatten:=by simp only [List.map_cons,sepK,List.map_map];rfl
theorem foldl_snoc {α γ:Type} (v:γ→α):∀ (xs:List γ) (acc:List α),xs.foldl (fun a x=>snoc a (v x)) acc=acc++xs.map v
 | [],acc=>by simp
 | x::xs,acc=>by simp only [List.foldl_cons,List.map_cons];rw [foldl_snoc v xs];simp [snoc]
theorem sep_rd {α γ:Type} {s:ByteArray} {p:Pm α} {t:γ→List Tok} {v:γ→α} {np nx:Tok→Bool} {st:Tok} (hst:isT s st=true) (hnp:np st=true) (hx:∀ t,nx t=true→np t=true∧isT s t=false) (x:γ) (xs:List γ) {F:Nat} (hp:∀ y∈x::xs,Re p (t y) (v y) np) (hF:xs.length < F) :
  Re (fun l n=>(p l n).bind fun a m=>sLoop s p snoc F [a] l m) (sepK [st] ((x::xs).map t)) ((x::xs).map v) nx:=by
 rw [sepK_map]
 have hl:=loop_rd (upd:=snoc) hst hnp hx xs F [v x] (fun y hy=>hp y (List.mem_cons_of_mem _ hy)) hF
 rw [foldl_snoc] at hl
 exact (hp x (List.mem_cons_self ..)).bind (T:=fun a l m=>sLoop s p snoc F [a] l m) hl (fun r hr=>by
  cases xs with
  | nil=>exact (hx _ hr).1
  | cons y ys=>exact hnp)
theorem words_rd {l:List ByteArray} {k F:Nat} (h:WordsP l k) (hF:l.length≤F):Re (sWords F) (tkWords l) l (nN [44]):=by
 obtain ⟨h1,h2,h3⟩:=h
 cases l with
 | nil=>simp at h1
 | cons w l =>
  have:=sep_rd (s:=str [44]) (p:=sWord) (t:=fun w:ByteArray=>[Wt (bs w)]) (v:=fun w=>w) (np:=nT) (nx:=nN [44]) (st:=Mt [44]) (isM _) rfl (fun t ht=>⟨rfl,by simpa using ht⟩) w l (F:=F) (fun y hy=>Re.wordB (h3 y hy)) (by simp at hF;omega)
  rw [List.map_id'] at this
  exact this
theorem fold_dot:∀ (ps:List (List UInt8)) (x:List UInt8),ps.foldl (fun a p=>dotW a (mkB p)) (mkB x)=mkB (x++(ps.map fun p=>[46]++p).flatten)
 | [],x=>by simp
 | p::ps,x=>by
  simp only [List.foldl_cons,List.map_cons,List.flatten_cons]
  have e:dotW (mkB x) (mkB p)=mkB (x++([46]++p)):=bs_inj (by unfold dotW;rw [bs_app,bs_app,bs_mkB,bs_mkB,bs_mkB,bs_str])
  rw [e,fold_dot ps];simp
theorem parts_rd {ps:List (List UInt8)} (hps:ps≠[]) (hw:∀ p∈ps,isWord (mkB p)=true) {F:Nat} (hF:ps.length≤F):Re (sPath F) (sepK [Mt [46]] (ps.map fun p=>[Wt p])) (mkB (joinL [46] ps)) (nN [46]):=by
 cases ps with
 | nil=>exact absurd rfl hps
 | cons p ps =>
  rw [sepK_map]
  have hl:=loop_rd (s:=str [46]) (p:=sWord) (upd:=dotW) (t:=fun p:List UInt8=>[Wt p]) (v:=fun p=>mkB p) (np:=nT) (nx:=nN [46]) (st:=Mt [46]) (isM _) rfl (fun t ht=>⟨rfl,by simpa using ht⟩) ps F (mkB p) (fun y hy=>Re.word (hw y (List.mem_cons_of_mem _ hy))) (by simp at hF;omega)
  rw [fold_dot] at hl
  exact (Re.word (hw p (List.mem_cons_self ..))).bindT (T:=fun w l m=>sLoop (str [46]) sWord dotW F w l m) hl
theorem pieces_len {s:ByteArray} (h:pathV s=true):(splitA [] (bs s)).length≤51:=by
 have h1:=path_len h
 rw [splitA_len]
 have:(bs s).count 46≤(bs s).length:=List.count_le_length
 omega
theorem pieces_word {s:ByteArray} (h:pathV s=true):∀ p∈splitA [] (bs s),isWord (mkB p)=true:=by
 unfold pathV at h
 rw [Bool.and_eq_true,List.all_eq_true] at h
 exact h.2
theorem path_rd {s:ByteArray} (h:pathV s=true) {F:Nat} (hF:51≤F):Re (sPath F) (tkPath s) s (nN [46]):=by
 have:=parts_rd (splitA_ne (bs s) []) (pieces_word h) (F:=F) (by have:=pieces_len h;omega)
 rw [joinA,List.nil_append,mkB_bs] at this
 exact this
theorem name_not {x:List UInt8} (h:nameL' x) {c:UInt8} {s:List UInt8} (hc:letB c=false):isT (str (c::s)) (Wt x)=false:=by
 obtain ⟨d,l,rfl,h1,_⟩:=h
 rw [isT_W,beq_eq_false_iff_ne]
 intro e
 injection e with e _
 rw [e,hc] at h1;cases h1
theorem word_not {s:ByteArray} (h:isWord s=true) {k:List UInt8} (hk:str k∈keywords):isT (str k) (Wt (bs s))=false:=by
 rw [isT_W,beq_eq_false_iff_ne]
 intro e
 unfold isWord at h
 rw [Bool.and_eq_true,Bool.not_eq_true',List.any_eq_false] at h
 apply h.2 _ hk
 rw [eqStr_iff]
 exact bs_inj (by rw [bs_str,e])
theorem fld_rd {f:T4} (h:FldP f):Re sField (tkFld f) f nT:=by
 obtain ⟨h1,h2,h3,h4,h5⟩:=h
 obtain ⟨nm,⟨kd,lo,hi⟩⟩:=f
 simp only at h1 h2 h3 h4 h5
 unfold tkFld
 simp only
 rcases h2 with rfl | rfl
 ·have hr:Re (fun l n=>(sSigned l n).bind fun lo n=>(sWants (str [46,46]) l n).bind fun _ n=>(sSigned l n).bind fun hi n=>.ok (⟨nm,⟨1,lo,hi⟩⟩:T4) n) (tkDig lo++([Mt [46,46]]++(tkDig hi++[]))) ⟨nm,⟨1,lo,hi⟩⟩ nT :=
   (Re.signed h3).bindT (T:=fun lo l n=>(sWants (str [46,46]) l n).bind fun _ n=>(sSigned l n).bind fun hi n=>.ok (⟨nm,⟨1,lo,hi⟩⟩:T4) n)
    ((Re.wants (isM [46,46])).bindT (T:=fun _ l n=>(sSigned l n).bind fun hi n=>.ok (⟨nm,⟨1,lo,hi⟩⟩:T4) n) ((Re.signed h4).bindT (T:=fun hi _ n=>.ok (⟨nm,⟨1,lo,hi⟩⟩:T4) n) (Re.ret _ nT)))
  have:=(Re.wordB h1).bindT (T:=fun w l n=>(sWants (str [58]) l n).bind fun _ n=>bif isT (str [105,110,116]) (tk l n) then (sSigned l (n+1)).bind fun lo n=>(sWants (str [46,46]) l n).bind fun _ n=>(sSigned l n).bind fun hi n=>.ok (⟨w,⟨1,lo,hi⟩⟩:T4) n
   else (sWants (str [116,101,120,116]) l n).bind fun _ n=>(sNum l n).bind fun lo n=>(sWants (str [46,46]) l n).bind fun _ n=>(sNum l n).bind fun hi n=>.ok (⟨w,⟨2,lo,hi⟩⟩:T4) n)
   ((Re.wants (isM [58])).bindT (T:=fun _ l n=>bif isT (str [105,110,116]) (tk l n) then (sSigned l (n+1)).bind fun lo n=>(sWants (str [46,46]) l n).bind fun _ n=>(sSigned l n).bind fun hi n=>.ok (⟨nm,⟨1,lo,hi⟩⟩:T4) n
   else (sWants (str [116,101,120,116]) l n).bind fun _ n=>(sNum l n).bind fun lo n=>(sWants (str [46,46]) l n).bind fun _ n=>(sNum l n).bind fun hi n=>.ok (⟨nm,⟨2,lo,hi⟩⟩:T4) n)
    (Re.takeT (isW [105,110,116]) hr))
  exact this.eqT rfl (by simp [tkDig]) rfl
 ·obtain ⟨l0,u0⟩:=h5 rfl
  have e1:tkDig lo=[Nt lo]:=by unfold tkDig;rw [if_neg (by omega)]
  have e2:tkDig hi=[Nt hi]:=by unfold tkDig;rw [if_neg (by omega)]
  have hr:Re (fun l n=>(sWants (str [116,101,120,116]) l n).bind fun _ n=>(sNum l n).bind fun lo n=>(sWants (str [46,46]) l n).bind fun _ n=>(sNum l n).bind fun hi n=>.ok (⟨nm,⟨2,lo,hi⟩⟩:T4) n) ([Wt [116,101,120,116]]++([Nt lo]++([Mt [46,46]]++([Nt hi]++[])))) ⟨nm,⟨2,lo,hi⟩⟩ nT :=
   (Re.wants (isW [116,101,120,116])).bindT (T:=fun _ l n=>(sNum l n).bind fun lo n=>(sWants (str [46,46]) l n).bind fun _ n=>(sNum l n).bind fun hi n=>.ok (⟨nm,⟨2,lo,hi⟩⟩:T4) n)
    ((Re.num lo).bindT (T:=fun lo l n=>(sWants (str [46,46]) l n).bind fun _ n=>(sNum l n).bind fun hi n=>.ok (⟨nm,⟨2,lo,hi⟩⟩:T4) n)
    ((Re.wants (isM [46,46])).bindT (T:=fun _ l n=>(sNum l n).bind fun hi n=>.ok (⟨nm,⟨2,lo,hi⟩⟩:T4) n) ((Re.num hi).bindT (T:=fun hi _ n=>.ok (⟨nm,⟨2,lo,hi⟩⟩:T4) n) (Re.ret _ nT))))
  have:=(Re.wordB h1).bindT (T:=fun w l n=>(sWants (str [58]) l n).bind fun _ n=>bif isT (str [105,110,116]) (tk l n) then (sSigned l (n+1)).bind fun lo n=>(sWants (str [46,46]) l n).bind fun _ n=>(sSigned l n).bind fun hi n=>.ok (⟨w,⟨1,lo,hi⟩⟩:T4) n
   else (sWants (str [116,101,120,116]) l n).bind fun _ n=>(sNum l n).bind fun lo n=>(sWants (str [46,46]) l n).bind fun _ n=>(sNum l n).bind fun hi n=>.ok (⟨w,⟨2,lo,hi⟩⟩:T4) n)
   ((Re.wants (isM [58])).bindT (T:=fun _ l n=>bif isT (str [105,110,116]) (tk l n) then (sSigned l (n+1)).bind fun lo n=>(sWants (str [46,46]) l n).bind fun _ n=>(sSigned l n).bind fun hi n=>.ok (⟨nm,⟨1,lo,hi⟩⟩:T4) n
   else (sWants (str [116,101,120,116]) l n).bind fun _ n=>(sNum l n).bind fun lo n=>(sWants (str [46,46]) l n).bind fun _ n=>(sNum l n).bind fun hi n=>.ok (⟨nm,⟨2,lo,hi⟩⟩:T4) n)
    (Re.takeN (A:=fun l n=>(sSigned l n).bind fun lo n=>(sWants (str [46,46]) l n).bind fun _ n=>(sSigned l n).bind fun hi n=>.ok (⟨nm,⟨1,lo,hi⟩⟩:T4) n) (t:=Wt [116,101,120,116]) hr (by rw [isT_W];rfl)))
  exact this.eqT rfl (by rw [e1,e2];simp) rfl
end Gp
end
section
namespace Gp
open Go Go.Kx Gx
theorem lastDot_none:∀ x:List UInt8,(∀ c∈x,c≠46)→lastDot x=none
 | [],_=>rfl
 | c::x,h=>by
  simp only [lastDot]
  rw [lastDot_none x fun d hd=>h d (List.mem_cons_of_mem _ hd)]
  rw [if_neg (h c (List.mem_cons_self ..))]
theorem lastDot_mid:∀ (x y:List UInt8),(∀ c∈y,c≠46)→lastDot (x++46::y)=some x.length
 | [],y,h=>by
  simp only [List.nil_append,lastDot]
  rw [lastDot_none y h];rfl
 | c::x,y,h=>by
  simp only [List.cons_append,lastDot]
  rw [lastDot_mid x y h];rfl
theorem inn46:innB 46=false:=rfl
theorem name_nodot {x:List UInt8} (h:nameL' x):∀ c∈x,c≠46:=by
 obtain ⟨d,l,rfl,h1,h2,_⟩:=h
 intro c hc e
 subst e
 rcases List.mem_cons.1 hc with e | hc
 ·have:=let_inn h1
  rw [← e,inn46] at this;cases this
 ·have:=h2 _ hc
  rw [inn46] at this;cases this
def baseS (t:T23):ByteArray:=mkB (termB t)
theorem split_base {t:T23} (h2:isWord t.Field=true):splitP (baseS t)=(t.Message,t.Field):=by
 have hn:=name_nodot (word_name h2)
 unfold splitP baseS termB
 rw [bs_mkB]
 cases he:eqStr t.Message (str []) with
 | true =>
  simp only [cT]
  rw [lastDot_none _ hn,mkB_bs,(eqStr_iff _ _).1 he]
 | false =>
  simp only [cF]
  rw [aA,show [46]++bs t.Field=46::bs t.Field from rfl,lastDot_mid _ _ hn]
  simp only []
  rw [List.take_left,show bs t.Message++46::bs t.Field=(bs t.Message++[46])++bs t.Field by simp,show (bs t.Message).length+1=(bs t.Message++[46]).length by simp,List.drop_left,mkB_bs,mkB_bs]
theorem sepK_snoc {γ:Type} (st:Tok) (t:γ→List Tok):∀ (xs:List γ) (y:γ),xs≠[]→sepK [st] ((xs++[y]).map t)=sepK [st] (xs.map t)++([st]++t y)
 | [],y,h=>absurd rfl h
 | x::xs,y,_=>by
  rw [List.cons_append,sepK_map,sepK_map,List.map_append,List.flatten_append]
  simp
theorem joinL_snoc (sep:List UInt8):∀ (xs:List (List UInt8)) (y:List UInt8),xs≠[]→joinL sep (xs++[y])=joinL sep xs++(sep++y)
 | [],y,h=>absurd rfl h
 | x::xs,y,_=>by simp [joinL]
theorem base_rd {t:T23} (h2:isWord t.Field=true) (h3:t.Message=str []∨pathV t.Message=true) {F:Nat} (hF:60≤F):Re (sPath F) (tkBase t) (baseS t) (nN [46]):=by
 unfold tkBase baseS termB
 cases he:eqStr t.Message (str []) with
 | true =>
  simp only [cT]
  have:=parts_rd (ps:=[bs t.Field]) (by simp) (fun p hp=>by rw [List.mem_singleton] at hp;rw [hp,mkB_bs];exact h2) (F:=F) (by simp;omega)
  exact this.eqT rfl (by simp [sepK]) (by simp [joinL])
 | false =>
  simp only [cF]
  have hp:pathV t.Message=true:=h3.resolve_left (fun e=>by rw [(eqStr_iff _ _).2 e] at he;cases he)
  have hne:=splitA_ne (bs t.Message) []
  have:=parts_rd (ps:=splitA [] (bs t.Message)++[bs t.Field]) (by simp) (fun p hp'=>by
   rcases List.mem_append.1 hp' with hp' | hp'
   ·exact pieces_word hp p hp'
   ·rw [List.mem_singleton] at hp';rw [hp',mkB_bs];exact h2) (F:=F) (by have:=pieces_len hp;simp;omega)
  rw [sepK_snoc _ _ _ _ hne,joinL_snoc _ _ _ hne,joinA] at this
  exact this.eqT rfl (by unfold tkPath;simp) (by simp)
def nxT:Tok→Bool:=fun t => !isT (str [46]) t && (!isT (str [43]) t && !isT (str [45]) t)
theorem tail_rd {t:T23} (hs:Small t.N) (k:Int) (hk:k=t.Kind) {s:ByteArray} (hsp:splitP s=(t.Message,t.Field)):Re (sTail k s) (tkTail t) t nxT:=by
 unfold Small at hs
 have ht:(⟨k,(splitP s).1,(splitP s).2,t.N⟩:T23)=t:=by rw [hsp,hk]
 unfold tkTail
 cases h1:decide (t.N > 0) with
 | true =>
  simp only [cT]
  have:=Re.takeT (s:=str [43]) (A:=fun l n=>(sNum l n).bind fun v n=>.ok (⟨k,(splitP s).1,(splitP s).2,v⟩:T23) n)
   (C:=fun l n=>bif isT (str [45]) (tk l n) then (sNum l (n+1)).bind fun v n=>.ok ⟨k,(splitP s).1,(splitP s).2,w64 (0-v)⟩ n else .ok ⟨k,(splitP s).1,(splitP s).2,0⟩ n) (isM [43])
   ((Re.num t.N).bindT (T:=fun v _ n=>.ok (⟨k,(splitP s).1,(splitP s).2,v⟩:T23) n) (Re.ret _ nxT))
  exact this.eqT rfl rfl ht.symm
 | false =>
  rw [decide_eq_false_iff_not] at h1
  simp only [cF]
  cases h2:decide (t.N < 0) with
  | true =>
   rw [decide_eq_true_eq] at h2
   simp only [cT]
   have:=Re.takeN (s:=str [43]) (A:=fun l n=>(sNum l n).bind fun v n=>.ok (⟨k,(splitP s).1,(splitP s).2,v⟩:T23) n)
    (Re.takeT (s:=str [45]) (A:=fun l n=>(sNum l n).bind fun v n=>.ok (⟨k,(splitP s).1,(splitP s).2,w64 (0-v)⟩:T23) n) (C:=fun l n=>.ok ⟨k,(splitP s).1,(splitP s).2,0⟩ n) (isM [45])
     ((Re.num (0-t.N)).bindT (T:=fun v _ n=>.ok (⟨k,(splitP s).1,(splitP s).2,w64 (0-v)⟩:T23) n) (Re.ret _ nxT))) (by rw [isT_M];rfl)
   rw [w64_id (by omega) (by omega),show 0-(0-t.N)=t.N by omega] at this
   exact this.eqT rfl rfl ht.symm
  | false =>
   rw [decide_eq_false_iff_not] at h2
   have h0:t.N=0:=by omega
   have hn:∀ r:List Tok,nxT (hdT r)=true→isT (str [43]) (hdT ([]++r))=false∧isT (str [45]) (hdT ([]++r))=false:=by
    intro r hr
    unfold nxT at hr
    simp only [Bool.and_eq_true,Bool.not_eq_true'] at hr
    exact hr.2
   have:=Re.takeF (s:=str [43]) (A:=fun l n=>(sNum l n).bind fun v n=>.ok (⟨k,(splitP s).1,(splitP s).2,v⟩:T23) n)
    (Re.takeF (s:=str [45]) (A:=fun l n=>(sNum l n).bind fun v n=>.ok (⟨k,(splitP s).1,(splitP s).2,w64 (0-v)⟩:T23) n) (Re.ret (⟨k,(splitP s).1,(splitP s).2,0⟩:T23) nxT) (fun r hr=>(hn r hr).2)) (fun r hr=>(hn r hr).1)
   exact this.eqT rfl rfl (by rw [← h0];exact ht.symm)
theorem nxT_dot {t:Tok} (h:nxT t=true):nN [46] t=true:=by
 unfold nxT at h
 rw [Bool.and_eq_true] at h
 exact h.1
theorem base_hd {t:T23} (h2:isWord t.Field=true) (h3:t.Message=str []∨pathV t.Message=true):∃ x r,tkBase t=Wt x::r∧isWord (mkB x)=true:=by
 unfold tkBase
 cases he:eqStr t.Message (str []) with
 | true=>exact ⟨bs t.Field,[],rfl,by rw [mkB_bs];exact h2⟩
 | false =>
  have hp:pathV t.Message=true:=h3.resolve_left (fun e=>by rw [(eqStr_iff _ _).2 e] at he;cases he)
  cases hs:splitA [] (bs t.Message) with
  | nil=>exact absurd hs (splitA_ne _ _)
  | cons x r =>
   refine ⟨x,(r.map fun p=>[Mt [46]]++[Wt p]).flatten++[Mt [46]]++[Wt (bs t.Field)],?_,pieces_word hp x (by rw [hs];exact List.mem_cons_self ..)⟩
   simp only [cF,tkPath,hs,List.map_cons,sepK,List.cons_append,List.nil_append,List.map_map]
   rfl
theorem word_not' {x:List UInt8} (h:isWord (mkB x)=true) {k:List UInt8} (hk:str k∈keywords):isT (str k) (Wt x)=false:=by
 have:=word_not h hk
 rw [bs_mkB] at this;exact this
theorem word_name' {x:List UInt8} (h:isWord (mkB x)=true):nameL' x:=by
 have:=word_name h
 rw [bs_mkB] at this;exact this
theorem Re.test {α:Type} {P:Tok→Bool} {A C:Pm α} {t:Tok} {ts:List Tok} {x:α} {nx:Tok→Bool} (b:Bool) (hi:P t=b) (h:Re (bif b then A else C) (t::ts) x nx):Re (fun l n=>bif P (tk l n) then A l n else C l n) (t::ts) x nx:=by
 intro l n r hl hr
 have ht:tk l n=t:=by rw [tk_drop,hl];rfl
 show (bif P (tk l n) then A l n else C l n)=_
 rw [ht,hi]
 have:=h l n r hl hr
 cases b<;>exact this
theorem kw_len:str [108,101,110]∈keywords:=by unfold keywords;repeat (first | exact List.mem_cons_self .. | apply List.mem_cons_of_mem)
theorem term_rd {t:T23} (h:TermP t) {F:Nat} (hF:60≤F):Re (sTerm F) (tkTerm t) t nxT:=by
 have hs:=h.1
 unfold tkTerm
 rcases h.2 with ⟨k1,k2,k3⟩ | ⟨hk,k2,k3⟩
 ·rw [show (t.Kind==1)=true by simp [k1],cT]
  have ht:(⟨1,str [],str [],t.N⟩:T23)=t:=by
   obtain ⟨a,b,c,d⟩:=t
   simp only at k1 k2 k3 ⊢
   rw [k1,k2,k3]
  obtain ⟨x,r,hx,hp⟩:∃ x r,tkDig t.N=x::r∧(isT (str [45]) x || x.Kind==2)=true:=by
   unfold tkDig
   by_cases hn:t.N < 0
   ·rw [if_pos hn];exact ⟨_,_,rfl,by rw [isM];rfl⟩
   ·rw [if_neg hn];exact ⟨_,_,rfl,by simp⟩
  have hr:=((Re.signed hs).bindT (T:=fun v _ n=>.ok (⟨1,str [],str [],v⟩:T23) n) (Re.ret _ nxT))
  rw [List.append_nil,hx] at hr
  rw [hx]
  exact (Re.test (P:=fun t=>isT (str [45]) t || t.Kind==2) (A:=fun l n=>(sSigned l n).bind fun v n=>.ok (⟨1,str [],str [],v⟩:T23) n)
   (C:=fun l n=>bif isT (str [108,101,110]) (tk l n) then (sWants (str [40]) l (n+1)).bind fun _ n=>(sPath F l n).bind fun s n=>(sWants (str [41]) l n).bind fun _ n=>sTail 3 s l n else (sPath F l n).bind fun s n=>sTail 2 s l n) true hp hr).eqT rfl rfl ht.symm
 ·rw [show (t.Kind==1)=false by rw [beq_eq_false_iff_ne];omega,cF]
  have hb:=base_rd k2 k3 hF
  obtain ⟨x,r,hx,hxw⟩:=base_hd k2 k3
  have hxn:=word_name' hxw
  have hsp:=split_base k2
  -- what stands behind the path
  have htl:∀ k:Int,k=t.Kind→Re (fun l n=>(sPath F l n).bind fun s n=>sTail k s l n) (tkBase t++tkTail t) t nxT:=fun k hk =>
   hb.bind (T:=fun s l n=>sTail k s l n) (tail_rd hs k hk hsp) (fun r hr=>by
    unfold tkTail
    cases decide (t.N > 0) with
    | true=>show (!isT (str [46]) (Mt [43]))=true;rw [isT_M];rfl
    | false =>
     cases decide (t.N < 0) with
     | true=>show (!isT (str [46]) (Mt [45]))=true;rw [isT_M];rfl
     | false=>exact nxT_dot hr)
  rcases hk with hk | hk
  ·rw [show (t.Kind==3)=false by rw [beq_eq_false_iff_ne];omega,cF]
   have h2:=htl 2 hk.symm
   rw [hx,List.cons_append] at h2 ⊢
   have hlen:isT (str [108,101,110]) (Wt x)=false:=word_not' hxw kw_len
   exact Re.test (P:=fun t=>isT (str [45]) t || t.Kind==2) (A:=fun l n=>(sSigned l n).bind fun v n=>.ok (⟨1,str [],str [],v⟩:T23) n) false (by rw [name_not hxn rfl];rfl)
    (Re.takeN (s:=str [108,101,110]) (A:=fun l n=>(sWants (str [40]) l n).bind fun _ n=>(sPath F l n).bind fun s n=>(sWants (str [41]) l n).bind fun _ n=>sTail 3 s l n) h2 hlen)
  ·rw [show (t.Kind==3)=true by simp [hk],cT]
   have h3:Re (fun l n=>(sWants (str [40]) l n).bind fun _ n=>(sPath F l n).bind fun s n=>(sWants (str [41]) l n).bind fun _ n=>sTail 3 s l n) ([Mt [40]]++(tkBase t++([Mt [41]]++tkTail t))) t nxT :=
    (Re.wants (isM [40])).bindT (T:=fun _ l n=>(sPath F l n).bind fun s n=>(sWants (str [41]) l n).bind fun _ n=>sTail 3 s l n)
     (hb.bindC (T:=fun s l n=>(sWants (str [41]) l n).bind fun _ n=>sTail 3 s l n) ((Re.wants (isM [41])).bindT (T:=fun _ l n=>sTail 3 (baseS t) l n) (tail_rd hs 3 hk.symm hsp)) (by show (!isT (str [46]) (Mt [41]))=true;rw [isT_M];rfl))
   have:=Re.test (P:=fun t=>isT (str [45]) t || t.Kind==2) (A:=fun l n=>(sSigned l n).bind fun v n=>.ok (⟨1,str [],str [],v⟩:T23) n) (t:=Wt [108,101,110]) false (by rw [isT_W];rfl)
    (Re.takeT (s:=str [108,101,110]) (C:=fun l n=>(sPath F l n).bind fun s n=>sTail 2 s l n) (isW [108,101,110]) h3)
   exact this.eqT rfl (by simp) rfl
theorem sgn_rd {s:ByteArray} (h:s∈marksL):Re sMark [Mt (bs s)] s nT:=by
 intro l n r hl _
 unfold sMark
 rw [tk_drop,hl,show hdT ([Mt (bs s)]++r)=Mt (bs s) from rfl]
 have:markT (Mt (bs s))=true:=by
  unfold markT
  show (true && marksL.any fun k=>eqStr k (mkB (bs s)))=true
  rw [mkB_bs,Bool.true_and,List.any_eq_true]
  exact ⟨s,h,eqStr_refl s⟩
 rw [this]
 show Rr.ok (mkB (bs s)) (n+1)=_
 rw [mkB_bs];rfl
theorem mark_nx {s:ByteArray} (h:s∈marksL):nxT (Mt (bs s))=true:=by
 simp only [marksL,List.mem_cons,List.not_mem_nil,or_false] at h
 unfold nxT
 rcases h with h | h | h | h | h<;>subst h<;>(rw [bs_str,isT_M,isT_M,isT_M];rfl)
theorem atom_rd {a:T19} (h:AtomP a) {F:Nat} (hF:60≤F):Re (sAtom F) (tkAtom a) a nxT:=by
 rw [sAtom_eq]
 have:=(term_rd h.1 hF).bindC (T:=fun a l n=>(sMark l n).bind fun tx n=>(sTerm F l n).bind fun b m=>.ok (⟨a,tx,b⟩:T19) m)
  ((sgn_rd h.2.2).bindT (T:=fun tx l n=>(sTerm F l n).bind fun b m=>.ok (⟨a.Left,tx,b⟩:T19) m) ((term_rd h.2.1 hF).bind (T:=fun b _ m=>.ok (⟨a.Left,a.Op,b⟩:T19) m) (Re.ret _ nxT) (fun r hr=>hr))) (mark_nx h.2.2)
 exact this.eqT rfl (by simp [tkAtom]) rfl
theorem where_rd {nm:ByteArray} {fs:List T4} {as':List T19} (h:∀ a∈as',AtomP a) {F:Nat} (hF:60≤F) (hl:as'.length≤F):Re (sWhere F nm fs) (tkWhere as'++[Mt [59]]) ⟨nm,fs,as'⟩ nT:=by
 cases as' with
 | nil =>
  have:=Re.takeN (s:=str [119,104,101,114,101]) (A:=fun l n=>(sAtom F l n).bind fun a n=>(sLoop (str [97,110,100]) (sAtom F) snoc F [a] l n).bind fun as' n=>(sWants (str [59]) l n).bind fun _ n=>.ok (⟨nm,fs,as'⟩:T21) n)
   ((Re.wants (isM [59])).bindT (T:=fun _ _ n=>.ok (⟨nm,fs,[]⟩:T21) n) (Re.ret _ nT)) (by rw [isT_M];rfl)
  exact this
 | cons a l =>
  have hw:∀ t,(nN [97,110,100] t && nxT t)=true→nxT t=true∧isT (str [97,110,100]) t=false:=fun t ht=>by
   rw [Bool.and_eq_true] at ht
   exact ⟨ht.2,by simpa using ht.1⟩
  have hsep:=sep_rd (s:=str [97,110,100]) (p:=sAtom F) (t:=tkAtom) (v:=fun a=>a) (np:=nxT) (nx:=fun t=>nN [97,110,100] t && nxT t) (st:=Wt [97,110,100]) (isW _) (by unfold nxT;rw [isT_W,isT_W,isT_W];rfl) hw a l (F:=F) (fun y hy=>atom_rd (h y hy) hF) (by simp at hl;omega)
  rw [List.map_id'] at hsep
  have hb:=hsep.bindC (T:=fun as' l n=>(sWants (str [59]) l n).bind fun _ n=>.ok (⟨nm,fs,as'⟩:T21) n) ((Re.wants (isM [59])).bindT (T:=fun _ _ n=>.ok (⟨nm,fs,a::l⟩:T21) n) (Re.ret _ nT)) (by show ((!isT (str [97,110,100]) (Mt [59])) && nxT (Mt [59]))=true;unfold nxT;rw [isT_M,isT_M,isT_M,isT_M];rfl)
  have:=Re.takeT (s:=str [119,104,101,114,101]) (A:=fun l n=>((sAtom F l n).bind fun a n=>sLoop (str [97,110,100]) (sAtom F) snoc F [a] l n).bind fun as' n=>(sWants (str [59]) l n).bind fun _ n=>.ok (⟨nm,fs,as'⟩:T21) n)
   (C:=fun l n=>(sWants (str [59]) l n).bind fun _ n=>.ok (⟨nm,fs,[]⟩:T21) n) (isW _) hb
  refine this.eqT ?_ (by simp [tkWhere]) rfl
  funext l n
  unfold sWhere
  rw [rr_assoc]
def tkMsg' (m:T21):List Tok:=tkPath m.Name++[Mt [40]]++sepK [Mt [44]] (m.Fields.map tkFld)++[Mt [41]]++(tkWhere m.Where++[Mt [59]])
theorem tkMsg_eq (m:T21):tkMsg m=[Wt [109,101,115,115,97,103,101]]++tkMsg' m:=by simp [tkMsg,tkMsg']
theorem msg_rd {m:T21} (h:MsgP m) {F:Nat} (hF:60≤F):Re (sMessage F) (tkMsg' m) m nT:=by
 obtain ⟨h1,h2,h3,h4,h5⟩:=h
 have hw:∀ fs,Re (sWhere F m.Name fs) (tkWhere m.Where++[Mt [59]]) ⟨m.Name,fs,m.Where⟩ nT:=fun fs=>where_rd h5 hF (by omega)
 have hin:Re (fun l n=>bif isT (str [41]) (tk l n) then sWhere F m.Name [] l (n+1) else ((sField l n).bind fun f n=>sLoop (str [44]) sField snoc F [f] l n).bind fun fs n=>(sWants (str [41]) l n).bind fun _ n=>sWhere F m.Name fs l n) (sepK [Mt [44]] (m.Fields.map tkFld)++([Mt [41]]++(tkWhere m.Where++[Mt [59]]))) m nT:=by
  cases hf:m.Fields with
  | nil =>
   have:=Re.takeT (s:=str [41]) (C:=fun l n=>((sField l n).bind fun f n=>sLoop (str [44]) sField snoc F [f] l n).bind fun fs n=>(sWants (str [41]) l n).bind fun _ n=>sWhere F m.Name fs l n) (isM [41]) (hw [])
   exact this.eqT rfl (by simp [sepK]) (by rw [← hf])
  | cons f fs =>
   have hsep:=sep_rd (s:=str [44]) (p:=sField) (t:=tkFld) (v:=fun f=>f) (np:=nT) (nx:=nN [44]) (st:=Mt [44]) (isM _) rfl (fun t ht=>⟨rfl,by simpa using ht⟩) f fs (F:=F) (fun y hy=>fld_rd (h4 y (by rw [hf];exact hy))) (by rw [hf] at h2;simp at h2;omega)
   rw [List.map_id'] at hsep
   have hb:=hsep.bindC (T:=fun fs l n=>(sWants (str [41]) l n).bind fun _ n=>sWhere F m.Name fs l n) ((Re.wants (isM [41])).bindT (T:=fun _ l n=>sWhere F m.Name (f::fs) l n) (hw (f::fs))) (by show (!isT (str [44]) (Mt [41]))=true;rw [isT_M];rfl)
   have hx:∃ r,sepK [Mt [44]] ((f::fs).map tkFld)++Mt [41]::(tkWhere m.Where++[Mt [59]])=Wt (bs f.Name)::r:=⟨_,by rw [sepK_map];simp only [tkFld,aA,List.cons_append,List.nil_append];rfl⟩
   obtain ⟨r,hr⟩:=hx
   have hb':Re (fun l n=>((sField l n).bind fun f n=>sLoop (str [44]) sField snoc F [f] l n).bind fun fs n=>(sWants (str [41]) l n).bind fun _ n=>sWhere F m.Name fs l n) (Wt (bs f.Name)::r) ⟨m.Name,f::fs,m.Where⟩ nT:=hb.eqT rfl hr.symm rfl
   have:=Re.takeN (s:=str [41]) (A:=sWhere F m.Name []) hb' (name_not (word_name (h4 f (by rw [hf];exact List.mem_cons_self ..)).1) rfl)
   exact this.eqT rfl hr (by rw [← hf])
 have:=(path_rd h1 (F:=F) (by omega)).bindC (T:=fun nm l n=>(sWants (str [40]) l n).bind fun _ n=>bif isT (str [41]) (tk l n) then sWhere F nm [] l (n+1) else ((sField l n).bind fun f n=>sLoop (str [44]) sField snoc F [f] l n).bind fun fs n=>(sWants (str [41]) l n).bind fun _ n=>sWhere F nm fs l n)
  ((Re.wants (isM [40])).bindT (T:=fun _ l n=>bif isT (str [41]) (tk l n) then sWhere F m.Name [] l (n+1) else ((sField l n).bind fun f n=>sLoop (str [44]) sField snoc F [f] l n).bind fun fs n=>(sWants (str [41]) l n).bind fun _ n=>sWhere F m.Name fs l n) hin) (by show (!isT (str [46]) (Mt [40]))=true;rw [isT_M];rfl)
 refine this.eqT ?_ (by simp [tkMsg']) rfl
 funext l n
 unfold sMessage
 simp only [rr_assoc]
end Gp
end
section
namespace Gp
open Go Go.Kx Gx
theorem kws:str [99,104,111,105,99,101]∈keywords∧str [108,111,111,112]∈keywords∧str [97,103,97,105,110]∈keywords∧str [112,97,114]∈keywords∧str [99,97,108,108]∈keywords∧str [111,114]∈keywords∧str [97,110,100]∈keywords∧str [109,101,115,115,97,103,101]∈keywords:=by
 unfold keywords
 refine ⟨?_,?_,?_,?_,?_,?_,?_,?_⟩<;>repeat (first | exact List.mem_cons_self .. | apply List.mem_cons_of_mem)
def tkB (b:List T20):List Tok:=[Mt [123]]++tkL b++[Mt [125]]
def tkZ (w last:List UInt8):List (List T20)→List Tok
 | []=>[]
 | b::l=>kwT (bif (l.isEmpty && !last.isEmpty) then last else w)++tkB b++tkZ w last l
theorem tkR_false (th:List Tok) (w last:List UInt8):∀ l,tkR false th w last l=Mt [125]::tkZ w last l
 | []=>by simp [tkR,tkZ]
 | b::l=>by
  simp only [tkR,tkZ,tkR_false th w last l,tkHead,cF,tkB]
  simp
theorem tkR_true (th:List Tok) (w last:List UInt8) (b:List T20) (l:List (List T20)):tkR true th w last (b::l)=th++tkB b++tkZ w last l:=by
 simp only [tkR,tkR_false,tkHead,cT,tkB]
 simp
def nxI:Tok→Bool:=fun t => !isT (str [111,114]) t && !isT (str [97,110,100]) t
def nxL:Tok→Bool:=fun t => !begT t && nxI t
theorem list_rd {item:Pm T20}:∀ (xs:List T20) (F:Nat) (acc:List T20),(∀ x∈xs,Re item (tkI x) x nxI∧∃ t r,tkI x=t::r∧begT t=true∧nxI t=true)→xs.length < F→Re (sList item F acc) (tkL xs) (acc++xs) nxL
 | [],F,acc,_,hF=>by
  obtain ⟨F,rfl⟩:∃ m,F=m+1:=⟨F-1,by simp at hF;omega⟩
  intro l n r hl hr
  simp only [tkL,List.nil_append,List.append_nil] at hl ⊢
  simp only [sList]
  rw [tk_drop,hl]
  unfold nxL at hr
  rw [Bool.and_eq_true,Bool.not_eq_true'] at hr
  rw [hr.1];rfl
 | x::xs,F,acc,h,hF=>by
  obtain ⟨F,rfl⟩:∃ m,F=m+1:=⟨F-1,by simp at hF;omega⟩
  obtain ⟨hx,t,r,e1,e2,e3⟩:=h x (List.mem_cons_self ..)
  have ih:=list_rd xs F (snoc acc x) (fun y hy=>h y (List.mem_cons_of_mem _ hy)) (by simp at hF;omega)
  have hb:=hx.bind (T:=fun x l m=>sList item F (snoc acc x) l m) ih (fun r hr=>by
   cases xs with
   | nil=>unfold nxL at hr;rw [Bool.and_eq_true] at hr;exact hr.2
   | cons y ys =>
    obtain ⟨_,t',r',f1,f2,f3⟩:=h y (by simp)
    show nxI (hdT (tkL (y::ys)++r))=true
    simp only [tkL,f1];exact f3)
  rw [e1,List.cons_append] at hb
  have:=Re.test (P:=begT) (A:=fun l n=>(item l n).bind fun x m=>sList item F (snoc acc x) l m) (C:=fun l n=>.ok acc n) true e2 hb
  exact this.eqT rfl (by simp only [tkL,e1];rfl) (by simp [snoc])
theorem close_nx:nxL (Mt [125])=true:=by
 unfold nxL nxI begT
 rw [isT_M,isT_M];rfl
theorem block_rd {items:Pm (List T20)} {b:List T20} (h:Re items (tkL b) b nxL):Re (sBlock items) (tkB b) b nT:=by
 have:=(Re.wants (isM [123])).bindT (T:=fun _ l n=>(items l n).bind fun x n=>(sWants (str [125]) l n).bind fun _ n=>.ok x n)
  (h.bindC (T:=fun x l n=>(sWants (str [125]) l n).bind fun _ n=>.ok x n) ((Re.wants (isM [125])).bindT (T:=fun _ _ n=>.ok b n) (Re.ret _ nT)) close_nx)
 exact this.eqT rfl (by simp [tkB]) rfl
theorem tkZ_map {w:List UInt8} (hw:w≠[]):∀ l:List (List T20),tkZ w [] l=(l.map fun b=>[Wt w]++tkB b).flatten
 | []=>rfl
 | b::l=>by
  have hk:kwT w=[Wt w]:=by cases w with | nil=>exact absurd rfl hw | cons c r=>rfl
  simp only [tkZ,List.isEmpty_nil,Bool.not_true,Bool.and_false,cF,hk,tkZ_map hw l,List.map_cons,List.flatten_cons]
theorem tkZ_last {w last:List UInt8} (hw:w≠[]) (hl:last≠[]):∀ (l:List (List T20)) (b:List T20),tkZ w last (l++[b])=(l.map fun b=>[Wt w]++tkB b).flatten++([Wt last]++tkB b)
 | [],b=>by
  have hk:kwT last=[Wt last]:=by cases last with | nil=>exact absurd rfl hl | cons c r=>rfl
  have he:last.isEmpty=false:=by cases last with | nil=>exact absurd rfl hl | cons c r=>rfl
  simp [tkZ,he,hk]
 | x::l,b=>by
  have hk:kwT w=[Wt w]:=by cases w with | nil=>exact absurd rfl hw | cons c r=>rfl
  have he:(l++[b]).isEmpty=false:=by cases l<;>rfl
  simp only [List.cons_append,tkZ,he,Bool.false_and,cF,hk,tkZ_last hw hl l b,List.map_cons,List.flatten_cons,aA]
theorem foldl_snoc' {α:Type} (xs acc:List α):xs.foldl (fun a x=>snoc a x) acc=acc++xs:=by
 have:=foldl_snoc (fun x:α=>x) xs acc
 rw [List.map_id'] at this;exact this
theorem branches_rd {block:Pm (List T20)} {b:List T20} {l:List (List T20)} (hb:∀ y∈b::l,Re block (tkB y) y nT) {who:ByteArray} {t:Int} {F:Nat} (hF:l.length < F) (ht:¬ t > 0) :
  Re (sBranches F block who t) (tkB b++tkZ orT [] l) ⟨2,who,[],str [],str [],t,b::l⟩ nxI:=by
 have hl:=loop_rd (s:=str [111,114]) (p:=block) (upd:=snoc) (t:=tkB) (v:=fun y=>y) (np:=nT) (nx:=nxI) (st:=Wt orT) (isW _) rfl (fun t ht=>⟨rfl,by unfold nxI at ht;rw [Bool.and_eq_true,Bool.not_eq_true'] at ht;exact ht.1⟩) l F [b] (fun y hy=>hb y (List.mem_cons_of_mem _ hy)) hF
 rw [foldl_snoc'] at hl
 have he:Re (sElse block who t ([b]++l)) [] ⟨2,who,[],str [],str [],t,b::l⟩ nxI:=by
  intro l' n r _ _
  unfold sElse
  rw [dF ht];rfl
 have:=(hb b (List.mem_cons_self ..)).bindT (T:=fun b l n=>(sLoop (str [111,114]) block snoc F [b] l n).bind fun bl n=>sElse block who t bl l n)
  (hl.bind (T:=fun bl l n=>sElse block who t bl l n) he (fun r hr=>hr))
 exact this.eqT rfl (by rw [tkZ_map (by simp)];simp) rfl
theorem branches_rd' {block:Pm (List T20)} {b c:List T20} {l:List (List T20)} (hb:∀ y∈b::(l++[c]),Re block (tkB y) y nT) {who:ByteArray} {t:Int} {F:Nat} (hF:l.length < F) (ht:t > 0) :
  Re (sBranches F block who t) (tkB b++tkZ orT elseT (l++[c])) ⟨2,who,[],str [],str [],t,b::(l++[c])⟩ nT:=by
 have hl:=loop_rd (s:=str [111,114]) (p:=block) (upd:=snoc) (t:=tkB) (v:=fun y=>y) (np:=nT) (nx:=nN [111,114]) (st:=Wt orT) (isW _) rfl (fun t ht=>⟨rfl,by simpa using ht⟩) l F [b] (fun y hy=>hb y (by
  rcases List.mem_cons.1 (List.mem_cons_of_mem b hy) with h | h
  ·rw [h];exact List.mem_cons_self ..
  ·exact List.mem_cons_of_mem _ (List.mem_append_left _ h))) hF
 rw [foldl_snoc'] at hl
 have he:Re (sElse block who t ([b]++l)) ([Wt elseT]++(tkB c++[])) ⟨2,who,[],str [],str [],t,b::(l++[c])⟩ nT:=by
  have:=(Re.wants (isW elseT)).bindT (T:=fun _ l' n=>(block l' n).bind fun c n=>.ok (⟨2,who,[],str [],str [],t,snoc ([b]++l) c⟩:T20) n)
   ((hb c (by simp)).bindT (T:=fun c _ n=>.ok (⟨2,who,[],str [],str [],t,snoc ([b]++l) c⟩:T20) n) (Re.ret _ nT))
  refine this.eqT ?_ rfl (by simp [snoc])
  funext l' n
  unfold sElse
  rw [dT ht];rfl
 have:=(hb b (List.mem_cons_self ..)).bindT (T:=fun b l n=>(sLoop (str [111,114]) block snoc F [b] l n).bind fun bl n=>sElse block who t bl l n)
  (hl.bindC (T:=fun bl l n=>sElse block who t bl l n) he (by show (!isT (str [111,114]) (Wt elseT))=true;rw [isT_W];rfl))
 exact this.eqT rfl (by rw [tkZ_last (by simp) (by simp)];simp) rfl
theorem ticks_rd {x:Int} (h0:1≤x) (h1:x≤1000):Re sTicks [Nt x] x nT:=by
 intro l n r hl hr
 unfold sTicks
 have ht:tk l n=Nt x:=by rw [tk_drop,hl];rfl
 have:((tk l n).Kind==2 && (decide ((tk l n).Value < 1) || decide ((tk l n).Value > 1000)))=false:=by
  rw [ht]
  show (true && (decide (x < 1) || decide (x > 1000)))=false
  rw [dF (by omega),dF (by omega)];rfl
 rw [this,cF]
 exact Re.num x l n r hl hr
theorem tkB_hd (b:List T20):∃ r,tkB b=Mt [123]::r:=⟨tkL b++[Mt [125]],by simp [tkB]⟩
theorem item_rd {F:Nat} {block:Pm (List T20)} (x:T20) (hP:ShP x) (hb:∀ y∈x.Blocks,Re block (tkB y) y nT) (hF:60≤F):Re (sItem F block) (tkI x) x nxI∧∃ t r,tkI x=t::r∧begT t=true∧nxI t=true:=by
 obtain ⟨kd,f,t,n,a,z,b⟩:=x
 unfold ShP at hP
 simp only at hP hb
 obtain ⟨k1,k2,k3,k4,k5,k6,k7,k8⟩:=kws
 have kwB:∀ k:List UInt8,(starters.any fun s=>eqStr s (mkB k))=true→nxI (Wt k)=true→begT (Wt k)=true∧nxI (Wt k)=true:=fun k h1 h2=>⟨by unfold begT;simp [h1],h2⟩
 have hst:∀ k:List UInt8,str k∈starters→(starters.any fun s=>eqStr s (mkB k))=true:=fun k h=>List.any_eq_true.2 ⟨str k,h,eqStr_refl _⟩
 have hnx:∀ k:List UInt8,(k==[111,114])=false→(k==[97,110,100])=false→nxI (Wt k)=true:=fun k h1 h2=>by unfold nxI;rw [isT_W,isT_W,h1,h2];rfl
 -- the tests of an item's first word
 have T1:∀ {ts:List Tok} {x:T20} {nx:Tok→Bool},Re (sChoice F block) ts x nx→Re (sItem F block) (Wt [99,104,111,105,99,101]::ts) x nx:=fun h=>Re.takeT (s:=str [99,104,111,105,99,101]) (isW _) h
 rcases hP with hP | hP | hP | hP | hP | hP
 ·-- a message
  obtain ⟨rfl,h1,h2,h3,rfl,rfl,h5⟩:=hP
  have hbn:b=[]:=List.length_eq_zero_iff.1 h5
  subst hbn
  have hw:=word_name h1
  have e:tkI ⟨1,f,t,n,str [],0,[]⟩=Wt (bs f)::([Mt [45,62]]++tkWords t++[Mt [58]]++tkPath n++[Mt [59]]):=by simp [tkI,tkSend]
  have hs:Re (sSend F) (Wt (bs f)::([Mt [45,62]]++tkWords t++[Mt [58]]++tkPath n++[Mt [59]])) ⟨1,f,t,n,str [],0,[]⟩ nT:=by
   have:=(Re.wordB h1).bindT (T:=fun f l n=>(sWants (str [45,62]) l n).bind fun _ n=>(sWords F l n).bind fun t n=>(sWants (str [58]) l n).bind fun _ n=>(sPath F l n).bind fun nm n=>(sWants (str [59]) l n).bind fun _ n=>.ok (⟨1,f,t,nm,str [],0,[]⟩:T20) n)
    ((Re.wants (isM [45,62])).bindT (T:=fun _ l n=>(sWords F l n).bind fun t n=>(sWants (str [58]) l n).bind fun _ n=>(sPath F l n).bind fun nm n=>(sWants (str [59]) l n).bind fun _ n=>.ok (⟨1,f,t,nm,str [],0,[]⟩:T20) n)
    ((words_rd h2 (F:=F) (by have:=h2.2.1;omega)).bindC (T:=fun t l n=>(sWants (str [58]) l n).bind fun _ n=>(sPath F l n).bind fun nm n=>(sWants (str [59]) l n).bind fun _ n=>.ok (⟨1,f,t,nm,str [],0,[]⟩:T20) n)
    ((Re.wants (isM [58])).bindT (T:=fun _ l n=>(sPath F l n).bind fun nm n=>(sWants (str [59]) l n).bind fun _ n=>.ok (⟨1,f,t,nm,str [],0,[]⟩:T20) n)
    ((path_rd h3 (F:=F) (by omega)).bindC (T:=fun nm l n=>(sWants (str [59]) l n).bind fun _ n=>.ok (⟨1,f,t,nm,str [],0,[]⟩:T20) n)
    ((Re.wants (isM [59])).bindT (T:=fun _ _ m=>.ok (⟨1,f,t,n,str [],0,[]⟩:T20) m) (Re.ret _ nT)) (by show (!isT (str [46]) (Mt [59]))=true;rw [isT_M];rfl))) (by show (!isT (str [44]) (Mt [58]))=true;rw [isT_M];rfl)))
   exact this.eqT rfl (by simp) rfl
  refine ⟨?_,Wt (bs f),_,e,?_,?_⟩
  ·rw [e]
   have h0:=Re.takeN (s:=str [99,104,111,105,99,101]) (A:=sChoice F block) (Re.takeN (s:=str [108,111,111,112]) (A:=fun l n=>(sPath F l n).bind fun nm n=>(block l n).bind fun b n=>.ok (⟨3,str [],[],nm,str [],0,[b]⟩:T20) n)
    (Re.takeN (s:=str [97,103,97,105,110]) (A:=fun l n=>(sPath F l n).bind fun nm n=>(sWants (str [59]) l n).bind fun _ n=>.ok (⟨4,str [],[],nm,str [],0,[]⟩:T20) n)
    (Re.takeN (s:=str [112,97,114]) (A:=fun l n=>(block l n).bind fun b n=>(sWants (str [97,110,100]) l n).bind fun _ n=>(block l n).bind fun c n=>(sLoop (str [97,110,100]) block snoc F [b,c] l n).bind fun bl n=>.ok (⟨5,str [],[],str [],str [],0,bl⟩:T20) n)
    (Re.takeN (s:=str [99,97,108,108]) (A:=sCall F) hs (word_not h1 k5)) (word_not h1 k4)) (word_not h1 k3)) (word_not h1 k2)) (word_not h1 k1)
   exact (h0:Re (sItem F block) _ _ nT).weak fun _ _=>rfl
  ·unfold begT
   rw [show isWord (Wt (bs f)).Text=true by show isWord (mkB (bs f))=true;rw [mkB_bs];exact h1];rfl
  ·unfold nxI
   rw [word_not h1 k6,word_not h1 k7];rfl
 ·-- a choice
  obtain ⟨rfl,h1,h2,rfl,rfl,h3,h4,h5,h6⟩:=hP
  have htn:t=[]:=List.length_eq_zero_iff.1 h2
  subst htn
  obtain ⟨b0,l,hbl⟩:∃ b0 l,b=b0::l:=by
   cases b with
   | nil=>simp at h5;omega
   | cons b0 l=>exact ⟨b0,l,rfl⟩
  subst hbl
  have hF':l.length < F:=by simp at h6;omega
  obtain ⟨rb,hrb⟩:=tkB_hd b0
  have hx:nxI (Wt [99,104,111,105,99,101])=true:=hnx _ rfl rfl
  have hbg:=kwB [99,104,111,105,99,101] (hst _ (by unfold starters;exact List.mem_cons_self ..)) hx
  by_cases hz:z > 0
  ·-- with a time limit
   obtain ⟨l',c,rfl⟩:∃ l' c,l=l'++[c]:=by
    rcases List.eq_nil_or_concat l with rfl | ⟨l',c,rfl⟩
    ·simp at h5;omega
    ·exact ⟨l',c,by rw [List.concat_eq_append]⟩
   have e:tkI ⟨2,f,[],str [],str [],z,b0::(l'++[c])⟩=Wt [99,104,111,105,99,101]::([Wt [97,116]]++([Wt (bs f)]++(Wt [119,105,116,104,105,110]::([Nt z]++(tkB b0++tkZ orT elseT (l'++[c])))))):=by
    simp only [tkI]
    show (bif decide (z > 0) then tkR true (tkWithin f z) orT elseT (b0::(l'++[c])) else _)=_
    rw [dT hz,cT,tkR_true]
    simp [tkWithin,tkChoice]
   refine ⟨?_,_,_,e,hbg.1,hbg.2⟩
   rw [e]
   have hbr:=branches_rd' (block:=block) (b:=b0) (c:=c) (l:=l') hb (who:=f) (t:=z) (F:=F) (by simp at hF';omega) hz
   have:=(Re.wants (isW [97,116])).bindT (T:=fun _ l n=>(sWord l n).bind fun who n=>bif isT (str [119,105,116,104,105,110]) (tk l n) then (sTicks l (n+1)).bind fun t n=>sBranches F block who t l n else sBranches F block who 0 l n)
    ((Re.wordB h1).bindT (T:=fun who l n=>bif isT (str [119,105,116,104,105,110]) (tk l n) then (sTicks l (n+1)).bind fun t n=>sBranches F block who t l n else sBranches F block who 0 l n)
    (Re.takeT (s:=str [119,105,116,104,105,110]) (A:=fun l n=>(sTicks l n).bind fun t n=>sBranches F block f t l n) (C:=sBranches F block f 0) (isW _) ((ticks_rd (by omega) h4).bindT (T:=fun t l n=>sBranches F block f t l n) hbr)))
   exact (T1 this).weak fun _ _=>rfl
  ·have hz0:z=0:=by omega
   subst hz0
   have e:tkI ⟨2,f,[],str [],str [],0,b0::l⟩=Wt [99,104,111,105,99,101]::([Wt [97,116]]++([Wt (bs f)]++(Mt [123]::(rb++tkZ orT [] l)))):=by
    simp only [tkI]
    show tkR true (tkChoice f) orT [] (b0::l)=_
    rw [tkR_true,hrb]
    simp [tkChoice]
   refine ⟨?_,_,_,e,hbg.1,hbg.2⟩
   rw [e]
   have hbr:=branches_rd (block:=block) (b:=b0) (l:=l) hb (who:=f) (t:=0) (F:=F) hF' hz
   rw [hrb,List.cons_append] at hbr
   have:=(Re.wants (isW [97,116])).bindT (T:=fun _ l n=>(sWord l n).bind fun who n=>bif isT (str [119,105,116,104,105,110]) (tk l n) then (sTicks l (n+1)).bind fun t n=>sBranches F block who t l n else sBranches F block who 0 l n)
    ((Re.wordB h1).bindT (T:=fun who l n=>bif isT (str [119,105,116,104,105,110]) (tk l n) then (sTicks l (n+1)).bind fun t n=>sBranches F block who t l n else sBranches F block who 0 l n)
    (Re.takeN (s:=str [119,105,116,104,105,110]) (A:=fun l n=>(sTicks l n).bind fun t n=>sBranches F block f t l n) hbr (by rw [isT_M];rfl)))
   exact T1 this
 ·-- a loop
  obtain ⟨rfl,rfl,h2,h3,rfl,rfl,h5⟩:=hP
  have htn:t=[]:=List.length_eq_zero_iff.1 h2
  subst htn
  obtain ⟨b0,hbl⟩:∃ b0,b=[b0]:=List.length_eq_one_iff.1 h5
  subst hbl
  obtain ⟨rb,hrb⟩:=tkB_hd b0
  have hx:nxI (Wt [108,111,111,112])=true:=hnx _ rfl rfl
  have hbg:=kwB [108,111,111,112] (hst _ (by unfold starters;repeat (first | exact List.mem_cons_self .. | apply List.mem_cons_of_mem))) hx
  have e:tkI ⟨3,str [],[],n,str [],0,[b0]⟩=Wt [108,111,111,112]::(tkPath n++(Mt [123]::(rb++[]))):=by
   simp only [tkI]
   show tkR true (tkLoop n) [] [] [b0]=_
   rw [tkR_true,hrb]
   simp [tkLoop,tkZ]
  refine ⟨?_,_,_,e,hbg.1,hbg.2⟩
  rw [e]
  have hbb:=(hb b0 (List.mem_cons_self ..)).bindT (T:=fun b _ m=>.ok (⟨3,str [],[],n,str [],0,[b]⟩:T20) m) (Re.ret _ nT)
  rw [hrb,List.cons_append] at hbb
  have:=Re.takeT (s:=str [108,111,111,112]) (A:=fun l n=>(sPath F l n).bind fun nm n=>(block l n).bind fun b n=>.ok (⟨3,str [],[],nm,str [],0,[b]⟩:T20) n)
   (C:=fun l n=>bif isT (str [97,103,97,105,110]) (tk l n) then (sPath F l (n+1)).bind fun nm n=>(sWants (str [59]) l n).bind fun _ n=>.ok ⟨4,str [],[],nm,str [],0,[]⟩ n
    else bif isT (str [112,97,114]) (tk l n) then (block l (n+1)).bind fun b n=>(sWants (str [97,110,100]) l n).bind fun _ n=>(block l n).bind fun c n=>(sLoop (str [97,110,100]) block snoc F [b,c] l n).bind fun bl n=>.ok ⟨5,str [],[],str [],str [],0,bl⟩ n
    else bif isT (str [99,97,108,108]) (tk l n) then sCall F l (n+1) else sSend F l n) (isW [108,111,111,112])
   ((path_rd h3 (F:=F) (by omega)).bindC (T:=fun nm l n=>(block l n).bind fun b n=>.ok (⟨3,str [],[],nm,str [],0,[b]⟩:T20) n) hbb (by show (!isT (str [46]) (Mt [123]))=true;rw [isT_M];rfl))
  have:=Re.takeN (s:=str [99,104,111,105,99,101]) (A:=sChoice F block) this (by rw [isT_W];rfl)
  exact (this:Re (sItem F block) _ _ nT).weak fun _ _=>rfl
 ·-- again
  obtain ⟨rfl,rfl,h2,h3,rfl,rfl,h5⟩:=hP
  have htn:t=[]:=List.length_eq_zero_iff.1 h2
  subst htn
  have hbn:b=[]:=List.length_eq_zero_iff.1 h5
  subst hbn
  have hx:nxI (Wt [97,103,97,105,110])=true:=hnx _ rfl rfl
  have hbg:=kwB [97,103,97,105,110] (hst _ (by unfold starters;repeat (first | exact List.mem_cons_self .. | apply List.mem_cons_of_mem))) hx
  have e:tkI ⟨4,str [],[],n,str [],0,[]⟩=Wt [97,103,97,105,110]::(tkPath n++([Mt [59]]++[])):=by simp [tkI,tkAgain]
  refine ⟨?_,_,_,e,hbg.1,hbg.2⟩
  rw [e]
  have:=Re.takeT (s:=str [97,103,97,105,110]) (A:=fun l n=>(sPath F l n).bind fun nm n=>(sWants (str [59]) l n).bind fun _ n=>.ok (⟨4,str [],[],nm,str [],0,[]⟩:T20) n)
   (C:=fun l n=>bif isT (str [112,97,114]) (tk l n) then (block l (n+1)).bind fun b n=>(sWants (str [97,110,100]) l n).bind fun _ n=>(block l n).bind fun c n=>(sLoop (str [97,110,100]) block snoc F [b,c] l n).bind fun bl n=>.ok ⟨5,str [],[],str [],str [],0,bl⟩ n
    else bif isT (str [99,97,108,108]) (tk l n) then sCall F l (n+1) else sSend F l n) (isW [97,103,97,105,110])
   ((path_rd h3 (F:=F) (by omega)).bindC (T:=fun nm l n=>(sWants (str [59]) l n).bind fun _ n=>.ok (⟨4,str [],[],nm,str [],0,[]⟩:T20) n) ((Re.wants (isM [59])).bindT (T:=fun _ _ m=>.ok (⟨4,str [],[],n,str [],0,[]⟩:T20) m) (Re.ret _ nT)) (by show (!isT (str [46]) (Mt [59]))=true;rw [isT_M];rfl))
  have:=Re.takeN (s:=str [99,104,111,105,99,101]) (A:=sChoice F block) (Re.takeN (s:=str [108,111,111,112]) (A:=fun l n=>(sPath F l n).bind fun nm n=>(block l n).bind fun b n=>.ok (⟨3,str [],[],nm,str [],0,[b]⟩:T20) n) this (by rw [isT_W];rfl)) (by rw [isT_W];rfl)
  exact (this:Re (sItem F block) _ _ nT).weak fun _ _=>rfl
 ·-- branches side by side
  obtain ⟨rfl,rfl,h2,rfl,rfl,rfl,h5,h6⟩:=hP
  have htn:t=[]:=List.length_eq_zero_iff.1 h2
  subst htn
  obtain ⟨b0,b1,l,hbl⟩:∃ b0 b1 l,b=b0::b1::l:=by
   cases b with
   | nil=>simp at h5
   | cons b0 l=>cases l with
    | nil=>simp at h5
    | cons b1 l=>exact ⟨b0,b1,l,rfl⟩
  subst hbl
  have hx:nxI (Wt parT)=true:=hnx _ rfl rfl
  have hbg:=kwB parT (hst _ (by unfold starters;repeat (first | exact List.mem_cons_self .. | apply List.mem_cons_of_mem))) hx
  have e:tkI ⟨5,str [],[],str [],str [],0,b0::b1::l⟩=Wt parT::(tkB b0++([Wt andT]++(tkB b1++((l.map fun b=>[Wt andT]++tkB b).flatten++[])))):=by
   simp only [tkI]
   show tkR true [Wt parT] andT [] (b0::b1::l)=_
   rw [tkR_true,tkZ_map (by simp)]
   simp
  refine ⟨?_,_,_,e,hbg.1,hbg.2⟩
  rw [e]
  have hl:=loop_rd (s:=str [97,110,100]) (p:=block) (upd:=snoc) (t:=tkB) (v:=fun y=>y) (np:=nT) (nx:=nxI) (st:=Wt andT) (isW _) rfl (fun t ht=>⟨rfl,by unfold nxI at ht;rw [Bool.and_eq_true,Bool.not_eq_true',Bool.not_eq_true'] at ht;exact ht.2⟩) l F [b0,b1] (fun y hy=>hb y (by simp [hy])) (by simp at h6;omega)
  rw [foldl_snoc'] at hl
  have:=Re.takeT (s:=str [112,97,114]) (A:=fun l n=>(block l n).bind fun b n=>(sWants (str [97,110,100]) l n).bind fun _ n=>(block l n).bind fun c n=>(sLoop (str [97,110,100]) block snoc F [b,c] l n).bind fun bl n=>.ok (⟨5,str [],[],str [],str [],0,bl⟩:T20) n)
   (C:=fun l n=>bif isT (str [99,97,108,108]) (tk l n) then sCall F l (n+1) else sSend F l n) (isW [112,97,114])
   ((hb b0 (by simp)).bindT (T:=fun b l n=>(sWants (str [97,110,100]) l n).bind fun _ n=>(block l n).bind fun c n=>(sLoop (str [97,110,100]) block snoc F [b,c] l n).bind fun bl n=>.ok (⟨5,str [],[],str [],str [],0,bl⟩:T20) n)
   ((Re.wants (isW [97,110,100])).bindT (T:=fun _ l n=>(block l n).bind fun c n=>(sLoop (str [97,110,100]) block snoc F [b0,c] l n).bind fun bl n=>.ok (⟨5,str [],[],str [],str [],0,bl⟩:T20) n)
   ((hb b1 (by simp)).bindT (T:=fun c l n=>(sLoop (str [97,110,100]) block snoc F [b0,c] l n).bind fun bl n=>.ok (⟨5,str [],[],str [],str [],0,bl⟩:T20) n)
   (hl.bind (T:=fun bl _ n=>.ok (⟨5,str [],[],str [],str [],0,bl⟩:T20) n) (Re.ret _ nxI) (fun r hr=>hr)))))
  exact Re.takeN (s:=str [99,104,111,105,99,101]) (A:=sChoice F block) (Re.takeN (s:=str [108,111,111,112]) (A:=fun l n=>(sPath F l n).bind fun nm n=>(block l n).bind fun b n=>.ok (⟨3,str [],[],nm,str [],0,[b]⟩:T20) n)
   (Re.takeN (s:=str [97,103,97,105,110]) (A:=fun l n=>(sPath F l n).bind fun nm n=>(sWants (str [59]) l n).bind fun _ n=>.ok (⟨4,str [],[],nm,str [],0,[]⟩:T20) n) this (by rw [isT_W];rfl)) (by rw [isT_W];rfl)) (by rw [isT_W];rfl)
 ·-- a call
  obtain ⟨rfl,rfl,h2,h3,h4,rfl,h5⟩:=hP
  have hbn:b=[]:=List.length_eq_zero_iff.1 h5
  subst hbn
  have hx:nxI (Wt [99,97,108,108])=true:=hnx _ rfl rfl
  have hbg:=kwB [99,97,108,108] (hst _ (by unfold starters;repeat (first | exact List.mem_cons_self .. | apply List.mem_cons_of_mem))) hx
  have e:tkI ⟨6,str [],t,n,a,0,[]⟩=Wt [99,97,108,108]::([Wt (bs n)]++([Mt [40]]++(tkWords t++(Mt [41]::([Wt [97,115]]++([Wt (bs a)]++([Mt [59]]++[]))))))):=by simp [tkI,tkCall]
  refine ⟨?_,_,_,e,hbg.1,hbg.2⟩
  rw [e]
  have hc:=(Re.wordB h3).bindT (T:=fun nm l n=>(sWants (str [40]) l n).bind fun _ n=>(sWords F l n).bind fun t n=>(sWants (str [41]) l n).bind fun _ n=>(sWants (str [97,115]) l n).bind fun _ n=>(sWord l n).bind fun a n=>(sWants (str [59]) l n).bind fun _ n=>.ok (⟨6,str [],t,nm,a,0,[]⟩:T20) n)
   ((Re.wants (isM [40])).bindT (T:=fun _ l m=>(sWords F l m).bind fun t m=>(sWants (str [41]) l m).bind fun _ m=>(sWants (str [97,115]) l m).bind fun _ m=>(sWord l m).bind fun a m=>(sWants (str [59]) l m).bind fun _ m=>.ok (⟨6,str [],t,n,a,0,[]⟩:T20) m)
   ((words_rd h2 (F:=F) (by have:=h2.2.1;omega)).bindC (T:=fun t l m=>(sWants (str [41]) l m).bind fun _ m=>(sWants (str [97,115]) l m).bind fun _ m=>(sWord l m).bind fun a m=>(sWants (str [59]) l m).bind fun _ m=>.ok (⟨6,str [],t,n,a,0,[]⟩:T20) m)
   ((Re.wants (isM [41])).bindT (T:=fun _ l m=>(sWants (str [97,115]) l m).bind fun _ m=>(sWord l m).bind fun a m=>(sWants (str [59]) l m).bind fun _ m=>.ok (⟨6,str [],t,n,a,0,[]⟩:T20) m)
   ((Re.wants (isW [97,115])).bindT (T:=fun _ l m=>(sWord l m).bind fun a m=>(sWants (str [59]) l m).bind fun _ m=>.ok (⟨6,str [],t,n,a,0,[]⟩:T20) m)
   ((Re.wordB h4).bindT (T:=fun a l m=>(sWants (str [59]) l m).bind fun _ m=>.ok (⟨6,str [],t,n,a,0,[]⟩:T20) m)
   ((Re.wants (isM [59])).bindT (T:=fun _ _ m=>.ok (⟨6,str [],t,n,a,0,[]⟩:T20) m) (Re.ret _ nT))))) (by show (!isT (str [44]) (Mt [41]))=true;rw [isT_M];rfl)))
  have:=Re.takeT (s:=str [99,97,108,108]) (A:=sCall F) (C:=sSend F) (isW [99,97,108,108]) hc
  have:=Re.takeN (s:=str [99,104,111,105,99,101]) (A:=sChoice F block) (Re.takeN (s:=str [108,111,111,112]) (A:=fun l n=>(sPath F l n).bind fun nm n=>(block l n).bind fun b n=>.ok (⟨3,str [],[],nm,str [],0,[b]⟩:T20) n)
   (Re.takeN (s:=str [97,103,97,105,110]) (A:=fun l n=>(sPath F l n).bind fun nm n=>(sWants (str [59]) l n).bind fun _ n=>.ok (⟨4,str [],[],nm,str [],0,[]⟩:T20) n)
   (Re.takeN (s:=str [112,97,114]) (A:=fun l n=>(block l n).bind fun b n=>(sWants (str [97,110,100]) l n).bind fun _ n=>(block l n).bind fun c n=>(sLoop (str [97,110,100]) block snoc F [b,c] l n).bind fun bl n=>.ok (⟨5,str [],[],str [],str [],0,bl⟩:T20) n) this (by rw [isT_W];rfl)) (by rw [isT_W];rfl)) (by rw [isT_W];rfl)) (by rw [isT_W];rfl)
  exact (this:Re (sItem F block) _ _ nT).weak fun _ _=>rfl
end Gp
end
section
namespace Gp
open Go Go.Kx Gx
theorem zL_in:∀ {l:List T20} {x},x∈l→zI x≤zL l
 | y::l,x,h=>by
  simp only [zL]
  rcases List.mem_cons.1 h with rfl | h
  ·omega
  ·have:=zL_in h;omega
theorem zLL_in:∀ {l:List (List T20)} {x},x∈l→zL x+1≤zLL l
 | y::l,x,h=>by
  simp only [zLL]
  rcases List.mem_cons.1 h with rfl | h
  ·omega
  ·have:=zLL_in h;omega
theorem zI_eq (x:T20):zI x=x.To.length+pz x.Name+zLL x.Blocks+1:=by cases x;simp only [zI]
mutual
theorem zb_I:∀ x,shI x→zI x≤17 * cIz x
 | ⟨kd,f,t,n,a,x,b⟩,hs=>by
  simp only [shI] at hs
  obtain ⟨hP,hsb⟩:=hs
  have h1:=zb_LL b hsb
  have h2:t.length≤6∧n.size≤50∧b.length≤8:=by
   unfold ShP at hP
   simp only at hP
   rcases hP with hP | hP | hP | hP | hP | hP
   ·have:=path_len hP.2.2.2.1;have:=hP.2.2.1.2.1;rw [size_bs];omega
   ·rw [hP.2.2.2.1];exact ⟨by omega,by decide,by omega⟩
   ·have:=path_len hP.2.2.2.1;rw [size_bs];omega
   ·have:=path_len hP.2.2.2.1;rw [size_bs];omega
   ·rw [hP.2.2.2.1];exact ⟨by omega,by decide,by omega⟩
   ·have:=word_len hP.2.2.2.1;have:=hP.2.2.1.2.1;rw [size_bs];omega
  simp only [zI,cIz,pz]
  omega
theorem zb_L:∀ l,shL l→zL l≤17 * cL l
 | [],_=>by simp [zL,cL]
 | x::l,hs=>by
  simp only [shL] at hs
  have:=zb_I x hs.1;have:=zb_L l hs.2
  simp only [zL,cL];omega
theorem zb_LL:∀ l,shLL l→zLL l≤l.length+17 * cLL l
 | [],_=>by simp [zLL,cLL]
 | x::l,hs=>by
  simp only [shLL] at hs
  have:=zb_L x hs.1;have:=zb_LL l hs.2
  simp only [zLL,cLL,List.length_cons];omega
end
theorem items_rd:∀ (F:Nat) (xs:List T20),shL xs→zL xs+102≤F→Re (sItems F) (tkL xs) xs nxL
 | 0,xs,_,h=>by omega
 | F+1,xs,hs,h=>by
  have hl:=zL_len xs
  have:=list_rd (item:=sItem F (sBlock (sItems F))) xs F [] (fun x hx=>by
   have hsx:=shL_mem hs hx
   rw [shI_eq] at hsx
   have hz:=zL_in hx
   rw [zI_eq] at hz
   exact item_rd x hsx.1 (fun y hy=>block_rd (items_rd F y (shLL_mem hsx.2 hy) (by have:=zLL_in hy;omega))) (by omega)) (by omega)
  exact this.eqT rfl rfl rfl
theorem beg_msg {t:Tok} (h:begT t=true):isT (str [109,101,115,115,97,103,101]) t=false:=by
 cases hi:isT (str [109,101,115,115,97,103,101]) t with
 | false=>rfl
 | true =>
  exfalso
  unfold isT at hi
  rw [Bool.and_eq_true] at hi
  have ht:=(eqStr_iff _ _).1 hi.2
  unfold begT at h
  rw [ht,Bool.and_eq_true,Bool.or_eq_true] at h
  rcases h.2 with h | h
  ·have h1:=word_not (s:=str [109,101,115,115,97,103,101]) h kws.2.2.2.2.2.2.2
   rw [bs_str,isW] at h1;cases h1
  ·rw [starters_map] at h
   have:=any_mk [[99,104,111,105,99,101],[108,111,111,112],[97,103,97,105,110],[112,97,114],[99,97,108,108]] [109,101,115,115,97,103,101]
   rw [show (([[99,104,111,105,99,101],[108,111,111,112],[97,103,97,105,110],[112,97,114],[99,97,108,108]]:List (List UInt8)).map mkB).any (fun k=>eqStr k (str [109,101,115,115,97,103,101]))=_ from this] at h
   exact absurd h (by decide)
theorem items_hd (F:Nat) (xs:List T20) (hs:shL xs) (hz:zL xs+102≤F) (r:List Tok):isT (str [109,101,115,115,97,103,101]) (hdT (tkL xs++Mt [125]::r))=false:=by
 cases xs with
 | nil=>show isT _ (Mt [125])=false;rw [isT_M];rfl
 | cons x l =>
  have hsx:=shL_mem hs (List.mem_cons_self ..)
  rw [shI_eq] at hsx
  have hz':=zL_in (l:=x::l) (List.mem_cons_self ..)
  rw [zI_eq] at hz'
  obtain ⟨_,t,r',e1,e2,_⟩:=item_rd (F:=F) (block:=sBlock (sItems F)) x hsx.1 (fun y hy=>block_rd (items_rd F y (shLL_mem hsx.2 hy) (by have:=zLL_in hy;omega))) (by omega)
  simp only [tkL]
  rw [e1]
  exact beg_msg e2
theorem msgs_map (l:List T21):(l.map tkMsg).flatten=(l.map fun m=>[Wt [109,101,115,115,97,103,101]]++tkMsg' m).flatten:=by
 congr 1
 exact List.map_congr_left fun m _=>tkMsg_eq m
theorem prot_rd {p:T22} (h:ProtP p):Re (sProtocol 8200) (tkProt p) p nT:=by
 obtain ⟨h1,h2,h3,h4,h5,h6,h7⟩:=h
 have hz:=zb_L p.Body h4
 have hit:=items_rd 8200 p.Body h4 (by omega)
 have hms:=loop_rd (s:=str [109,101,115,115,97,103,101]) (p:=sMessage 8200) (upd:=snoc) (t:=tkMsg') (v:=fun m=>m) (np:=nT) (nx:=nN [109,101,115,115,97,103,101]) (st:=Wt [109,101,115,115,97,103,101]) (isW _) rfl (fun t ht=>⟨rfl,by simpa using ht⟩) p.Messages 8200 [] (fun m hm=>msg_rd (h7 m hm) (by omega)) (by omega)
 rw [foldl_snoc',List.nil_append] at hms
 have:=(Re.wants (isW [112,114,111,116,111,99,111,108])).bindT (T:=fun _ l n=>(sWord l n).bind fun nm n=>(sWants (str [40]) l n).bind fun _ n=>(sWords 8200 l n).bind fun rs n=>(sWants (str [41]) l n).bind fun _ n=>(sWants (str [123]) l n).bind fun _ n=>(sLoop (str [109,101,115,115,97,103,101]) (sMessage 8200) snoc 8200 [] l n).bind fun ms n=>(sItems 8200 l n).bind fun b n=>(sWants (str [125]) l n).bind fun _ n=>.ok (⟨nm,rs,ms,b⟩:T22) n)
  ((Re.wordB h1).bindT (T:=fun nm l n=>(sWants (str [40]) l n).bind fun _ n=>(sWords 8200 l n).bind fun rs n=>(sWants (str [41]) l n).bind fun _ n=>(sWants (str [123]) l n).bind fun _ n=>(sLoop (str [109,101,115,115,97,103,101]) (sMessage 8200) snoc 8200 [] l n).bind fun ms n=>(sItems 8200 l n).bind fun b n=>(sWants (str [125]) l n).bind fun _ n=>.ok (⟨nm,rs,ms,b⟩:T22) n)
  ((Re.wants (isM [40])).bindT (T:=fun _ l n=>(sWords 8200 l n).bind fun rs n=>(sWants (str [41]) l n).bind fun _ n=>(sWants (str [123]) l n).bind fun _ n=>(sLoop (str [109,101,115,115,97,103,101]) (sMessage 8200) snoc 8200 [] l n).bind fun ms n=>(sItems 8200 l n).bind fun b n=>(sWants (str [125]) l n).bind fun _ n=>.ok (⟨p.Name,rs,ms,b⟩:T22) n)
  ((words_rd h2 (F:=8200) (by have:=h2.2.1;omega)).bindC (T:=fun rs l n=>(sWants (str [41]) l n).bind fun _ n=>(sWants (str [123]) l n).bind fun _ n=>(sLoop (str [109,101,115,115,97,103,101]) (sMessage 8200) snoc 8200 [] l n).bind fun ms n=>(sItems 8200 l n).bind fun b n=>(sWants (str [125]) l n).bind fun _ n=>.ok (⟨p.Name,rs,ms,b⟩:T22) n)
  ((Re.wants (isM [41])).bindT (T:=fun _ l n=>(sWants (str [123]) l n).bind fun _ n=>(sLoop (str [109,101,115,115,97,103,101]) (sMessage 8200) snoc 8200 [] l n).bind fun ms n=>(sItems 8200 l n).bind fun b n=>(sWants (str [125]) l n).bind fun _ n=>.ok (⟨p.Name,p.Roles,ms,b⟩:T22) n)
  ((Re.wants (isM [123])).bindT (T:=fun _ l n=>(sLoop (str [109,101,115,115,97,103,101]) (sMessage 8200) snoc 8200 [] l n).bind fun ms n=>(sItems 8200 l n).bind fun b n=>(sWants (str [125]) l n).bind fun _ n=>.ok (⟨p.Name,p.Roles,ms,b⟩:T22) n)
  (hms.bind (T:=fun ms l n=>(sItems 8200 l n).bind fun b n=>(sWants (str [125]) l n).bind fun _ n=>.ok (⟨p.Name,p.Roles,ms,b⟩:T22) n)
   (hit.bindC (T:=fun b l n=>(sWants (str [125]) l n).bind fun _ n=>.ok (⟨p.Name,p.Roles,p.Messages,b⟩:T22) n)
    ((Re.wants (isM [125])).bindT (T:=fun _ _ n=>.ok (⟨p.Name,p.Roles,p.Messages,p.Body⟩:T22) n) (Re.ret _ nT)) close_nx)
   (fun r hr=>by
    show (!isT (str [109,101,115,115,97,103,101]) _)=true
    rw [aA]
    show (!isT (str [109,101,115,115,97,103,101]) (hdT (tkL p.Body++Mt [125]::r)))=true
    rw [items_hd 8200 p.Body h4 (by omega) r];rfl)))) (by show (!isT (str [44]) (Mt [41]))=true;rw [isT_M];rfl))))
 refine this.eqT rfl ?_ rfl
 unfold tkProt
 rw [msgs_map]
 simp
theorem parse_rd:∀ (ps:List T22) (l:List Tok) (G n:Nat) (acc:List T22),(∀ p∈ps,ProtP p)→l.drop n=tkSrc ps→ps.length < G→sParse 8200 G acc l n=.ok (acc++ps) (n+(tkSrc ps).length)
 | [],l,G,n,acc,_,hl,hG=>by
  obtain ⟨G,rfl⟩:∃ m,G=m+1:=⟨G-1,by simp at hG;omega⟩
  have:l.length≤n:=by simpa [tkSrc] using hl
  simp only [sParse]
  rw [dF (by omega)]
  simp [tkSrc]
 | p::ps,l,G,n,acc,h,hl,hG=>by
  obtain ⟨G,rfl⟩:∃ m,G=m+1:=⟨G-1,by simp at hG;omega⟩
  have e:tkSrc (p::ps)=tkProt p++tkSrc ps:=rfl
  rw [e] at hl
  have hlt:n < l.length:=by
   rcases Nat.lt_or_ge n l.length with h | h
   ·exact h
   ·rw [List.drop_of_length_le h] at hl
    have:=congrArg List.length hl
    unfold tkProt at this
    simp at this
  simp only [sParse]
  rw [dT hlt,cT,prot_rd (h p (List.mem_cons_self ..)) l n (tkSrc ps) hl rfl]
  show sParse 8200 G (snoc acc p) l (n+(tkProt p).length)=_
  rw [parse_rd ps l G _ (snoc acc p) (fun q hq=>h q (List.mem_cons_of_mem _ hq)) (drop_more hl) (by simp at hG;omega),e,lA,Nat.add_assoc]
  simp [snoc]
variable {N:Nat}
end Gp
end
section
namespace Gp
open Go Go.Kx Gx
variable {N:Nat}
theorem name_of {l:List T0} (hv:validD l=true) {i:Nat} {d:T0} (hi:l[i]? = some d):pathV d.Name=true∧d.Fields.length≤4∧∀ f∈d.Fields,isWord f.Name=true∧sortOk f.Sort':=by
 obtain ⟨_,_,_,_,_,h⟩:=valid_at hv hi
 unfold declV at h
 simp only [Bool.and_eq_true,decide_eq_true_eq] at h
 obtain ⟨h1,h2,_,_,h3,_⟩:=h
 refine ⟨h1,h2,fun f hf=>?_⟩
 rw [allV_iff] at h3
 obtain ⟨j,hj⟩:=List.mem_iff_getElem?.1 hf
 have:=h3 j f hj
 unfold fieldV at this
 simp only [Bool.and_eq_true,decide_eq_true_eq] at this
 exact ⟨this.1,this.2.1⟩
theorem path_ne {s:ByteArray} (h:pathV s=true):s≠str []:=by
 intro e
 rw [e] at h
 revert h;decide
theorem eqStr_ne {s:ByteArray} (h:s≠str []):eqStr s (str [])=false:=by
 cases hb:eqStr s (str []) with
 | false=>rfl
 | true=>exact absurd ((eqStr_iff _ _).1 hb) h
def tmk (k:Int) (d:T0) (f:T4) (n:Int):T23:=⟨k,d.Name,f.Name,n⟩
def knd (f:T4):Int:=bif f.Sort'.Kind==2 then 3 else 2
theorem var_own (hN:4194304 < N) {l:List T0} (hl:l.length≤1000) (hv:validD l=true) {x:Int} (h0:0≤x) (h1:x < ((flat l).length:Int)) :
  ∃ d f,(pathV d.Name=true∧isWord f.Name=true)∧z50 N l x=some (mkB (bs d.Name++[46]++bs f.Name))∧z107 N l x=some (mkB (termT (tmk (knd f) d f 0)))∧(bs d.Name++[46]++bs f.Name).length≤100∧(termT (tmk (knd f) d f 0)).length≤200:=by
 have hfl:(flat l).length≤4194304:=by have:=(valid_len hv).2;omega
 obtain ⟨k,rfl⟩:=Int.eq_ofNat_of_zero_le h0
 obtain ⟨i,d,j,f,hi,hj,hx⟩:=flat_find l k (by omega)
 have hil:=(List.getElem?_eq_some_iff.1 hi).1
 have e1:=var_loop l (by omega) hfl hi hj i N 0 (by omega) (by omega)
 rw [show (flat (l.take i)).length+j-(flat (l.take 0)).length=k by simp [flat] at *;omega] at e1
 have e1:z108 N l (k:Int)=some (d,f,true):=e1
 obtain ⟨p1,_,p2⟩:=name_of hv hi
 have p2:=(p2 f (List.mem_of_getElem? hj)).1
 have n1:=path_len p1
 have n2:=word_len p2
 have e3:z50 N l (k:Int)=some (mkB (bs d.Name++[46]++bs f.Name)):=by
  unfold z50
  rw [e1]
  simp only [bS]
  rw [show str [46]=mkB [46] from rfl,cat_bs (by simp;omega),bS,cat_sb (by simp;omega)];rfl
 have hB:∀ k n,termB (tmk k d f n)=bs d.Name++[46]++bs f.Name:=fun k n=>by
  show (bif eqStr d.Name (str []) then bs f.Name else _)=_
  rw [eqStr_ne (path_ne p1)];rfl
 have hlen:(bs d.Name++[46]++bs f.Name).length≤100:=by simp only [lA,List.length_singleton];omega
 refine ⟨d,f,⟨p1,p2⟩,e3,?_,hlen,?_⟩
 ·unfold z107 termT
  rw [hB,e1]
  have e0:termN (tmk (knd f) d f 0)=[]:=rfl
  rw [e0]
  simp only [bS,knd,tmk]
  cases hk:(f.Sort'.Kind==2) with
  | true =>
   rw [cT,e3,bS,show str [108,101,110,40]=mkB [108,101,110,40] from rfl,show str [41]=mkB [41] from rfl,cat_mk (by simp;omega),bS,cat_mk (by simp;omega),bS,List.append_nil];rfl
  | false =>
   rw [cF,e3,bS,List.append_nil];rfl
 ·unfold termT
  rw [hB]
  have e0:termN (tmk (knd f) d f 0)=[]:=rfl
  rw [e0]
  simp only [knd,tmk]
  cases hk:(f.Sort'.Kind==2) with
  | true=>show ([108,101,110,40]++(bs d.Name++[46]++bs f.Name)++[41]++[]).length≤_;simp only [lA,List.length_cons,List.length_nil] at hlen ⊢;omega
  | false=>show (bs d.Name++[46]++bs f.Name++[]).length≤_;simp only [lA,List.length_cons,List.length_nil] at hlen ⊢;omega
theorem tm_ok {d:T0} {f:T4} (h:pathV d.Name=true∧isWord f.Name=true) {k n:Int} (hk:k=2∨k=3) (hn:Small n):TermP (tmk k d f n):=⟨hn,.inr ⟨hk,h.2,.inr h.1⟩⟩
theorem knd_ok (f:T4):knd f=2∨knd f=3:=by unfold knd;cases (f.Sort'.Kind==2)<;>simp
def cst (n:Int):T23:=⟨1,str [],str [],n⟩
theorem cst_ok {n:Int} (h:Small n):TermP (cst n):=⟨h,.inl ⟨rfl,rfl,rfl⟩⟩
theorem mk_in {s:ByteArray} (h:s=str [60,61]∨s=str [61,61]∨s=str [62,61]):s∈marksL:=by
 unfold marksL
 rcases h with rfl | rfl | rfl<;>simp
theorem tmk_N (k:Int) (d f n) (h:k=2∨k=3):termT (tmk k d f n)=termT (tmk k d f 0)++termN (tmk k d f n):=by
 have hk:(k==1)=false:=by rcases h with rfl | rfl<;>rfl
 have e0:termN (tmk k d f 0)=[]:=rfl
 unfold termT
 rw [e0]
 show (bif k==1 then _ else _)=(bif k==1 then _ else _)++_
 rw [hk,cF,cF,List.append_nil];rfl
theorem cst_T (n:Int):termT (cst n)=dig n:=rfl
theorem diff_own (hN:4194304 < N) {l:List T0} (hl:l.length≤1000) (hv:validD l=true) {d:T1} (h:diffOk ((flat l).length:Int) d) :
  ∃ a,AtomP a∧z49 N l d=some (mkB (atomT a)):=by
 obtain ⟨a1,a2,a3,a4,a5,a6⟩:=h
 have hc:I64 d.C:=⟨by omega,by omega⟩
 have hw:w64 (0-d.C)=-d.C:=by rw [w64_id (by omega) (by omega)];omega
 have hm:I64 (-d.C):=⟨by omega,by omega⟩
 have s1:Small d.C:=⟨by omega,by omega⟩
 have s2:Small (-d.C):=⟨by omega,by omega⟩
 have s0:Small 0:=⟨by omega,by omega⟩
 have l1:=itoa_bs d.C
 have l2:=itoa_bs (-d.C)
 unfold z49
 by_cases cX:d.X < 0
 ·rw [dT cX]
  by_cases cY:d.Y < 0
  ·rw [dT cY]
   simp only [cT]
   unfold z49_k1
   refine ⟨⟨cst 0,str [60,61],cst d.C⟩,⟨cst_ok s0,cst_ok s1,mk_in (.inl rfl)⟩,?_⟩
   rw [itoa_eq hc]
   simp only [cT,bS]
   rw [show str [48,32,60,61,32]=mkB [48,32,60,61,32] from rfl,cat_sb (by simp;omega)]
   rfl
  ·obtain ⟨e,f,p,_,t1,_,t2⟩:=var_own hN hl hv (x:=d.Y) (by omega) a4
   rw [dF cY]
   simp only [cT]
   unfold z49_k1
   refine ⟨⟨tmk (knd f) e f 0,str [62,61],cst (-d.C)⟩,⟨tm_ok p (knd_ok f) s0,cst_ok s2,mk_in (.inr (.inr rfl))⟩,?_⟩
   rw [dT cX,dF cY,hw,itoa_eq hm,t1]
   simp only [cT,cF,bS]
   rw [show str [32,62,61,32]=mkB [32,62,61,32] from rfl,cat_mk (by simp;omega)]
   simp only [bS]
   rw [cat_sb (by simp;omega),bS]
   unfold atomT
   simp only [cst_T,aA]
   rfl
 ·rw [dF cX]
  simp only [cF]
  unfold z49_k1
  obtain ⟨e,f,p,_,t1,_,t2⟩:=var_own hN hl hv (x:=d.X) (by omega) a2
  by_cases cY:d.Y < 0
  ·refine ⟨⟨tmk (knd f) e f 0,str [60,61],cst d.C⟩,⟨tm_ok p (knd_ok f) s0,cst_ok s1,mk_in (.inl rfl)⟩,?_⟩
   rw [dT cY,itoa_eq hc,t1]
   simp only [cT,cF,bS]
   rw [show str [32,60,61,32]=mkB [32,60,61,32] from rfl,cat_mk (by simp;omega)]
   simp only [bS]
   rw [cat_sb (by simp;omega),bS]
   unfold atomT
   simp only [cst_T,aA]
   rfl
  ·obtain ⟨e',f',p',_,t1',_,t2'⟩:=var_own hN hl hv (x:=d.Y) (by omega) a4
   refine ⟨⟨tmk (knd f) e f 0,str [60,61],tmk (knd f') e' f' d.C⟩,⟨tm_ok p (knd_ok f) s0,tm_ok p' (knd_ok f') s1,mk_in (.inl rfl)⟩,?_⟩
   rw [dF cX,dF cY,t1,t1']
   simp only [cF,bS]
   rw [show str [32,60,61,32]=mkB [32,60,61,32] from rfl,cat_mk (by simp;omega)]
   simp only [bS]
   rw [cat_mk (by simp;omega)]
   simp only [bS]
   unfold atomT
   simp only [tmk_N _ _ _ d.C (knd_ok f')]
   have eN:termN (tmk (knd f') e' f' d.C)=bif decide (d.C > 0) then [32,43,32]++dig d.C else bif decide (d.C < 0) then [32,45,32]++dig (0-d.C) else []:=rfl
   rw [eN]
   by_cases p1:d.C > 0
   ·rw [dT p1,itoa_eq hc]
    simp only [cT,bS]
    rw [show str [32,43,32]=mkB [32,43,32] from rfl,cat_mk (by simp;omega)]
    simp only [bS]
    rw [cat_sb (by simp;omega),bS]
    simp only [aA]
    rfl
   ·rw [dF p1]
    by_cases p2:d.C < 0
    ·rw [dT p2,hw,itoa_eq hm]
     simp only [cT,cF,bS]
     rw [show str [32,45,32]=mkB [32,45,32] from rfl,cat_mk (by simp;omega)]
     simp only [bS]
     rw [cat_sb (by simp;omega),bS,show (0:Int)-d.C=-d.C by omega]
     simp only [aA]
     rfl
    ·rw [dF p2]
     simp only [cF,List.append_nil,aA]
     rfl
end Gp
end
section
namespace Gp
open Go Go.Kx Gx
variable {N:Nat}
theorem bounds_own (hN:4194304 < N) {l:List T0} (hl:l.length≤1000) (hd:∀ x∈l,SizeD x) (hnm:∀ x∈l,NameD x) (hv:validD l=true) {k:Nat} {y:T0} (hg:l[k]? = some y) :
  ∃ r,z22 N l (k:Int)=some (r,0):=by
 have hk:=(List.getElem?_eq_some_iff.1 hg).1
 obtain ⟨r,er⟩:=bounds_some hN y (hd y (List.mem_of_getElem? hg))
 refine ⟨r,?_⟩
 unfold z22
 rw [valid_eq hN l (by omega) hd hnm,hv,dF (show ¬ ((k:Nat):Int) < 0 by omega),dF (show ¬ (k:Int)≥(l.length:Int) by omega),idx_nat,hg]
 simp only [bS,cF,Bool.not_true,er]
theorem atom_own (hN:4194304 < N) {l:List T0} (hl:l.length≤1000) (hd:∀ x∈l,SizeD x) (hnm:∀ x∈l,NameD x) (hv:validD l=true) {k:Nat} {y:T0} (hg:l[k]? = some y) {i:Nat} (hi:i < y.Guard.Diffs.length+y.Guard.Equals.length) :
  ∃ a,AtomP a∧z24 N l (k:Int) (i:Int)=some (mkB (atomT a)):=by
 obtain ⟨r,er⟩:=bounds_own hN hl hd hnm hv hg
 have hgv:guardV (flat l) y.Guard=true:=by
  obtain ⟨_,_,_,_,_,h2⟩:=valid_at hv hg
  exact guard_of h2
 have hin:=inG_of hgv
 have h1:=hin.dl
 have h2:=hin.el
 unfold z24
 rw [er]
 have e0:((0:Int) != 0)=false:=rfl
 simp only [bS,e0,cF]
 rw [dF (show ¬ ((i:Nat):Int) < 0 by omega),idx_nat,hg]
 simp only [bS,cF]
 by_cases c4:i < y.Guard.Diffs.length
 ·have hx:=List.getElem?_eq_getElem c4
  rw [lt_t c4,idx_nat,hx]
  obtain ⟨a,q1,q2⟩:=diff_own hN hl hv (diffOk_of hgv (List.mem_of_getElem? hx))
  simp only [cT,bS]
  exact ⟨a,q1,by rw [q2];rfl⟩
 ·rw [lt_f (by omega)]
  simp only [cF]
  have hw:w64 ((i:Int)-(y.Guard.Diffs.length:Int))=((i-y.Guard.Diffs.length:Nat):Int):=by rw [w64_id (by omega) (by omega)];omega
  rw [hw]
  have c5:i-y.Guard.Diffs.length < y.Guard.Equals.length:=by omega
  have hx:=List.getElem?_eq_getElem c5
  rw [lt_t c5,idx_nat,hx]
  obtain ⟨⟨a1,a2⟩,a3,a4⟩:=hin.e _ (List.mem_of_getElem? hx)
  obtain ⟨d,f,p,t1,_,b1,_⟩:=var_own hN hl hv a1 a2
  obtain ⟨d',f',p',t1',_,b1',_⟩:=var_own hN hl hv a3 a4
  have s0:Small 0:=⟨by omega,by omega⟩
  refine ⟨⟨tmk 2 d f 0,str [61,61],tmk 2 d' f' 0⟩,⟨tm_ok p (.inl rfl) s0,tm_ok p' (.inl rfl) s0,mk_in (.inr (.inl rfl))⟩,?_⟩
  simp only [cT,bS,t1,t1']
  rw [show str [32,61,61,32]=mkB [32,61,61,32] from rfl,cat_mk (by simp only [List.length_cons,List.length_nil];omega)]
  simp only [bS]
  rw [cat_mk (by simp only [lA,List.length_cons,List.length_nil] at b1 b1' ⊢;omega),bS]
  have hT:∀ {d:T0} {f:T4},pathV d.Name=true→termT (tmk 2 d f 0)=bs d.Name++[46]++bs f.Name:=fun {d f} h=>by
   show (bif eqStr d.Name (str []) then bs f.Name else bs d.Name++[46]++bs f.Name)++[]=_
   rw [eqStr_ne (path_ne h),List.append_nil];rfl
  unfold atomT
  rw [hT p.1,hT p'.1]
  simp only [aA]
  rfl
theorem decl_own (hN:4194304 < N) {l:List T0} (hl:l.length≤1000) (hd:∀ x∈l,SizeD x) (hnm:∀ x∈l,NameD x) (hv:validD l=true) {k:Nat} {y:T0} (hg:l[k]? = some y) :
  ∃ xs:List T19,xs.length=y.Guard.Diffs.length+y.Guard.Equals.length∧(∀ a∈xs,AtomP a)∧z7 N l (k:Int)=some (mkB (declL (bs y.Name) (y.Fields.map fieldL) (xs.map atomT))):=by
 have hgv:guardV (flat l) y.Guard=true:=by
  obtain ⟨_,_,_,_,_,h2⟩:=valid_at hv hg
  exact guard_of h2
 have hin:=inG_of hgv
 have h1:=hin.dl
 have h2:=hin.el
 have hmem:=List.mem_of_getElem? hg
 have hfl:=(valid_len hv).2
 have hfy:=fields_le hmem
 have hny:=(hnm y hmem).n
 have hfo:∀ f∈y.Fields,FieldOk f:=fun f hf=>by
  have hs:=sort_i64 ((name_of hv hg).2.2 f hf).2
  exact ⟨by rw [← size_bs];exact (hnm y hmem).f f hf,hs.1,hs.2⟩
 let T:=y.Guard.Diffs.length+y.Guard.Equals.length
 have hT:T≤40:=by show _+_≤_;omega
 have hw:w64 ((y.Guard.Diffs.length:Int)+(y.Guard.Equals.length:Int))=(T:Int):=by
  rw [w64_id (by omega) (by omega)];show _=((_+_:Nat):Int);omega
 have hA0:∀ i:Nat,∃ a:T19,i < T→AtomP a∧z24 N l (k:Int) (i:Int)=some (mkB (atomT a)):=fun i=>by
  by_cases hi:i < T
  ·obtain ⟨s,h⟩:=atom_own hN hl hd hnm hv hg (i:=i) hi
   exact ⟨s,fun _=>h⟩
  ·exact ⟨⟨cst 0,str [],cst 0⟩,fun h=>absurd h hi⟩
 let A:Nat→T19:=fun i=>(hA0 i).choose
 have hA:∀ i,i < T→AtomP (A i)∧z24 N l (k:Int) (i:Int)=some (mkB (atomT (A i))):=fun i hi=>(hA0 i).choose_spec hi
 have hAP:∀ a∈(List.range T).map A,AtomP a:=fun a ha=>by
  obtain ⟨i,hi,rfl⟩:=List.mem_map.1 ha
  exact (hA i (List.mem_range.1 hi)).1
 have hAl:∀ z∈((List.range T).map A).map atomT,z.length≤67108864:=fun z hz=>by
  obtain ⟨a,ha,rfl⟩:=List.mem_map.1 hz
  have:=atomT_len (hAP a ha)
  omega
 have hFl:∀ z∈y.Fields.map fieldL,z.length≤4000100:=fun z hz=>by
  obtain ⟨f,hf,rfl⟩:=List.mem_map.1 hz
  exact fieldL_len (hfo f hf)
 have hnb:(bs y.Name).length≤4000000:=by rw [← size_bs];exact hny
 refine ⟨(List.range T).map A,by simp;rfl,hAP,?_⟩
 obtain ⟨r,er⟩:=bounds_own hN hl hd hnm hv hg
 unfold z7
 rw [er]
 have e0:((0:Int) != 0)=false:=rfl
 simp only [bS,e0,cF]
 rw [idx_nat,hg,bS]
 have:=dfields_loop (N:=N) l (k:Int) y y.Fields N 0 [] rfl (by omega) (by omega) (by simp;omega) hfo
 rw [show (0:Int)=((0:Nat):Int) from rfl,this]
 unfold z7_k3
 have:=datoms_loop (N:=N) l (k:Int) y ([]++y.Fields.map fun f=>mkB (fieldL f)) (fun i=>atomT (A i)) T hT hw (fun i hi=>(hA i hi).2) T N 0 [] (by omega) (by omega) (by simp;omega) (by omega)
 rw [show (0:Int)=((0:Nat):Int) from rfl,this]
 have e1:([]++y.Fields.map fun f=>mkB (fieldL f))=(y.Fields.map fieldL).map mkB:=by simp
 have e2:([]++(List.range' 0 T).map fun i=>mkB (atomT (A i)))=(((List.range T).map A).map atomT).map mkB:=by simp [List.range_eq_range']
 rw [e1,e2]
 exact dk1_eq y _ _ hnb (by simp;omega) hFl (by simp;omega) hAl
theorem LX.dots:LX [32,46,46,32] [Mt [46,46]] pT:=(((LX.blank (b:=32) rfl).appT (LX.mark2 (m:=[46,46]) (by decide))).appT (LX.blank (b:=32) rfl)).eqT rfl rfl
theorem LX.fldX {f:T4} (h:FldP f):LX (fieldL f) (tkFld f) pI:=by
 unfold tkFld
 have hd:LX (bs f.Name++(bif f.Sort'.Kind==2 then [58,32,116,101,120,116,32] else [58,32,105,110,116,32])) ([Wt (bs f.Name)]++(bif f.Sort'.Kind==2 then [Mt [58],Wt [116,101,120,116]] else [Mt [58],Wt [105,110,116]])) pT:=by
  cases (f.Sort'.Kind==2) with
  | true=>exact (LX.word h.1).appC LX.colonT rfl
  | false=>exact (LX.word h.1).appC LX.colonI rfl
 refine (((hd.appT (LX.dig h.2.2.1)).appC LX.dots rfl).appT (LX.dig h.2.2.2.1)).eqT ?_ rfl
 unfold fieldL
 cases (f.Sort'.Kind==2)<;>simp [Gp.dig]
def msgX (y:T0) (xs:List T19):T21:=⟨y.Name,y.Fields,xs⟩
def protX (y:T0) (xs:List T19):T22:=⟨str [80],[str [65]],[msgX y xs],[]⟩
def headX:List UInt8:=[112,114,111,116,111,99,111,108,32,80,40,65,41,32,123,32,109,101,115,115,97,103,101,32]
def textX (y:T0) (xs:List T19):List UInt8:=headX++declL (bs y.Name) (y.Fields.map fieldL) (xs.map atomT)++[59,32,125]
theorem LX.headX:LX headX [Wt [112,114,111,116,111,99,111,108],Wt [80],Mt [40],Wt [65],Mt [41],Mt [123],Wt [109,101,115,115,97,103,101]] pT:=by
 have k1:LX ([112,114,111,116,111,99,111,108]++[32]) [Wt [112,114,111,116,111,99,111,108]] pT:=LX.kwR (kname _ _ rfl rfl rfl rfl)
 have k2:LX [80] [Wt [80]] pI:=LX.name (kname _ _ rfl rfl rfl rfl)
 have k3:LX [65] [Wt [65]] pI:=LX.name (kname _ _ rfl rfl rfl rfl)
 have k4:LX ([109,101,115,115,97,103,101]++[32]) [Wt [109,101,115,115,97,103,101]] pT:=LX.kwR (kname _ _ rfl rfl rfl rfl)
 exact ((((((((k1.appT k2).appC (LX.sign (x:=40) (by decide) (by decide) rfl) rfl).appT k3).appC (LX.sign (x:=41) (by decide) (by decide) rfl) rfl).appT LX.open').appT (LX.blank (b:=32) rfl)).appT k4)).eqT rfl rfl
theorem declL_wh (y:T0) (xs:List T19):declL (bs y.Name) (y.Fields.map fieldL) (xs.map atomT)=bs y.Name++[40]++joinL [44,32] (y.Fields.map fieldL)++[41]++whereT xs:=by
 unfold declL whereT
 cases xs with
 | nil=>rfl
 | cons a r=>rfl
theorem LX.textX {y:T0} {xs:List T19} (h:MsgP (msgX y xs)):LX (textX y xs) (tkProt (protX y xs)) pT:=by
 have hf:=LX.sep (g:=fieldL) (t:=tkFld) (sb:=[44,32]) (st:=[Mt [44]]) (c:=44) (sb':=[32]) rfl rfl y.Fields (fun f hf=>LX.fldX (h.2.2.2.1 f hf)) (fun f hf=>LX.comma.appT (LX.fldX (h.2.2.2.1 f hf)))
 have:=LX.wh (l:=xs) h.2.2.2.2 ((((LX.headX.appT (LX.path h.1)).appC (LX.sign (x:=40) (by decide) (by decide) rfl) rfl).appT hf).appC (LX.sign (x:=41) (by decide) (by decide) rfl) rfl)
 refine ((this.appT (LX.blank (b:=32) rfl)).appT LX.close).eqT ?_ ?_
 ·unfold Gp.textX
  rw [declL_wh]
  simp
  rfl
 ·unfold tkProt tkMsg Gp.protX Gp.msgX tkWords
  simp [sepK,tkL]
  exact ⟨rfl,rfl⟩
end Gp
end
section
namespace Gp
open Go Go.Kx Gx
variable {N:Nat}
theorem parse_own (hN:4210000 < N) (s:ByteArray):z9 N s=some (parseS s):=by
 have t1:=tokens_eq (N:=N) (by omega) s
 unfold z9 parseS
 cases ht:toksS s with
 | inl q =>
  obtain ⟨p,e⟩:=q
  rw [ht] at t1
  obtain ⟨h1,h2⟩:=t1
  have he:(e != 0)=true:=by simp [h1]
  rw [h2]
  simp only [bS,he,cT]
 | inr ts =>
  rw [ht] at t1
  obtain ⟨h1,h2,h3,h4⟩:=toksS_ok ht
  have t1:z26 N s=some (ts,0,0):=t1
  rw [t1]
  simp only [bS]
  rw [show ((0:Int) != 0)=false from rfl]
  simp only [cF]
  have p1:=parse_loop (l:=ts) (e:=(s.size:Int)) (N:=N) (by omega) h2 (F:=8200) (by omega) (by omega) (ts,0,0) rfl 8200 N [] 0 (by omega) (by simp) (Nat.zero_le _)
  cases hp:sParse 8200 8200 [] ts 0 with
  | ok ps m =>
   rw [hp] at p1
   have p1:z9_l2 N (ts,0,0) N [] ts 0 (s.size:Int) 0 0=_:=p1
   rw [p1]
   obtain ⟨q1,q2⟩:=parse_small ht hp
   have v1:=valid_dq (N:=N) (by omega) ps (by omega) (fun p hp=>(Zf.of (q2 p hp)).b)
   unfold z9_k1
   rw [show ((0:Int) != 0)=false from rfl]
   simp only [cF]
   by_cases hv:ValidP ps
   ·rw [v1.get hv,endR,fineR_pos hv];rfl
   ·rw [v1.getN hv,endR,fineR_neg hv];rfl
  | er k c =>
   rw [hp] at p1
   obtain ⟨hc,a1,p1⟩:=p1
   have p1:z9_l2 N (ts,0,0) N [] ts 0 (s.size:Int) 0 0=_:=p1
   rw [p1]
   unfold z9_k1
   have hc:(c != 0)=true:=by simp [hc]
   rw [hc]
   rfl
  | out=>exact absurd hp (parse_nm (F:=8200) (by omega) 8200 [] 0 (by omega) (Nat.zero_le _)).1
theorem small_of {f:T4} (h:isWord f.Name=true∧sortOk f.Sort'):FldP f:=by
 refine ⟨h.1,?_⟩
 rcases h.2 with ⟨k,h1,h2,h3⟩ | ⟨k,h1,h2,h3⟩
 ·exact ⟨.inl k,⟨by omega,by omega⟩,⟨by omega,by omega⟩,fun e=>by omega⟩
 ·exact ⟨.inr k,⟨by omega,by omega⟩,⟨by omega,by omega⟩,fun _=>⟨by omega,by omega⟩⟩
theorem msg_ok {l:List T0} (hv:validD l=true) {k:Nat} {y:T0} (hg:l[k]? = some y) {xs:List T19} (hx:xs.length≤6) (ha:∀ a∈xs,AtomP a):MsgP (msgX y xs):=by
 obtain ⟨h1,h2,h3⟩:=name_of hv hg
 exact ⟨h1,h2,hx,fun f hf=>small_of (h3 f hf),ha⟩
theorem prot_ok {y:T0} {xs:List T19} (h:MsgP (msgX y xs)):ValidP [protX y xs]:=by
 have hp:ProtP (protX y xs):=by
  refine ⟨by show isWord (str [80])=true;kernel_rfl,⟨by show 1≤1;omega,by show 1≤6;omega,fun w hw=>?_⟩,by show 1≤40;omega,by show shL [] ;simp only [shL],by show dL []≤10;simp only [dL];omega,by show cL []≤300;simp only [cL];omega,fun m hm=>?_⟩
  ·have:w=str [65]:=List.mem_singleton.1 hw
   subst this
   show isWord (str [65])=true
   kernel_rfl
  ·have:m=msgX y xs:=List.mem_singleton.1 hm
   subst this;exact h
 refine ⟨by simp,fun p hp'=>by rw [List.mem_singleton.1 hp'];exact hp,?_⟩
 have hm:=msgT_len h
 show ([protT (protX y xs)].flatten).length≤8000
 simp only [List.flatten_cons,List.flatten_nil,List.append_nil]
 unfold protT
 show (lineT 0 (protHead (protX y xs))++([msgLine (msgX y xs)].flatten)++xL 1 []++lineT 0 [125]).length≤8000
 have e1:(protHead (protX y xs)).length≤40:=by simp [protHead,protX,commaT,joinT,joinL,bs_str]
 simp only [lA,lineT_len,List.flatten_cons,List.flatten_nil,List.append_nil,xL,List.length_cons,List.length_nil,msgLine]
 omega
theorem fieldL_len' {f:T4} (h:FldP f):(fieldL f).length≤100:=by
 have h1:=word_len h.1
 have h2:=itoa_bs f.Sort'.Lo
 have h3:=itoa_bs f.Sort'.Hi
 unfold fieldL
 cases (f.Sort'.Kind==2)<;>simp<;>omega
theorem declL_len {y:T0} {xs:List T19} (h:MsgP (msgX y xs)):(declL (bs y.Name) (y.Fields.map fieldL) (xs.map atomT)).length≤4000:=by
 obtain ⟨h1,h2,h3,h4,h5⟩:=h
 have n1:=path_len h1
 have hF:∀ z∈y.Fields.map fieldL,z.length≤100:=fun z hz=>by
  obtain ⟨f,hf,rfl⟩:=List.mem_map.1 hz
  exact fieldL_len' (h4 f hf)
 have hA:∀ z∈xs.map atomT,z.length≤350:=fun z hz=>by
  obtain ⟨a,ha,rfl⟩:=List.mem_map.1 hz
  exact atomT_len (h5 a ha)
 have j1:=joinL_len (sep:=[44,32]) hF
 have j2:=joinL_len (sep:=[32,97,110,100,32]) hA
 simp only [List.length_map,List.length_cons,List.length_nil] at j1 j2
 have h2:y.Fields.length≤4:=h2
 have h3:xs.length≤6:=h3
 have n1:(bs y.Name).length≤50:=n1
 have g1:y.Fields.length * (100+(0+1+1))≤4 * 102:=Nat.mul_le_mul h2 (by decide)
 have g2:xs.length * (350+(0+1+1+1+1+1))≤6 * 355:=Nat.mul_le_mul h3 (by decide)
 unfold declL
 simp only [lA,List.length_cons,List.length_nil]
 cases hc:xs.map atomT with
 | nil=>simp only [List.length_nil];omega
 | cons a q =>
  rw [hc] at j2
  simp only [lA,List.length_cons,List.length_nil]
  omega
theorem parse_X {y:T0} {xs:List T19} (h:MsgP (msgX y xs)):parseS (mkB (textX y xs))=([protX y xs],0,0):=by
 have hv:=prot_ok h
 obtain ⟨us,v1,v2⟩:=LX.textX h [] 0 [] (by simp) (lexA_end rfl _)
 have u2:us.map strip=tkSrc [protX y xs]:=by rw [v2];simp [tkSrc]
 have u1:lexA (textX y xs) 0=.inr us:=by rw [← v1,List.append_nil]
 have hlen0:=declL_len h
 have hz:(mkB (textX y xs)).size≤8000:=by
  rw [size_bs,bs_mkB]
  unfold textX headX
  simp only [lA,List.length_cons,List.length_nil]
  omega
 have ht:toksS (mkB (textX y xs))=.inr us:=by rw [toks_lex hz,bs_mkB,u1]
 obtain ⟨q1,_⟩:=toksS_ok ht
 have hss:∀ l:List Tok,(l.map strip).map strip=l.map strip:=fun l=>by rw [List.map_map];rfl
 have hlen:(tkSrc [protX y xs]).length≤8000:=by rw [← u2,List.length_map];exact q1
 have h1:=parse_rd [protX y xs] (tkSrc [protX y xs]) 8200 0 [] hv.2.1 (by simp) (by simp)
 rw [List.nil_append] at h1
 have h2:=parse_alike (l:=tkSrc [protX y xs]) (l':=us) (by rw [← u2,hss]) hlen h1
 rw [parseS_inr ht,h2]
 exact fineR_pos hv
theorem parsed_law (hN:4210000 < N) (l:List T0) (label:Int) (hw:z4 N=some true) (hl:l.length≤4194304) (hd:∀ x∈l,SizeD x) (hnm:∀ x∈l,NameD x) (hfew:∃ b,z5 N l=some b):law43_ExplainParsed N l label=some true:=by
 obtain ⟨b,hb⟩:=hfew
 unfold law43_ExplainParsed
 rw [hw,hb]
 simp only [bS,Bool.not_true,cF]
 cases b with
 | false=>rfl
 | true =>
 simp only [Bool.not_true,cF]
 rw [refValid_eq (by omega) l hl hd hnm]
 simp only [bS]
 cases hv:validD l with
 | false=>rfl
 | true =>
 simp only [Bool.not_true,cF]
 by_cases c1:label < 0
 ·rw [dT c1];rfl
 rw [dF c1]
 by_cases c2:label≥(l.length:Int)
 ·rw [dT c2];rfl
 rw [dF c2]
 simp only [cF]
 obtain ⟨k,rfl⟩:=Int.eq_ofNat_of_zero_le (show 0≤label by omega)
 have hk:k < l.length:=by omega
 have hg:=List.getElem?_eq_getElem hk
 generalize hy:l[k]=y at hg
 have hl40:=(valid_len hv).1
 obtain ⟨xs,x1,x2,x3⟩:=decl_own (N:=N) (by omega) (by omega) hd hnm hv hg
 have hgv:guardV (flat l) y.Guard=true:=by
  obtain ⟨_,_,_,_,_,h2⟩:=valid_at hv hg
  exact guard_of h2
 have hin:=inG_of hgv
 have d1:=hin.dl
 have d2:=hin.el
 have hpp:z8 N y=some ((xs.length:Nat):Int):=by
  unfold z8
  rw [w64_id (by omega) (by omega),x1]
  congr 1
 rw [idx_nat,hg,bS,x3,bS,hpp,bS]
 obtain ⟨n1,n2,n3⟩:=name_of hv hg
 by_cases c6:(xs.length:Int) > 6
 ·rw [dT c6,cT]
  refine congrArg some (dT ?_)
  rw [size_bs,size_bs,bs_mkB]
  unfold declL
  simp only [lA,List.length_cons,List.length_nil]
  omega
 ·rw [dF c6,cF]
  have hm:=msg_ok hv hg (xs:=xs) (by omega) x2
  have hlen:=declL_len hm
  have e:(catS (str [112,114,111,116,111,99,111,108,32,80,40,65,41,32,123,32,109,101,115,115,97,103,101,32]) (mkB (declL (bs y.Name) (y.Fields.map fieldL) (xs.map atomT))))=some (mkB (headX++declL (bs y.Name) (y.Fields.map fieldL) (xs.map atomT))):=by
   have:=cat_mk (a:=headX) (b:=declL (bs y.Name) (y.Fields.map fieldL) (xs.map atomT)) (by unfold headX;simp only [List.length_cons,List.length_nil];omega)
   exact this
  have e2:catS (mkB (headX++declL (bs y.Name) (y.Fields.map fieldL) (xs.map atomT))) (str [59,32,125])=some (mkB (textX y xs)):=by
   have:=cat_mk (a:=headX++declL (bs y.Name) (y.Fields.map fieldL) (xs.map atomT)) (b:=[59,32,125]) (by unfold headX;simp only [lA,List.length_cons,List.length_nil];omega)
   exact this
  rw [e,bS,e2,bS,parse_own hN,parse_X hm,bS]
  have i0:idx [protX y xs] (0:Int)=some (protX y xs):=rfl
  have i1:idx (protX y xs).Messages (0:Int)=some (msgX y xs):=rfl
  have m1:(((protX y xs).Messages.length:Int) != 1)=false:=rfl
  have m2:(([protX y xs].length:Int) != 1)=false:=rfl
  rw [show ((0:Int) != 0)=false from rfl]
  simp only [cF,i0,i1,m1,m2,bS]
  have f1:((msgX y xs).Name.toList==y.Name.toList)=true:=(eqStr_iff _ _).2 rfl
  have f2:(((msgX y xs).Fields.length:Int) != (y.Fields.length:Int))=false:=by show ((y.Fields.length:Int) != (y.Fields.length:Int))=false;simp
  have f3:(((msgX y xs).Where.length:Int) != (xs.length:Int))=false:=by show ((xs.length:Int) != (xs.length:Int))=false;simp
  simp only [f1,f2,hpp,f3,bS,Bool.not_true,cF]
  have key:∀ (r:List T4) (j n:Nat),y.Fields.drop j=r→r.length < n→law43_ExplainParsed_l2 y (msgX y xs) n (j:Int)=some true:=by
   intro r
   induction r with
   | nil =>
    intro j n h hn
    obtain ⟨n,rfl⟩:∃ m,n=m+1:=⟨n-1,by simp at hn;omega⟩
    rw [law43_ExplainParsed_l2,lt_f (drop_nil h),cF];rfl
   | cons f r ih =>
    intro j n h hn
    obtain ⟨n,rfl⟩:∃ m,n=m+1:=⟨n-1,by simp at hn;omega⟩
    obtain ⟨a,c,d⟩:=drop_cons h
    have hx:idx (msgX y xs).Fields (j:Int)=some f:=by show idx y.Fields (j:Int)=_;rw [idx_nat,c]
    rw [law43_ExplainParsed_l2,lt_t a,cT,hx,idx_nat,c,bS,bS]
    have s1:(f.Name.toList==f.Name.toList)=true:=(eqStr_iff _ _).2 rfl
    simp only [s1,beq_self_eq_true,Bool.and_true,Bool.not_true,cF]
    rw [w64_succ (by omega)]
    exact ih (j+1) n d (by simp at hn;omega)
  exact key _ 0 N rfl (by rw [List.drop_zero];omega)
end Gp
end
section
namespace Gx
open Go Go.Kx
def k_api_Sort (x:T10):Prop:=((Lit.int .i64 x.Kind).wf=true)∧((Lit.int .i64 x.Lo).wf=true)∧((Lit.int .i64 x.Hi).wf=true)
def k_api_Field (x:T4):Prop:=(x.Name.size≤bd)∧(k_api_Sort x.Sort')
def k_api_Diff (x:T1):Prop:=((Lit.int .i64 x.X).wf=true)∧((Lit.int .i64 x.Y).wf=true)∧((Lit.int .i64 x.C).wf=true)
def k_api_Guard (x:T6):Prop:=(x.Diffs.length≤bd∧∀ y∈x.Diffs,k_api_Diff y)∧(x.Equals.length≤bd∧∀ y∈x.Equals,((Lit.int .i64 y.1).wf=true)∧((Lit.int .i64 y.2).wf=true))
def k_api_Decl (x:T0):Prop:=(x.Name.size≤bd)∧(x.Fields.length≤bd∧∀ y∈x.Fields,k_api_Field y)∧((Lit.int .i64 x.First).wf=true)∧(k_api_Guard x.Guard)
end Gx
end
section
namespace Gp
open Go Go.Kx Gx
set_option maxRecDepth 100000
theorem awake_some (k:Nat):z4 (k+300)=some true:=by kernel_rfl
theorem sizeD_of {x:T0} (h:k_api_Decl x):SizeD x:=by
 obtain ⟨_,h1,_,h2⟩:=h
 exact ⟨by have:=h1.1;unfold bd at this;omega,by have:=h2.1.1;unfold bd at this;omega,by have:=h2.2.1;unfold bd at this;omega⟩
theorem nameD_of {x:T0} (h:k_api_Decl x):NameD x:=by
 obtain ⟨h0,h1,_,h2⟩:=h
 exact ⟨by unfold bd at h0;omega,fun f hf=>by have:=(h1.2 f hf).1;unfold bd at this;omega⟩
theorem plain:∀ (x0:(List T0)) (x1:Int),(x0.length≤bd∧∀ y∈x0,k_api_Decl y)→((Lit.int .i64 x1).wf=true)→∃ N,law43_ExplainParsed N x0 x1=some true:=by
 intro l k hl hk
 have h0:l.length≤4194304:=by have:=hl.1;unfold bd at this;omega
 refine ⟨33554432+300,parsed_law (by omega) l k (awake_some _) h0 (fun x hx=>sizeD_of (hl.2 x hx)) (fun x hx=>nameD_of (hl.2 x hx)) ?_⟩
 obtain ⟨b,e,_⟩:=few_loop l h0 l (33554432+300) 0 0 rfl (by omega)
 exact ⟨b,e⟩
end Gp
end
