/- The plain law, part 2: what the functions compute answers as the statement says. -/
import Derived.Test.YteimgnlbpphmjaaGreatDoorSyntaxPrintPlain1
set_option linter.all false
section
namespace Gp
open Go Go.Kx Gx
def Rd (s:ByteArray) (a:Nat) (lx:Lx) (o:Option (T2 × Int × T3)):Prop :=
 match lx with
 | .ok k tx v n=>o=some (⟨k,mkB tx,v,0⟩,0,⟨s,((a+n:Nat):Int)⟩)
 | .er e=>e≠0∧∃ t c,o=some (t,e,c)
variable {N:Nat} (hN:4194304 < N)
theorem sidx_mid {s:ByteArray} {x y:List UInt8} {c:UInt8} (h:bs s=x++c::y) {i:Int} (hi:i=(x.length:Int)):sidx s i=some (c.toNat:Int):=by
 rw [hi,sidx_bs,h];simp
theorem inn_eq (N:Nat) (c:UInt8):z103 N (c.toNat:Int)=some (innB c):=inner_eq N _
theorem dig_eq (N:Nat) (c:UInt8):z54 N (c.toNat:Int)=some (digB c):=by
 unfold z54 digB
 cases decide (48≤(c.toNat:Int))<;>rfl
theorem let_eq (N:Nat) (c:UInt8):z52 N (c.toNat:Int)=some (letB c):=letter_eq N _
theorem takeI (s:ByteArray) (hs:s.size≤200000) (x:List UInt8):∀ (n:Nat) (u y:List UInt8),y.length < n→bs s=x++(u++y) →
  z102_0_l2 N ⟨s,(x.length:Int)⟩ n ((x.length+u.length:Nat):Int)=some (mkB (u++y.takeWhile innB),⟨s,((x.length+(u++y.takeWhile innB).length:Nat):Int)⟩):=by
 intro n
 induction n with
 | zero=>intro u y h;omega
 | succ n ih =>
  intro u y hn he
  have hsz:s.size=x.length+(u.length+y.length):=by rw [size_bs,he];simp
  have fin:z102_0_k1 ⟨s,(x.length:Int)⟩ ((x.length+u.length:Nat):Int)=some (mkB u,⟨s,((x.length+u.length:Nat):Int)⟩):=by
   unfold z102_0_k1
   show (ssl s (some (x.length:Int)) (some ((x.length+u.length:Nat):Int))).bind _=_
   rw [ssl_mid he rfl rfl];rfl
  unfold z102_0_l2
  cases y with
  | nil =>
   rw [show decide (((x.length+u.length:Nat):Int) < (((⟨s,(x.length:Int)⟩:T3).s').size:Int))=false by show decide (((x.length+u.length:Nat):Int) < (s.size:Int))=false;simp at hsz;simp;omega,cF,fin]
   simp
  | cons c l =>
   rw [show decide (((x.length+u.length:Nat):Int) < (((⟨s,(x.length:Int)⟩:T3).s').size:Int))=true by show decide (((x.length+u.length:Nat):Int) < (s.size:Int))=true;simp at hsz;simp;omega,cT]
   show (sidx s ((x.length+u.length:Nat):Int)).bind _=_
   rw [sidx_mid (x:=x++u) (c:=c) (y:=l) (by rw [he];simp) (by simp),bS,inn_eq,bS]
   simp only [List.length_cons] at hsz hn
   cases hc:innB c with
   | false=>rw [cF,fin,List.takeWhile_cons,hc];simp
   | true =>
    rw [cT,w64_succ (by omega)]
    have:=ih (u++[c]) l (by omega) (by rw [he];simp)
    rw [show x.length+u.length+1=x.length+(u++[c]).length by simp;omega,this,List.takeWhile_cons,hc]
    simp
theorem takeD (s:ByteArray) (hs:s.size≤200000) (x:List UInt8):∀ (n:Nat) (u y:List UInt8),y.length < n→bs s=x++(u++y) →
  z102_1_l2 N ⟨s,(x.length:Int)⟩ n ((x.length+u.length:Nat):Int)=some (mkB (u++y.takeWhile digB),⟨s,((x.length+(u++y.takeWhile digB).length:Nat):Int)⟩):=by
 intro n
 induction n with
 | zero=>intro u y h;omega
 | succ n ih =>
  intro u y hn he
  have hsz:s.size=x.length+(u.length+y.length):=by rw [size_bs,he];simp
  have fin:z102_1_k1 ⟨s,(x.length:Int)⟩ ((x.length+u.length:Nat):Int)=some (mkB u,⟨s,((x.length+u.length:Nat):Int)⟩):=by
   unfold z102_1_k1
   show (ssl s (some (x.length:Int)) (some ((x.length+u.length:Nat):Int))).bind _=_
   rw [ssl_mid he rfl rfl];rfl
  unfold z102_1_l2
  cases y with
  | nil =>
   rw [show decide (((x.length+u.length:Nat):Int) < (((⟨s,(x.length:Int)⟩:T3).s').size:Int))=false by show decide (((x.length+u.length:Nat):Int) < (s.size:Int))=false;simp at hsz;simp;omega,cF,fin]
   simp
  | cons c l =>
   rw [show decide (((x.length+u.length:Nat):Int) < (((⟨s,(x.length:Int)⟩:T3).s').size:Int))=true by show decide (((x.length+u.length:Nat):Int) < (s.size:Int))=true;simp at hsz;simp;omega,cT]
   show (sidx s ((x.length+u.length:Nat):Int)).bind _=_
   rw [sidx_mid (x:=x++u) (c:=c) (y:=l) (by rw [he];simp) (by simp),bS,dig_eq,bS]
   simp only [List.length_cons] at hsz hn
   cases hc:digB c with
   | false=>rw [cF,fin,List.takeWhile_cons,hc];simp
   | true =>
    rw [cT,w64_succ (by omega)]
    have:=ih (u++[c]) l (by omega) (by rw [he];simp)
    rw [show x.length+u.length+1=x.length+(u++[c]).length by simp;omega,this,List.takeWhile_cons,hc]
    simp
theorem let_inn {c:UInt8} (h:letB c=true):innB c=true:=by
 unfold letB at h;unfold innB innerV;rw [h];rfl
theorem dig_inn {c:UInt8} (h:digB c=true):innB c=true:=by
 unfold digB at h;unfold innB innerV;rw [h];simp
include hN in
theorem name_rd (s:ByteArray) (hs:s.size≤200000) (x l:List UInt8) (c:UInt8) (he:bs s=x++c::l) (hc:letB c=true) :
  Rd s x.length (bif decide ((l.takeWhile innB).length+1 > 16) then .er 6 else .ok 1 (c::l.takeWhile innB) 0 ((l.takeWhile innB).length+1)) (z53 N ⟨s,(x.length:Int)⟩):=by
 have hsz:s.size=x.length+(l.length+1):=by rw [size_bs,he];simp
 unfold z53 z102_0
 have:=takeI (N:=N) s hs x N [] (c::l) (by simp;omega) (by rw [he];simp)
 simp only [List.length_nil,Nat.add_zero,List.nil_append,List.takeWhile_cons,let_inn hc] at this
 show Rd _ _ _ ((z102_0_l2 N ⟨s,(x.length:Int)⟩ N (x.length:Int)).bind _)
 rw [this]
 simp only [bS,size_bs,bs_mkB,if_true,List.length_cons]
 by_cases h:(l.takeWhile innB).length+1 > 16
 ·rw [dT h,dT (by omega)]
  exact ⟨by decide,_,_,rfl⟩
 ·rw [dF h,dF (by omega)]
  rfl
theorem val_bound:∀ (l:List UInt8) (v:Int) (k:Nat),(∀ c∈l,digB c=true)→0≤v→v < ((10 ^ k:Nat):Int) →
  0≤l.foldl (fun v c=>10 * v+((c.toNat:Int)-48)) v∧l.foldl (fun v c=>10 * v+((c.toNat:Int)-48)) v < ((10 ^ (k+l.length):Nat):Int)
 | [],v,k,_,h1,h2=>⟨h1,h2⟩
 | c::l,v,k,h,h1,h2=>by
  have hc:=h c (by simp)
  unfold digB at hc
  simp only [Bool.and_eq_true,decide_eq_true_eq] at hc
  have:=val_bound l (10 * v+((c.toNat:Int)-48)) (k+1) (fun q hq=>h q (List.mem_cons_of_mem _ hq)) (by omega) (by rw [Nat.pow_succ];push_cast;push_cast at h2;omega)
  rw [List.foldl_cons,List.length_cons,show k+(l.length+1)=k+1+l.length by omega]
  exact this
theorem numL2 (s:ByteArray) (sc:T3) (d:List UInt8) (hd:∀ c∈d,digB c=true) (hl:d.length≤6):∀ (n:Nat) (u y:List UInt8),y.length < n→d=u++y →
  z55_l2 (mkB d,sc) n (valD u) (u.length:Int)=some (⟨2,str [],valD d,0⟩,0,sc):=by
 have bound:∀ u:List UInt8,(∀ c∈u,digB c=true)→u.length≤6→0≤valD u∧valD u < 1000000:=by
  intro u h h6
  have:=val_bound u 0 0 h (by omega) (by decide)
  have h2:(10 ^ (0+u.length):Nat)≤10 ^ 6:=Nat.pow_le_pow_right (by omega) (by omega)
  have e6:(10:Nat) ^ 6=1000000:=by decide
  unfold valD
  exact ⟨this.1,by omega⟩
 intro n
 induction n with
 | zero=>intro u y h;omega
 | succ n ih =>
  intro u y hn he
  unfold z55_l2
  show (bif decide ((u.length:Int) < ((mkB d).size:Int)) then _ else _)=_
  rw [size_bs,bs_mkB]
  cases y with
  | nil =>
   rw [List.append_nil] at he
   subst he
   rw [dF (by omega),cF];rfl
  | cons c y =>
   have hlen:d.length=u.length+(y.length+1):=by rw [he];simp
   rw [dT (by omega),cT]
   show (sidx (mkB d) (u.length:Int)).bind _=_
   rw [sidx_mid (x:=u) (c:=c) (y:=y) (by rw [bs_mkB,he]) rfl,bS]
   have hu:∀ q∈u,digB q=true:=fun q hq=>hd q (by rw [he];exact List.mem_append_left _ hq)
   obtain ⟨b1,b2⟩:=bound u hu (by omega)
   have hc:=hd c (by rw [he];simp)
   unfold digB at hc
   simp only [Bool.and_eq_true,decide_eq_true_eq] at hc
   have hw:wk .u8 ((c.toNat:Int)-48)=(c.toNat:Int)-48:=by
    show IntKind.u8.wrap _=_
    simp [IntKind.wrap,IntKind.signed,IntKind.bits]
    omega
   rw [hw,w64_id (n:=10 * valD u) (by omega) (by omega),w64_id (n:=(c.toNat:Int)-48) (by omega) (by omega),w64_id (by omega) (by omega),w64_succ (by omega)]
   have e:10 * valD u+((c.toNat:Int)-48)=valD (u++[c]):=by simp [valD]
   rw [e,show u.length+1=(u++[c]).length by simp]
   exact ih (u++[c]) y (by simp at hn;omega) (by rw [he];simp)
theorem takeWhile_all {α:Type} (p:α→Bool) (l:List α):∀ c∈l.takeWhile p,p c=true:=by
 intro c h
 induction l with
 | nil=>simp at h
 | cons d l ih =>
  rw [List.takeWhile_cons] at h
  cases hd:p d with
  | false=>rw [hd] at h;simp at h
  | true =>
   rw [hd] at h
   rcases List.mem_cons.1 h with rfl | h
   ·exact hd
   ·exact ih h
theorem drop_takeWhile {α:Type} (p:α→Bool):∀ l:List α,l.takeWhile p++l.drop (l.takeWhile p).length=l
 | []=>rfl
 | c::l=>by
  rw [List.takeWhile_cons]
  cases hc:p c with
  | false=>simp
  | true=>simp only [if_true,List.length_cons,List.drop_succ_cons,List.cons_append];rw [drop_takeWhile p l]
include hN in
theorem number_rd (s:ByteArray) (hs:s.size≤200000) (x l:List UInt8) (c:UInt8) (he:bs s=x++c::l) (hc:digB c=true) :
  Rd s x.length (numB (c::l)) (z55 N ⟨s,(x.length:Int)⟩):=by
 have hsz:s.size=x.length+(l.length+1):=by rw [size_bs,he];simp
 unfold z55 z102_1
 have ht:=takeD (N:=N) s hs x N [] (c::l) (by simp;omega) (by rw [he];simp)
 simp only [List.length_nil,Nat.add_zero,List.nil_append] at ht
 show Rd _ _ _ ((z102_1_l2 N ⟨s,(x.length:Int)⟩ N (x.length:Int)).bind _)
 rw [ht]
 unfold numB numK
 have hsplit:=drop_takeWhile digB (c::l)
 have hall:=takeWhile_all digB (c::l)
 have hpos:1≤((c::l).takeWhile digB).length:=by rw [List.takeWhile_cons,hc];simp
 have hhd:((c::l).takeWhile digB)=c::l.takeWhile digB:=by rw [List.takeWhile_cons,hc];simp
 generalize hd:(c::l).takeWhile digB=d at *
 generalize hr:(c::l).drop d.length=r at *
 have hdl:d.length+r.length=l.length+1:=by
  have:=congrArg List.length hsplit;simp at this;omega
 have k4:∀ b,Rd s x.length (bif b then .er 3 else bif (decide (d.length > 6) || (decide (d.length > 1) && (c::l).head? == some 48)) then .er 2 else .ok 2 [] (valD d) d.length) (z55_k4 N (mkB d,⟨s,((x.length+d.length:Nat):Int)⟩) b):=by
  intro b
  unfold z55_k4
  cases b with
  | true=>exact ⟨by decide,_,_,rfl⟩
  | false =>
   rw [cF,cF]
   show Rd _ _ _ (bif decide (((mkB d).size:Int) > 6) then _ else bif decide (((mkB d).size:Int) > 1) then (sidx (mkB d) 0).bind _ else _)
   rw [size_bs,bs_mkB]
   have k3:∀ b',d.length≤6→Rd s x.length (bif b' then .er 2 else .ok 2 [] (valD d) d.length) (z55_k3 N (mkB d,⟨s,((x.length+d.length:Nat):Int)⟩) b'):=by
    intro b' h6
    unfold z55_k3
    cases b' with
    | true=>exact ⟨by decide,_,_,rfl⟩
    | false =>
     have:=numL2 s ⟨s,((x.length+d.length:Nat):Int)⟩ d hall h6 N [] d (by omega) rfl
     rw [cF,cF]
     exact this
   by_cases h6:d.length > 6
   ·rw [dT h6,show decide ((d.length:Int) > 6)=true by simp;omega]
    exact ⟨by decide,_,_,rfl⟩
   ·rw [dF h6,show decide ((d.length:Int) > 6)=false by simp;omega,Bool.false_or,cF]
    by_cases h1:d.length > 1
    ·rw [dT h1,show decide ((d.length:Int) > 1)=true by simp;omega,Bool.true_and,cT]
     rw [show sidx (mkB d) 0=some (c.toNat:Int) from sidx_mid (x:=[]) (c:=c) (y:=l.takeWhile digB) (by rw [bs_mkB,hhd];rfl) rfl,bS]
     have e:((c.toNat:Int)==48)=((c::l).head? == some 48):=by
      rw [show (48:Int)=((48:Nat):Int) from rfl,u8_eq (by omega),Bool.eq_iff_iff,beq_iff_eq,beq_iff_eq]
      simp
     rw [e]
     exact k3 _ (by omega)
    ·rw [dF h1,show decide ((d.length:Int) > 1)=false by simp;omega,Bool.false_and,cF]
     exact k3 false (by omega)
 show Rd _ _ _ (bif decide (((x.length+d.length:Nat):Int) < (s.size:Int)) then (sidx s ((x.length+d.length:Nat):Int)).bind _ else _)
 cases r with
 | nil =>
  rw [show decide (((x.length+d.length:Nat):Int) < (s.size:Int))=false by simp at hdl;simp;omega,cF]
  exact k4 false
 | cons q r =>
  rw [show decide (((x.length+d.length:Nat):Int) < (s.size:Int))=true by simp at hdl;simp;omega,cT]
  rw [sidx_mid (x:=x++d) (c:=q) (y:=r) (by rw [he,← hsplit];simp) (by simp),bS,inn_eq,bS]
  have:=k4 (innB q)
  exact this
end Gp
end
section
namespace Gp
open Go Go.Kx Gx
variable {N:Nat} (hN:4194304 < N)
def toI (l:List UInt8):List Int:=l.map fun c=>(c.toNat:Int)
theorem strOf_toI:∀ (l:List UInt8),strOf (toI l)=mkB l:=by
 have key:∀ (l acc:List UInt8),(toI l).foldl (fun (r:ByteArray) (n:Int)=>r.push (UInt8.ofNat n.toNat)) (mkB acc)=mkB (acc++l):=by
  intro l
  induction l with
  | nil=>intro acc;simp [toI]
  | cons c l ih =>
   intro acc
   show (toI l).foldl _ ((mkB acc).push (UInt8.ofNat (c.toNat:Int).toNat))=_
   have:(mkB acc).push (UInt8.ofNat (c.toNat:Int).toNat)=mkB (acc++[c]):=by
    apply bs_inj
    rw [bs_mkB]
    show ((mkB acc).data.push _).toList=_
    simp [mkB]
   rw [this,ih]
   simp
 intro l
 exact key l []
theorem txt34 (l:List UInt8):txtB (34::l)=some ([],1):=by cases l<;>rfl
theorem txt_esc (d:UInt8) (l:List UInt8) (hd:(d==34 || d==92)=true):txtB (92::d::l)=(txtB l).map fun x=>(d::x.1,x.2+2):=by
 simp only [txtB,hd];rfl
theorem txt_esc0 (d:UInt8) (l:List UInt8) (hd:(d==34 || d==92)=false):txtB (92::d::l)=none:=by
 simp only [txtB,hd];rfl
theorem txt_one (c:UInt8) (l:List UInt8) (h1:(c==34)=false) (h2:(c==92)=false) (h3:badB c=false):txtB (c::l)=(txtB l).map fun x=>(c::x.1,x.2+1):=by
 cases l with
 | nil=>simp only [txtB,h1];rfl
 | cons d l=>simp only [txtB,h1,h2,h3];rfl
theorem txt_bad (c:UInt8) (l:List UInt8) (h1:(c==34)=false) (h2:(c==92)=false) (h3:badB c=true):txtB (c::l)=none:=by
 cases l with
 | nil=>simp only [txtB,h1];rfl
 | cons d l=>simp only [txtB,h1,h2,h3];rfl
theorem txt_end (c:UInt8) (h1:(c==34)=false):txtB [c]=none:=by simp only [txtB,h1];rfl
def txX (acc:List UInt8) (a:Nat):Option (List UInt8 × Nat)→Lx
 | none=>.er 3
 | some (t,n)=>bif decide ((acc++t).length > 40) then .er 6 else .ok 3 (acc++t) 0 (a+n)
theorem txX_map (acc:List UInt8) (a:Nat) (c:UInt8) (k:Nat) (o:Option (List UInt8 × Nat)):txX acc a (o.map fun x=>(c::x.1,x.2+k))=txX (acc++[c]) (a+k) o:=by
 cases o with
 | none=>rfl
 | some x=>simp only [Option.map_some,txX,aA,List.singleton_append];rw [show a+(x.2+k)=a+k+x.2 by omega]
theorem u8i {c:UInt8} (n:Nat) (hn:n < 256) (b:UInt8) (hb:UInt8.ofNat n=b):((c.toNat:Int)==(n:Int))=(c==b):=by rw [u8_eq hn,hb]
theorem text_loop (s:ByteArray) (hs:s.size≤200000) (a0:Int) (x:List UInt8):∀ (n:Nat) (u y acc:List UInt8),y.length < n→bs s=x++(u++y)→acc.length≤u.length →
  Rd s x.length (txX acc u.length (txtB y)) (z56_l2 ⟨s,a0⟩ n ((x.length+u.length:Nat):Int) (toI acc)):=by
 intro n
 induction n with
 | zero=>intro u y acc h;omega
 | succ n ih =>
  intro u y acc hn he ha
  have hsz:s.size=x.length+(u.length+y.length):=by rw [size_bs,he];simp
  unfold z56_l2
  cases y with
  | nil =>
   rw [show decide (((x.length+u.length:Nat):Int) < (((⟨s,a0⟩:T3).s').size:Int))=false by show decide (((x.length+u.length:Nat):Int) < (s.size:Int))=false;simp at hsz;simp;omega,cF]
   exact ⟨by decide,_,_,rfl⟩
  | cons c l =>
   rw [show decide (((x.length+u.length:Nat):Int) < (((⟨s,a0⟩:T3).s').size:Int))=true by show decide (((x.length+u.length:Nat):Int) < (s.size:Int))=true;simp at hsz;simp;omega,cT]
   show Rd _ _ _ ((sidx s ((x.length+u.length:Nat):Int)).bind _)
   rw [sidx_mid (x:=x++u) (c:=c) (y:=l) (by rw [he];simp) (by simp),bS]
   simp only [List.length_cons] at hsz hn
   rw [show ((c.toNat:Int)==34)=(c==34) from u8i 34 (by omega) 34 rfl,show ((c.toNat:Int)==92)=(c==92) from u8i 92 (by omega) 92 rfl]
   -- one more sign
   have one:∀ (u':List UInt8) (d:UInt8) (l':List UInt8),u'.length≤u.length+1→bs s=x++(u'++d::l')→l'.length < n→u.length≤u'.length →
     Rd s x.length (bif badB d then .er 3 else txX (acc++[d]) (u'.length+1) (txtB l')) (z56_k3 ⟨s,a0⟩ (toI acc) (z56_l2 ⟨s,a0⟩ n) ((x.length+u'.length:Nat):Int) (d.toNat:Int)):=by
    intro u' d l' h1 h2 h3 h4
    have hsz':s.size=x.length+(u'.length+(l'.length+1)):=by rw [size_bs,h2];simp
    unfold z56_k3 badB
    cases hb1:decide ((d.toNat:Int) < 32) with
    | true=>exact ⟨by decide,_,_,rfl⟩
    | false =>
     cases hb2:decide ((d.toNat:Int) > 126) with
     | true=>exact ⟨by decide,_,_,rfl⟩
     | false =>
      simp only [cF,Bool.or_false]
      rw [appL_some (by simp [toI];omega),bS,w64_succ (by omega)]
      have:=ih (u'++[d]) l' (acc++[d]) h3 (by rw [h2];simp) (by simp;omega)
      rw [show (u'++[d]).length=u'.length+1 by simp] at this
      rw [show x.length+(u'.length+1)=x.length+u'.length+1 by omega] at this
      rw [show toI acc++[(d.toNat:Int)]=toI (acc++[d]) by simp [toI]]
      exact this
   cases h34:(c==34) with
   | true =>
    have hc:c=34:=by simpa using h34
    subst hc
    rw [txt34,cT]
    have hl:(toI acc).length=acc.length:=by simp [toI]
    simp only [txX,List.append_nil,hl]
    by_cases h40:acc.length > 40
    ·rw [dT h40,show decide ((acc.length:Int) > 40)=true by simp;omega]
     exact ⟨by decide,_,_,rfl⟩
    ·rw [dF h40,show decide ((acc.length:Int) > 40)=false by simp;omega,cF,cF,strOf_toI,w64_succ (by omega)]
     rfl
   | false =>
    rw [cF]
    cases h92:(c==92) with
    | false =>
     rw [cF]
     have:=one u c l (by omega) he (by omega) (Nat.le_refl _)
     cases hb:badB c with
     | true=>rw [txt_bad c l h34 h92 hb];rw [hb] at this;exact this
     | false=>rw [txt_one c l h34 h92 hb,txX_map];rw [hb] at this;exact this
    | true =>
     rw [cT,w64_succ (by omega)]
     have hc:c=92:=by simpa using h92
     subst hc
     show Rd _ _ _ (bif (((x.length+u.length+1:Nat):Int)==(s.size:Int)) then _ else (sidx s ((x.length+u.length+1:Nat):Int)).bind _)
     cases l with
     | nil =>
      rw [show (((x.length+u.length+1:Nat):Int)==(s.size:Int))=true by simp at hsz;simp;omega,txt_end _ h34]
      exact ⟨by decide,_,_,rfl⟩
     | cons d l =>
      rw [show (((x.length+u.length+1:Nat):Int)==(s.size:Int))=false by simp at hsz;simp;omega,cF]
      have hd:sidx s ((x.length+u.length+1:Nat):Int)=some (d.toNat:Int):=sidx_mid (x:=x++u++[92]) (c:=d) (y:=l) (by rw [he];simp) (by simp;omega)
      show Rd _ _ _ ((sidx s ((x.length+u.length+1:Nat):Int)).bind _)
      rw [hd,bS]
      have e34:((d.toNat:Int) != 34) = !(d==34):=by rw [bne,show ((d.toNat:Int)==34)=(d==34) from u8i 34 (by omega) 34 rfl]
      have e92:((d.toNat:Int) != 92) = !(d==92):=by rw [bne,show ((d.toNat:Int)==92)=(d==92) from u8i 92 (by omega) 92 rfl]
      rw [e34]
      have:=one (u++[92]) d l (by simp) (by rw [he];simp) (by simp at hn;omega) (by simp)
      rw [show (u++[(92:UInt8)]).length=u.length+1 by simp,show x.length+(u.length+1)=x.length+u.length+1 by omega] at this
      cases hd34:(d==34) with
      | true =>
       have hd':d=34:=by simpa using hd34
       subst hd'
       rw [txt_esc _ _ rfl,txX_map]
       simp only [Bool.not_true,cF]
       rw [bS]
       exact this
      | false =>
       simp only [Bool.not_false,cT]
       rw [bS,e92]
       cases hd92:(d==92) with
       | false =>
        rw [txt_esc0 d l (by rw [hd34,hd92];rfl)]
        exact ⟨by decide,_,_,rfl⟩
       | true =>
        have hd':d=92:=by simpa using hd92
        subst hd'
        rw [txt_esc _ _ rfl,txX_map]
        simp only [Bool.not_true,cF]
        rw [bS]
        exact this
include hN in
theorem text_rd (s:ByteArray) (hs:s.size≤200000) (x l:List UInt8) (he:bs s=x++34::l) :
  Rd s x.length (match txtB l with | none=>.er 3 | some (t,n)=>bif decide (t.length > 40) then .er 6 else .ok 3 t 0 (n+1)) (z56 N ⟨s,(x.length:Int)⟩):=by
 have hsz:s.size=x.length+(l.length+1):=by rw [size_bs,he];simp
 unfold z56
 show Rd _ _ _ (z56_l2 _ N (w64 ((x.length:Int)+1)) [])
 rw [w64_succ (by omega)]
 have:=text_loop s hs (x.length:Int) x N [34] l [] (by omega) (by rw [he];simp) (by simp)
 have e:txX [] [(34:UInt8)].length (txtB l)=(match txtB l with | none=>.er 3 | some (t,n)=>bif decide (t.length > 40) then .er 6 else .ok 3 t 0 (n+1)):=by
  cases txtB l with
  | none=>rfl
  | some x=>simp only [txX,List.nil_append,List.length_singleton];rw [show 1+x.2=x.2+1 by omega]
 rw [← e]
 exact this
theorem contMark (k:Nat):((List.range 256).all fun r=>z101 (k+5) (str [40,41,123,125,44,59,58,46,43,45,42,47,37,60,62,61,33]) (mkB [UInt8.ofNat r])==some (marks1.any fun m=>m==UInt8.ofNat r))=true:=by kernel_rfl
include hN in
theorem contMark_eq (c:UInt8):z101 N (str [40,41,123,125,44,59,58,46,43,45,42,47,37,60,62,61,33]) (mkB [c])=some (marks1.any fun m=>m==c):=by
 obtain ⟨k,rfl⟩:∃ k,N=k+5:=⟨N-5,by omega⟩
 have:=List.all_eq_true.1 (contMark k) c.toNat (List.mem_range.2 c.toNat_lt)
 rw [beq_iff_eq,UInt8.ofNat_toNat] at this
 exact this
theorem mark_step (s:ByteArray) (hs:s.size≤200000) (x y:List UInt8) (he:bs s=x++y) (n i:Nat) (hi:i < 8) (a b:UInt8)
  (hx:idx ([(str [45,62]),(str [46,46]),(str [60,61]),(str [62,61]),(str [61,61]),(str [33,61]),(str [38,38]),(str [124,124])]:List ByteArray) (i:Int)=some (str [a,b])) :
  z51_l2 N ⟨s,(x.length:Int)⟩ (n+1) (i:Int)=bif (y.take 2==[a,b]) then some (⟨4,str [a,b],0,0⟩,0,⟨s,w64 ((x.length:Int)+2)⟩) else z51_l2 N ⟨s,(x.length:Int)⟩ n ((i+1:Nat):Int):=by
 have hsz:s.size=x.length+y.length:=by rw [size_bs,he];simp
 rw [z51_l2,show decide ((i:Int) < 8)=true by simp;omega,cT,hx,bS]
 show (ssl s (some (x.length:Int)) none).bind _=_
 rw [bs_from he,bS,hasPre _ a b (by rw [size_bs,bs_mkB];omega),bS,bs_mkB,w64_succ (by omega)]
theorem take2 {y:List UInt8} {a b:UInt8} (h:(y.take 2==[a,b])=true):y.take 2=[a,b]:=by simpa using h
include hN in
theorem mark_rd (s:ByteArray) (hs:s.size≤200000) (x l:List UInt8) (c:UInt8) (he:bs s=x++c::l) :
  Rd s x.length (bif (decide (l≠[]) && marks2.any fun m=>m==(c::l).take 2) then .ok 4 ((c::l).take 2) 0 2 else bif marks1.any fun m=>m==c then .ok 4 [c] 0 1 else .er 3) (z51 N ⟨s,(x.length:Int)⟩):=by
 have hsz:s.size=x.length+(l.length+1):=by rw [size_bs,he];simp
 obtain ⟨n,rfl⟩:∃ n,N=n+9:=⟨N-9,by omega⟩
 have hne:(decide (l≠[]) && marks2.any fun m=>m==(c::l).take 2)=marks2.any fun m=>(c::l).take 2==m:=by
  have:(fun m:List UInt8=>m==(c::l).take 2)=fun m=>(c::l).take 2==m:=by
   funext m
   rw [Bool.eq_iff_iff,beq_iff_eq,beq_iff_eq];exact ⟨Eq.symm,Eq.symm⟩
  rw [this]
  cases l with
  | nil => 
   rw [show List.take 2 [c]=[c] from rfl]
   simp [marks2]
  | cons d l=>rfl
 rw [hne]
 have w2:w64 ((x.length:Int)+2)=((x.length+2:Nat):Int):=by rw [w64_id (by omega) (by omega)];omega
 unfold z51
 have st:=fun n i hi a b hx=>mark_step (N:=n+9) s hs x (c::l) he n i hi a b hx
 have S:=fun m i hi a b hx=>mark_step (N:=n+9) s hs x (c::l) he m i hi a b hx
 rw [show (0:Int)=((0:Nat):Int) from rfl,S (n+8) 0 (by omega) 45 62 rfl,S (n+7) 1 (by omega) 46 46 rfl,S (n+6) 2 (by omega) 60 61 rfl,S (n+5) 3 (by omega) 62 61 rfl,S (n+4) 4 (by omega) 61 61 rfl,S (n+3) 5 (by omega) 33 61 rfl,
  S (n+2) 6 (by omega) 38 38 rfl,S (n+1) 7 (by omega) 124 124 rfl]
 simp only [marks2,List.any_cons,List.any_nil,Bool.or_false]
 have hit:∀ a b:UInt8,((c::l).take 2==[a,b])=true→Rd s x.length (.ok 4 ((c::l).take 2) 0 2) (some (⟨4,str [a,b],0,0⟩,0,⟨s,w64 ((x.length:Int)+2)⟩)):=fun a b h=>by
  rw [take2 h,w2];rfl
 cases h0:((c::l).take 2==[45,62]) with
 | true=>exact hit _ _ h0
 | false =>
 cases h1:((c::l).take 2==[46,46]) with
 | true=>exact hit _ _ h1
 | false =>
 cases h2:((c::l).take 2==[60,61]) with
 | true=>exact hit _ _ h2
 | false =>
 cases h3:((c::l).take 2==[62,61]) with
 | true=>exact hit _ _ h3
 | false =>
 cases h4:((c::l).take 2==[61,61]) with
 | true=>exact hit _ _ h4
 | false =>
 cases h5:((c::l).take 2==[33,61]) with
 | true=>exact hit _ _ h5
 | false =>
 cases h6:((c::l).take 2==[38,38]) with
 | true=>exact hit _ _ h6
 | false =>
 cases h7:((c::l).take 2==[124,124]) with
 | true=>exact hit _ _ h7
 | false =>
  simp only [Bool.or_false,cF]
  rw [z51_l2,show decide (((7+1:Nat):Int) < 8)=false from rfl,cF]
  unfold z51_k1
  show Rd _ _ _ ((ssl s (some (x.length:Int)) (some (w64 ((x.length:Int)+1)))).bind _)
  rw [w64_succ (by omega),ssl_mid (x:=x) (y:=[c]) (z:=l) (by rw [he];rfl) rfl (by simp),bS,contMark_eq hN c,bS]
  cases marks1.any fun m=>m==c with
  | false=>exact ⟨by decide,_,_,rfl⟩
  | true=>rfl
end Gp
end
section
namespace Gp
open Go Go.Kx Gx
theorem txtB_len:∀ (l:List UInt8) {t n},txtB l=some (t,n)→n≤l.length∧t.length+1≤n
 | [],t,n,h=>by simp [txtB] at h
 | [c],t,n,h=>by
  simp only [txtB] at h
  cases hc:(c==34) with
  | false=>rw [hc] at h;cases h
  | true=>rw [hc] at h;cases h;simp
 | c::d::l,t,n,h=>by
  simp only [txtB] at h
  cases hc:(c==34) with
  | true=>rw [hc] at h;cases h;simp
  | false =>
   rw [hc,cF] at h
   cases h92:(c==92) with
   | true =>
    rw [h92,cT] at h
    cases hd:(d==34 || d==92) with
    | false=>rw [hd] at h;cases h
    | true =>
     rw [hd,cT,Option.map_eq_some_iff] at h
     obtain ⟨⟨t',n'⟩,h1,h2⟩:=h
     cases h2
     have:=txtB_len l h1
     simp only [List.length_cons];omega
   | false =>
    rw [h92,cF] at h
    cases hb:badB c with
    | true=>rw [hb] at h;cases h
    | false =>
     rw [hb,cF,Option.map_eq_some_iff] at h
     obtain ⟨⟨t',n'⟩,h1,h2⟩:=h
     cases h2
     have:=txtB_len (d::l) h1
     simp only [List.length_cons] at this ⊢;omega
theorem takeWhile_len {α:Type} (p:α→Bool) (l:List α):(l.takeWhile p).length≤l.length:=by
 have:=congrArg List.length (drop_takeWhile p l)
 simp only [lA] at this;omega
structure TokOk (s:List UInt8) (k:Int) (tx:List UInt8) (n:Nat):Prop where
 pos:1≤n
 le:n≤s.length
 len:tx.length≤n
 name:k=1→∃ c l,tx=c::l∧letB c=true
 mark:k=4→(tx∈marks2∨∃ c,c∈marks1∧tx=[c])
theorem tokB_ok {s:List UInt8} {k:Int} {tx:List UInt8} {v:Int} {n:Nat} (h:tokB s=.ok k tx v n):TokOk s k tx n:=by
 cases s with
 | nil=>cases h
 | cons c l =>
  simp only [tokB] at h
  cases h1:letB c with
  | true =>
   rw [h1,cT] at h
   cases h2:decide ((l.takeWhile innB).length+1 > 16) with
   | true=>rw [h2] at h;cases h
   | false =>
    rw [h2,cF] at h
    cases h
    have:=takeWhile_len innB l
    exact ⟨by omega,by simp;omega,by simp,fun _=>⟨c,_,rfl,h1⟩,fun h=>(by cases h)⟩
  | false =>
   rw [h1,cF] at h
   cases h2:digB c with
   | true =>
    rw [h2,cT] at h
    unfold numB numK at h
    have hl:=takeWhile_len digB (c::l)
    have hpos:1≤((c::l).takeWhile digB).length:=by rw [List.takeWhile_cons,h2];simp
    generalize (c::l).takeWhile digB=d at *
    cases h3:((c::l).drop d.length).head?.any innB with
    | true=>rw [h3] at h;cases h
    | false =>
     rw [h3,cF] at h
     cases h4:(decide (d.length > 6) || (decide (d.length > 1) && (c::l).head? == some 48)) with
     | true=>rw [h4] at h;cases h
     | false =>
      rw [h4,cF] at h
      cases h
      exact ⟨hpos,hl,by simp,fun h=>(by cases h),fun h=>(by cases h)⟩
   | false =>
    rw [h2,cF] at h
    cases h3:(c==34) with
    | true =>
     rw [h3,cT] at h
     cases h4:txtB l with
     | none=>rw [h4] at h;cases h
     | some x =>
      rw [h4] at h
      simp only [] at h
      cases h5:decide (x.1.length > 40) with
      | true=>rw [h5] at h;cases h
      | false =>
       rw [h5,cF] at h
       cases h
       have:=txtB_len l (t:=x.1) (n:=x.2) h4
       exact ⟨by omega,by simp;omega,by omega,fun h=>(by cases h),fun h=>(by cases h)⟩
    | false =>
     rw [h3,cF] at h
     cases h4:(decide (l≠[]) && marks2.any fun m=>m==(c::l).take 2) with
     | true =>
      rw [h4,cT] at h
      cases h
      rw [Bool.and_eq_true,decide_eq_true_eq,List.any_eq_true] at h4
      obtain ⟨hl,m,hm,hm2⟩:=h4
      rw [beq_iff_eq] at hm2
      refine ⟨by omega,?_,by simp;omega,fun h=>(by cases h),fun _=>.inl (by rw [← hm2];exact hm)⟩
      cases l with
      | nil=>exact absurd rfl hl
      | cons d l=>simp
     | false =>
      rw [h4,cF] at h
      cases h5:marks1.any fun m=>m==c with
      | false=>rw [h5] at h;cases h
      | true =>
       rw [h5,cT] at h
       cases h
       rw [List.any_eq_true] at h5
       obtain ⟨m,hm,hm2⟩:=h5
       rw [beq_iff_eq] at hm2
       exact ⟨by omega,by simp,by simp,fun h=>(by cases h),fun _=>.inr ⟨c,by rw [← hm2];exact hm,rfl⟩⟩
variable {N:Nat} (hN:4194304 < N)
include hN in
theorem skipN (s:ByteArray) (hs:s.size≤200000) (x y:List UInt8) (he:bs s=x++y):z50 N ⟨s,(x.length:Int)⟩=some ⟨s,((x.length+skW false y:Nat):Int)⟩:=by
 have hsz:s.size=x.length+y.length:=by rw [size_bs,he];simp
 exact skip_eq hN s hs (x.length:Int) N x y x.length (by omega) he rfl
include hN in
theorem token_rd (s:ByteArray) (hs:s.size≤200000) (x l:List UInt8) (c:UInt8) (he:bs s=x++c::l) :
  (letB c=true→Rd s x.length (tokB (c::l)) (z53 N ⟨s,(x.length:Int)⟩)) ∧
  (letB c=false→digB c=true→Rd s x.length (tokB (c::l)) (z55 N ⟨s,(x.length:Int)⟩)) ∧
  (letB c=false→digB c=false→(c==34)=true→Rd s x.length (tokB (c::l)) (z56 N ⟨s,(x.length:Int)⟩)) ∧
  (letB c=false→digB c=false→(c==34)=false→Rd s x.length (tokB (c::l)) (z51 N ⟨s,(x.length:Int)⟩)):=by
 refine ⟨fun h=>?_,fun h1 h2=>?_,fun h1 h2 h3=>?_,fun h1 h2 h3=>?_⟩
 ·have:=name_rd hN s hs x l c he h
  simp only [tokB,h,cT];exact this
 ·have:=number_rd hN s hs x l c he h2
  simp only [tokB,h1,h2,cT,cF];exact this
 ·have hc:c=34:=by simpa using h3
  subst hc
  have:=text_rd hN s hs x l he
  simp only [tokB,h1,h2,h3,cT,cF];exact this
 ·have:=mark_rd hN s hs x l c he
  simp only [tokB,h1,h2,h3,cF];exact this
theorem tok_er {s:ByteArray} {a n':Nat} {acc:List Tok} {e:Int} {o:Option (T2 × Int × T3)} (h:Rd s a (.er e) o) :
  e≠0∧(o.bind fun x=>bif (x.2.1 != (0:Int)) then (some (([]:List T2),(a:Int),x.2.1)) else (appL acc ([(⟨x.1.Kind,x.1.Text,x.1.Value,(a:Int)⟩:T2)]:List T2)).bind fun y=>(z50 N x.2.2).bind fun z=>(z23_l2 N s n') y z.s' z.at')=some ([],(a:Int),e):=by
 obtain ⟨he,t,c,ho⟩:=h
 refine ⟨he,?_⟩
 rw [ho,bS,show (e != (0:Int))=true by simp [he]];rfl
theorem tok_ok {s:ByteArray} {a n':Nat} {acc:List Tok} (hacc:acc.length≤200000) {k:Int} {tx:List UInt8} {v:Int} {n:Nat} {o:Option (T2 × Int × T3)} (h:Rd s a (.ok k tx v n) o) :
  (o.bind fun x=>bif (x.2.1 != (0:Int)) then (some (([]:List T2),(a:Int),x.2.1)) else (appL acc ([(⟨x.1.Kind,x.1.Text,x.1.Value,(a:Int)⟩:T2)]:List T2)).bind fun y=>(z50 N x.2.2).bind fun z=>(z23_l2 N s n') y z.s' z.at')=(z50 N ⟨s,((a+n:Nat):Int)⟩).bind fun z=>z23_l2 N s n' (acc++[⟨k,mkB tx,v,(a:Int)⟩]) z.s' z.at':=by
 have ho:o=_:=h
 simp only [ho,bS]
 rw [show ((0:Int) != 0)=false from rfl,cF,appL_some (by simp;omega),bS]
include hN in
theorem toks_loop (s:ByteArray) (hs:s.size≤200000):∀ (F n:Nat) (x y:List UInt8) (acc:List Tok),F≤n→y.length < F→bs s=x++y→acc.length≤x.length →
  match lexL F y x.length with
  | .inl (p,e)=>e≠0∧z23_l2 N s n acc s ((x.length+skW false y:Nat):Int)=some ([],(p:Int),e)
  | .inr ts=>z23_l2 N s n acc s ((x.length+skW false y:Nat):Int)=some (acc++ts,0,0):=by
 intro F
 induction F with
 | zero=>intro n x y acc _ h;omega
 | succ F ih =>
  intro n x y acc hFn hF he hacc
  obtain ⟨n,rfl⟩:∃ m,n=m+1:=⟨n-1,by omega⟩
  have hsz:s.size=x.length+y.length:=by rw [size_bs,he];simp
  have hk:=skW_le false y
  simp only [lexL,z23_l2]
  cases hd:y.drop (skW false y) with
  | nil =>
   have hge:=List.drop_eq_nil_iff.1 hd
   rw [show decide (((x.length+skW false y:Nat):Int) < (s.size:Int))=false by simp;omega,cF]
   simp only [z23_k1,List.append_nil]
  | cons c l =>
   have hlen:(c::l).length=y.length-skW false y:=by rw [← hd,List.length_drop]
   simp only [List.length_cons] at hlen
   rw [show decide (((x.length+skW false y:Nat):Int) < (s.size:Int))=true by simp;omega,cT]
   have he2:bs s=(x++y.take (skW false y))++c::l:=by rw [he,aA,← hd,List.take_append_drop]
   have hx2:(x++y.take (skW false y)).length=x.length+skW false y:=by simp;omega
   rw [sidx_mid he2 (by rw [hx2]),bS,let_eq,bS,dig_eq]
   obtain ⟨r1,r2,r3,r4⟩:=token_rd hN s hs _ l c he2
   rw [hx2] at r1 r2 r3 r4
   have fin:∀ o,Rd s (x.length+skW false y) (tokB (c::l)) o →
     match (match tokB (c::l) with
      | .er e=>Sum.inl (x.length+skW false y,e)
      | .ok k tx v n=>match lexL F ((c::l).drop n) (x.length+skW false y+n) with
       | .inl x=>.inl x
       | .inr ts=>.inr (⟨k,mkB tx,v,((x.length+skW false y:Nat):Int)⟩::ts):Sum (Nat × Int) (List Tok)) with
     | .inl (p,e)=>e≠0∧(o.bind fun x'=>bif (x'.2.1 != (0:Int)) then (some (([]:List T2),((x.length+skW false y:Nat):Int),x'.2.1)) else (appL acc ([(⟨x'.1.Kind,x'.1.Text,x'.1.Value,((x.length+skW false y:Nat):Int)⟩:T2)]:List T2)).bind fun y=>(z50 N x'.2.2).bind fun z=>(z23_l2 N s n) y z.s' z.at')=some ([],(p:Int),e)
     | .inr ts=>(o.bind fun x'=>bif (x'.2.1 != (0:Int)) then (some (([]:List T2),((x.length+skW false y:Nat):Int),x'.2.1)) else (appL acc ([(⟨x'.1.Kind,x'.1.Text,x'.1.Value,((x.length+skW false y:Nat):Int)⟩:T2)]:List T2)).bind fun y=>(z50 N x'.2.2).bind fun z=>(z23_l2 N s n) y z.s' z.at')=some (acc++ts,0,0):=by
    intro o ho
    cases ht:tokB (c::l) with
    | er e=>rw [ht] at ho;exact tok_er (N:=N) (n':=n) (acc:=acc) ho
    | ok k tx v m =>
     rw [ht] at ho
     have st:=tok_ok (N:=N) (n':=n) (acc:=acc) (by omega) ho
     have tk:=tokB_ok ht
     have htk:=tk.le
     have htp:=tk.pos
     simp only [List.length_cons] at htk
     rw [st]
     have he3:bs s=((x++y.take (skW false y))++(c::l).take m)++(c::l).drop m:=by rw [he2,aA,aA,aA,List.take_append_drop]
     have hx3:((x++y.take (skW false y))++(c::l).take m).length=x.length+skW false y+m:=by rw [lA,hx2];simp;omega
     have hsk:=skipN hN s hs _ _ he3
     rw [hx3] at hsk
     rw [hsk,bS]
     have:=ih n ((x++y.take (skW false y))++(c::l).take m) ((c::l).drop m) (acc++[⟨k,mkB tx,v,((x.length+skW false y:Nat):Int)⟩]) (by omega) (by rw [List.length_drop,List.length_cons];omega) he3 (by rw [hx3];simp;omega)
     rw [hx3] at this
     cases hL:lexL F ((c::l).drop m) (x.length+skW false y+m) with
     | inl q=>rw [hL] at this;simp only [hL];exact this
     | inr ts=>rw [hL] at this;simp only [aA,List.singleton_append] at this;simp only [hL];exact this
   cases h1:letB c with
   | true=>exact fin _ (r1 h1)
   | false =>
    rw [cF,bS]
    cases h2:digB c with
    | true=>exact fin _ (r2 h1 h2)
    | false =>
     rw [cF,show ((c.toNat:Int)==34)=(c==34) from u8i 34 (by omega) 34 rfl]
     cases h3:(c==34) with
     | true=>exact fin _ (r3 h1 h2 h3)
     | false=>exact fin _ (r4 h1 h2 h3)
def toksS (s:ByteArray):Sum (Nat × Int) (List Tok):=bif decide (s.size > 8000) then .inl (8000,6) else lexL (s.size+1) (bs s) 0
include hN in
theorem tokens_eq (s:ByteArray):match toksS s with
  | .inl (p,e)=>e≠0∧z23 N s=some ([],(p:Int),e)
  | .inr ts=>z23 N s=some (ts,0,0):=by
 unfold toksS z23
 by_cases h:s.size > 8000
 ·rw [dT h,show decide ((s.size:Int) > 8000)=true by simp;omega]
  exact ⟨by decide,rfl⟩
 ·rw [dF h,show decide ((s.size:Int) > 8000)=false by simp;omega,cF,cF]
  have hsk:=skipN hN s (by omega) [] (bs s) rfl
  rw [show (0:Int)=(([]:List UInt8).length:Int) from rfl,hsk,bS]
  have:=toks_loop hN s (by omega) (s.size+1) N [] (bs s) [] (by omega) (by rw [← size_bs];omega) rfl (by simp)
  exact this
end Gp
end
section
namespace Gp
open Go Go.Kx Gx
variable {N:Nat} (hN:4194304 < N)
def lineN (y:List UInt8):Nat:=(y.takeWhile (fun c => !(c==10))).length
theorem lineN_cons (c:UInt8) (l:List UInt8):lineN (c::l)=bif c==10 then 0 else lineN l+1:=by
 unfold lineN
 rw [List.takeWhile_cons]
 cases (c==10)<;>simp
theorem lineN_le (y:List UInt8):lineN y≤y.length:=takeWhile_len _ _
theorem skW_lineN:∀ y:List UInt8,skW true y=lineN y+skW false (y.drop (lineN y))
 | []=>rfl
 | c::l=>by
  rw [lineN_cons]
  cases h:(c==10) with
  | true =>
   have hc:c=10:=by simpa using h
   subst hc
   simp only [skW,h,cT,List.drop_zero,Nat.zero_add]
   rfl
  | false =>
   simp only [skW,h,cF,List.drop_succ_cons]
   rw [skW_lineN l];omega
theorem rline_eq (s:ByteArray) (hs:s.size≤200000) (ag:Int→Option Int):∀ (n:Nat) (x y:List UInt8),y.length < n→bs s=x++y→ref09_skip_l4 s ag n (x.length:Int)=ag ((x.length+lineN y:Nat):Int):=by
 intro n
 induction n with
 | zero=>intro x y h;omega
 | succ n ih =>
  intro x y hn he
  have hsz:s.size=x.length+y.length:=by rw [size_bs,he];simp
  unfold ref09_skip_l4
  cases y with
  | nil =>
   rw [show decide ((x.length:Int) < (s.size:Int))=false by simp at hsz;simp;omega,cF];rfl
  | cons c l =>
   simp only [List.length_cons] at hsz hn
   rw [show decide ((x.length:Int) < (s.size:Int))=true by simp;omega,cT,sidx_mid he rfl,bS,bne,show ((c.toNat:Int)==10)=(c==10) from u8i 10 (by omega) 10 rfl,lineN_cons]
   cases h:(c==10) with
   | true=>rfl
   | false =>
    simp only [Bool.not_false,cT,cF]
    rw [w64_succ (by omega)]
    have:=ih (x++[c]) l (by omega) (by rw [he];simp)
    rw [show (x++[c]).length=x.length+1 by simp] at this
    rw [this];congr 2;omega
include hN in
theorem rskip_eq (s:ByteArray) (hs:s.size≤200000):∀ (n:Nat) (x y:List UInt8),y.length < n→bs s=x++y→ref09_skip_l2 N s n (x.length:Int)=some ((x.length+skW false y:Nat):Int):=by
 intro n
 induction n with
 | zero=>intro x y h;omega
 | succ n ih =>
  intro x y hn he
  have hsz:s.size=x.length+y.length:=by rw [size_bs,he];simp
  unfold ref09_skip_l2
  cases y with
  | nil =>
   rw [show decide ((x.length:Int) < (s.size:Int))=false by simp at hsz;simp;omega,cF];rfl
  | cons c l =>
   simp only [List.length_cons] at hsz hn
   have hc:=sidx_mid he (i:=(x.length:Int)) rfl
   rw [show decide ((x.length:Int) < (s.size:Int))=true by simp;omega,cT]
   simp only [hc,bS]
   rw [show ((c.toNat:Int)==32)=(c==32) from u8i 32 (by omega) 32 rfl,show ((c.toNat:Int)==9)=(c==9) from u8i 9 (by omega) 9 rfl,show ((c.toNat:Int)==10)=(c==10) from u8i 10 (by omega) 10 rfl,show ((c.toNat:Int)==13)=(c==13) from u8i 13 (by omega) 13 rfl,show ((c.toNat:Int)==47)=(c==47) from u8i 47 (by omega) 47 rfl,w64_succ (by omega)]
   have next:ref09_skip_l2 N s n ((x.length+1:Nat):Int)=some ((x.length+(skW false l+1):Nat):Int):=by
    have:=ih (x++[c]) l (by omega) (by rw [he];simp)
    rw [show (x++[c]).length=x.length+1 by simp] at this
    rw [this];congr 2;omega
   simp only [skW]
   unfold blankB
   cases h1:(c==32) with
   | true=>simp only [cT,Bool.true_or];exact next
   | false =>
   cases h2:(c==9) with
   | true=>simp only [cT,cF,Bool.true_or,Bool.false_or];exact next
   | false =>
   cases h3:(c==10) with
   | true=>simp only [cT,cF,Bool.true_or,Bool.false_or];exact next
   | false =>
   cases h4:(c==13) with
   | true=>simp only [cT,cF,Bool.false_or];exact next
   | false =>
    simp only [cF,Bool.false_or]
    cases h5:(c==47) with
    | false=>simp only [Bool.false_and,cF,Nat.add_zero]
    | true =>
     rw [cT,Bool.true_and]
     cases l with
     | nil =>
      rw [show decide (((x.length+1:Nat):Int) < (s.size:Int))=false by simp at hsz;simp;omega,cF]
      rfl
     | cons d l =>
      rw [show decide (((x.length+1:Nat):Int) < (s.size:Int))=true by simp at hsz;simp;omega,cT,sidx_mid (x:=x++[c]) (c:=d) (y:=l) (by rw [he];simp) (by simp),bS,show ((d.toNat:Int)==47)=(d==47) from u8i 47 (by omega) 47 rfl]
      have e:((d::l).head? == some 47)=(d==47):=by rw [Bool.eq_iff_iff,beq_iff_eq,beq_iff_eq];simp
      rw [e]
      cases h6:(d==47) with
      | false=>rfl
      | true =>
       rw [cT,cT,rline_eq s hs _ N x (c::d::l) (by simp only [List.length_cons] at hsz ⊢;omega) he,lineN_cons,h3,cF,skW_lineN (d::l)]
       have hl:=lineN_le (d::l)
       have hl2:1≤lineN (d::l):=by
        rw [lineN_cons,show (d==10)=false by have:d=47:=(by simpa using h6);subst this;rfl]
        simp
       simp only [List.length_cons] at hl hn
       have:=ih (x++(c::(d::l).take (lineN (d::l)))) ((d::l).drop (lineN (d::l))) (by rw [List.length_drop,List.length_cons];omega) (by rw [he,aA,List.cons_append,List.take_append_drop])
       rw [show (x++(c::(d::l).take (lineN (d::l)))).length=x.length+(lineN (d::l)+1) by simp;omega] at this
       rw [this];congr 2;omega
include hN in
theorem rskipN (s:ByteArray) (hs:s.size≤200000) (x y:List UInt8) (he:bs s=x++y) {i:Int} (hi:i=(x.length:Int)):ref09_skip N s i=some ((x.length+skW false y:Nat):Int):=by
 have hsz:s.size=x.length+y.length:=by rw [size_bs,he];simp
 subst hi
 exact rskip_eq hN s hs N x y (by omega) he
def Rt (lx:Lx) (o:Option (T2 × Int × Int)):Prop :=
 match lx with
 | .ok k tx v n=>o=some (⟨k,mkB tx,v,0⟩,(n:Int),0)
 | .er e=>e≠0∧∃ t c,o=some (t,c,e)
theorem rinn_eq (N:Nat) (c:UInt8):z113 N (c.toNat:Int)=some (innB c):=refInner_eq N _
theorem rdig_eq (N:Nat) (c:UInt8):z114 N (c.toNat:Int)=some (digB c):=by
 unfold z114 digB
 cases h:decide (48≤(c.toNat:Int)) with
 | false=>rfl
 | true=>rfl
theorem rlet_eq (N:Nat) (c:UInt8):z112 N (c.toNat:Int)=some (letB c):=refLetter_eq N _
theorem rname (c:UInt8):∀ (n:Nat) (u y:List UInt8),(c::(u++y)).length≤200000→y.length < n →
  Rt (bif decide ((u++y.takeWhile innB).length+1 > 16) then .er 6 else .ok 1 (c::(u++y.takeWhile innB)) 0 ((u++y.takeWhile innB).length+1)) (ref09_token_l2 N (mkB (c::(u++y))) n ((u.length+1:Nat):Int)):=by
 intro n
 induction n with
 | zero=>intro u y _ h;omega
 | succ n ih =>
  intro u y hs hn
  simp only [List.length_cons,lA] at hs
  have fin:∀ q:List UInt8,q=u→Rt (bif decide (q.length+1 > 16) then .er 6 else .ok 1 (c::q) 0 (q.length+1)) (ref09_token_k1 (mkB (c::(u++y))) ((u.length+1:Nat):Int)):=by
   rintro q rfl
   unfold ref09_token_k1
   by_cases h:q.length+1 > 16
   ·rw [dT h,show decide (((q.length+1:Nat):Int) > 16)=true by simp;omega]
    exact ⟨by decide,_,_,rfl⟩
   ·rw [dF h,show decide (((q.length+1:Nat):Int) > 16)=false by simp;omega,cF,cF]
    rw [ssl_to (x:=c::q) (y:=y) (by rw [bs_mkB];rfl) (by simp),bS]
    rfl
  unfold ref09_token_l2
  rw [size_bs,bs_mkB]
  cases y with
  | nil =>
   rw [show decide (((u.length+1:Nat):Int) < ((c::(u++[])).length:Int))=false by simp,cF]
   exact fin _ (by simp)
  | cons d l =>
   rw [show decide (((u.length+1:Nat):Int) < ((c::(u++d::l)).length:Int))=true by simp;omega,cT]
   rw [sidx_mid (x:=c::u) (c:=d) (y:=l) (by rw [bs_mkB];rfl) (by simp),bS,rinn_eq,bS,List.takeWhile_cons]
   simp only [List.length_cons] at hs hn
   cases h:innB d with
   | false=>exact fin _ (by simp)
   | true =>
    rw [cT,w64_succ (by omega)]
    have:=ih (u++[d]) l (by simp;omega) (by omega)
    simp only [if_true]
    rw [show u++[d]++l=u++d::l by simp,show (u++[d]).length+1=u.length+1+1 by simp,show u++[d]++l.takeWhile innB=u++d::l.takeWhile innB by simp] at this
    exact this
def stepD (v:Int) (c:UInt8):Int:=minI (w64 (w64 (10 * v)+w64 (wk .u8 ((c.toNat:Int)-48)))) 1099511627776
theorem stepD_eq {v:Int} {c:UInt8} (h0:0≤v) (h1:v < 100000000) (hc:digB c=true):stepD v c=10 * v+((c.toNat:Int)-48):=by
 unfold digB at hc
 simp only [Bool.and_eq_true,decide_eq_true_eq] at hc
 unfold stepD
 have hw:wk .u8 ((c.toNat:Int)-48)=(c.toNat:Int)-48:=by
  show IntKind.u8.wrap _=_
  simp [IntKind.wrap,IntKind.signed,IntKind.bits]
  omega
 rw [hw,w64_id (n:=10 * v) (by omega) (by omega),w64_id (n:=(c.toNat:Int)-48) (by omega) (by omega),w64_id (by omega) (by omega)]
 unfold minI
 split<;>omega
theorem fold_stepD:∀ (d:List UInt8) (v:Int) (k:Nat),(∀ c∈d,digB c=true)→0≤v→v < ((10 ^ k:Nat):Int)→k+d.length≤7→d.foldl stepD v=d.foldl (fun v c=>10 * v+((c.toNat:Int)-48)) v
 | [],_,_,_,_,_,_=>rfl
 | c::d,v,k,h,h0,h1,hk=>by
  simp only [List.length_cons] at hk
  have hc:=h c (by simp)
  have h10:(10 ^ k:Nat)≤10 ^ 6:=Nat.pow_le_pow_right (by omega) (by omega)
  have e6:(10:Nat) ^ 6=1000000:=by decide
  rw [List.foldl_cons,List.foldl_cons,stepD_eq h0 (by omega) hc]
  have hc2:=hc
  unfold digB at hc2
  simp only [Bool.and_eq_true,decide_eq_true_eq] at hc2
  exact fold_stepD d _ (k+1) (fun q hq=>h q (List.mem_cons_of_mem _ hq)) (by omega) (by rw [Nat.pow_succ];push_cast;push_cast at h1;omega) (by omega)
theorem rnum_loop (s:List UInt8) (hs:s.length≤200000):∀ (n:Nat) (u y:List UInt8) (v:Int),y.length < n→s=u++y →
  ref09_number_l3 N (mkB s) n (u.length:Int) v=ref09_number_k2 N (mkB s) ((u.length+(y.takeWhile digB).length:Nat):Int) ((y.takeWhile digB).foldl stepD v):=by
 intro n
 induction n with
 | zero=>intro u y v h;omega
 | succ n ih =>
  intro u y v hn he
  have hl:s.length=u.length+y.length:=by rw [he];simp
  unfold ref09_number_l3
  rw [size_bs,bs_mkB]
  cases y with
  | nil =>
   rw [show decide ((u.length:Int) < (s.length:Int))=false by simp at hl;simp;omega,cF];rfl
  | cons c l =>
   simp only [List.length_cons] at hl hn
   have hc:sidx (mkB s) (u.length:Int)=some (c.toNat:Int):=sidx_mid (x:=u) (c:=c) (y:=l) (by rw [bs_mkB,he]) rfl
   rw [show decide ((u.length:Int) < (s.length:Int))=true by simp;omega,cT,hc,bS,rdig_eq,bS,List.takeWhile_cons]
   cases h:digB c with
   | false=>rfl
   | true =>
    rw [cT,bS,w64_succ (by omega)]
    have:=ih (u++[c]) l (stepD v c) (by omega) (by rw [he];simp)
    rw [show (u++[c]).length=u.length+1 by simp] at this
    simp only [if_true,List.length_cons,List.foldl_cons]
    rw [show u.length+((l.takeWhile digB).length+1)=u.length+1+(l.takeWhile digB).length by omega]
    exact this
theorem rnumber (c:UInt8) (l:List UInt8) (hs:(c::l).length≤200000) (hc:digB c=true) (hN:4194304 < N):Rt (numB (c::l)) (ref09_number N (mkB (c::l))):=by
 unfold ref09_number
 have hl:=rnum_loop (N:=N) (c::l) hs N [] (c::l) 0 (by omega) rfl
 simp only [List.length_nil,Nat.zero_add] at hl
 rw [show ((0:Nat):Int)=(0:Int) from rfl] at hl
 rw [hl]
 unfold numB numK
 have hsplit:=drop_takeWhile digB (c::l)
 have hall:=takeWhile_all digB (c::l)
 have hpos:1≤((c::l).takeWhile digB).length:=by rw [List.takeWhile_cons,hc];simp
 generalize hd:(c::l).takeWhile digB=d at *
 generalize hr:(c::l).drop d.length=r at *
 have hdl:d.length+r.length=l.length+1:=by
  have:=congrArg List.length hsplit;simp at this;omega
 have k1:∀ b,Rt (bif b then .er 3 else bif (decide (d.length > 6) || (decide (d.length > 1) && (c::l).head? == some 48)) then .er 2 else .ok 2 [] (valD d) d.length) (ref09_number_k1 (mkB (c::l)) (d.length:Int) (d.foldl stepD 0) b):=by
  intro b
  unfold ref09_number_k1
  cases b with
  | true=>exact ⟨by decide,_,_,rfl⟩
  | false =>
   rw [cF,cF]
   by_cases h6:d.length > 6
   ·rw [dT h6,show decide ((d.length:Int) > 6)=true by simp;omega]
    exact ⟨by decide,_,_,rfl⟩
   ·rw [dF h6,show decide ((d.length:Int) > 6)=false by simp;omega,Bool.false_or,cF]
    have hv:d.foldl stepD 0=valD d:=fold_stepD d 0 0 hall (by omega) (by decide) (by omega)
    rw [hv]
    by_cases h1:d.length > 1
    ·rw [dT h1,show decide ((d.length:Int) > 1)=true by simp;omega,Bool.true_and,cT]
     rw [show sidx (mkB (c::l)) 0=some (c.toNat:Int) from sidx_mid (x:=[]) (c:=c) (y:=l) (by rw [bs_mkB];rfl) rfl,bS]
     have e:((c.toNat:Int)==48)=((c::l).head? == some 48):=by
      rw [show ((c.toNat:Int)==48)=(c==48) from u8i 48 (by omega) 48 rfl,Bool.eq_iff_iff,beq_iff_eq,beq_iff_eq]
      simp
     rw [e]
     cases ((c::l).head? == some 48) with
     | true=>exact ⟨by decide,_,_,rfl⟩
     | false=>rfl
    ·rw [dF h1,show decide ((d.length:Int) > 1)=false by simp;omega,Bool.false_and,cF,cF]
     rfl
 unfold ref09_number_k2
 rw [size_bs,bs_mkB]
 cases r with
 | nil =>
  rw [show decide ((d.length:Int) < ((c::l).length:Int))=false by simp at hdl;simp;omega,cF]
  exact k1 false
 | cons q r =>
  rw [show decide ((d.length:Int) < ((c::l).length:Int))=true by simp at hdl;simp;omega,cT]
  rw [sidx_mid (x:=d) (c:=q) (y:=r) (by rw [bs_mkB];exact hsplit.symm) rfl,bS,rinn_eq,bS]
  exact k1 (innB q)
end Gp
end
section
namespace Gp
open Go Go.Kx Gx
variable {N:Nat} (hN:4194304 < N)
theorem cat_mkB {a b:List UInt8} (h:a.length+b.length≤4194304):catS (mkB a) (mkB b)=some (mkB (a++b)):=by
 rw [cat_ok (by rw [size_bs,size_bs,bs_mkB,bs_mkB];omega)]
 exact congrArg some (bs_inj (by rw [bs_mkB];simp [mkB,bs]))
def txR (acc:List UInt8) (a:Nat):Option (List UInt8 × Nat)→Option (ByteArray × Int)
 | none=>some (str [],0)
 | some (t,n)=>some (mkB (acc++t),((a+n:Nat):Int))
theorem txR_map (acc:List UInt8) (a:Nat) (c:UInt8) (k:Nat) (o:Option (List UInt8 × Nat)):txR acc a (o.map fun x=>(c::x.1,x.2+k))=txR (acc++[c]) (a+k) o:=by
 cases o with
 | none=>rfl
 | some x=>simp only [Option.map_some,txR,aA,List.singleton_append];rw [show a+(x.2+k)=a+k+x.2 by omega]
theorem rtext_loop (s:List UInt8) (hs:s.length≤200000):∀ (n:Nat) (u y acc:List UInt8),y.length < n→s=u++y→acc.length≤u.length →
  ref09_text_l2 (mkB s) n (mkB acc) (u.length:Int)=txR acc u.length (txtB y):=by
 intro n
 induction n with
 | zero=>intro u y acc h;omega
 | succ n ih =>
  intro u y acc hn he ha
  have hl:s.length=u.length+y.length:=by rw [he];simp
  unfold ref09_text_l2
  rw [size_bs,bs_mkB]
  cases y with
  | nil =>
   rw [show decide ((u.length:Int) < (s.length:Int))=false by simp at hl;simp;omega,cF];rfl
  | cons c l =>
   simp only [List.length_cons] at hl hn
   have hc:sidx (mkB s) (u.length:Int)=some (c.toNat:Int):=sidx_mid (x:=u) (c:=c) (y:=l) (by rw [bs_mkB,he]) rfl
   rw [show decide ((u.length:Int) < (s.length:Int))=true by simp;omega,cT,hc,bS,show ((c.toNat:Int)==34)=(c==34) from u8i 34 (by omega) 34 rfl]
   cases h34:(c==34) with
   | true =>
    have hc':c=34:=by simpa using h34
    subst hc'
    rw [txt34,cT,w64_succ (by omega)]
    simp [txR]
   | false =>
    rw [cF,bS,show ((c.toNat:Int)==92)=(c==92) from u8i 92 (by omega) 92 rfl]
    -- a sign as it stands
    have plain1:(c==92)=false→ref09_text_k3 (mkB s) (mkB acc) (u.length:Int) (ref09_text_l2 (mkB s) n) false=txR acc u.length (txtB (c::l)):=by
     intro h92
     unfold ref09_text_k3
     rw [cF,hc,bS,show ((c.toNat:Int)==92)=(c==92) from u8i 92 (by omega) 92 rfl,h92,cF,bS]
     cases hb1:decide ((c.toNat:Int) < 32) with
     | true=>rw [txt_bad c l h34 h92 (by unfold badB;rw [hb1];rfl)];rfl
     | false =>
      rw [cF,bS]
      cases hb2:decide ((c.toNat:Int) > 126) with
      | true=>rw [txt_bad c l h34 h92 (by unfold badB;rw [hb1,hb2];rfl)];rfl
      | false =>
       rw [cF,txt_one c l h34 h92 (by unfold badB;rw [hb1,hb2];rfl),txR_map,w64_succ (by omega)]
       rw [ssl_mid (x:=u) (y:=[c]) (z:=l) (by rw [bs_mkB,he];rfl) rfl (by simp),bS,cat_mkB (by simp;omega),bS]
       have:=ih (u++[c]) l (acc++[c]) (by omega) (by rw [he];simp) (by simp;omega)
       rw [show (u++[c]).length=u.length+1 by simp] at this
       exact this
    have bad92:(c==92)=true→txtB (c::l)=none→ref09_text_k3 (mkB s) (mkB acc) (u.length:Int) (ref09_text_l2 (mkB s) n) false=txR acc u.length (txtB (c::l)):=by
     intro h92 ht
     unfold ref09_text_k3
     rw [cF,hc,bS,show ((c.toNat:Int)==92)=(c==92) from u8i 92 (by omega) 92 rfl,h92,cT,ht]
     rfl
    cases h92:(c==92) with
    | false=>exact plain1 h92
    | true =>
     have hc':c=92:=by simpa using h92
     rw [cT,w64_succ (by omega)]
     cases l with
     | nil =>
      rw [show decide (((u.length+1:Nat):Int) < (s.length:Int))=false by simp at hl;simp;omega,cF]
      exact bad92 h92 (txt_end c h34)
     | cons d l =>
      have hd:sidx (mkB s) ((u.length+1:Nat):Int)=some (d.toNat:Int):=sidx_mid (x:=u++[c]) (c:=d) (y:=l) (by rw [bs_mkB,he];simp) (by simp)
      rw [show decide (((u.length+1:Nat):Int) < (s.length:Int))=true by simp at hl;simp;omega,cT,hd,bS,show ((d.toNat:Int)==34)=(d==34) from u8i 34 (by omega) 34 rfl]
      simp only [List.length_cons] at hl hn
      have esc:(d==34 || d==92)=true→ref09_text_k3 (mkB s) (mkB acc) (u.length:Int) (ref09_text_l2 (mkB s) n) true=txR acc u.length (txtB (c::d::l)):=by
       intro hq
       unfold ref09_text_k3
       rw [cT,w64_succ (by omega),w64_succ (by omega),ssl_mid (x:=u++[c]) (y:=[d]) (z:=l) (by rw [bs_mkB,he];simp) (by simp) (by simp),bS,cat_mkB (by simp;omega),bS,hc',txt_esc d l hq,txR_map]
       have:=ih (u++[c,d]) l (acc++[d]) (by omega) (by rw [he];simp) (by simp;omega)
       rw [show (u++[c,d]).length=u.length+1+1 by simp] at this
       exact this
      cases hd34:(d==34) with
      | true=>exact esc (by rw [hd34];rfl)
      | false =>
       rw [cF,bS,show ((d.toNat:Int)==92)=(d==92) from u8i 92 (by omega) 92 rfl]
       cases hd92:(d==92) with
       | true=>exact esc (by rw [hd92];simp)
       | false=>exact bad92 h92 (by rw [hc'];exact txt_esc0 d l (by rw [hd34,hd92];rfl))
theorem eqStr_mk (a b:List UInt8):eqStr (mkB a) (mkB b)=(a==b):=by
 unfold eqStr
 rw [toList_bs,toList_bs,bs_mkB,bs_mkB]
theorem any_mk (l:List (List UInt8)) (t:List UInt8):(l.map mkB).any (fun x=>eqStr x (mkB t))=l.any fun m=>m==t:=by
 rw [List.any_map]
 congr 1
 funext m
 exact eqStr_mk m t
include hN in
theorem rmark (c:UInt8) (l:List UInt8) (hs:(c::l).length≤200000) :
  Rt (bif (decide (l≠[]) && marks2.any fun m=>m==(c::l).take 2) then .ok 4 ((c::l).take 2) 0 2 else bif marks1.any fun m=>m==c then .ok 4 [c] 0 1 else .er 3)
   (bif (decide (((mkB (c::l)).size:Int) > (1:Int))) then ((ssl (mkB (c::l)) none (some (2:Int))).bind fun x33=>(z117 N (marks2.map mkB) x33).bind fun x34=>ref09_token_k3 N (mkB (c::l)) x34) else ref09_token_k3 N (mkB (c::l)) false):=by
 have k3f:Rt (bif marks1.any fun m=>m==c then .ok 4 [c] 0 1 else .er 3) (ref09_token_k3 N (mkB (c::l)) false):=by
  unfold ref09_token_k3
  have h1:ssl (mkB (c::l)) none (some (1:Int))=some (mkB [c]):=ssl_to (x:=[c]) (y:=l) (by rw [bs_mkB];rfl) rfl
  rw [cF,h1,bS]
  have h2:=refIn_eq hN ((marks1.map fun c=>[c]).map mkB) (by decide) (mkB [c])
  rw [any_mk,List.any_map] at h2
  have h3:(marks1.any ((fun m:List UInt8=>m==[c]) ∘ fun c=>[c]))=marks1.any fun m=>m==c:=by
   congr 1;funext m
   show ([m]==[c])=(m==c)
   rw [Bool.eq_iff_iff,beq_iff_eq,beq_iff_eq];simp
  rw [h3] at h2
  show Rt _ ((z117 N ((marks1.map fun c=>[c]).map mkB) (mkB [c])).bind _)
  rw [h2,bS]
  cases marks1.any fun m=>m==c with
  | false=>exact ⟨by decide,_,_,rfl⟩
  | true=>rfl
 rw [size_bs,bs_mkB]
 cases l with
 | nil =>
  rw [show decide ((([c]:List UInt8).length:Int) > 1)=false by simp,cF]
  exact k3f
 | cons d l =>
  rw [show decide (((c::d::l).length:Int) > 1)=true by simp;omega,cT]
  have h1:ssl (mkB (c::d::l)) none (some (2:Int))=some (mkB [c,d]):=ssl_to (x:=[c,d]) (y:=l) (by rw [bs_mkB];rfl) rfl
  rw [h1,bS]
  have h2:=refIn_eq hN (marks2.map mkB) (by decide) (mkB [c,d])
  rw [any_mk] at h2
  rw [h2,bS]
  rw [show (c::d::l).take 2=[c,d] from rfl,show (decide (d::l≠[]) && marks2.any fun m=>m==[c,d])=marks2.any fun m=>m==[c,d] by simp]
  cases marks2.any fun m=>m==[c,d] with
  | false=>exact k3f
  | true =>
   unfold ref09_token_k3
   rw [cT,cT,h1];rfl
include hN in
theorem rtoken (c:UInt8) (l:List UInt8) (hs:(c::l).length≤200000):Rt (tokB (c::l)) (ref09_token N (mkB (c::l))):=by
 unfold ref09_token
 have hc:sidx (mkB (c::l)) (0:Int)=some (c.toNat:Int):=sidx_mid (x:=[]) (c:=c) (y:=l) (by rw [bs_mkB];rfl) rfl
 simp only [hc,bS,rlet_eq,rdig_eq,tokB]
 cases h1:letB c with
 | true =>
  have:=rname c N [] l (by simpa using hs) (by simp only [List.length_cons] at hs;omega) (N:=N)
  exact this
 | false =>
  simp only [cF]
  cases h2:digB c with
  | true =>
   simp only [cT]
   have h:=rnumber c l hs h2 hN
   cases hx:numB (c::l) with
   | er e =>
    rw [hx] at h
    obtain ⟨he,t,q,ho⟩:=h
    exact ⟨he,t,q,by rw [ho];rfl⟩
   | ok k tx v n =>
    rw [hx] at h
    have ho:ref09_number N (mkB (c::l))=_:=h
    show _=_
    rw [ho];rfl
  | false =>
   simp only [cF]
   rw [show ((c.toNat:Int)==34)=(c==34) from u8i 34 (by omega) 34 rfl]
   cases h3:(c==34) with
   | true =>
    have hc':c=34:=by simpa using h3
    subst hc'
    simp only [cT]
    unfold ref09_text
    have:=rtext_loop (34::l) hs N [34] l [] (by simp only [List.length_cons] at hs;omega) rfl (by simp)
    rw [show (1:Int)=(([34]:List UInt8).length:Int) from rfl,show str []=mkB [] from rfl,this]
    cases ht:txtB l with
    | none=>exact ⟨by decide,_,_,rfl⟩
    | some x =>
     simp only [txR,List.nil_append,bS]
     have hn:=txtB_len l (t:=x.1) (n:=x.2) ht
     rw [show ((((([34]:List UInt8).length+x.2:Nat):Int))==0)=false by simp;omega,cF,size_bs,bs_mkB]
     by_cases h40:x.1.length > 40
     ·rw [dT h40,show decide ((x.1.length:Int) > 40)=true by simp;omega]
      exact ⟨by decide,_,_,rfl⟩
     ·rw [dF h40,show decide ((x.1.length:Int) > 40)=false by simp;omega,cF,cF]
      show some _=some _
      simp only [List.length_singleton]
      rw [show 1+x.2=x.2+1 by omega]
   | false =>
    simp only [cF]
    exact rmark hN c l hs
include hN in
theorem rtoks_loop (s:ByteArray) (hs:s.size≤200000):∀ (F n:Nat) (x y:List UInt8) (acc:List Tok),F≤n→y.length < F→bs s=x++y→acc.length≤x.length →
  match lexL F y x.length with
  | .inl (p,e)=>e≠0∧ref09_Tokens_l2 N s n acc ((x.length+skW false y:Nat):Int)=some ([],(p:Int),e)
  | .inr ts=>ref09_Tokens_l2 N s n acc ((x.length+skW false y:Nat):Int)=some (acc++ts,0,0):=by
 intro F
 induction F with
 | zero=>intro n x y acc _ h;omega
 | succ F ih =>
  intro n x y acc hFn hF he hacc
  obtain ⟨n,rfl⟩:∃ m,n=m+1:=⟨n-1,by omega⟩
  have hsz:s.size=x.length+y.length:=by rw [size_bs,he];simp
  have hk:=skW_le false y
  simp only [lexL,ref09_Tokens_l2]
  cases hd:y.drop (skW false y) with
  | nil =>
   have hge:=List.drop_eq_nil_iff.1 hd
   rw [show decide (((x.length+skW false y:Nat):Int) < (s.size:Int))=false by simp;omega,cF]
   simp only [ref09_Tokens_k1,List.append_nil]
  | cons c l =>
   have hlen:(c::l).length=y.length-skW false y:=by rw [← hd,List.length_drop]
   simp only [List.length_cons] at hlen
   rw [show decide (((x.length+skW false y:Nat):Int) < (s.size:Int))=true by simp;omega,cT]
   have he2:bs s=(x++y.take (skW false y))++c::l:=by rw [he,aA,← hd,List.take_append_drop]
   have hx2:(x++y.take (skW false y)).length=x.length+skW false y:=by simp;omega
   rw [ssl_from he2 (by rw [hx2]),bS]
   have ho:=rtoken hN c l (by simp only [List.length_cons];omega)
   cases ht:tokB (c::l) with
   | er e =>
    rw [ht] at ho
    obtain ⟨h0,t,q,ho⟩:=ho
    simp only [ht]
    refine ⟨h0,?_⟩
    rw [ho,bS,show (e != (0:Int))=true by simp [h0]];rfl
   | ok k tx v m =>
    rw [ht] at ho
    simp only [ht]
    have ho:ref09_token N (mkB (c::l))=_:=ho
    have tk:=tokB_ok ht
    have htk:=tk.le
    have htp:=tk.pos
    simp only [List.length_cons] at htk
    rw [ho,bS]
    simp only []
    rw [show ((0:Int) != 0)=false from rfl,cF,appL_some (by simp;omega),bS]
    have he3:bs s=((x++y.take (skW false y))++(c::l).take m)++(c::l).drop m:=by rw [he2,aA,aA,aA,List.take_append_drop]
    have hx3:((x++y.take (skW false y))++(c::l).take m).length=x.length+skW false y+m:=by rw [lA,hx2];simp;omega
    rw [w64_id (by omega) (by omega),rskipN hN s hs _ _ he3 (by rw [hx3];omega),bS]
    have:=ih n ((x++y.take (skW false y))++(c::l).take m) ((c::l).drop m) (acc++[⟨k,mkB tx,v,((x.length+skW false y:Nat):Int)⟩]) (by omega) (by rw [List.length_drop,List.length_cons];omega) he3 (by rw [hx3];simp;omega)
    rw [hx3] at this ⊢
    cases hL:lexL F ((c::l).drop m) (x.length+skW false y+m) with
    | inl q=>rw [hL] at this;simp only [hL];exact this
    | inr ts=>rw [hL] at this;simp only [aA,List.singleton_append] at this;simp only [hL];exact this
include hN in
theorem rtokens_eq (s:ByteArray):match toksS s with
  | .inl (p,e)=>e≠0∧ref09_Tokens N s=some ([],(p:Int),e)
  | .inr ts=>ref09_Tokens N s=some (ts,0,0):=by
 unfold toksS ref09_Tokens
 by_cases h:s.size > 8000
 ·rw [dT h,show decide ((s.size:Int) > 8000)=true by simp;omega]
  exact ⟨by decide,rfl⟩
 ·rw [dF h,show decide ((s.size:Int) > 8000)=false by simp;omega,cF,cF]
  rw [rskipN hN s (by omega) [] (bs s) rfl (i:=0) rfl,bS]
  exact rtoks_loop hN s (by omega) (s.size+1) N [] (bs s) [] (by omega) (by rw [← size_bs];omega) rfl (by simp)
end Gp
end
section
namespace Gp
open Go Go.Kx Gx
theorem lexL_ok:∀ (F:Nat) (s:List UInt8) (a:Nat) {ts:List Tok},lexL F s a=.inr ts→ts.length≤s.length∧∀ t∈ts,∃ s' k tx v n,TokOk s' k tx n∧s'.length≤s.length∧t.Kind=k∧t.Text=mkB tx∧t.Value=v
 | 0,_,_,_,h=>by cases h
 | F+1,s,a,ts,h=>by
  simp only [lexL] at h
  have hk:=skW_le false s
  cases hd:s.drop (skW false s) with
  | nil=>rw [hd] at h;cases h;simp
  | cons c l =>
   rw [hd] at h
   have hlen:(c::l).length≤s.length:=by rw [← hd,List.length_drop];omega
   cases ht:tokB (c::l) with
   | er e=>simp only [ht] at h;cases h
   | ok k tx v n =>
    simp only [ht] at h
    have tk:=tokB_ok ht
    cases hL:lexL F ((c::l).drop n) (a+skW false s+n) with
    | inl x=>rw [hL] at h;cases h
    | inr ts' =>
     rw [hL] at h
     cases h
     obtain ⟨h1,h2⟩:=lexL_ok F _ _ hL
     have:=tk.pos
     have:=tk.le
     rw [List.length_drop] at h1
     refine ⟨by simp only [List.length_cons] at *;omega,fun t hm=>?_⟩
     rcases List.mem_cons.1 hm with rfl | hm
     ·exact ⟨_,k,tx,v,n,tk,hlen,rfl,rfl,rfl⟩
     ·obtain ⟨s',k',tx',v',n',q1,q2,q3⟩:=h2 t hm
      exact ⟨s',k',tx',v',n',q1,by rw [List.length_drop] at q2;omega,q3⟩
theorem letB_mark {c:UInt8} (h:letB c=true):c≠60∧c≠61∧c≠62:=by
 refine ⟨?_,?_,?_⟩<;>(rintro rfl;exact absurd h (by decide))
theorem marksL_map:marksL=([[60],[60,61],[61,61],[62,61],[62]]:List (List UInt8)).map mkB:=rfl
theorem starters_map:starters=([[99,104,111,105,99,101],[108,111,111,112],[97,103,97,105,110],[112,97,114],[99,97,108,108]]:List (List UInt8)).map mkB:=rfl
theorem toksS_ok {s:ByteArray} {ts:List Tok} (h:toksS s=.inr ts):ts.length≤8000∧(∀ t∈ts,t.Text.size≤8100)∧WfT ts∧s.size≤8000:=by
 unfold toksS at h
 by_cases h8:s.size > 8000
 ·rw [dT h8] at h;cases h
 ·rw [dF h8,cF] at h
  obtain ⟨h1,h2⟩:=lexL_ok _ _ _ h
  rw [← size_bs] at h1 h2
  refine ⟨by omega,fun t ht=>?_,fun t ht=>?_,by omega⟩
  ·obtain ⟨s',k,tx,v,n,q1,q2,q3,q4,q5⟩:=h2 t ht
   rw [q4,size_bs,bs_mkB]
   have:=q1.len;have:=q1.le;omega
  ·obtain ⟨s',k,tx,v,n,q1,q2,q3,q4,q5⟩:=h2 t ht
   rw [q3,q4]
   refine ⟨fun hk=>?_,fun hk=>?_⟩
   ·obtain ⟨c,l,rfl,hc⟩:=q1.name hk
    obtain ⟨n1,n2,n3⟩:=letB_mark hc
    rw [marksL_map,any_mk]
    simp only [List.any_cons,List.any_nil,Bool.or_false,Bool.or_eq_false_iff,beq_eq_false_iff_ne]
    refine ⟨?_,?_,?_,?_,?_⟩<;>(intro h;injection h with h _;first | exact n1 h.symm | exact n2 h.symm | exact n3 h.symm)
   ·rw [starters_map,any_mk]
    have hl:tx.length≤2:=by
     rcases q1.mark hk with hm | ⟨c,_,rfl⟩
     ·have:∀ m∈marks2,m.length≤2:=by decide
      exact this tx hm
     ·simp
    simp only [List.any_cons,List.any_nil,Bool.or_false,Bool.or_eq_false_iff,beq_eq_false_iff_ne]
    refine ⟨?_,?_,?_,?_,?_⟩<;>(intro h;rw [← h] at hl;simp at hl)
def pz (s:ByteArray):Nat:=s.size / 17
abbrev zp (s:ByteArray):Nat:=pz s+1
theorem pz_nil:pz (str [])=0:=rfl
mutual
def zI:T10→Nat
 | ⟨_,_,t,nm,_,_,b⟩=>t.length+pz nm+zLL b+1
def zL:List T10→Nat
 | []=>0
 | x::l=>zI x+zL l
def zLL:List (List T10)→Nat
 | []=>0
 | x::l=>zL x+1+zLL l
end
theorem zL_len:∀ l:List T10,l.length≤zL l
 | []=>by simp [zL]
 | x::l=>by
  have:=zL_len l
  cases x
  simp only [zL,zI,List.length_cons];omega
theorem zLL_len:∀ l:List (List T10),l.length≤zLL l
 | []=>by simp [zLL]
 | x::l=>by
  have:=zLL_len l
  simp only [zLL,List.length_cons];omega
mutual
theorem z_I:∀ x,zI x≤4194304→bI x∧dI x≤zI x
 | ⟨_,_,t,_,_,_,b⟩,h=>by
  simp only [zI] at h
  have hb:=zLL_len b
  obtain ⟨h1,h2⟩:=z_LL b (by omega)
  simp only [bI,dI,zI]
  exact ⟨⟨by omega,by omega,h1⟩,by omega⟩
theorem z_L:∀ l,zL l≤4194304→bL l∧dL l≤zL l
 | [],_=>by simp only [bL,dL,zL];exact ⟨trivial,Nat.le_refl _⟩
 | x::l,h=>by
  simp only [zL] at h
  obtain ⟨h1,h2⟩:=z_I x (by omega)
  obtain ⟨h3,h4⟩:=z_L l (by omega)
  simp only [bL,dL,zL]
  exact ⟨⟨h1,h3⟩,by omega⟩
theorem z_LL:∀ l,zLL l≤4194304→bLL l∧dLL l≤zLL l
 | [],_=>by simp only [bLL,dLL,zLL];exact ⟨trivial,Nat.le_refl _⟩
 | x::l,h=>by
  simp only [zLL] at h
  have hx:=zL_len x
  obtain ⟨h1,h2⟩:=z_L x (by omega)
  obtain ⟨h3,h4⟩:=z_LL l (by omega)
  simp only [bLL,dLL,zLL]
  exact ⟨⟨by omega,h1,h3⟩,by omega⟩
end
theorem zL_snoc (l:List T10) (x:T10):zL (snoc l x)=zL l+zI x:=by
 unfold snoc
 induction l with
 | nil=>simp [zL]
 | cons y l ih=>simp only [List.cons_append,zL];rw [ih];omega
theorem zLL_snoc (l:List (List T10)) (x:List T10):zLL (snoc l x)=zLL l+(zL x+1):=by
 unfold snoc
 induction l with
 | nil=>simp [zLL]
 | cons y l ih=>simp only [List.cons_append,zLL];rw [ih];omega
section
variable (l:List Tok)
structure Nm {β:Type} (d:Nat) (z:β→Nat) (c:Nat) (S:Nat→Rr β) (B:Nat):Prop where
 out:∀ n,B≤n→n≤l.length→S n≠.out
 ok:∀ n,B≤n→n≤l.length→∀ a m,S n=.ok a m→n+d≤m∧m≤l.length∧z a+n≤m+c
variable {l}
theorem Nm.ret {β:Type} {z:β→Nat} {c:Nat} {b:β} {B:Nat} (h:z b≤c):Nm l 0 z c (fun n=>.ok b n) B :=
 ⟨fun _ _ _ h=>(by cases h),fun n _ hn a m h=>by cases h;exact ⟨Nat.le_refl _,hn,by omega⟩⟩
theorem Nm.bind {α β:Type} {d1 d2:Nat} {z1:α→Nat} {z2:β→Nat} {c:Nat} {S:Nat→Rr α} {T:α→Nat→Rr β} {B:Nat} (h:Nm l d1 z1 0 S B) (hT:∀ a,Nm l d2 z2 (c+z1 a) (T a) B):Nm l (d1+d2) z2 c (fun n=>(S n).bind T) B:=by
 refine ⟨fun n hB hn=>?_,fun n hB hn b m hm=>?_⟩
 ·cases hS:S n with
  | ok a m => 
   obtain ⟨h1,h2,_⟩:=h.ok n hB hn a m hS
   exact (hT a).out m (by omega) h2
  | er k e=>intro h;cases h
  | out=>exact absurd hS (h.out n hB hn)
 ·have hm:(S n).bind T=.ok b m:=hm
  cases hS:S n with
  | ok a m1 =>
   rw [hS] at hm
   obtain ⟨h1,h2,h3⟩:=h.ok n hB hn a m1 hS
   obtain ⟨h4,h5,h6⟩:=(hT a).ok m1 (by omega) h2 b m hm
   exact ⟨by omega,h5,by omega⟩
  | er k e=>rw [hS] at hm;cases hm
  | out=>rw [hS] at hm;cases hm
theorem Nm.weak {β:Type} {d d':Nat} {z z':β→Nat} {c c':Nat} {S:Nat→Rr β} {B B':Nat} (h:Nm l d z c S B) (hd:d'≤d) (hz:∀ a,z' a≤z a) (hc:c≤c') (hB:B≤B'):Nm l d' z' c' S B' :=
 ⟨fun n h1 h2=>h.out n (by omega) h2,fun n h1 h2 a m hm=>by
  obtain ⟨q1,q2,q3⟩:=h.ok n (by omega) h2 a m hm
  have:=hz a
  exact ⟨by omega,q2,by omega⟩⟩
theorem Nm.takes {β:Type} {d:Nat} {z:β→Nat} {c:Nat} {s:ByteArray} {A C:Nat→Rr β} {B:Nat} (hA:Nm l d z (c+1) A (B+1)) (hC:Nm l (d+1) z c C B):Nm l (d+1) z c (fun n=>bif isT s (tk l n) then A (n+1) else C n) B:=by
 refine ⟨fun n hB hn=>?_,fun n hB hn b m hm=>?_⟩
 ·cases hi:isT s (tk l n) with
  | true=>exact hA.out (n+1) (by omega) (isT_lt hi)
  | false=>exact hC.out n hB hn
 ·have hm:(bif isT s (tk l n) then A (n+1) else C n)=.ok b m:=hm
  cases hi:isT s (tk l n) with
  | true =>
   rw [hi] at hm
   obtain ⟨h1,h2,h3⟩:=hA.ok (n+1) (by omega) (isT_lt hi) b m hm
   exact ⟨by omega,h2,by omega⟩
  | false=>rw [hi] at hm;exact hC.ok n hB hn b m hm
theorem Nm.takes0 {β:Type} {z:β→Nat} {c:Nat} {s:ByteArray} {A C:Nat→Rr β} {B:Nat} (hA:Nm l 0 z (c+1) A (B+1)) (hC:Nm l 0 z c C B):Nm l 0 z c (fun n=>bif isT s (tk l n) then A (n+1) else C n) B:=by
 refine ⟨fun n hB hn=>?_,fun n hB hn b m hm=>?_⟩
 ·cases hi:isT s (tk l n) with
  | true=>exact hA.out (n+1) (by omega) (isT_lt hi)
  | false=>exact hC.out n hB hn
 ·have hm:(bif isT s (tk l n) then A (n+1) else C n)=.ok b m:=hm
  cases hi:isT s (tk l n) with
  | true =>
   rw [hi] at hm
   obtain ⟨h1,h2,h3⟩:=hA.ok (n+1) (by omega) (isT_lt hi) b m hm
   exact ⟨by omega,h2,by omega⟩
  | false=>rw [hi] at hm;exact hC.ok n hB hn b m hm
abbrev Z0 {β:Type}:β→Nat:=fun _=>0
abbrev Z1 {β:Type}:β→Nat:=fun _=>1
theorem wants_nm (s:ByteArray) (B:Nat):Nm l 1 (Z1:Unit→Nat) 0 (sWants s l) B:=by
 refine ⟨fun n _ _=>?_,fun n _ hn a m hm=>?_⟩
 ·unfold sWants;cases isT s (tk l n)<;>(intro h;cases h)
 ·unfold sWants at hm
  cases hi:isT s (tk l n) with
  | true=>rw [hi] at hm;cases hm;exact ⟨Nat.le_refl _,isT_lt hi,by show 1+n≤_;omega⟩
  | false=>rw [hi] at hm;cases hm
theorem word_size {s:ByteArray} (h:isWord s=true):s.size≤16:=by
 rw [size_bs]
 unfold isWord isName at h
 rw [Bool.and_eq_true] at h
 cases hb:bs s with
 | nil=>simp
 | cons x l =>
  rw [hb] at h
  have:=h.1
  simp only [Bool.and_eq_true,decide_eq_true_eq] at this
  simp only [List.length_cons];omega
theorem word_nm (B:Nat):Nm l 1 zp 0 (sWord l) B:=by
 refine ⟨fun n _ _=>?_,fun n _ hn a m hm=>?_⟩
 ·unfold sWord;cases wordT (tk l n)<;>(intro h;cases h)
 ·unfold sWord at hm
  cases hi:wordT (tk l n) with
  | true =>
   rw [hi] at hm;cases hm
   have hw:=word_size ((wordT_iff _).1 hi).2
   exact ⟨Nat.le_refl _,kind_lt (k:=1) (by decide) (by simp [((wordT_iff _).1 hi).1]),by show (tk l n).Text.size / 17+1+n≤_;omega⟩
  | false=>rw [hi] at hm;cases hm
theorem num_nm (B:Nat):Nm l 1 (Z1:Int→Nat) 0 (sNum l) B:=by
 refine ⟨fun n _ _=>?_,fun n _ hn a m hm=>?_⟩
 ·unfold sNum;cases ((tk l n).Kind==2)<;>(intro h;cases h)
 ·unfold sNum at hm
  cases hi:((tk l n).Kind==2) with
  | true=>rw [hi] at hm;cases hm;exact ⟨Nat.le_refl _,kind_lt (k:=2) (by decide) hi,by show 1+n≤_;omega⟩
  | false=>rw [hi] at hm;cases hm
theorem signed_nm (B:Nat):Nm l 1 (Z1:Int→Nat) 0 (sSigned l) B:=by
 refine (Nm.takes (d:=0) (c:=0) (z:=Z1) (A:=fun m=>(sNum l m).bind fun v k=>.ok (w64 (0-v)) k) ?_ ?_)
 ·exact (Nm.bind (d2:=0) (c:=1) (num_nm (B+1)) fun v=>Nm.ret (by show 1≤1+1;omega)).weak (by omega) (fun _=>Nat.le_refl _) (by omega) (Nat.le_refl _)
 ·exact num_nm B
theorem loop_nm {α β:Type} {s:ByteArray} {p:Pm α} {upd:β→α→β} {za:α→Nat} {zb:β→Nat} {B:Nat} (hz:∀ acc a,zb (upd acc a)≤zb acc+za a+1) (hp:Nm l 0 za 0 (p l) B):∀ (F:Nat) (acc:β) (n:Nat),l.length < F+n→B≤n→n≤l.length →
  sLoop s p upd F acc l n≠.out∧∀ a m,sLoop s p upd F acc l n=.ok a m→n≤m∧m≤l.length∧zb a+n≤m+zb acc:=by
 intro F
 induction F with
 | zero=>intro acc n h h1 h2;omega
 | succ F ih =>
  intro acc n h h1 h2
  simp only [sLoop]
  cases hi:isT s (tk l n) with
  | false=>exact ⟨fun h=>(by cases h),fun a m h=>by cases h;exact ⟨Nat.le_refl _,h2,by omega⟩⟩
  | true =>
   have hn:=isT_lt hi
   simp only [cT]
   cases hp1:p l (n+1) with
   | ok a m =>
    obtain ⟨q1,q2,q3⟩:=hp.ok (n+1) (by omega) hn a m hp1
    obtain ⟨r1,r2⟩:=ih (upd acc a) m (by omega) (by omega) q2
    refine ⟨r1,fun b k hb=>?_⟩
    obtain ⟨r3,r4,r5⟩:=r2 b k hb
    have:=hz acc a
    exact ⟨by omega,r4,by omega⟩
   | er k e=>exact ⟨fun h=>(by cases h),fun a m h=>by cases h⟩
   | out=>exact absurd hp1 (hp.out (n+1) (by omega) hn)
theorem Nm.loop {α β:Type} {s:ByteArray} {p:Pm α} {upd:β→α→β} {za:α→Nat} {zb:β→Nat} {B F:Nat} (hz:∀ acc a,zb (upd acc a)≤zb acc+za a+1) (hp:Nm l 0 za 0 (p l) B) (hF:l.length < F+B) (acc:β):Nm l 0 zb (zb acc) (sLoop s p upd F acc l) B :=
 ⟨fun n h1 h2=>(loop_nm hz hp F acc n (by omega) h1 h2).1,fun n h1 h2 a m hm=>by
  obtain ⟨q1,q2,q3⟩:=(loop_nm hz hp F acc n (by omega) h1 h2).2 a m hm
  exact ⟨q1,q2,q3⟩⟩
abbrev Zl {β:Type}:List β→Nat:=fun l=>l.length
theorem Zl_snoc {β:Type} (k:Nat) (acc:List β) (a:β):Zl (snoc acc a)≤Zl acc+k+1:=by simp [snoc]
theorem words_nm {F B:Nat} (hF:l.length < F+B):Nm l 1 (Zl:List ByteArray→Nat) 0 (sWords F l) B:=by
 refine (Nm.bind (d2:=0) (word_nm B) fun w=>?_)
 exact (Nm.loop (zb:=Zl) (za:=Z0) (fun acc a=>Zl_snoc 0 acc a) ((word_nm B).weak (by omega) (fun _=>Nat.zero_le _) (by omega) (Nat.le_refl _)) hF [w]).weak (Nat.le_refl _) (fun _=>Nat.le_refl _) (by simp) (Nat.le_refl _)
theorem path_nm {F B:Nat} (hF:l.length < F+B):Nm l 1 zp 0 (sPath F l) B:=by
 refine (Nm.bind (d2:=0) (word_nm B) fun w=>?_)
 exact (Nm.loop (zb:=zp) (za:=zp) (fun acc a=>by
  have h:(dotW acc a).size=acc.size+(1+a.size):=by unfold dotW;rw [ByteArray.size_append,ByteArray.size_append];rfl
  show (dotW acc a).size / 17+1≤acc.size / 17+1+(a.size / 17+1)+1
  rw [h];omega) ((word_nm B).weak (by omega) (fun _=>Nat.le_refl _) (by omega) (Nat.le_refl _)) hF w).weak (Nat.le_refl _) (fun _=>Nat.le_refl _) (by show zp w≤0+zp w;omega) (Nat.le_refl _)
end
end Gp
end
section
namespace Gp
open Go Go.Kx Gx
section
variable {l:List Tok}
theorem Nm.congr {β:Type} {d:Nat} {z:β→Nat} {c:Nat} {S S':Nat→Rr β} {B:Nat} (h:Nm l d z c S B) (e:∀ n,S' n=S n):Nm l d z c S' B :=
 ⟨fun n h1 h2=>by rw [e];exact h.out n h1 h2,fun n h1 h2 a m hm=>h.ok n h1 h2 a m (by rw [← e];exact hm)⟩
theorem Nm.b0 {α β:Type} {d1:Nat} {z1:α→Nat} {z2:β→Nat} {c:Nat} {S:Nat→Rr α} {T:α→Nat→Rr β} {B:Nat} (h:Nm l d1 z1 0 S B) (hT:∀ a,Nm l 0 z2 (c+z1 a) (T a) B):Nm l 0 z2 c (fun n=>(S n).bind T) B :=
 (Nm.bind h hT).weak (Nat.zero_le _) (fun _=>Nat.le_refl _) (Nat.le_refl _) (Nat.le_refl _)
theorem Nm.b1 {α β:Type} {z1:α→Nat} {z2:β→Nat} {c:Nat} {S:Nat→Rr α} {T:α→Nat→Rr β} {B:Nat} (h:Nm l 1 z1 0 S B) (hT:∀ a,Nm l 0 z2 (c+z1 a) (T a) B):Nm l 1 z2 c (fun n=>(S n).bind T) B :=
 Nm.bind (d2:=0) h hT
theorem sep_nm {α:Type} {s:ByteArray} {p:Pm α} {za:α→Nat} {zb:List α→Nat} {B F:Nat} (hz:∀ acc a,zb (snoc acc a)≤zb acc+za a+1) (h1:∀ a,zb [a]≤za a+1) (hp:Nm l 1 (fun a=>za a+1) 0 (p l) B) (hF:l.length < F+B) :
  Nm l 1 zb 0 (fun n=>(p l n).bind fun a n=>sLoop s p snoc F [a] l n) B :=
 Nm.b1 hp fun a=>(Nm.loop hz (hp.weak (Nat.zero_le _) (fun a=>Nat.le_succ _) (Nat.le_refl _) (Nat.le_refl _)) hF [a]).weak (Nat.le_refl _) (fun _=>Nat.le_refl _) (by have:=h1 a;omega) (Nat.le_refl _)
theorem field_nm (B:Nat):Nm l 1 (Z1:T0→Nat) 0 (sField l) B:=by
 refine Nm.b1 (word_nm B) fun w=>Nm.b0 (wants_nm _ B) fun _=>?_
 refine Nm.takes0 (A:=fun m=>(sSigned l m).bind fun lo n=>(sWants (str [46,46]) l n).bind fun _ n=>(sSigned l n).bind fun hi n=>.ok (⟨w,⟨1,lo,hi⟩⟩:T0) n) ?_ ?_
 ·exact Nm.b0 (signed_nm _) fun _=>Nm.b0 (wants_nm _ _) fun _=>Nm.b0 (signed_nm _) fun _=>Nm.ret (by show 1≤_+1;omega)
 ·exact Nm.b0 (wants_nm _ _) fun _=>Nm.b0 (num_nm _) fun _=>Nm.b0 (wants_nm _ _) fun _=>Nm.b0 (num_nm _) fun _=>Nm.ret (by show 1≤_+1;omega)
abbrev zT (t:T13):Nat:=pz t.Message+1
theorem splitP_size (s:ByteArray):(splitP s).1.size≤s.size:=by
 unfold splitP
 cases h:lastDot (bs s) with
 | some i =>
  have:=lastDot_lt h
  show (mkB ((bs s).take i)).size≤_
  rw [size_bs,bs_mkB,List.length_take,size_bs];omega
 | none=>exact Nat.zero_le _
theorem splitP_pz (s:ByteArray):pz (splitP s).1≤pz s:=Nat.div_le_div_right (splitP_size s)
theorem tail_nm (k:Int) (s:ByteArray) (c B:Nat) (hc:zp s≤c):Nm l 0 zT c (sTail k s l) B:=by
 have h0:=splitP_pz s
 unfold sTail
 refine Nm.takes0 (A:=fun m=>(sNum l m).bind fun v n=>.ok (⟨k,(splitP s).1,(splitP s).2,v⟩:T13) n) ?_ ?_
 ·exact Nm.b0 (num_nm _) fun _=>Nm.ret (by show pz (splitP s).1+1≤_;have:pz s+1≤c:=hc;omega)
 ·refine Nm.takes0 (A:=fun m=>(sNum l m).bind fun v n=>.ok (⟨k,(splitP s).1,(splitP s).2,w64 (0-v)⟩:T13) n) ?_ ?_
  ·exact Nm.b0 (num_nm _) fun _=>Nm.ret (by show pz (splitP s).1+1≤_;have:pz s+1≤c:=hc;omega)
  ·exact Nm.ret (by show pz (splitP s).1+1≤_;have:pz s+1≤c:=hc;omega)
theorem term_nm {F B:Nat} (hF:l.length < F+B):Nm l 1 zT 0 (sTerm F l) B:=by
 have hs:Nm l 1 zT 0 (fun n=>(sSigned l n).bind fun v n=>.ok ⟨1,str [],str [],v⟩ n) B:=Nm.b1 (signed_nm B) fun _=>Nm.ret (by show pz (str [])+1≤0+1;rw [pz_nil];omega)
 have hp:Nm l 1 zT 0 (fun n=>bif isT (str [108,101,110]) (tk l n) then (sWants (str [40]) l (n+1)).bind fun _ n=>(sPath F l n).bind fun s n=>(sWants (str [41]) l n).bind fun _ n=>sTail 3 s l n else (sPath F l n).bind fun s n=>sTail 2 s l n) B:=by
  refine Nm.takes (d:=0) (A:=fun m=>(sWants (str [40]) l m).bind fun _ n=>(sPath F l n).bind fun s n=>(sWants (str [41]) l n).bind fun _ n=>sTail 3 s l n) ?_ ?_
  ·exact Nm.b0 (wants_nm _ _) fun _=>Nm.b0 (path_nm (by omega)) fun s=>Nm.b0 (wants_nm _ _) fun _=>tail_nm 3 s _ _ (by show zp s≤0+1+1+zp s+1;omega)
  ·exact Nm.b1 (path_nm hF) fun s=>tail_nm 2 s _ _ (by omega)
 refine ⟨fun n h1 h2=>?_,fun n h1 h2 a m hm=>?_⟩
 ·unfold sTerm
  cases (isT (str [45]) (tk l n) || (tk l n).Kind==2) with
  | true=>exact hs.out n h1 h2
  | false=>exact hp.out n h1 h2
 ·unfold sTerm at hm
  cases hx:(isT (str [45]) (tk l n) || (tk l n).Kind==2) with
  | true=>rw [hx] at hm;exact hs.ok n h1 h2 a m hm
  | false=>rw [hx] at hm;exact hp.ok n h1 h2 a m hm
abbrev zA (a:T9):Nat:=pz a.Left.Message+pz a.Right.Message
theorem atom_nm {F B:Nat} (hF:l.length < F+B):Nm l 1 (fun a=>zA a+1) 0 (sAtom F l) B:=by
 refine Nm.b1 (term_nm hF) fun a=>?_
 have hA:∀ tx,Nm l 0 (fun a=>zA a+1) (zT a+1) (fun m=>(sTerm F l m).bind fun b m=>.ok (⟨a,tx,b⟩:T9) m) (B+1):=fun tx=>Nm.b0 (term_nm (by omega)) fun b=>Nm.ret (by show pz a.Message+pz b.Message+1≤pz a.Message+1+1+(pz b.Message+1);omega)
 refine ⟨fun n h1 h2=>?_,fun n h1 h2 b m hm=>?_⟩
 ·cases hx:markT (tk l n) with
  | true =>
   have hn:n < l.length:=by unfold markT at hx;rw [Bool.and_eq_true] at hx;exact kind_lt (k:=4) (by decide) hx.1
   simp only [hx,cT]
   exact (hA _).out (n+1) (by omega) hn
  | false=>simp only [hx,cF];intro h;cases h
 ·cases hx:markT (tk l n) with
  | true =>
   have hn:n < l.length:=by unfold markT at hx;rw [Bool.and_eq_true] at hx;exact kind_lt (k:=4) (by decide) hx.1
   simp only [hx,cT] at hm
   obtain ⟨q1,q2,q3⟩:=(hA _).ok (n+1) (by omega) hn b m hm
   exact ⟨by omega,q2,by show zA b+1+n≤m+(0+zT a);omega⟩
  | false=>simp only [hx,cF] at hm;cases hm
def zAs:List T9→Nat
 | []=>0
 | a::l=>zA a+1+zAs l
theorem zAs_snoc (acc:List T9) (a:T9):zAs (snoc acc a)≤zAs acc+zA a+1:=by
 unfold snoc
 induction acc with
 | nil=>simp [zAs]
 | cons x l ih=>simp only [List.cons_append,zAs];omega
def zM (m:T11):Nat:=pz m.Name+m.Fields.length+zAs m.Where
theorem where_nm {F B:Nat} (hF:l.length < F+B) (nm:ByteArray) (fs:List T0) (c:Nat) (hc:pz nm+fs.length≤c):Nm l 0 zM c (sWhere F nm fs l) B:=by
 unfold sWhere
 refine Nm.takes0 (A:=fun m=>(sAtom F l m).bind fun a n=>(sLoop (str [97,110,100]) (sAtom F) snoc F [a] l n).bind fun as' n=>(sWants (str [59]) l n).bind fun _ n=>.ok (⟨nm,fs,as'⟩:T11) n) ?_ ?_
 ·refine Nm.congr (S:=fun m=>((sAtom F l m).bind fun a n=>sLoop (str [97,110,100]) (sAtom F) snoc F [a] l n).bind fun as' n=>(sWants (str [59]) l n).bind fun _ n=>.ok (⟨nm,fs,as'⟩:T11) n) ?_ (fun n=>(rr_assoc _ _ _).symm)
  exact Nm.b0 (sep_nm (zb:=zAs) (za:=zA) zAs_snoc (fun _=>Nat.le_refl _) (atom_nm (by omega)) (by omega)) fun as'=>Nm.b0 (wants_nm _ _) fun _=>Nm.ret (by show pz nm+fs.length+zAs as'≤c+1+zAs as'+1;omega)
 ·exact Nm.b0 (wants_nm _ _) fun _=>Nm.ret (by show pz nm+fs.length+0≤c+1;omega)
theorem message_nm {F B:Nat} (hF:l.length < F+B):Nm l 1 (fun m=>zM m+1) 0 (sMessage F l) B:=by
 ·have q:Nm l 1 (fun m=>zM m+1) 0 (fun n=>(sPath F l n).bind fun nm n=>(sWants (str [40]) l n).bind fun _ n =>
    bif isT (str [41]) (tk l n) then sWhere F nm [] l (n+1)
    else ((sField l n).bind fun f n=>sLoop (str [44]) sField snoc F [f] l n).bind fun fs n=>(sWants (str [41]) l n).bind fun _ n=>sWhere F nm fs l n) B:=by
   refine Nm.b1 (path_nm hF) fun nm=>?_
   have w:∀ fs c B',l.length < F+B'→pz nm+fs.length≤c→Nm l 0 (fun m=>zM m+1) (c+1) (sWhere F nm fs l) B':=fun fs c B' h1 h2=>by
    have:=where_nm h1 nm fs c h2
    exact ⟨this.out,fun n h1 h2 a m hm=>by
     obtain ⟨q1,q2,q3⟩:=this.ok n h1 h2 a m hm
     exact ⟨q1,q2,by show zM a+1+n≤_;omega⟩⟩
   refine Nm.b0 (wants_nm _ _) fun _=>?_
   refine Nm.takes0 (A:=sWhere F nm [] l) ((w [] (pz nm) _ (by omega) (by simp)).weak (Nat.le_refl _) (fun _=>Nat.le_refl _) (by show pz nm+1≤0+(pz nm+1)+1+1;omega) (Nat.le_refl _)) ?_
   refine Nm.b0 (sep_nm (zb:=Zl) (za:=Z0) (fun acc a=>Zl_snoc 0 acc a) (fun _=>Nat.le_refl 1) (field_nm _) hF) fun fs=>Nm.b0 (wants_nm _ _) fun _=>?_
   exact (w fs (pz nm+fs.length) _ (by omega) (Nat.le_refl _)).weak (Nat.le_refl _) (fun _=>Nat.le_refl _) (by show pz nm+fs.length+1≤0+(pz nm+1)+1+fs.length+1;omega) (Nat.le_refl _)
  refine Nm.congr q (fun n=>?_)
  unfold sMessage
  simp only [rr_assoc]
abbrev zB:List T10→Nat:=fun b=>zL b+1
theorem block_nm {items:Pm (List T10)} {B:Nat} (h:Nm l 0 zL 0 (items l) (B+1)):Nm l 1 zB 0 (sBlock items l) B:=by
 have hw:=wants_nm (l:=l) (str [125]) 0
 refine ⟨fun n h1 h2=>?_,fun n h1 h2 a m hm=>?_⟩
 ·unfold sBlock sWants
  cases hi:isT (str [123]) (tk l n) with
  | false=>intro h;cases h
  | true =>
   show (items l (n+1)).bind _≠_
   have hn:=isT_lt hi
   cases hit:items l (n+1) with
   | ok x k =>
    show Rr.bind (bif isT (str [125]) (tk l k) then Rr.ok () (k+1) else Rr.er k 3) _≠_
    cases isT (str [125]) (tk l k)<;>(intro h;cases h)
   | er k e=>intro h;cases h
   | out=>exact absurd hit (h.out (n+1) (by omega) hn)
 ·unfold sBlock sWants at hm
  cases hi:isT (str [123]) (tk l n) with
  | false=>rw [hi] at hm;cases hm
  | true =>
   rw [hi] at hm
   have hn:=isT_lt hi
   have hm:(items l (n+1)).bind _=_:=hm
   cases hit:items l (n+1) with
   | ok x k =>
    rw [hit] at hm
    obtain ⟨q1,q2,q3⟩:=h.ok (n+1) (by omega) hn x k hit
    have hm:Rr.bind (bif isT (str [125]) (tk l k) then Rr.ok () (k+1) else Rr.er k 3) (fun _ n=>Rr.ok x n)=Rr.ok a m:=hm
    cases hj:isT (str [125]) (tk l k) with
    | false=>rw [hj] at hm;cases hm
    | true=>rw [hj] at hm;cases hm;exact ⟨by omega,isT_lt hj,by show zL _+1+n≤k+1+0;omega⟩
   | er k e=>rw [hit] at hm;cases hm
   | out=>rw [hit] at hm;cases hm
theorem zI_mk (k f t n a x b):zI ⟨k,f,t,n,a,x,b⟩=t.length+pz n+zLL b+1:=by simp only [zI]
theorem zLL_one (b:List T10):zLL [b]=zL b+1:=by simp [zLL]
theorem zLL_hz (acc:List (List T10)) (a:List T10):zLL (snoc acc a)≤zLL acc+zL a+1:=by rw [zLL_snoc];omega
theorem branches_nm {F B:Nat} {block:Pm (List T10)} (hb:Nm l 1 zB 0 (block l) B) (hF:l.length < F+B) (who:ByteArray) (t:Int) (c:Nat):Nm l 0 zI (c+1) (sBranches F block who t l) B:=by
 refine Nm.congr (S:=fun n=>((block l n).bind fun b n=>sLoop (str [111,114]) block snoc F [b] l n).bind fun bl n=>sElse block who t bl l n) ?_ (fun n=>by unfold sBranches;rw [rr_assoc])
 refine Nm.b0 (sep_nm (zb:=zLL) (za:=zL) zLL_hz (fun a=>by rw [zLL_one];exact Nat.le_refl _) hb hF) fun bl=>?_
 unfold sElse
 cases decide (t > 0) with
 | false=>exact Nm.ret (by rw [zI_mk,pz_nil];simp;omega)
 | true=>exact Nm.b0 (wants_nm _ _) fun _=>Nm.b0 hb fun b=>Nm.ret (by rw [zI_mk,zLL_snoc,pz_nil];show ([]:List ByteArray).length+0+(zLL bl+(zL b+1))+1≤c+1+zLL bl+1+(zL b+1);simp;omega)
theorem ticks_nm (B:Nat):Nm l 1 (Z1:Int→Nat) 0 (sTicks l) B:=by
 refine ⟨fun n h1 h2=>?_,fun n h1 h2 a m hm=>?_⟩
 ·unfold sTicks
  cases ((tk l n).Kind==2 && (decide ((tk l n).Value < 1) || decide ((tk l n).Value > 1000))) with
  | true=>intro h;cases h
  | false=>exact (num_nm B).out n h1 h2
 ·unfold sTicks at hm
  cases hx:((tk l n).Kind==2 && (decide ((tk l n).Value < 1) || decide ((tk l n).Value > 1000))) with
  | true=>rw [hx] at hm;cases hm
  | false=>rw [hx] at hm;exact (num_nm B).ok n h1 h2 a m hm
theorem choice_nm {F B:Nat} {block:Pm (List T10)} (hb:Nm l 1 zB 0 (block l) B) (hF:l.length < F+B):Nm l 0 zI 0 (sChoice F block l) B:=by
 unfold sChoice
 refine Nm.b0 (wants_nm _ _) fun _=>Nm.b0 (word_nm _) fun who=>?_
 refine Nm.takes0 (A:=fun m=>(sTicks l m).bind fun t n=>sBranches F block who t l n) ?_ (branches_nm hb hF who 0 _)
 exact Nm.b0 (ticks_nm _) fun t=>(branches_nm (hb.weak (Nat.le_refl _) (fun _=>Nat.le_refl _) (Nat.le_refl _) (Nat.le_succ _)) (by omega) who t 0).weak (Nat.le_refl _) (fun _=>Nat.le_refl _) (by show 0+1≤_+1;omega) (Nat.le_refl _)
theorem send_nm {F B:Nat} (hF:l.length < F+B):Nm l 1 zI 0 (sSend F l) B:=by
 unfold sSend
 exact Nm.b1 (word_nm _) fun f=>Nm.b0 (wants_nm _ _) fun _=>Nm.b0 (words_nm hF) fun t=>Nm.b0 (wants_nm _ _) fun _=>Nm.b0 (path_nm hF) fun nm=>Nm.b0 (wants_nm _ _) fun _=>Nm.ret (by
  rw [zI_mk];show t.length+pz nm+zLL []+1≤0+zp f+1+t.length+1+(pz nm+1)+1;simp [zLL];omega)
theorem call_nm {F B:Nat} (hF:l.length < F+B):Nm l 0 zI 0 (sCall F l) B:=by
 unfold sCall
 exact Nm.b0 (word_nm _) fun nm=>Nm.b0 (wants_nm _ _) fun _=>Nm.b0 (words_nm hF) fun t=>Nm.b0 (wants_nm _ _) fun _=>Nm.b0 (wants_nm _ _) fun _=>Nm.b0 (word_nm _) fun a=>Nm.b0 (wants_nm _ _) fun _=>Nm.ret (by
  rw [zI_mk];show t.length+pz nm+zLL []+1≤0+(pz nm+1)+1+t.length+1+1+zp a+1;simp [zLL];omega)
theorem item_nm {F B:Nat} {block:Pm (List T10)} (hb:Nm l 1 zB 0 (block l) (B+1)) (hF:l.length < F+B):Nm l 1 zI 0 (sItem F block l) B:=by
 have up:∀ {S:Nat→Rr T10},Nm l 0 zI 0 S (B+1)→Nm l 0 zI (0+1) S (B+1):=fun h=>h.weak (Nat.le_refl _) (fun _=>Nat.le_refl _) (by omega) (Nat.le_refl _)
 unfold sItem
 refine Nm.takes (d:=0) (A:=sChoice F block l) (up (choice_nm hb (by omega))) ?_
 refine Nm.takes (d:=0) (A:=fun m=>(sPath F l m).bind fun nm n=>(block l n).bind fun b n=>.ok (⟨3,str [],[],nm,str [],0,[b]⟩:T10) n) ?_ ?_
 ·exact Nm.b0 (path_nm (by omega)) fun nm=>Nm.b0 hb fun b=>Nm.ret (by rw [zI_mk,zLL_one];show ([]:List ByteArray).length+pz nm+(zL b+1)+1≤0+1+(pz nm+1)+(zL b+1);simp;omega)
 refine Nm.takes (d:=0) (A:=fun m=>(sPath F l m).bind fun nm n=>(sWants (str [59]) l n).bind fun _ n=>.ok (⟨4,str [],[],nm,str [],0,[]⟩:T10) n) ?_ ?_
 ·exact Nm.b0 (path_nm (by omega)) fun nm=>Nm.b0 (wants_nm _ _) fun _=>Nm.ret (by rw [zI_mk];show ([]:List ByteArray).length+pz nm+zLL []+1≤0+1+(pz nm+1)+1;simp [zLL];omega)
 refine Nm.takes (d:=0) (A:=fun m=>(block l m).bind fun b n=>(sWants (str [97,110,100]) l n).bind fun _ n=>(block l n).bind fun c n=>(sLoop (str [97,110,100]) block snoc F [b,c] l n).bind fun bl n=>.ok (⟨5,str [],[],str [],str [],0,bl⟩:T10) n) ?_ ?_
 ·refine Nm.b0 hb fun b=>Nm.b0 (wants_nm _ _) fun _=>?_
  refine Nm.congr (S:=fun n=>((block l n).bind fun c n=>sLoop (str [97,110,100]) block snoc F [c] l n).bind fun bl n=>.ok (⟨5,str [],[],str [],str [],0,b::bl⟩:T10) n) ?_ (fun n=>by
   rw [rr_assoc];congr 1;funext c m;rw [sLoop_cons,rr_assoc];rfl)
  exact Nm.b0 (sep_nm (zb:=zLL) (za:=zL) zLL_hz (fun a=>by rw [zLL_one];exact Nat.le_refl _) hb (by omega)) fun bl=>Nm.ret (by
   rw [zI_mk,pz_nil];show ([]:List ByteArray).length+0+zLL (b::bl)+1≤0+1+(zL b+1)+1+zLL bl;simp only [zLL,List.length_nil];omega)
 refine Nm.takes (d:=0) (A:=sCall F l) (up (call_nm (by omega))) (send_nm hF)
theorem list_nm {item:Pm T10} {B:Nat} (hi:Nm l 1 zI 0 (item l) B):∀ (F:Nat) (acc:List T10) (n:Nat),l.length < F+n→B≤n→n≤l.length →
  sList item F acc l n≠.out∧∀ a m,sList item F acc l n=.ok a m→n≤m∧m≤l.length∧zL a+n≤m+zL acc:=by
 intro F
 induction F with
 | zero=>intro acc n h h1 h2;omega
 | succ F ih =>
  intro acc n h h1 h2
  simp only [sList]
  cases hb:begT (tk l n) with
  | false=>exact ⟨fun h=>(by cases h),fun a m h=>by cases h;exact ⟨Nat.le_refl _,h2,by omega⟩⟩
  | true =>
   simp only [cT]
   cases hp1:item l n with
   | ok a m =>
    obtain ⟨q1,q2,q3⟩:=hi.ok n h1 h2 a m hp1
    obtain ⟨r1,r2⟩:=ih (snoc acc a) m (by omega) (by omega) q2
    refine ⟨r1,fun b k hb=>?_⟩
    obtain ⟨r3,r4,r5⟩:=r2 b k hb
    rw [zL_snoc] at r5
    exact ⟨by omega,r4,by omega⟩
   | er k e=>exact ⟨fun h=>(by cases h),fun a m h=>by cases h⟩
   | out=>exact absurd hp1 (hi.out n h1 h2)
theorem items_nm:∀ (F B:Nat),l.length+2≤F+B→Nm l 0 zL 0 (sItems F l) B
 | 0,B,h=>⟨fun n h1 h2=>by omega,fun n h1 h2=>by omega⟩
 | F+1,B,h=>by
  have hb:Nm l 1 zB 0 (sBlock (sItems F) l) (B+1):=block_nm (items_nm F (B+2) (by omega))
  have hi:=item_nm (F:=F) hb (by omega)
  exact ⟨fun n h1 h2=>(list_nm hi F [] n (by omega) h1 h2).1,fun n h1 h2 a m hm=>by
   obtain ⟨q1,q2,q3⟩:=(list_nm hi F [] n (by omega) h1 h2).2 a m hm
   exact ⟨q1,q2,by simpa [zL] using q3⟩⟩
def zMs:List T11→Nat
 | []=>0
 | m::l=>zM m+1+zMs l
theorem zMs_snoc (acc:List T11) (m:T11):zMs (snoc acc m)≤zMs acc+zM m+1:=by
 unfold snoc
 induction acc with
 | nil=>simp [zMs]
 | cons x l ih=>simp only [List.cons_append,zMs];omega
def zP (p:T12):Nat:=p.Roles.length+zMs p.Messages+zL p.Body
theorem protocol_nm {F:Nat} (hF:l.length+2≤F):Nm l 1 zP 0 (sProtocol F l) 0:=by
 unfold sProtocol
 refine Nm.b1 (wants_nm _ _) fun _=>Nm.b0 (word_nm _) fun nm=>Nm.b0 (wants_nm _ _) fun _=>Nm.b0 (words_nm (by omega)) fun rs=>Nm.b0 (wants_nm _ _) fun _=>Nm.b0 (wants_nm _ _) fun _=>?_
 refine Nm.b0 (z1:=zMs) (Nm.loop (acc:=[]) (zb:=zMs) (za:=fun m=>zM m) (fun acc m=>zMs_snoc acc m) ((message_nm (F:=F) (by omega)).weak (Nat.zero_le _) (fun a=>Nat.le_succ _) (Nat.le_refl _) (Nat.le_refl _)) (by omega)) fun ms=>?_
 refine Nm.b0 (items_nm F 0 (by omega)) fun b=>Nm.b0 (wants_nm _ _) fun _=>Nm.ret ?_
 show rs.length+zMs ms+zL b≤0+1+zp _+1+rs.length+1+1+zMs ms+zL b+1
 omega
theorem parse_nm {F:Nat} (hF:l.length+2≤F):∀ (G:Nat) (acc:List T12) (n:Nat),l.length < G+n→n≤l.length →
  sParse F G acc l n≠.out∧∀ ps m,sParse F G acc l n=.ok ps m→∃ qs,ps=acc++qs∧m=l.length∧qs.length+n≤l.length∧∀ p∈qs,zP p≤l.length:=by
 intro G
 induction G with
 | zero=>intro acc n h h1;omega
 | succ G ih =>
  intro acc n h h1
  simp only [sParse]
  by_cases hn:n < l.length
  ·rw [dT hn,cT]
   cases hp:sProtocol F l n with
   | ok p m =>
    obtain ⟨q1,q2,q3⟩:=(protocol_nm hF).ok n (by omega) h1 p m hp
    obtain ⟨r1,r2⟩:=ih (snoc acc p) m (by omega) q2
    refine ⟨r1,fun ps k hk=>?_⟩
    obtain ⟨qs,e1,e2,e3,e4⟩:=r2 ps k hk
    refine ⟨p::qs,by rw [e1];simp [snoc],e2,?_,fun x hx=>?_⟩
    ·simp only [List.length_cons];omega
    ·rcases List.mem_cons.1 hx with rfl | hx
     ·omega
     ·exact e4 x hx
   | er k e=>exact ⟨fun h=>(by cases h),fun ps m h=>by cases h⟩
   | out=>exact absurd hp ((protocol_nm hF).out n (by omega) h1)
  ·rw [dF hn,cF]
   exact ⟨fun h=>(by cases h),fun ps m h=>by cases h;exact ⟨[],by simp,by omega,by simp;omega,by simp⟩⟩
end
end Gp
end
section
namespace Gp
open Go Go.Kx Gx
theorem Dq.ite {c:Bool} {C P:Prop} {o1 o2:Option Bool} (hc:c=true↔C) (h1:C→Dq o1 P) (h2:¬C→Dq o2 P):Dq (bif c then o1 else o2) P:=by
 cases c with
 | false=>exact h2 (fun h=>by have:=hc.2 h;cases this)
 | true=>exact h1 (hc.1 rfl)
theorem Dq.cK {c:Bool} {C P:Prop} {o K:Option Bool} (hc:c=true↔C) (h:C→Dq o P) (hK:Dq K False):Dq (bif c then o else K) (C∧P) :=
 Dq.ite hc (fun h'=>(h h').iff ⟨fun p=>⟨h',p⟩,fun p=>p.2⟩) (fun h'=>hK.iff ⟨fun p=>p.elim,fun p=>h' p.1⟩)
theorem Dq.bK {C P:Prop} {o1 o2 K:Option Bool} (h1:Dq o1 C) (h:C→Dq o2 P) (hK:Dq K False):Dq (o1.bind fun x=>bif x then o2 else K) (C∧P):=by
 obtain ⟨r,e,hr⟩:=h1
 rw [e]
 exact Dq.cK hr h hK
theorem Dq.of {o:Option Bool} {b:Bool} {P:Prop} (h:o=some b) (hb:b=true↔P):Dq o P:=⟨b,h,hb⟩
theorem Dq.dec {P:Prop} [Decidable P] {Q:Prop} (h:P↔Q):Dq (some (decide P)) Q:=⟨decide P,rfl,by rw [decide_eq_true_eq,h]⟩
theorem dq_all {α:Type} {xs:List α} (hs:xs.length≤4194304) {P:α→Prop} (F:Nat→Int→Option Bool) {E:Prop}
  (h1:∀ (n k:Nat) x Q,k < 4194304→xs[k]? = some x→(P x→Dq (F n ((k+1:Nat):Int)) Q)→Dq (F (n+1) (k:Int)) (P x∧Q))
  (h2:(∀ x∈xs,P x)→∀ (n k:Nat),xs.length≤k→Dq (F (n+1) (k:Int)) E) {N:Nat} (hN:xs.length < N):Dq (F N (0:Int)) ((∀ x∈xs,P x)∧E):=by
 have key:∀ (l:List α) (k n:Nat),xs.drop k=l→l.length < n→(∀ x∈xs.take k,P x)→Dq (F n (k:Int)) ((∀ x∈l,P x)∧E):=by
  intro l
  induction l with
  | nil =>
   intro k n h hn ht
   obtain ⟨n,rfl⟩:∃ m,n=m+1:=⟨n-1,by simp at hn;omega⟩
   have hk:=drop_nil h
   rw [List.take_of_length_le hk] at ht
   exact (h2 ht n k hk).iff ⟨fun h=>⟨by simp,h⟩,fun h=>h.2⟩
  | cons x l ih =>
   intro k n h hn ht
   obtain ⟨n,rfl⟩:∃ m,n=m+1:=⟨n-1,by simp at hn;omega⟩
   obtain ⟨a,c,d⟩:=drop_cons h
   refine (h1 n k x _ (by omega) c fun hp=>ih (k+1) n d (by simp at hn;omega) ?_).iff ?_
   ·intro y hy
    rw [List.take_succ,c] at hy
    rcases List.mem_append.1 hy with hy | hy
    ·exact ht y hy
    ·simp at hy;subst hy;exact hp
   ·simp only [List.mem_cons,forall_eq_or_imp,and_assoc]
 have:=key xs 0 N rfl hN (by simp)
 exact this
variable {N:Nat} (hN:4194304 < N)
include hN in
theorem word_both (s:ByteArray):z32 N s=some (isWord s)∧z87 N s=some (isWord s):=by
 by_cases hs:s.size≤4194304
 ·exact word_eq hN s hs
 ·have hb:bs s≠[]:=fun h=>by rw [size_bs,h] at hs;simp at hs
  have hw:isWord s=false:=by
   cases h:isWord s with
   | false=>rfl
   | true=>have:=word_size h;omega
  obtain ⟨x,l,hx⟩:∃ x l,bs s=x::l:=by
   cases h:bs s with
   | nil=>exact absurd h hb
   | cons x l=>exact ⟨x,l,rfl⟩
  have e1:(s.toList==(str []).toList)=false:=by rw [toList_bs,toList_bs,hx];rfl
  have e2:decide ((s.size:Int) > 16)=true:=dT (by omega)
  have e3:sidx s (0:Int)=some (x.toNat:Int):=by rw [show sidx s (0:Int)=sidx s ((0:Nat):Int) from rfl,sidx_bs,hx];rfl
  rw [hw]
  unfold z32 z73 z87 z137
  rw [e1,e2,e3]
  simp only [cF,cT,bS,refLetter_eq]
  refine ⟨trivial,?_⟩
  cases letterV (x.toNat:Int)<;>rfl
include hN in
theorem word_dq (s:ByteArray):Dq (z32 N s) (isWord s=true):=Dq.of (word_both hN s).1 Iff.rfl
include hN in
theorem rword_dq (s:ByteArray):Dq (z40 N s) (isWord s=true):=by
 refine Dq.of (b:=isWord s) ?_ Iff.rfl
 unfold z40
 rw [(word_both hN s).2];rfl
include hN in
theorem path_dq (s:ByteArray):Dq (z21 N s) (pathV s=true):=Dq.of (path_eq hN s) Iff.rfl
include hN in
theorem rpath_dq (s:ByteArray) (hs:s.size≤4000000):Dq (z22 N s) (pathV s=true):=Dq.of (refPath_eq hN s hs) Iff.rfl
theorem emp {a:ByteArray}:(a.toList==(str []).toList)=true↔a=str []:=seq'
def WordsP (l:List ByteArray) (k:Nat):Prop:=1≤l.length∧l.length≤k∧∀ w∈l,isWord w=true
include hN in
theorem words_dq (l:List ByteArray) (hl:l.length≤4194304) (k:Nat):Dq (z33 N l (k:Int)) (WordsP l k):=by
 unfold z33
 refine Dq.cA (by rw [decide_eq_true_eq];omega) fun _=>Dq.cA (by rw [decide_eq_true_eq];omega) fun _=>?_
 unfold z47_3 z96_2
 rw [look l hl (fun x k r=>bif !isWord x then some k else r) (z96_2_l2 N l) (some (-1)) hN]
 ·obtain ⟨i,h1,h2⟩:=whereV_any (fun x => !isWord x) l 0
  rw [h1]
  simp only [bS]
  refine ⟨_,rfl,?_⟩
  rw [h2]
  simp
 ·intro n k x hk hx
  simp only [z96_2_l2,lt_t (get_lt hx),cT,idx_nat,hx,bS,z75,(word_both hN x).1,w64_succ (show k < 4611686018427387904 by omega)]
 ·intro n k hk
  simp only [z96_2_l2,lt_f hk,cF,z96_2_k1]
include hN in
theorem rwords_dq (l:List ByteArray) (hl:l.length≤4194304) (k:Nat):Dq (z41 N l (k:Int)) (WordsP l k):=by
 unfold z41
 refine (dq_all hl (P:=fun w=>isWord w=true) (E:=1≤l.length∧l.length≤k) _ (fun n i x Q hi hx h=>?_) (fun _ n i hi=>?_) (by omega)).iff ⟨fun h=>⟨h.2.1,h.2.2,h.1⟩,fun h=>⟨h.2.2,h.1,h.2.1⟩⟩
 ·simp only [z41_l2,lt_t (get_lt hx),cT,idx_nat,hx,bS,w64_succ (show i < 4611686018427387904 by omega)]
  exact Dq.bN (rword_dq hN x) h
 ·simp only [z41_l2,lt_f hi,cF,z41_k1]
  exact Dq.cA (by rw [decide_eq_true_eq];omega) fun _=>Dq.dec (by omega)
def ShP (x:T10):Prop :=
 (x.Kind=1∧isWord x.From=true∧WordsP x.To 5∧pathV x.Name=true∧x.As=str []∧x.Ticks=0∧x.Blocks.length=0) ∨
 (x.Kind=2∧isWord x.From=true∧x.To.length=0∧x.Name=str []∧x.As=str []∧0≤x.Ticks∧x.Ticks≤1000∧1+min x.Ticks 1≤(x.Blocks.length:Int)∧x.Blocks.length≤8) ∨
 (x.Kind=3∧x.From=str []∧x.To.length=0∧pathV x.Name=true∧x.As=str []∧x.Ticks=0∧x.Blocks.length=1) ∨
 (x.Kind=4∧x.From=str []∧x.To.length=0∧pathV x.Name=true∧x.As=str []∧x.Ticks=0∧x.Blocks.length=0) ∨
 (x.Kind=5∧x.From=str []∧x.To.length=0∧x.Name=str []∧x.As=str []∧x.Ticks=0∧2≤x.Blocks.length∧x.Blocks.length≤8) ∨
 (x.Kind=6∧x.From=str []∧WordsP x.To 6∧isWord x.Name=true∧isWord x.As=true∧x.Ticks=0∧x.Blocks.length=0)
theorem len0 {n:Nat}:((n:Int)==0)=true↔n=0:=by simp
include hN in
theorem shaped_dq (x:T10) (ht:x.To.length≤4194304):Dq (z76 N x) (ShP x):=by
 unfold z76
 refine Dq.ite ibeq (fun h1=>?_) fun h1=>Dq.ite ibeq (fun h2=>?_) fun h2=>?_
 ·refine (Dq.bA (word_dq hN _) fun _=>Dq.bA (words_dq hN _ ht 5) fun _=>Dq.bA (path_dq hN _) fun _=>Dq.cA emp fun _=>Dq.cA ibeq fun _=>Dq.of rfl len0).iff ?_
  unfold ShP
  simp [h1]
 ·refine (Dq.bA (word_dq hN _) fun _=>Dq.cA len0 fun _=>Dq.cA emp fun _=>Dq.cA emp fun _=>Dq.cA (C:=0≤x.Ticks) decide_eq_true_iff fun _=>Dq.cA (C:=x.Ticks≤1000) decide_eq_true_iff fun _ =>
   Dq.cA (C:=1+min x.Ticks 1≤(x.Blocks.length:Int)) ?_ fun _=>Dq.dec (Q:=x.Blocks.length≤8) (by omega)).iff ?_
  ·rw [decide_eq_true_eq]
   unfold minI
   rw [w64_id (by split<;>omega) (by split<;>omega)]
   split<;>omega
  ·unfold ShP
   simp [h2]
 have hk:∀ k,(k=3∧x.Kind=3)∨(k=4∧x.Kind=4)→Dq (z76_k1 N x true) (ShP x):=by
  intro k hk
  unfold z76_k1
  simp only [cT]
  refine (Dq.cA emp fun _=>Dq.cA len0 fun _=>Dq.bA (path_dq hN _) fun _=>Dq.cA emp fun _=>Dq.cA ibeq fun _=>Dq.cA (C:=x.Kind=3↔x.Blocks.length=1) ?_ fun _=>Dq.dec (Q:=x.Blocks.length≤1) (by omega)).iff ?_
  ·rw [beq_iff_eq,Bool.eq_iff_iff];simp;omega
  ·unfold ShP
   rcases hk with ⟨_,hk⟩ | ⟨_,hk⟩
   ·simp only [hk]
    constructor
    ·rintro ⟨a,b,c,d,e,f,g⟩;exact Or.inr (Or.inr (Or.inl ⟨trivial,a,b,c,d,e,by simpa using f⟩))
    ·rintro (h | h | h | h | h | h)<;>simp at h
     obtain ⟨a,b,c,d,e,f⟩:=h
     exact ⟨a,by simpa using b,c,d,e,by simpa using f,by omega⟩
   ·simp only [hk]
    constructor
    ·rintro ⟨a,b,c,d,e,f,g⟩
     refine Or.inr (Or.inr (Or.inr (Or.inl ⟨trivial,a,b,c,d,e,?_⟩)))
     have:¬ x.Blocks.length=1:=fun h=>by simpa using f.2 h
     omega
    ·rintro (h | h | h | h | h | h)<;>simp at h
     obtain ⟨a,b,c,d,e,f⟩:=h
     have f:x.Blocks.length=0:=by rw [f];rfl
     exact ⟨a,by simpa using b,c,d,e,⟨fun h=>by omega,fun h=>by omega⟩,by omega⟩
 refine Dq.ite ibeq (fun h3=>hk 3 (Or.inl ⟨rfl,h3⟩)) fun h3=>?_
 cases h4:(x.Kind==4) with
 | true=>exact hk 4 (Or.inr ⟨rfl,ibeq.1 h4⟩)
 | false =>
  have h4:¬ x.Kind=4:=fun h=>by rw [h] at h4;cases h4
  unfold z76_k1
  simp only [cF]
  refine Dq.ite ibeq (fun h5=>?_) fun h5=>Dq.ite ibeq (fun h6=>?_) fun h6=>?_
  ·refine (Dq.cA emp fun _=>Dq.cA len0 fun _=>Dq.cA emp fun _=>Dq.cA emp fun _=>Dq.cA ibeq fun _=>Dq.cA (C:=2≤x.Blocks.length) (by rw [decide_eq_true_eq];omega) fun _=>Dq.dec (Q:=x.Blocks.length≤8) (by omega)).iff ?_
   unfold ShP
   simp [h5]
  ·refine (Dq.cA emp fun _=>Dq.bA (words_dq hN _ ht 6) fun _=>Dq.bA (word_dq hN _) fun _=>Dq.bA (word_dq hN _) fun _=>Dq.cA ibeq fun _=>Dq.of rfl len0).iff ?_
   unfold ShP
   simp [h6]
  ·refine Dq.fa.iff ⟨fun h=>h.elim,fun h=>?_⟩
   unfold ShP at h
   rcases h with h | h | h | h | h | h
   ·exact h1 h.1
   ·exact h2 h.1
   ·exact h3 h.1
   ·exact h4 h.1
   ·exact h5 h.1
   ·exact h6 h.1
end Gp
end
section
namespace Gp
open Go Go.Kx Gx
mutual
def shI:T10→Prop
 | ⟨k,f,t,n,a,x,b⟩=>ShP ⟨k,f,t,n,a,x,b⟩∧shLL b
def shL:List T10→Prop
 | []=>True
 | x::l=>shI x∧shL l
def shLL:List (List T10)→Prop
 | []=>True
 | x::l=>shL x∧shLL l
end
theorem shI_eq (x:T10):shI x↔ShP x∧shLL x.Blocks:=by cases x;simp only [shI]
def Vq (o:Option (Bool × Int)) (P:Prop) (m:Int):Prop:=∃ r k,o=some (r,k)∧(r=true↔P)∧(r=true→k=m)
theorem Vq.iff {o P Q m m'} (h:Vq o P m) (k:P↔Q) (e:Q→m=m'):Vq o Q m':=by
 obtain ⟨r,j,h1,h2,h3⟩:=h
 exact ⟨r,j,h1,h2.trans k,fun hr=>(h3 hr).trans (e (k.1 (h2.1 hr)))⟩
theorem Vq.fa {k:Int} {P:Prop} {m:Int} (h:¬P):Vq (some (false,k)) P m:=⟨false,k,rfl,by simp [h],fun h=>by cases h⟩
theorem vi_inner {rc:List T10→Int→Int→Option (Bool × Int)} {d k:Nat} {ag:Int→Int→Option (Bool × Int)} {x:T10} {rest:List T10} (hd:d≤10) (hk:k < 4194304) (hbl:x.Blocks.length≤4194304)
  (hrc:∀ b∈x.Blocks,∀ n:Nat,n≤300→Vq (rc b ((d+1:Nat):Int) (n:Int)) (shL b∧dL b+(d+1)≤11∧n+cL b≤300) ((n+cL b:Nat):Int))
  (hag:∀ n:Nat,n≤300→Vq (ag (n:Int) ((k+1:Nat):Int)) (shL rest∧dL rest+d≤11∧n+cL rest≤300) ((n+cL rest:Nat):Int)) :
  ∀ (bl:List (List T10)) (j n' n:Nat),x.Blocks.drop j=bl→bl.length < n'→n≤300 →
   Vq (z34_l4 rc (d:Int) (k:Int) ag x n' (n:Int) (j:Int)) (shLL bl∧dLL bl+d≤10∧n+cLL bl≤300∧shL rest∧dL rest+d≤11∧n+cLL bl+cL rest≤300) ((n+cLL bl+cL rest:Nat):Int):=by
 intro bl
 induction bl with
 | nil =>
  intro j n' n h hn hc
  obtain ⟨n',rfl⟩:∃ m,n'=m+1:=⟨n'-1,by simp at hn;omega⟩
  simp only [z34_l4,lt_f (drop_nil h),cF,z34_k3,w64_succ (show k < 4611686018427387904 by omega),shLL,dLL,cLL]
  exact (hag n hc).iff ⟨fun q=>⟨trivial,by omega,by omega,q.1,q.2.1,by omega⟩,fun q=>⟨q.2.2.2.1,q.2.2.2.2.1,by omega⟩⟩ (fun _=>rfl)
 | cons b bl ih =>
  intro j n' n h hn hc
  obtain ⟨n',rfl⟩:∃ m,n'=m+1:=⟨n'-1,by simp at hn;omega⟩
  obtain ⟨a,c,e⟩:=drop_cons h
  obtain ⟨r,m,e1,e2,e3⟩:=hrc b (List.mem_of_getElem? c) n hc
  simp only [z34_l4,lt_t a,cT,idx_nat,c,bS,w64_succ (show d < 4611686018427387904 by omega),w64_succ (show j < 4611686018427387904 by omega),e1,shLL,dLL,cLL]
  cases r with
  | false =>
   refine Vq.fa fun q=>?_
   have:false=true:=e2.2 ⟨q.1.1,by omega,by omega⟩
   cases this
  | true =>
   obtain ⟨q1,q2,q3⟩:=e2.1 rfl
   rw [e3 rfl]
   simp only [Bool.not_true,cF]
   refine (ih (j+1) n' (n+cL b) e (by simp at hn;omega) (by omega)).iff ⟨fun q=>⟨⟨q1,q.1⟩,by omega,by omega,q.2.2.2.1,q.2.2.2.2.1,by omega⟩,fun q=>⟨q.1.2,by omega,by omega,q.2.2.2.1,q.2.2.2.2.1,by omega⟩⟩ (fun _=>by congr 1;omega)
theorem valid_items:∀ (N:Nat) (xs:List T10) (d n:Nat),4194317≤N+d→xs.length≤4194304→bL xs→d≤11→n≤300 →
  Vq (z34 N xs (d:Int) (n:Int)) (shL xs∧dL xs+d≤11∧n+cL xs≤300) ((n+cL xs:Nat):Int)
 | 0,_,_,_,h,_,_,_,_=>by omega
 | N+1,xs,d,n,h,hs,hb,hd,hn=>by
  show Vq (z34_b N (z34 N) xs (d:Int) (n:Int)) _ _
  unfold z34_b
  have hN:4194304 < N:=by omega
  have key:∀ (l:List T10) (k n' n:Nat),xs.drop k=l→l.length < n'→n≤300 →
    Vq (z34_l2 N (z34 N) xs (d:Int) n' (n:Int) (k:Int)) (shL l∧dL l+d≤11∧n+cL l≤300) ((n+cL l:Nat):Int):=by
   intro l
   induction l with
   | nil =>
    intro k n' n h hn hc
    obtain ⟨n',rfl⟩:∃ m,n'=m+1:=⟨n'-1,by simp at hn;omega⟩
    simp only [z34_l2,lt_f (drop_nil h),cF,z34_k1,shL,dL,cL]
    exact ⟨true,n,rfl,by simp;omega,fun _=>rfl⟩
   | cons x l ih =>
    intro k n' n h hn hc
    obtain ⟨n',rfl⟩:∃ m,n'=m+1:=⟨n'-1,by simp at hn;omega⟩
    obtain ⟨a,c,e⟩:=drop_cons h
    have hm:=List.mem_of_getElem? c
    have hbx:=(bI_eq _).1 (bL_mem hb hm)
    simp only [z34_l2,lt_t a,cT,idx_nat,c,bS,w64_succ (show n < 4611686018427387904 by omega)]
    have hdI:=dI_eq x
    have hcI:=cI_eq x
    have hsI:=shI_eq x
    by_cases h10:d≤10
    ·rw [dF (show ¬ (d:Int) > 10 by omega),cF]
     by_cases h300:n+1≤300
     ·rw [dF (show ¬ ((n+1:Nat):Int) > 300 by omega),cF]
      obtain ⟨r,e1,e2⟩:=shaped_dq hN x hbx.1
      rw [e1,bS]
      cases r with
      | false =>
       refine Vq.fa fun q=>?_
       have:=e2.2 (hsI.1 (by simp only [shL] at q;exact q.1.1)).1
       cases this
      | true =>
       simp only [Bool.not_true,cF]
       refine (vi_inner (rest:=l) h10 (by omega) hbx.2.1 (fun b hb' n2 hn2=>?_) (fun n2 hn2=>ih (k+1) n' n2 e (by simp at hn;omega) hn2) x.Blocks 0 N (n+1) rfl (by omega) h300).iff ?_ ?_
       ·have hbb:=bLL_mem hbx.2.2 hb'
        exact valid_items N b (d+1) n2 (by omega) hbb.1 hbb.2 (by omega) hn2
       ·simp only [shL,dL,cL,hdI,hcI,hsI]
        exact ⟨fun q=>⟨⟨⟨e2.1 rfl,q.1⟩,q.2.2.2.1⟩,by omega,by omega⟩,fun q=>⟨q.1.1.2,by omega,by omega,q.1.2,by omega,by omega⟩⟩
       ·intro _
        simp only [cL,hcI]
        congr 1;omega
     ·rw [dT (show ((n+1:Nat):Int) > 300 by omega),cT]
      refine Vq.fa fun q=>?_
      simp only [cL,hcI] at q
      omega
    ·rw [dT (show (d:Int) > 10 by omega),cT]
     refine Vq.fa fun q=>?_
     simp only [dL,hdI] at q
     omega
  exact key xs 0 N n rfl (by omega) hn
end Gp
end
section
namespace Gp
open Go Go.Kx Gx
theorem maxI_max (a b:Int):maxI a b=max a b:=by unfold maxI;split<;>omega
theorem dL_fold:∀ (l:List T5) (s:Int),0≤s→l.foldl (fun s x=>max s (dI (oI x):Int)) s=max s (dL (oL l):Int)
 | [],s,h=>by simp only [List.foldl_nil,oL,dL];omega
 | x::l,s,h=>by simp only [List.foldl_cons,oL,dL];rw [dL_fold l _ (by omega)];omega
theorem dLL_fold:∀ (l:List (List T5)) (s:Int),0≤s→l.foldl (fun s x=>max s (dL (oL x):Int)) s=max s (dLL (oLL l):Int)
 | [],s,h=>by simp only [List.foldl_nil,oLL,dLL];omega
 | x::l,s,h=>by simp only [List.foldl_cons,oLL,dLL];rw [dLL_fold l _ (by omega)];omega
theorem depth_eq:∀ (N:Nat) (xs:List T5),4194306+dL (oL xs)≤N→xs.length≤4194304→bL (oL xs)→dL (oL xs)≤1099511627776→z42 N xs=some ((dL (oL xs):Nat):Int)
 | 0,_,h,_,_,_=>by omega
 | N+1,xs,h,hs,hb,hc=>by
  show z42_b N (z42 N) xs=_
  unfold z42_b
  have hN:4194304 < N:=by omega
  have inner:∀ (k:Nat) (x:T5) (v:Int) (ag:Int→Int→Option Int),xs[k]? = some x → 
    z42_l4 (z42 N) xs v (k:Int) ag N (0:Int) (0:Int)=ag (max v (dI (oI x):Int)) ((k+1:Nat):Int):=by
   intro k x v ag hx
   have hm:=List.mem_of_getElem? hx
   have hbx:=(bI_eq _).1 (bL_mem hb (oL_in hm))
   rw [oI_blocks,oLL_len] at hbx
   have hdx:=dL_mem (oL_in hm)
   rw [dI_eq,oI_blocks] at hdx
   have hk:=get_lt hx
   have:=(fold_loop x.Blocks (z42_l4 (z42 N) xs v (k:Int) ag) (fun s b=>max s (dL (oL b):Int)) (fun s=>ag (max v (s+1)) ((k+1:Nat):Int))
    (fun j s=>0≤s∧s≤1099511627776) (fun n j s b hi hj=>?_) (fun n j s hi hj=>?_) (N:=N) (s:=0) (by omega) ⟨by omega,by omega⟩).1
   ·rw [this,dLL_fold _ _ (by omega),dI_eq,oI_blocks];congr 1<;>omega
   ·obtain ⟨h1,h2⟩:=hi
    have hmb:=List.mem_of_getElem? hj
    have hbb:=bLL_mem hbx.2.2 (oLL_in hmb)
    have hdb:=dLL_mem (oLL_in hmb)
    rw [oL_len] at hbb
    have e:=depth_eq N b (by omega) hbb.1 hbb.2 (by omega)
    refine ⟨?_,by omega,by omega⟩
    simp only [z42_l4,idx_nat,hx,bS,lt_t (get_lt hj),cT,hj,e,maxI_max]
    rw [w64_succ (by have:=get_lt hj;omega)]
   ·obtain ⟨h1,h2⟩:=hi
    simp only [z42_l4,idx_nat,hx,bS,lt_f hj,cF,z42_k3,maxI_max]
    rw [w64_succ (by omega),w64_id (by omega) (by omega)]
  have:=(fold_loop xs (z42_l2 N (z42 N) xs) (fun s x=>max s (dI (oI x):Int)) (fun s=>some s)
   (fun j s=>True) (fun n k s x hi hx=>?_) (fun n k s hi hk=>?_) (N:=N) (s:=0) (by omega) trivial).1
  ·rw [this,dL_fold _ _ (by omega)];congr 1<;>omega
  ·refine ⟨?_,trivial⟩
   simp only [z42_l2,lt_t (get_lt hx),cT]
   rw [inner k x s _ hx]
  ·simp only [z42_l2,lt_f hk,cF,z42_k1]
mutual
def nI:T10→Prop
 | ⟨_,_,_,n,_,_,b⟩=>n.size≤4000000∧nLL b
def nL:List T10→Prop
 | []=>True
 | x::l=>nI x∧nL l
def nLL:List (List T10)→Prop
 | []=>True
 | x::l=>nL x∧nLL l
end
theorem nI_eq (x:T10):nI x↔x.Name.size≤4000000∧nLL x.Blocks:=by cases x;simp only [nI]
theorem nL_mem:∀ {l:List T10} {x},nL l→x∈l→nI x
 | y::l,x,hb,h=>by
  simp only [nL] at hb
  rcases List.mem_cons.1 h with rfl | h
  ·exact hb.1
  ·exact nL_mem hb.2 h
theorem nLL_mem:∀ {l:List (List T10)} {x},nLL l→x∈l→nL x
 | y::l,x,hb,h=>by
  simp only [nLL] at hb
  rcases List.mem_cons.1 h with rfl | h
  ·exact hb.1
  ·exact nLL_mem hb.2 h
mutual
theorem zn_I:∀ x,zI x≤200000→nI x
 | ⟨_,_,t,nm,_,_,b⟩,h=>by
  simp only [zI,pz] at h
  simp only [nI]
  exact ⟨by omega,zn_LL b (by omega)⟩
theorem zn_L:∀ l,zL l≤200000→nL l
 | [],_=>by simp only [nL]
 | x::l,h=>by
  simp only [zL] at h
  simp only [nL]
  exact ⟨zn_I x (by omega),zn_L l (by omega)⟩
theorem zn_LL:∀ l,zLL l≤200000→nLL l
 | [],_=>by simp only [nLL]
 | x::l,h=>by
  simp only [zLL] at h
  simp only [nLL]
  exact ⟨zn_L x (by omega),zn_LL l (by omega)⟩
end
mutual
theorem zc_I:∀ x,cI x≤zI x
 | ⟨_,_,t,nm,_,_,b⟩=>by have:=zc_LL b;simp only [zI,cI];omega
theorem zc_L:∀ l,cL l≤zL l
 | []=>by simp only [cL,zL];omega
 | x::l=>by have:=zc_I x;have:=zc_L l;simp only [cL,zL];omega
theorem zc_LL:∀ l,cLL l≤zLL l
 | []=>by simp only [cLL,zLL];omega
 | x::l=>by have:=zc_L x;have:=zc_LL l;simp only [cLL,zLL];omega
end
variable {N:Nat}
theorem k3_dq (hN:4194304 < N) {rc:List T5→Option Bool} {x:T5} (hb:x.Blocks.length≤4194304) (hrc:∀ b∈x.Blocks,Dq (rc b) (shL (oL b))) (v:Bool):Dq (z88_k3 N rc x v) (v=true∧shLL (oLL x.Blocks)):=by
 unfold z88_k3
 have key:∀ (l:List (List T5)) (k n:Nat) (v:Bool),x.Blocks.drop k=l→l.length < n→Dq (z88_l2 rc x n v (k:Int)) (v=true∧shLL (oLL l)):=by
  intro l
  induction l with
  | nil =>
   intro k n v h hn
   obtain ⟨n,rfl⟩:∃ m,n=m+1:=⟨n-1,by simp at hn;omega⟩
   simp only [z88_l2,lt_f (drop_nil h),cF,z88_k1,oLL,shLL,and_true]
   exact Dq.bool v
  | cons b l ih =>
   intro k n v h hn
   obtain ⟨n,rfl⟩:∃ m,n=m+1:=⟨n-1,by simp at hn;omega⟩
   obtain ⟨a,c,e⟩:=drop_cons h
   obtain ⟨r,e1,e2⟩:=hrc b (List.mem_of_getElem? c)
   simp only [z88_l2,lt_t a,cT,idx_nat,c,bS,e1,w64_succ (show k < 4611686018427387904 by omega),oLL,shLL,z88_k1]
   cases v with
   | false=>exact Dq.fa.iff (by simp)
   | true =>
    refine (ih (k+1) n r e (by simp at hn;omega)).iff ?_
    rw [e2];simp
 exact key x.Blocks 0 N v rfl (by omega)
theorem good_dq (hN:4194304 < N) {rc:List T5→Option Bool} {x:T5} (ht:x.To.length≤4194304) (hn:x.Name.size≤4000000) (hb:x.Blocks.length≤4194304) (hrc:∀ b∈x.Blocks,Dq (rc b) (shL (oL b))) :
  Dq (z88 N rc x) (ShP (oI x)∧shLL (oLL x.Blocks)):=by
 have k3:=fun v=>k3_dq hN hb hrc v
 have kf:Dq (z88_k3 N rc x false) False:=(k3 false).iff (by simp)
 have kv:∀ (v:Bool) (P:Prop),(v=true↔P)→Dq (z88_k3 N rc x v) (P∧shLL (oLL x.Blocks)):=fun v P h=>(k3 v).iff (by rw [h])
 have hob:(oI x).Blocks.length=x.Blocks.length:=by rw [oI_blocks,oLL_len]
 have e1:(oI x).Kind=x.Kind:=by rw [oI_eq]
 have e2:(oI x).From=x.From:=by rw [oI_eq]
 have e3:(oI x).To=x.To:=by rw [oI_eq]
 have e4:(oI x).Name=x.Name:=by rw [oI_eq]
 have e5:(oI x).As=x.As:=by rw [oI_eq]
 have e6:(oI x).Ticks=x.Ticks:=by rw [oI_eq]
 have hS:ShP (oI x)=ShP ⟨x.Kind,x.From,x.To,x.Name,x.As,x.Ticks,oLL x.Blocks⟩:=by rw [oI_eq]
 unfold z88
 refine Dq.ite ibeq (fun h1=>?_) fun h1=>Dq.ite ibeq (fun h2=>?_) fun h2=>Dq.ite ibeq (fun h3=>?_) fun h3=>Dq.ite ibeq (fun h4=>?_) fun h4=>Dq.ite ibeq (fun h5=>?_) fun h5=>Dq.ite ibeq (fun h6=>?_) fun h6=>?_
 ·refine (Dq.bK (rword_dq hN _) (fun _=>Dq.bK (rwords_dq hN _ ht 5) (fun _=>Dq.bK (rpath_dq hN _ hn) (fun _=>Dq.cK emp (fun _=>Dq.cK ibeq (fun _=>kv _ _ len0) kf) kf) kf) kf) kf).iff ?_
  unfold ShP
  rw [e1,e2,e3,e4,e5,e6,hob]
  simp [h1,and_assoc]
 ·have hk4:∀ (v:Int) (m:Nat),v=(m:Int)→Dq (z88_k4 N rc x v) (isWord x.From=true∧x.To.length=0∧x.Name=str []∧x.As=str []∧0≤x.Ticks∧x.Ticks≤1000∧m≤x.Blocks.length∧x.Blocks.length≤8∧shLL (oLL x.Blocks)):=by
   intro v m hv
   subst hv
   unfold z88_k4
   exact Dq.bK (rword_dq hN _) (fun _=>Dq.cK len0 (fun _=>Dq.cK emp (fun _=>Dq.cK emp (fun _=>Dq.cK (C:=0≤x.Ticks) decide_eq_true_iff (fun _=>Dq.cK (C:=x.Ticks≤1000) decide_eq_true_iff (fun _ =>
    Dq.cK (C:=m≤x.Blocks.length) (by rw [decide_eq_true_eq];omega) (fun _=>kv _ (x.Blocks.length≤8) (by rw [decide_eq_true_eq];omega)) kf) kf) kf) kf) kf) kf) kf
  refine Dq.ite (C:=x.Ticks > 0) decide_eq_true_iff (fun ht=>(hk4 2 2 rfl).iff ?_) (fun ht=>(hk4 1 1 rfl).iff ?_)
  ·unfold ShP
   rw [e1,e2,e3,e4,e5,e6,hob]
   have:1+min x.Ticks 1≤(x.Blocks.length:Int)↔2≤x.Blocks.length:=by omega
   simp [h2,and_assoc,this]
  ·unfold ShP
   rw [e1,e2,e3,e4,e5,e6,hob]
   constructor
   ·rintro ⟨a,b,c,d,e,f,g,h,i⟩
    exact ⟨Or.inr (Or.inl ⟨h2,a,b,c,d,e,f,by omega,h⟩),i⟩
   ·rintro ⟨h | h | h | h | h | h,i⟩<;>simp [h2] at h
    obtain ⟨a,b,c,d,e,f,g,h⟩:=h
    exact ⟨a,by simpa using b,c,d,e,f,by omega,h,i⟩
 ·refine (Dq.cK emp (fun _=>Dq.cK len0 (fun _=>Dq.bK (rpath_dq hN _ hn) (fun _=>Dq.cK emp (fun _=>Dq.cK ibeq (fun _=>kv _ (x.Blocks.length=1) (by simp;omega)) kf) kf) kf) kf) kf).iff ?_
  unfold ShP
  rw [e1,e2,e3,e4,e5,e6,hob]
  simp [h3,and_assoc]
 ·refine (Dq.cK emp (fun _=>Dq.cK len0 (fun _=>Dq.bK (rpath_dq hN _ hn) (fun _=>Dq.cK emp (fun _=>Dq.cK ibeq (fun _=>kv _ (x.Blocks.length=0) len0) kf) kf) kf) kf) kf).iff ?_
  unfold ShP
  rw [e1,e2,e3,e4,e5,e6,hob]
  simp [h4,and_assoc]
 ·refine (Dq.cK emp (fun _=>Dq.cK len0 (fun _=>Dq.cK emp (fun _=>Dq.cK emp (fun _=>Dq.cK ibeq (fun _=>Dq.cK (C:=2≤x.Blocks.length) (by rw [decide_eq_true_eq];omega) (fun _=>kv _ (x.Blocks.length≤8) (by rw [decide_eq_true_eq];omega)) kf) kf) kf) kf) kf) kf).iff ?_
  unfold ShP
  rw [e1,e2,e3,e4,e5,e6,hob]
  simp [h5,and_assoc]
 ·refine (Dq.cK emp (fun _=>Dq.bK (rwords_dq hN _ ht 6) (fun _=>Dq.bK (rword_dq hN _) (fun _=>Dq.bK (rword_dq hN _) (fun _=>Dq.cK ibeq (fun _=>kv _ (x.Blocks.length=0) len0) kf) kf) kf) kf) kf).iff ?_
  unfold ShP
  rw [e1,e2,e3,e4,e5,e6,hob]
  simp [h6,and_assoc]
 ·refine kf.iff ⟨fun h=>h.elim,fun h=>?_⟩
  unfold ShP at h
  rw [e1,e2,e3,e4,e5,e6,hob] at h
  rcases h.1 with h | h | h | h | h | h
  ·exact h1 h.1
  ·exact h2 h.1
  ·exact h3 h.1
  ·exact h4 h.1
  ·exact h5 h.1
  ·exact h6 h.1
theorem shL_iff:∀ l:List T5,shL (oL l)↔∀ x∈l,ShP (oI x)∧shLL (oLL x.Blocks)
 | []=>by simp [oL,shL]
 | x::l=>by simp only [oL,shL,shL_iff l,List.mem_cons,forall_eq_or_imp,shI_eq,oI_blocks]
theorem goods_dq:∀ (N:Nat) (xs:List T5),4194306+dL (oL xs)≤N→xs.length≤4194304→bL (oL xs)→nL (oL xs)→Dq (z43 N xs) (shL (oL xs))
 | 0,_,h,_,_,_=>by omega
 | N+1,xs,h,hs,hb,hn=>by
  show Dq (z43_b N (z43 N) xs) _
  unfold z43_b
  refine (dq_all hs (P:=fun x=>ShP (oI x)∧shLL (oLL x.Blocks)) (E:=True) _ (fun n k x Q hk hx hq=>?_) (fun _ n k hk=>?_) (by omega)).iff (by rw [shL_iff];simp)
  ·have hm:=List.mem_of_getElem? hx
   have hbx:=(bI_eq _).1 (bL_mem hb (oL_in hm))
   rw [oI_blocks,oLL_len,oI_to] at hbx
   have hdx:=dL_mem (oL_in hm)
   rw [dI_eq,oI_blocks] at hdx
   have hnx:=(nI_eq _).1 (nL_mem hn (oL_in hm))
   rw [oI_blocks,show (oI x).Name=x.Name by rw [oI_eq]] at hnx
   simp only [z43_l2,lt_t (get_lt hx),cT,idx_nat,hx,bS,w64_succ (show k < 4611686018427387904 by omega)]
   refine Dq.bN (good_dq (by omega) hbx.1 hnx.1 hbx.2.1 fun b hb'=>?_) hq
   have hbb:=bLL_mem hbx.2.2 (oLL_in hb')
   have hd:=dLL_mem (oLL_in hb')
   rw [oL_len] at hbb
   exact goods_dq N b (by omega) hbb.1 hbb.2 (nLL_mem hnx.2 (oLL_in hb'))
  ·simp only [z43_l2,lt_f hk,cF,z43_k1]
   exact Dq.tr
end Gp
end
section
namespace Gp
open Go Go.Kx Gx
variable {N:Nat} (hN:4194304 < N)
def Small (n:Int):Prop:=-999999≤n∧n≤999999
theorem within_dq (n:Int):Dq (z127 N n) (Small n):=Dq.cA (C:=-999999≤n) decide_eq_true_iff fun _=>Dq.dec Iff.rfl
theorem small_dq (n:Int):Dq (z89 N n) (Small n):=Dq.cA (C:=-999999≤n) decide_eq_true_iff fun _=>Dq.dec Iff.rfl
def TermP (t:T13):Prop:=Small t.N∧((t.Kind=1∧t.Message=str []∧t.Field=str [])∨((t.Kind=2∨t.Kind=3)∧isWord t.Field=true∧(t.Message=str []∨pathV t.Message=true)))
theorem Dq.orE {c:Bool} {C P:Prop} {o:Option Bool} (hc:c=true↔C) (h:¬C→Dq o P):Dq (bif c then some true else o) (C∨P) :=
 Dq.ite hc (fun h'=>Dq.tr.iff ⟨fun _=>Or.inl h',fun _=>trivial⟩) (fun h'=>(h h').iff ⟨fun p=>Or.inr p,fun p=>p.resolve_left h'⟩)
include hN in
theorem term_dq (t:T13):Dq (z77 N t) (TermP t):=by
 unfold z77
 refine Dq.bN (within_dq _) fun _=>Dq.ite ibeq (fun h1=>?_) fun h1=>?_
 ·refine (Dq.cA emp fun _=>Dq.of rfl emp).iff ?_
  simp [h1]
 have hk:(t.Kind=2∨t.Kind=3)→Dq (z77_k1 N t true) ((t.Kind=1∧t.Message=str []∧t.Field=str [])∨((t.Kind=2∨t.Kind=3)∧isWord t.Field=true∧(t.Message=str []∨pathV t.Message=true))):=by
  intro hk
  unfold z77_k1
  simp only [cT]
  refine (Dq.bA (word_dq hN _) fun _=>Dq.orE emp fun _=>Dq.bS (path_dq hN _)).iff ?_
  simp [h1,hk]
 refine Dq.ite ibeq (fun h2=>hk (Or.inl h2)) fun h2=>?_
 cases h3:(t.Kind==3) with
 | true=>exact hk (Or.inr (ibeq.1 h3))
 | false =>
  have h3:¬ t.Kind=3:=fun h=>by rw [h] at h3;cases h3
  unfold z77_k1
  simp only [cF]
  exact Dq.fa.iff (by simp [h1,h2,h3])
include hN in
theorem rterm_dq (t:T13) (hs:t.Message.size≤4000000):Dq (z90 N t) (TermP t):=by
 unfold z90
 refine Dq.bN (small_dq _) fun _=>Dq.ite ibeq (fun h1=>?_) fun h1=>Dq.ite ibeq (fun h2=>?_) fun h2=>Dq.ite ibeq (fun h3=>?_) fun h3=>?_
 ·refine (Dq.cA emp fun _=>Dq.of rfl emp).iff ?_
  simp [h1]
 ·refine (Dq.bA (rword_dq hN _) fun _=>Dq.orE emp fun _=>Dq.bS (rpath_dq hN _ hs)).iff ?_
  simp [h2]
 ·refine (Dq.bA (rword_dq hN _) fun _=>Dq.orE emp fun _=>Dq.bS (rpath_dq hN _ hs)).iff ?_
  simp [h3]
 ·exact Dq.fa.iff (by simp [h1,h2,h3])
def FldP (f:T0):Prop:=isWord f.Name=true∧(f.Sort'.Kind=1∨f.Sort'.Kind=2)∧Small f.Sort'.Lo∧Small f.Sort'.Hi∧(f.Sort'.Kind=2→0≤f.Sort'.Lo∧0≤f.Sort'.Hi)
def AtomP (a:T9):Prop:=TermP a.Left∧TermP a.Right∧a.Op∈marksL
def MsgP (m:T11):Prop:=pathV m.Name=true∧m.Fields.length≤4∧m.Where.length≤6∧(∀ f∈m.Fields,FldP f)∧∀ a∈m.Where,AtomP a
theorem minI_lt {a b c:Int}:decide (minI a b < c)=false↔c≤a∧c≤b:=by rw [decide_eq_false_iff_not];unfold minI;split<;>omega
theorem maxI_gt {a b c:Int}:decide (maxI a b > c)=false↔a≤c∧b≤c:=by rw [decide_eq_false_iff_not];unfold maxI;split<;>omega
include hN in
theorem mark_dq (s:ByteArray):Dq ((z78 N).bind fun x=>z74 N x s) (s∈marksL):=by
 have h:=contains_eq hN marksL (by decide) s
 refine Dq.of (b:=marksL.any fun x=>eqStr x s) h ?_
 rw [List.any_eq_true]
 constructor
 ·rintro ⟨x,hx,h⟩;rw [(eqStr_iff _ _).1 h] at hx;exact hx
 ·intro h;exact ⟨s,h,eqStr_refl s⟩
include hN in
theorem mval_dq (m:T11):Dq (z35 N m) (MsgP m):=by
 unfold z35
 refine Dq.bN (path_dq hN _) fun _=>Dq.cN (C:=m.Fields.length≤4) gt_lem fun h4=>Dq.cN (C:=m.Where.length≤6) gt_lem fun h6=>?_
 refine dq_all (P:=FldP) (E:=∀ a∈m.Where,AtomP a) (by omega) _ (fun n k x Q hk hx hq=>?_) (fun _ n k hk=>?_) (by omega)
 ·have key:∀ (lo:Int),(x.Sort'.Kind=2∧lo=0)∨(x.Sort'.Kind≠2∧lo=-999999)→Dq (z35_k5 N (k:Int) (z35_l4 N m n) x lo) (FldP x∧Q):=by
   intro lo hlo
   unfold z35_k5
   rw [w64_succ (show k < 4611686018427387904 by omega)]
   refine (Dq.bN (P:=(x.Sort'.Kind=1∨x.Sort'.Kind=2)∧(lo≤x.Sort'.Lo∧lo≤x.Sort'.Hi)∧(x.Sort'.Lo≤999999∧x.Sort'.Hi≤999999)∧Q) (word_dq hN _) fun hw=>?_).iff ?_
   ·have rest:(x.Sort'.Kind=1∨x.Sort'.Kind=2)→Dq (bif decide (minI x.Sort'.Lo x.Sort'.Hi < lo) then some false else bif decide (maxI x.Sort'.Lo x.Sort'.Hi > (999999:Int)) then some false else z35_l4 N m n ((k+1:Nat):Int)) ((lo≤x.Sort'.Lo∧lo≤x.Sort'.Hi)∧(x.Sort'.Lo≤999999∧x.Sort'.Hi≤999999)∧Q):=fun hkk =>
     Dq.cN minI_lt fun ha=>Dq.cN maxI_gt fun hb=>hq (by unfold FldP Small;exact ⟨hw,hkk,⟨by omega,by omega⟩,⟨by omega,by omega⟩,fun h2=>by omega⟩)
    cases h1:(x.Sort'.Kind != 1) with
    | false =>
     have h1:=nbeq.1 h1
     simp only [cF]
     exact (rest (Or.inl h1)).iff (by simp [h1])
    | true =>
     simp only [cT]
     have h1':¬ x.Sort'.Kind=1:=fun h=>by rw [h] at h1;cases h1
     refine (Dq.cN (C:=x.Sort'.Kind=2) nbeq fun h2=>rest (Or.inr h2)).iff ?_
     simp [h1']
   ·unfold FldP Small
    constructor
    ·rintro ⟨a,b,c,d,e⟩;exact ⟨⟨a,b,by omega,by omega,by omega⟩,e⟩
    ·rintro ⟨⟨a,b,c,d,e⟩,f⟩
     refine ⟨a,b,?_,by omega,f⟩
     rcases hlo with ⟨h,hl⟩ | ⟨h,hl⟩
     ·have:=e h;omega
     ·omega
  simp only [z35_l4,lt_t (get_lt hx),cT,idx_nat,hx,bS]
  exact Dq.ite ibeq (fun h2=>key 0 (Or.inl ⟨h2,rfl⟩)) fun h2=>key (-999999) (Or.inr ⟨h2,rfl⟩)
 ·simp only [z35_l4,lt_f hk,cF,z35_k3]
  refine (dq_all (xs:=m.Where) (P:=AtomP) (E:=True) (by omega) _ (fun n k x Q hk hx hq=>?_) (fun _ n k hk=>?_) (by omega)).iff (by simp)
  ·simp only [z35_l2,lt_t (get_lt hx),cT,idx_nat,hx,bS,w64_succ (show k < 4611686018427387904 by omega)]
   refine (Dq.bN (term_dq hN _) fun h1=>Dq.bN (term_dq hN _) fun h2=>?_:Dq _ (TermP x.Left∧TermP x.Right∧x.Op∈marksL∧Q)).iff (by unfold AtomP;simp only [and_assoc])
   exact Dq.bN (o1:=(z78 N).bind fun y=>z74 N y x.Op) (mark_dq hN _) fun h3=>hq ⟨h1,h2,h3⟩
  ·simp only [z35_l2,lt_f hk,cF,z35_k1]
   exact Dq.tr
def nM (m:T11):Prop:=m.Name.size≤4000000∧∀ a∈m.Where,a.Left.Message.size≤4000000∧a.Right.Message.size≤4000000
theorem nseq2 {a b:ByteArray}:(!(a.toList==b.toList))=true↔¬ a=b:=by
 rw [← eqStr_iff a b];unfold eqStr;cases (a.toList==b.toList)<;>simp
include hN in
theorem rmval_dq (m:T6) (hf:m.Fields.length≤4194304) (hw:m.Where.length≤4194304) (hn:nM (oM m)):Dq (z44 N m) (MsgP (oM m)):=by
 unfold z44
 refine (dq_all (P:=FldP) (E:=(∀ a∈m.Where,AtomP (oA a))∧pathV m.Name=true∧m.Fields.length≤4∧m.Where.length≤6) hf _ (fun n k x Q hk hx hq=>?_) (fun _ n k hk=>?_) (by omega)).iff ?_
 ·simp only [z44_l4,lt_t (get_lt hx),cT,idx_nat,hx,bS,w64_succ (show k < 4611686018427387904 by omega)]
  refine (Dq.bN (P:=Small x.Sort'.Lo∧Small x.Sort'.Hi∧(x.Sort'.Kind=1∨x.Sort'.Kind=2)∧(x.Sort'.Kind=2→0≤x.Sort'.Lo∧0≤x.Sort'.Hi)∧Q) (rword_dq hN _) fun h0=>Dq.bN (small_dq _) fun h1=>Dq.bN (small_dq _) fun h2=>?_).iff ?_
  ·have rest:(x.Sort'.Kind=1∨x.Sort'.Kind=2)→Dq (bif (x.Sort'.Kind==(2:Int)) then (bif decide (x.Sort'.Lo < (0:Int)) then some false else bif decide (x.Sort'.Hi < (0:Int)) then some false else z44_l4 N m n ((k+1:Nat):Int)) else z44_l4 N m n ((k+1:Nat):Int)) ((x.Sort'.Kind=2→0≤x.Sort'.Lo∧0≤x.Sort'.Hi)∧Q):=fun hkk =>
    Dq.ite ibeq (fun hk2=>(Dq.cN (C:=0≤x.Sort'.Lo) (by rw [decide_eq_false_iff_not];omega) fun ha=>Dq.cN (C:=0≤x.Sort'.Hi) (by rw [decide_eq_false_iff_not];omega) fun hb=>hq ⟨h0,hkk,h1,h2,fun _=>⟨ha,hb⟩⟩).iff (by simp [hk2,and_assoc]))
     (fun hk2=>(hq ⟨h0,hkk,h1,h2,fun h=>absurd h hk2⟩).iff (by simp [hk2]))
   cases h1:(x.Sort'.Kind != 1) with
   | false =>
    have h1:=nbeq.1 h1
    simp only [cF]
    exact (rest (Or.inl h1)).iff (by simp [h1])
   | true =>
    simp only [cT]
    have h1':¬ x.Sort'.Kind=1:=fun h=>by rw [h] at h1;cases h1
    refine (Dq.cN (C:=x.Sort'.Kind=2) nbeq fun h2=>rest (Or.inr h2)).iff ?_
    simp [h1']
  ·unfold FldP
   constructor
   ·rintro ⟨a,b,c,d,e,f⟩;exact ⟨⟨a,d,b,c,e⟩,f⟩
   ·rintro ⟨⟨a,b,c,d,e⟩,f⟩;exact ⟨a,c,d,b,e,f⟩
 ·simp only [z44_l4,lt_f hk,cF,z44_k3]
  refine dq_all (P:=fun a=>AtomP (oA a)) (E:=pathV m.Name=true∧m.Fields.length≤4∧m.Where.length≤6) hw _ (fun n k x Q hk hx hq=>?_) (fun _ n k hk=>?_) (by omega)
  ·simp only [z44_l2,lt_t (get_lt hx),cT,idx_nat,hx,bS,w64_succ (show k < 4611686018427387904 by omega)]
   have hm:oA x∈(oM m).Where:=List.mem_map.2 ⟨x,List.mem_of_getElem? hx,rfl⟩
   have hs:=hn.2 _ hm
   refine (Dq.bN (rterm_dq hN _ hs.1) fun h1=>Dq.bN (rterm_dq hN _ hs.2) fun h2=>?_:Dq _ (TermP x.Left∧TermP x.Right∧x.Op∈marksL∧Q)).iff (by unfold AtomP;simp only [and_assoc];rfl)
   have hq':x.Op∈marksL→Dq (z44_l2 N m n ((k+1:Nat):Int)) (x.Op∈marksL∧Q):=fun h=>(hq ⟨h1,h2,h⟩).iff (by simp [h])
   refine Dq.ite nseq2 (fun a1=>Dq.ite nseq2 (fun a2=>Dq.ite nseq2 (fun a3=>Dq.ite nseq2 (fun a4=>Dq.ite nseq2 (fun a5=>?_) fun a=>?_) fun a=>?_) fun a=>?_) fun a=>?_) fun a=>?_
   ·exact Dq.fa.iff (by simp [marksL,a1,a2,a3,a4,a5])
   all_goals exact hq' (by rw [Classical.not_not.1 a];simp [marksL])
  ·simp only [z44_l2,lt_f hk,cF,z44_k1]
   exact Dq.bA (rpath_dq hN _ hn.1) fun _=>Dq.cA (C:=m.Fields.length≤4) (by rw [decide_eq_true_eq];omega) fun _=>Dq.dec (by omega)
 ·unfold MsgP
  show _↔pathV m.Name=true∧m.Fields.length≤4∧(m.Where.map oA).length≤6∧(∀ f∈m.Fields,FldP f)∧∀ a∈m.Where.map oA,AtomP a
  rw [List.length_map,List.forall_mem_map]
  constructor
  ·rintro ⟨a,b,c,d,e⟩;exact ⟨c,d,e,a,b⟩
  ·rintro ⟨c,d,e,a,b⟩;exact ⟨a,b,c,d,e⟩
end Gp
end
section
namespace Gp
open Go Go.Kx Gx
variable {N:Nat}
def I64 (n:Int):Prop:=-9223372036854775808≤n∧n≤9223372036854775807
theorem bs_app (a b:ByteArray):bs (a++b)=bs a++bs b:=by
 unfold bs
 rw [ByteArray.data_append,Array.toList_append]
theorem cat_mk {a b:List UInt8} (h:a.length+b.length≤9223372036854775807):catS (mkB a) (mkB b)=some (mkB (a++b)):=by
 unfold catS
 have e:(mkB a).size=a.length∧(mkB b).size=b.length:=⟨by rw [size_bs,bs_mkB],by rw [size_bs,bs_mkB]⟩
 rw [e.1,e.2,dF (by simp only [IntKind.max];simp [IntKind.bits,IntKind.signed];omega)]
 simp only [cF]
 refine congrArg some (bs_inj ?_)
 rw [bs_app,bs_mkB,bs_mkB,bs_mkB]
theorem enc_digit:∀ d:Fin 10,Utf8.encode (wk .i32 (w64 ((48:Int)+(d.val:Int))))=mkB [UInt8.ofNat (48+d.val)]:=by decide
theorem enc_digit' {n:Int} {d:Nat} (hd:d < 10) (h:n=(48:Int)+(d:Int)):Utf8.encode (wk .i32 (w64 n))=mkB [UInt8.ofNat (48+d)]:=by
 rw [h];exact enc_digit ⟨d,hd⟩
theorem digN_len:∀ f u,(digN f u).length≤f
 | 0,_=>Nat.le_refl _
 | f+1,u=>by
  rw [digN]
  cases hb:Nat.blt u 10 with
  | true=>simp
  | false =>
   have:=digN_len f (u / 10)
   simp only [cF,lA,List.length_singleton]
   omega
theorem digits_pos:∀ (f m u:Nat),f≤24→u < 10 ^ (f+1)→u < 9223372036854775808→z134_r (f+1+m) (u:Int)=some (mkB (digN (f+1) u))
 | f,m,u,hf,h,hu=>by
  rw [show f+1+m=(f+m)+1 by omega,z134_r,z134_b,digN]
  rw [dF (show ¬ (u:Int) < -9 by omega),dF (show ¬ (u:Int) < 0 by omega)]
  simp only [cF]
  by_cases c:u < 10
  ·have hb:Nat.blt u 10=true:=by simpa [Nat.blt_eq] using c
   rw [dT (show (u:Int) < 10 by omega),hb,enc_digit' c rfl];rfl
  ·have hb:Nat.blt u 10=false:=by
    cases h0:Nat.blt u 10 with
    | false=>rfl
    | true=>exact absurd (by simpa [Nat.blt_eq] using h0) c
   rw [dF (show ¬ (u:Int) < 10 by omega),hb]
   have ht:w64 ((u:Int).tdiv 10)=((u / 10:Nat):Int):=by
    rw [show ((u:Int).tdiv 10)=((u / 10:Nat):Int) from by rw [Int.tdiv_eq_ediv_of_nonneg (by omega)];omega,w64_id (by omega) (by omega)]
   have hm:((48:Int)+(u:Int).tmod 10)=(48:Int)+((u % 10:Nat):Int):=by
    rw [Int.tmod_eq_emod_of_nonneg (by omega)];omega
   rw [ht,hm,enc_digit (⟨u % 10,Nat.mod_lt _ (by omega)⟩)]
   match f,h,hf with
   | 0,h,_=>omega
   | f+1,h,hf =>
    rw [show f+1+m=f+1+m by rfl,digits_pos f m (u / 10) (by omega) (by rw [Nat.pow_succ] at h;omega) (by omega)]
    simp only [bS,cF]
    have:=digN_len (f+1) (u / 10)
    rw [cat_mk (by simp only [List.length_singleton];omega)]
    rfl
theorem digits_neg:∀ (f m u:Nat),f≤24→0 < u→u < 10 ^ (f+1)→u≤9223372036854775808→z134_r (f+1+m) (-(u:Int))=some (mkB (45::digN (f+1) u))
 | f,m,u,hf,h0,h,hu=>by
  rw [show f+1+m=(f+m)+1 by omega,z134_r,z134_b,digN]
  by_cases c:u < 10
  ·have hb:Nat.blt u 10=true:=by simpa [Nat.blt_eq] using c
   rw [dF (show ¬ -(u:Int) < -9 by omega),dT (show -(u:Int) < 0 by omega),hb]
   simp only [cT,cF]
   rw [enc_digit' (n:=48 - -(u:Int)) c (by omega)]
   rw [show str [45]=mkB [45] from rfl,cat_mk (by simp)];rfl
  ·have hb:Nat.blt u 10=false:=by
    cases h0:Nat.blt u 10 with
    | false=>rfl
    | true=>exact absurd (by simpa [Nat.blt_eq] using h0) c
   rw [dT (show -(u:Int) < -9 by omega),hb]
   have ht:w64 ((-(u:Int)).tdiv 10)=-((u / 10:Nat):Int):=by
    rw [show ((-(u:Int)).tdiv 10)=-((u / 10:Nat):Int) from by rw [Int.neg_tdiv,Int.tdiv_eq_ediv_of_nonneg (by omega)];omega,w64_id (by omega) (by omega)]
   have hm:((48:Int)-(-(u:Int)).tmod 10)=(48:Int)+((u % 10:Nat):Int):=by
    rw [Int.neg_tmod,Int.tmod_eq_emod_of_nonneg (by omega)];omega
   rw [ht,hm,enc_digit (⟨u % 10,Nat.mod_lt _ (by omega)⟩)]
   match f,h,hf with
   | 0,h,_=>omega
   | f+1,h,hf =>
    rw [digits_neg f m (u / 10) (by omega) (by omega) (by rw [Nat.pow_succ] at h;omega) (by omega)]
    simp only [bS,cT]
    have:=digN_len (f+1) (u / 10)
    rw [cat_mk (by simp only [List.length_cons,List.length_nil];omega)]
    rfl
theorem digits09_eq (hN:4194304 < N) {n:Int} (h:I64 n):z134 N n=some (itoaS n):=by
 obtain ⟨h1,h2⟩:=h
 unfold z134 itoaS
 by_cases c:n < 0
 ·rw [dT c]
  have:=digits_neg 24 (N-25) n.natAbs (by omega) (by omega) (by omega) (by omega)
  rw [show 24+1+(N-25)=N by omega,show -((n.natAbs:Nat):Int)=n by omega] at this
  exact this
 ·rw [dF c]
  have:=digits_pos 24 (N-25) n.toNat (by omega) (by omega) (by omega)
  rw [show 24+1+(N-25)=N by omega,show ((n.toNat:Nat):Int)=n by omega] at this
  exact this
theorem itoa_eq {n:Int} (h:I64 n):z131 N n=some (itoaS n):=by
 unfold z131
 rw [dT h.1,dT h.2];rfl
theorem itoa_len (n:Int):(itoaS n).size≤26:=by
 unfold itoaS
 have h1:=digN_len 25 n.natAbs
 have h2:=digN_len 25 n.toNat
 show (bif decide (n < 0) then 45::digN 25 n.natAbs else digN 25 n.toNat).toArray.size≤26
 cases decide (n < 0)<;>simp<;>omega
theorem cat_eq {a b:ByteArray} (h:(bs a).length+(bs b).length≤140737488355328):catS a b=some (mkB (bs a++bs b)):=by
 have:=cat_mk (a:=bs a) (b:=bs b) (by omega)
 rw [mkB_bs,mkB_bs] at this
 exact this
theorem bs_str (l:List UInt8):bs (str l)=l:=bs_mkB l
def tabs (k:Nat):List UInt8:=List.replicate k 9
theorem tabs_len (k:Nat):(tabs k).length=k:=List.length_replicate
theorem tabs_succ (k:Nat):tabs (k+1)=tabs k++[9]:=List.replicate_succ'
def lineT (k:Nat) (F:List UInt8):List UInt8:=tabs k++(F++[10])
theorem lineT_len (k:Nat) (F:List UInt8):(lineT k F).length=k+(F.length+1):=by simp [lineT,tabs]
def dig (n:Int):List UInt8:=bs (itoaS n)
theorem dig_len (n:Int):(dig n).length≤26:=itoa_len n
theorem rep_eq (k:Nat) (hk:k≤1000000):z129 N (str [9]) (k:Int)=some (mkB (tabs k)):=by
 unfold z129
 have e:∀ k,repL (str [9]).data.toList k=List.replicate k 9:=by
  intro k
  induction k with
  | zero=>rfl
  | succ k ih=>rw [repL,ih];rfl
 rw [dT (show (0:Int)≤(k:Int) by omega),dT (show (k:Int)≤140737488355328 by omega),dT (show (str [9]).size * ((k:Int)).toNat≤140737488355328 by show 1 * _≤_;omega),e,Int.toNat_natCast]
 rfl
def joinT (sep:List UInt8) (l:List ByteArray):List UInt8:=joinL sep (l.map bs)
theorem join_eq (l:List ByteArray) (sep:List UInt8) (hl:l.length≤4194304) (h:(joinT sep l).length≤140737488355328):z80 N l (str sep)=some (mkB (joinT sep l)):=by
  unfold z80
  have e:joinL (str sep).data.toList (l.map (·.data.toList))=joinT sep l:=rfl
  rw [e,dT (show l.length≤140737488355328 by omega),dT h]
  rfl
theorem joinL_nil:∀ l:List (List UInt8),joinL [] l=l.flatten
  | []=>rfl
  | x::r=>by
    show x++(r.map (([]:List UInt8)++·)).flatten=(x::r).flatten
    have e:r.map (([]:List UInt8)++·)=r:=by
      have:(fun y:List UInt8=>[]++y)=id:=by funext y;simp
      show r.map (fun y=>[]++y)=r
      rw [this,List.map_id]
    rw [e];rfl
theorem joinL_len (sep:List UInt8) (M:Nat):∀ l:List (List UInt8),(∀ x∈l,x.length≤M)→(joinL sep l).length≤l.length * (M+sep.length)
  | [],_=>by simp [joinL]
  | x::r,h=>by
    have hx:=h x (List.mem_cons_self ..)
    have hr:∀ r:List (List UInt8),(∀ x∈r,x.length≤M)→((r.map (sep++·)).flatten).length≤r.length * (M+sep.length):=by
      intro r
      induction r with
      | nil=>intro _;simp
      | cons y r ih =>
        intro h
        have h1:=h y (List.mem_cons_self ..)
        have h2:=ih fun z hz=>h z (List.mem_cons_of_mem _ hz)
        simp only [List.map_cons,List.flatten_cons,lA,List.length_cons,Nat.add_mul,Nat.one_mul]
        omega
    have h2:=hr r fun z hz=>h z (List.mem_cons_of_mem _ hz)
    show (x++(r.map (sep++·)).flatten).length≤_
    simp only [lA,List.length_cons,Nat.add_mul,Nat.one_mul]
    omega
theorem apB_eq {B F:List UInt8} (h:B.length+F.length≤4294967296):apB (mkB B) (mkB F)=some (mkB (B++F)):=by
 unfold apB
 have e:(mkB B).size=B.length∧(mkB F).size=F.length:=⟨by rw [size_bs,bs_mkB],by rw [size_bs,bs_mkB]⟩
 rw [e.1,e.2,Nat.ble_eq_true_of_le (show B.length+F.length≤lim by show B.length+F.length≤4294967296;omega)]
 simp only [cT]
 refine congrArg some (bs_inj ?_)
 rw [bs_app,bs_mkB,bs_mkB,bs_mkB]
theorem line_eq (parts:List ByteArray) (B F:List UInt8) (k:Nat) (hF:(parts.map bs).flatten=F) (hp:parts.length≤4194304) (hk:k≤1000000) (h:B.length+(lineT k F).length≤4294967296) :
  z79_11 N parts ⟨mkB B,(k:Int)⟩=some ⟨mkB (B++lineT k F),(k:Int)⟩:=by
 subst hF
 rw [lineT_len] at h
 unfold z79_11
 have ej:joinT [] parts=(parts.map bs).flatten:=joinL_nil _
 rw [rep_eq k hk,bS,join_eq parts [] hp (by rw [ej];omega),bS,ej,cat_mk (by rw [tabs_len];omega),bS,show str [10]=mkB [10] from rfl,cat_mk (by simp only [lA,List.length_singleton,tabs_len,List.length_nil];omega),bS]
 unfold z128_10 z149_9
 simp only [bS]
 rw [apB_eq (by simp only [lA,List.length_singleton,tabs_len,List.length_nil];omega)]
 simp only [bS,lineT,aA]
theorem line_eq0 (parts:List ByteArray) (F:List UInt8) (hF:(parts.map bs).flatten=F) (hp:parts.length≤4194304) (h:(lineT 0 F).length≤4294967296) :
  z79_8 N parts ⟨ByteArray.empty,(0:Int)⟩=some ⟨mkB (lineT 0 F),(0:Int)⟩:=by
 subst hF
 rw [lineT_len] at h
 unfold z79_8
 have ej:joinT [] parts=(parts.map bs).flatten:=joinL_nil _
 show (z129 N (str [9]) ((0:Nat):Int)).bind _=_
 rw [rep_eq 0 (by omega),bS,join_eq parts [] hp (by rw [ej];omega),bS,ej,cat_mk (by rw [tabs_len];omega),bS,show str [10]=mkB [10] from rfl,cat_mk (by simp only [lA,List.length_singleton,tabs_len,List.length_nil];omega),bS]
 unfold z128_7 z149_6
 simp only [bS]
 rw [show ByteArray.empty=mkB [] from rfl,apB_eq (by simp only [lA,List.length_singleton,tabs_len,List.length_nil];omega)]
 simp only [bS,lineT,aA,List.nil_append]
end Gp
end
section
namespace Gp
open Go Go.Kx Gx
def termB (t:T13):List UInt8:=bif eqStr t.Message (str []) then bs t.Field else bs t.Message++[46]++bs t.Field
def termN (t:T13):List UInt8:=bif decide (t.N > 0) then [32,43,32]++dig t.N else bif decide (t.N < 0) then [32,45,32]++dig (0-t.N) else []
def termT (t:T13):List UInt8:=bif t.Kind==1 then dig t.N else (bif t.Kind==3 then [108,101,110,40]++termB t++[41] else termB t)++termN t
def fldT (f:T0):List UInt8:=bs f.Name++(bif f.Sort'.Kind==2 then [58,32,116,101,120,116,32] else [58,32,105,110,116,32])++dig f.Sort'.Lo++[46,46]++dig f.Sort'.Hi
def atomT (a:T9):List UInt8:=termT a.Left++[32]++bs a.Op++[32]++termT a.Right
def whereT (l:List T9):List UInt8:=match l with
 | []=>[]
 | _::_=>[32,119,104,101,114,101,32]++joinL [32,97,110,100,32] (l.map atomT)
def msgT (m:T11):List UInt8:=[109,101,115,115,97,103,101,32]++bs m.Name++[40]++joinL [44,32] (m.Fields.map fldT)++[41]++whereT m.Where++[59]
theorem word_len {s:ByteArray} (h:isWord s=true):(bs s).length≤16:=word_size h
theorem path_len {s:ByteArray} (h:pathV s=true):(bs s).length≤50:=by
 unfold pathV at h
 rw [Bool.and_eq_true,decide_eq_true_eq] at h
 exact h.1
theorem small_I64 {n:Int} (h:Small n):I64 n:=by unfold Small at h;unfold I64;omega
theorem termP_len {t:T13} (h:TermP t):(bs t.Message).length≤50∧(bs t.Field).length≤16:=by
 rcases h.2 with ⟨_,h1,h2⟩ | ⟨_,h1,h2⟩
 ·rw [h1,h2,bs_str];simp
 ·refine ⟨?_,word_len h1⟩
  rcases h2 with h2 | h2
  ·rw [h2,bs_str];simp
  ·exact path_len h2
theorem mark_len {s:ByteArray} (h:s∈marksL):(bs s).length≤2:=by
 have:∀ x∈marksL,(bs x).length≤2:=by
  intro x hx
  simp only [marksL,List.mem_cons,List.not_mem_nil,or_false] at hx
  rcases hx with h | h | h | h | h<;>subst h<;>(rw [bs_str];simp)
 exact this s h
theorem termT_len {t:T13} (h:TermP t):(termT t).length≤150:=by
 obtain ⟨h1,h2⟩:=termP_len h
 have hb:(termB t).length≤67:=by unfold termB;cases eqStr t.Message (str [])<;>simp<;>omega
 have hd:=dig_len t.N
 have hd2:=dig_len (0-t.N)
 have hn:(termN t).length≤29:=by
  unfold termN
  cases decide (t.N > 0)<;>cases decide (t.N < 0)<;>simp only [cT,cF,lA,List.length_cons,List.length_nil]<;>omega
 unfold termT
 cases (t.Kind==1)<;>cases (t.Kind==3)<;>simp only [cT,cF,lA,List.length_cons,List.length_nil]<;>omega
theorem fldT_len {f:T0} (h:FldP f):(fldT f).length≤100:=by
 have:=word_len h.1
 have h1:=dig_len f.Sort'.Lo
 have h2:=dig_len f.Sort'.Hi
 unfold fldT
 cases (f.Sort'.Kind==2)<;>simp only [cT,cF,lA,List.length_cons,List.length_nil]<;>omega
theorem atomT_len {a:T9} (h:AtomP a):(atomT a).length≤350:=by
 have h1:=termT_len h.1
 have h2:=termT_len h.2.1
 have h3:=mark_len h.2.2
 unfold atomT
 simp only [lA,List.length_cons,List.length_nil];omega
variable {N:Nat} (hN:4194304 < N)
theorem term_k1 {t:T13} (h:TermP t) (A:List UInt8) (hA:A.length≤100):z132_k1 N t (mkB A)=some (mkB (A++termN t)):=by
 unfold z132_k1 termN
 have hs:=h.1;unfold Small at hs
 have h1:=dig_len t.N
 have h2:=dig_len (0-t.N)
 unfold dig at h1 h2
 rw [itoa_eq (small_I64 h.1),w64_id (by omega) (by omega),itoa_eq (by unfold I64;omega)]
 cases decide (t.N > 0)<;>cases decide (t.N < 0)<;>simp only [cT,cF,bS,List.append_nil]
 all_goals simp (disch:=(simp only [bs_mkB,bs_str,lA,List.length_cons,List.length_nil];omega)) only [cat_eq,bS,bs_mkB,bs_str,dig]
theorem term_k2 {t:T13} (h:TermP t) (h1:(t.Kind==1)=false):z132_k2 N t (mkB (termB t))=some (mkB (termT t)):=by
 obtain ⟨q1,q2⟩:=termP_len h
 have hb:(termB t).length≤67:=by unfold termB;cases eqStr t.Message (str [])<;>simp<;>omega
 unfold z132_k2 termT
 rw [h1]
 cases (t.Kind==3)<;>simp only [cT,cF]
 ·exact term_k1 h _ (by omega)
 ·simp (disch:=(simp only [bs_mkB,bs_str,lA,List.length_cons,List.length_nil];omega)) only [cat_eq,bS,bs_mkB,bs_str]
  exact term_k1 h _ (by simp only [lA,List.length_cons,List.length_nil];omega)
theorem show_eq {t:T13} (h:TermP t):z132 N t=some (mkB (termT t)):=by
 obtain ⟨q1,q2⟩:=termP_len h
 unfold z132
 cases h1:(t.Kind==1) with
 | true =>
  simp only [cT,itoa_eq (small_I64 h.1),bS]
  unfold termT
  rw [h1];simp only [cT,dig,mkB_bs]
 | false =>
  simp only [cF]
  have e:(t.Message.toList==(str []).toList)=eqStr t.Message (str []):=rfl
  have k2:=term_k2 (N:=N) h h1
  unfold termB at k2
  rw [e]
  cases he:eqStr t.Message (str []) with
  | true =>
   rw [he] at k2
   simp only [cT,mkB_bs] at k2
   simp only [Bool.not_true,cF]
   exact k2
  | false =>
   rw [he] at k2
   simp only [cF] at k2
   simp only [Bool.not_false,cT]
   simp (disch:=(simp only [bs_mkB,bs_str,lA,List.length_cons,List.length_nil];omega)) only [cat_eq,bS,bs_mkB,bs_str]
   exact k2
theorem digs_eq (hN:4194304 < N) {n:Int} (h:I64 n):z134 N n=z131 N n:=by rw [digits09_eq hN h,itoa_eq h]
theorem rshow_eq (hN:4194304 < N) {t:T13} (h:TermP t):z135 N t=some (mkB (termT t)):=by
 rw [← show_eq (N:=N) h]
 have hs:=h.1;unfold Small at hs
 have e1:=digs_eq hN (small_I64 h.1)
 have e2:=digs_eq hN (n:=w64 (0-t.N)) (by rw [w64_id (by omega) (by omega)];unfold I64;omega)
 have k1:∀ x,z135_k1 N t x=z132_k1 N t x:=fun x=>by unfold z135_k1 z132_k1;rw [e1,e2]
 have k2:∀ x,z135_k2 N t x=z132_k2 N t x:=fun x=>by unfold z135_k2 z132_k2;simp only [k1]
 unfold z135 z132
 simp only [k2,e1]
theorem map_mk (f:T0→List UInt8) (l:List T0):(l.map fun x=>mkB (f x)).map bs=l.map f:=by
 rw [List.map_map];congr 1
theorem map_mk' (f:T9→List UInt8) (l:List T9):(l.map fun x=>mkB (f x)).map bs=l.map f:=by
 rw [List.map_map];congr 1
theorem fields_len {m:T11} (h:MsgP m):(joinL [44,32] (m.Fields.map fldT)).length≤500:=by
 have:=joinL_len [44,32] 100 (m.Fields.map fldT) (fun x hx=>by obtain ⟨f,hf,rfl⟩:=List.mem_map.1 hx;exact fldT_len (h.2.2.2.1 f hf))
 simp only [List.length_map,List.length_cons,List.length_nil] at this
 have:=h.2.1
 omega
theorem atoms_len {m:T11} (h:MsgP m):(joinL [32,97,110,100,32] (m.Where.map atomT)).length≤2200:=by
 have:=joinL_len [32,97,110,100,32] 350 (m.Where.map atomT) (fun x hx=>by obtain ⟨f,hf,rfl⟩:=List.mem_map.1 hx;exact atomT_len (h.2.2.2.2 f hf))
 simp only [List.length_map,List.length_cons,List.length_nil] at this
 have:=h.2.2.1
 omega
theorem whereT_len {m:T11} (h:MsgP m):(whereT m.Where).length≤2300:=by
 have:=atoms_len h
 unfold whereT
 cases hw:m.Where with
 | nil=>simp
 | cons a l=>rw [hw] at this;simp only [lA,List.length_cons,List.length_nil] at this ⊢;omega
theorem msgT_len {m:T11} (h:MsgP m):(msgT m).length≤3000:=by
 have h1:=fields_len h
 have h2:=whereT_len h
 have h3:=path_len h.1
 unfold msgT
 simp only [lA,List.length_cons,List.length_nil];omega
include hN in
theorem message_line {m:T11} (h:MsgP m) (B:List UInt8) (k:Nat) (hk:k≤1000) (hB:B.length+(lineT k (msgT m)).length≤4294967296) :
  z81_12 N m ⟨mkB B,(k:Int)⟩=some ⟨mkB (B++lineT k (msgT m)),(k:Int)⟩:=by
 have hf:=fields_len h
 have hw:=atoms_len h
 have hl1:=h.2.1;have hl2:=h.2.2.1
 unfold z81_12
 rw [(fold_loop m.Fields (z81_12_l4 N m ⟨mkB B,(k:Int)⟩) (fun s f=>s++[mkB (fldT f)]) (fun s=>z81_12_k3 N m ⟨mkB B,(k:Int)⟩ s) (fun j s=>s.length=j) (fun n j s f hi hx=>?_) (fun n j s hi hj=>?_) (N:=N) (s:=[]) (by omega) rfl).1]
 ·rw [snoc_fold (fun f=>mkB (fldT f))]
  rw [List.nil_append]
  unfold z81_12_k3
  rw [(fold_loop m.Where (z81_12_l2 N m ⟨mkB B,(k:Int)⟩ (m.Fields.map fun f=>mkB (fldT f))) (fun s a=>s++[mkB (atomT a)]) (fun s=>z81_12_k1 N m ⟨mkB B,(k:Int)⟩ (m.Fields.map fun f=>mkB (fldT f)) s) (fun j s=>s.length=j) (fun n j s a hi hx=>?_) (fun n j s hi hj=>?_) (N:=N) (s:=[]) (by omega) rfl).1]
  ·rw [snoc_fold (fun a=>mkB (atomT a)),List.nil_append]
   unfold z81_12_k1
   have j1:joinT [44,32] (m.Fields.map fun f=>mkB (fldT f))=joinL [44,32] (m.Fields.map fldT):=by unfold joinT;rw [map_mk]
   have j2:joinT [32,97,110,100,32] (m.Where.map fun f=>mkB (atomT f))=joinL [32,97,110,100,32] (m.Where.map atomT):=by unfold joinT;rw [map_mk']
   rw [join_eq (m.Where.map fun f=>mkB (atomT f)) _ (by simp;omega) (by rw [j2];omega),join_eq (m.Fields.map fun f=>mkB (fldT f)) _ (by simp;omega) (by rw [j1];omega),j1,j2]
   simp only [bS]
   cases hw':m.Where with
   | nil =>
    simp only [List.map_nil,List.length_nil]
    rw [show decide (((0:Nat):Int) > 0)=false from rfl,cF]
    rw [line_eq _ B (msgT m) k (by simp [bs_str,bs_mkB,msgT,whereT,hw',aA]) (by simp) (by omega) hB];rfl
   | cons a l =>
    rw [hw'] at hw
    rw [dT (by simp:(((((a::l).map fun a=>mkB (atomT a)).length:Nat)):Int) > 0),cT]
    rw [show str [32,119,104,101,114,101,32]=mkB [32,119,104,101,114,101,32] from rfl,cat_mk (by simp only [List.length_cons,List.length_nil] at hw ⊢;omega)]
    simp only [bS]
    rw [line_eq _ B (msgT m) k (by simp [bs_str,bs_mkB,msgT,whereT,hw',aA]) (by simp) (by omega) hB];rfl
  ·refine ⟨?_,by simp [hi]⟩
   have hx':=get_lt hx
   have ha:=h.2.2.2.2 a (List.mem_of_getElem? hx)
   have q1:=termT_len ha.1
   have q2:=termT_len ha.2.1
   have q3:=mark_len ha.2.2
   simp only [z81_12_l2,lt_t hx',cT,idx_nat,hx,bS,show_eq ha.1,show_eq ha.2.1,w64_succ (show j < 4611686018427387904 by omega)]
   simp (disch:=(simp only [bs_mkB,bs_str,lA,List.length_cons,List.length_nil];omega)) only [cat_eq,bS,bs_mkB,bs_str]
   rw [appL_some (by simp [hi];omega)]
   rfl
  ·simp only [z81_12_l2,lt_f hj,cF]
 ·refine ⟨?_,by simp [hi]⟩
  have hx':=get_lt hx
  have ha:=h.2.2.2.1 f (List.mem_of_getElem? hx)
  have q1:=word_len ha.1
  have q2:=dig_len f.Sort'.Lo
  have q3:=dig_len f.Sort'.Hi
  unfold dig at q2 q3
  have key:∀ T:List UInt8,T.length≤10→fldT f=bs f.Name++T++dig f.Sort'.Lo++[46,46]++dig f.Sort'.Hi→∀ ag:List ByteArray→Int→Option T15,z81_12_k5 N s (j:Int) ag f (str T)=ag (s++[mkB (fldT f)]) ((j+1:Nat):Int):=by
   intro T hT e ag
   unfold z81_12_k5
   rw [itoa_eq (small_I64 ha.2.2.1),itoa_eq (small_I64 ha.2.2.2.1),w64_succ (by omega),e]
   simp (disch:=(simp only [bs_mkB,bs_str,lA,List.length_cons,List.length_nil];omega)) only [cat_eq,bS,bs_mkB,bs_str]
   rw [appL_some (by simp [hi];omega)]
   rfl
  simp only [z81_12_l4,lt_t hx',cT,idx_nat,hx,bS]
  cases h2:(f.Sort'.Kind==2) with
  | true=>exact key [58,32,116,101,120,116,32] (by simp) (by unfold fldT;rw [h2];rfl) _
  | false=>exact key [58,32,105,110,116,32] (by simp) (by unfold fldT;rw [h2];rfl) _
 ·simp only [z81_12_l4,lt_f hj,cF]
end Gp
end
section
namespace Gp
open Go Go.Kx Gx
def sepT (first sep:List UInt8) (l:List (List UInt8)):List UInt8:=match l with
 | []=>[]
 | _::_=>first++joinL sep l
theorem sep_loop {α γ:Type} (xs:List α) (F:Nat→ByteArray→Int→γ) (fin:ByteArray→γ) (g:α→List UInt8) (first sep:List UInt8) (L:Nat)
  (h1:∀ (n k:Nat) x A,k < 4194304→xs[k]? = some x→A.length+((if k=0 then first else sep)++g x).length≤L→F (n+1) (mkB A) (k:Int)=F n (mkB (A++((if k=0 then first else sep)++g x))) ((k+1:Nat):Int))
  (h2:∀ (n k:Nat) A,xs.length≤k→A.length≤L→F (n+1) (mkB A) (k:Int)=fin (mkB A)) {N:Nat} {A:List UInt8} (hN:xs.length < N) (hs:xs.length≤4194304) (hL:A.length+(sepT first sep (xs.map g)).length≤L) :
  F N (mkB A) (0:Int)=fin (mkB (A++sepT first sep (xs.map g))):=by
 have key:∀ (l:List α) (k n:Nat) (A:List UInt8),0 < k→xs.drop k=l→l.length < n→A.length+((l.map fun x=>sep++g x).flatten).length≤L→F n (mkB A) (k:Int)=fin (mkB (A++(l.map fun x=>sep++g x).flatten)):=by
  intro l
  induction l with
  | nil =>
   intro k n A h0 h hn hL
   obtain ⟨n,rfl⟩:∃ m,n=m+1:=⟨n-1,by simp at hn;omega⟩
   rw [h2 n k A (drop_nil h) (by omega)];simp
  | cons x l ih =>
   intro k n A h0 h hn hL
   obtain ⟨n,rfl⟩:∃ m,n=m+1:=⟨n-1,by simp at hn;omega⟩
   obtain ⟨a,c,d⟩:=drop_cons h
   rw [List.map_cons,List.flatten_cons,lA] at hL
   rw [h1 n k x A (by omega) c (by rw [if_neg (by omega)];omega),if_neg (by omega),ih (k+1) n _ (by omega) d (by simp at hn;omega) (by rw [lA];omega)]
   simp only [List.map_cons,List.flatten_cons,aA]
 cases xs with
 | nil =>
  obtain ⟨n,rfl⟩:∃ m,N=m+1:=⟨N-1,by simp at hN;omega⟩
  have:=h2 n 0 A (Nat.le_refl _) (by omega)
  rw [show ((0:Nat):Int)=0 from rfl] at this
  rw [this];simp [sepT]
 | cons x l =>
  obtain ⟨n,rfl⟩:∃ m,N=m+1:=⟨N-1,by simp at hN;omega⟩
  have e:sepT first sep ((x::l).map g)=(first++g x)++(l.map fun x=>sep++g x).flatten:=by
   simp only [sepT,List.map_cons,joinL,List.map_map,aA]
   rfl
  rw [e,lA] at hL
  have:=h1 n 0 x A (by omega) rfl (by rw [if_pos rfl];omega)
  rw [if_pos rfl,show ((0:Nat):Int)=0 from rfl] at this
  rw [this,key l 1 n _ (by omega) rfl (by simp at hN;omega) (by rw [lA];omega),e]
  simp only [aA]
variable {N:Nat} (hN:4194304 < N)
theorem sepT_join (sep:List UInt8) (l:List (List UInt8)):sepT [] sep l=joinL sep l:=by
 cases l<;>simp [sepT,joinL]
include hN in
theorem list_eq (l:List ByteArray) (hl:l.length≤4194304) (h:(joinT [44,32] l).length≤4294967296):z84 N l=some (mkB (joinT [44,32] l)):=by
 unfold z84
 have hj:sepT [] [44,32] (l.map bs)=joinT [44,32] l:=sepT_join _ _
 rw [show str []=mkB [] from rfl,sep_loop l (z84_l2 l) (fun s=>some s) bs [] [44,32] 4294967296 (fun n k x A hk hx hA=>?_) (fun n k A hk hA=>?_) (by omega) hl (by rw [hj];simp;omega),hj,List.nil_append]
 ·simp only [z84_l2,lt_t (get_lt hx),cT,idx_nat,hx,bS,w64_succ (show k < 4611686018427387904 by omega)]
  by_cases h0:k=0
  ·subst h0
   rw [if_pos rfl,List.nil_append] at hA ⊢
   rw [dF (by omega),cF]
   simp (disch:=(simp only [bs_mkB,bs_str,lA,List.length_cons,List.length_nil];omega)) only [cat_eq,bS,bs_mkB,bs_str]
  ·rw [if_neg h0] at hA ⊢
   rw [dT (by omega),cT]
   simp only [lA,List.length_cons,List.length_nil] at hA
   simp (disch:=(simp only [bs_mkB,bs_str,lA,List.length_cons,List.length_nil];omega)) only [cat_eq,bS,bs_mkB,bs_str,aA]
 ·simp only [z84_l2,lt_f hk,cF,z84_k1]
theorem whereT_sep (l:List T9):whereT l=sepT [32,119,104,101,114,101,32] [32,97,110,100,32] (l.map atomT):=by
 cases l<;>rfl
include hN in
theorem rmessage_eq (m:T6) (h:MsgP (oM m)):z85 N m=some (mkB (msgT (oM m))):=by
 have h1:=fields_len h
 have h2:=whereT_len h
 have h3:=path_len h.1
 have hl1:m.Fields.length≤4:=h.2.1
 have hl2:m.Where.length≤6:=by have:=h.2.2.1;rw [oM_w] at this;exact this
 have e1:(oM m).Name=m.Name:=rfl
 have e2:(oM m).Fields=m.Fields:=rfl
 have e3:(oM m).Where=m.Where.map oA:=rfl
 rw [e1] at h3
 rw [e2] at h1
 rw [e3,whereT_sep,List.map_map] at h2
 unfold z85
 simp (disch:=(simp only [bs_mkB,bs_str,lA,List.length_cons,List.length_nil];omega)) only [cat_eq,bS,bs_mkB,bs_str]
 have hj:sepT [] [44,32] (m.Fields.map fldT)=joinL [44,32] (m.Fields.map fldT):=sepT_join _ _
 rw [sep_loop m.Fields (z85_l5 N m) (z85_k4 N m) fldT [] [44,32] 1000 (fun n k f A hk hx hA=>?_) (fun n k A hk hA=>?_) (by omega) (by omega) (by rw [hj];simp only [lA,List.length_cons,List.length_nil];omega),hj]
 ·unfold z85_k4
  simp (disch:=(simp only [bs_mkB,bs_str,lA,List.length_cons,List.length_nil];omega)) only [cat_eq,bS,bs_mkB,bs_str]
  rw [sep_loop m.Where (z85_l2 N m) z85_k1 (atomT ∘ oA) [32,119,104,101,114,101,32] [32,97,110,100,32] 10000 (fun n k a A hk hx hA=>?_) (fun n k A hk hA=>?_) (by omega) (by omega) (by simp only [lA,List.length_cons,List.length_nil];omega)]
  ·unfold z85_k1
   simp (disch:=(simp only [bs_mkB,bs_str,lA,List.length_cons,List.length_nil];omega)) only [cat_eq,bS,bs_mkB,bs_str]
   unfold msgT
   rw [e1,e2,e3,whereT_sep,List.map_map]
  ·have ha:AtomP (oA a):=h.2.2.2.2 _ (List.mem_map.2 ⟨a,List.mem_of_getElem? hx,rfl⟩)
   have q1:(termT a.Left).length≤150:=termT_len ha.1
   have q2:(termT a.Right).length≤150:=termT_len ha.2.1
   have q3:(bs a.Op).length≤2:=mark_len ha.2.2
   have r1:=rshow_eq hN ha.1
   have r2:=rshow_eq hN ha.2.1
   have s1:(oA a).Left=a.Left:=rfl
   have s2:(oA a).Right=a.Right:=rfl
   rw [s1] at r1;rw [s2] at r2
   have k3:∀ (A:List UInt8),A.length≤10000→z85_k3 N m (k:Int) (z85_l2 N m n) (mkB A)=z85_l2 N m n (mkB (A++atomT (oA a))) ((k+1:Nat):Int):=by
    intro A hA
    unfold z85_k3
    simp only [idx_nat,hx,bS,r1,r2,w64_succ (show k < 4611686018427387904 by omega)]
    simp (disch:=(simp only [bs_mkB,bs_str,lA,List.length_cons,List.length_nil];omega)) only [cat_eq,bS,bs_mkB,bs_str]
    rfl
   simp only [z85_l2,lt_t (get_lt hx),cT]
   by_cases h0:k=0
   ·subst h0
    rw [if_pos rfl] at hA ⊢
    simp only [lA,List.length_cons,List.length_nil] at hA
    rw [show (((0:Nat):Int)==0)=true from rfl,cT]
    simp (disch:=(simp only [bs_mkB,bs_str,lA,List.length_cons,List.length_nil];omega)) only [cat_eq,bS,bs_mkB,bs_str]
    rw [k3 _ (by simp only [lA,List.length_cons,List.length_nil];omega),aA]
    rfl
   ·rw [if_neg h0] at hA ⊢
    simp only [lA,List.length_cons,List.length_nil] at hA
    rw [show ((k:Int)==0)=false by simp;omega,cF]
    simp (disch:=(simp only [bs_mkB,bs_str,lA,List.length_cons,List.length_nil];omega)) only [cat_eq,bS,bs_mkB,bs_str]
    rw [k3 _ (by simp only [lA,List.length_cons,List.length_nil];omega),aA]
    rfl
  ·simp only [z85_l2,lt_f hk,cF]
 ·have ha:FldP f:=h.2.2.2.1 f (List.mem_of_getElem? hx)
  have q1:=word_len ha.1
  have q2:=dig_len f.Sort'.Lo
  have q3:=dig_len f.Sort'.Hi
  unfold dig at q2 q3
  have k6:∀ (T A:List UInt8),T.length≤4→A.length≤10000→fldT f=bs f.Name++[58,32]++T++[32]++dig f.Sort'.Lo++[46,46]++dig f.Sort'.Hi→z85_k6 N (k:Int) (z85_l5 N m n) f (str T) (mkB A)=z85_l5 N m n (mkB (A++fldT f)) ((k+1:Nat):Int):=by
   intro T A hT hA e
   unfold z85_k6
   rw [digits09_eq hN (small_I64 ha.2.2.1),digits09_eq hN (small_I64 ha.2.2.2.1),w64_succ (by omega),e]
   simp (disch:=(simp only [bs_mkB,bs_str,lA,List.length_cons,List.length_nil];omega)) only [cat_eq,bS,bs_mkB,bs_str,dig]
  have key:∀ T:List UInt8,T.length≤4→fldT f=bs f.Name++[58,32]++T++[32]++dig f.Sort'.Lo++[46,46]++dig f.Sort'.Hi→z85_k7 N (mkB A) (k:Int) (z85_l5 N m n) f (str T)=z85_l5 N m n (mkB (A++((if k=0 then [] else [44,32])++fldT f))) ((k+1:Nat):Int):=by
   intro T hT e
   simp only [lA] at hA
   unfold z85_k7
   by_cases h0:k=0
   ·rw [dF (by omega),cF,if_pos h0,k6 T A hT (by omega) e];rfl
   ·rw [if_neg h0] at hA ⊢
    rw [dT (by omega),cT]
    simp (disch:=(simp only [bs_mkB,bs_str,lA,List.length_cons,List.length_nil];omega)) only [cat_eq,bS,bs_mkB,bs_str]
    rw [k6 T _ hT (by simp only [lA,List.length_cons,List.length_nil];omega) e,aA]
  simp only [z85_l5,lt_t (get_lt hx),cT,idx_nat,hx,bS]
  cases h2:(f.Sort'.Kind==2) with
  | true=>exact key [116,101,120,116] (by simp) (by unfold fldT;rw [h2];simp)
  | false=>exact key [105,110,116] (by simp) (by unfold fldT;rw [h2];simp)
 ·simp only [z85_l5,lt_f hk,cF]
end Gp
end
section
namespace Gp
open Go Go.Kx Gx
def commaT (l:List ByteArray):List UInt8:=joinT [44,32] l
def headT (first:Bool) (hd w last:List UInt8) (atEnd:Bool):List UInt8:=bif first then hd++[32,123] else [125,32]++(bif (atEnd && !last.isEmpty) then last else w)++[32,123]
def sendT (f:ByteArray) (t:List ByteArray) (n:ByteArray):List UInt8:=bs f++[32,45,62,32]++commaT t++[58,32]++bs n++[59]
def againT (n:ByteArray):List UInt8:=[97,103,97,105,110,32]++bs n++[59]
def callT (n:ByteArray) (t:List ByteArray) (a:ByteArray):List UInt8:=[99,97,108,108,32]++bs n++[40]++commaT t++[41,32,97,115,32]++bs a++[59]
def choiceT (f:ByteArray):List UInt8:=[99,104,111,105,99,101,32,97,116,32]++bs f
def withinT (f:ByteArray) (x:Int):List UInt8:=choiceT f++[32,119,105,116,104,105,110,32]++dig x
def loopT (n:ByteArray):List UInt8:=[108,111,111,112,32]++bs n
abbrev parT:List UInt8:=[112,97,114]
abbrev orT:List UInt8:=[111,114]
abbrev andT:List UInt8:=[97,110,100]
abbrev elseT:List UInt8:=[101,108,115,101]
mutual
def xI (k:Nat):T10→List UInt8
 | ⟨kd,f,t,n,a,x,b⟩ =>
  bif kd==1 then lineT k (sendT f t n)
  else bif kd==2 then (bif decide (x > 0) then xR k true (withinT f x) orT elseT b else xR k true (choiceT f) orT [] b)
  else bif kd==3 then xR k true (loopT n) [] [] b
  else bif kd==4 then lineT k (againT n)
  else bif kd==5 then xR k true parT andT [] b
  else bif kd==6 then lineT k (callT n t a)
  else []
def xL (k:Nat):List T10→List UInt8
 | []=>[]
 | x::l=>xI k x++xL k l
def xR (k:Nat) (first:Bool) (hd w last:List UInt8):List (List T10)→List UInt8
 | []=>lineT k [125]
 | b::l=>lineT k (headT first hd w last l.isEmpty)++(xL (k+1) b++xR k false hd w last l)
end
theorem xI_eq (k:Nat) (x:T10):xI k x=(bif x.Kind==1 then lineT k (sendT x.From x.To x.Name)
  else bif x.Kind==2 then (bif decide (x.Ticks > 0) then xR k true (withinT x.From x.Ticks) orT elseT x.Blocks else xR k true (choiceT x.From) orT [] x.Blocks)
  else bif x.Kind==3 then xR k true (loopT x.Name) [] [] x.Blocks
  else bif x.Kind==4 then lineT k (againT x.Name)
  else bif x.Kind==5 then xR k true parT andT [] x.Blocks
  else bif x.Kind==6 then lineT k (callT x.Name x.To x.As)
  else []):=by cases x;simp only [xI]
variable {N:Nat}
theorem blocks_line (hN:4194304 < N) {rc:List T10→T15→Option T15} {bl:List (List T10)} {k:Nat} (hk:k≤1000) (hbl:bl.length≤4194304) (hd w last:List UInt8)
  (hrc:∀ b∈bl,∀ B:List UInt8,B.length+(xL (k+1) b).length≤4294967296→rc b ⟨mkB B,((k+1:Nat):Int)⟩=some ⟨mkB (B++xL (k+1) b),((k+1:Nat):Int)⟩)
  (B:List UInt8) (hB:B.length+(xR k true hd w last bl).length≤4294967296) :
  z133_13 N rc (str hd) (str w) (str last) bl ⟨mkB B,(k:Int)⟩=some ⟨mkB (B++xR k true hd w last bl),(k:Int)⟩:=by
 unfold z133_13
 have key:∀ (l:List (List T10)) (j n:Nat) (B:List UInt8),bl.drop j=l→l.length < n→B.length+(xR k (decide (j=0)) hd w last l).length≤4294967296 →
   z133_13_l2 N rc (str hd) (str w) (str last) bl n (mkB B) (k:Int) (j:Int)=some ⟨mkB (B++xR k (decide (j=0)) hd w last l),(k:Int)⟩:=by
  intro l
  induction l with
  | nil =>
   intro j n B h hn hL
   obtain ⟨n,rfl⟩:∃ m,n=m+1:=⟨n-1,by simp at hn;omega⟩
   simp only [xR] at hL ⊢
   simp only [z133_13_l2,lt_f (drop_nil h),cF,z133_13_k1]
   rw [line_eq [str [125]] B [125] k (by simp [bs_str]) (by simp) (by omega) hL];rfl
  | cons b l ih =>
   intro j n B h hn hL
   obtain ⟨n,rfl⟩:∃ m,n=m+1:=⟨n-1,by simp at hn;omega⟩
   obtain ⟨a,c,d⟩:=drop_cons h
   simp only [xR,lA] at hL
   have hlen:bl.length=j+1+l.length:=by
    have:=congrArg List.length d
    rw [List.length_drop] at this;omega
   have ih':=ih (j+1) n (B++lineT k (headT (decide (j=0)) hd w last l.isEmpty)++xL (k+1) b) d (by simp at hn;omega) (by
    rw [dF (by omega:¬ j+1=0)];simp only [lA];omega)
   rw [dF (by omega:¬ j+1=0)] at ih'
   have rest:z133_13_k3 rc (j:Int) (z133_13_l2 N rc (str hd) (str w) (str last) bl n) b (mkB (B++lineT k (headT (decide (j=0)) hd w last l.isEmpty))) (k:Int)=some ⟨mkB (B++xR k (decide (j=0)) hd w last (b::l)),(k:Int)⟩:=by
    unfold z133_13_k3
    rw [w64_succ (by omega:k < 4611686018427387904),hrc b (List.mem_of_getElem? c) _ (by simp only [lA];omega)]
    simp only [bS]
    rw [w64_id (by omega) (by omega),w64_succ (by omega),show ((k+1:Nat):Int)-1=(k:Int) by omega,ih']
    simp only [xR,aA]
   have ln:∀ parts:List ByteArray,parts.length≤3→(parts.map bs).flatten=headT (decide (j=0)) hd w last l.isEmpty→z79_11 N parts ⟨mkB B,(k:Int)⟩=some ⟨mkB (B++lineT k (headT (decide (j=0)) hd w last l.isEmpty)),(k:Int)⟩:=fun parts h3 hp =>
    line_eq parts B _ k hp (by omega) (by omega) (by omega)
   simp only [z133_13_l2,lt_t a,cT,idx_nat,c,bS]
   by_cases h0:j=0
   ·rw [show ((j:Int)==0)=true by simp [h0],cT]
    rw [ln [str hd,str [32,123]] (by simp) (by simp [bs_str,headT,h0])]
    exact rest
   ·rw [show ((j:Int)==0)=false by simp;omega,cF]
    cases l with
    | nil =>
     rw [show ((j:Int)==w64 ((bl.length:Int)-1))=true by rw [w64_id (by omega) (by omega)];simp at hlen ⊢;omega,cT]
     cases last with
     | nil =>
      rw [show (!((str []).toList==(str []).toList))=false by rw [toList_bs,bs_str];rfl,cF]
      rw [ln [str [125,32],str w,str [32,123]] (by simp) (by simp [bs_str,headT,h0])]
      exact rest
     | cons z zs =>
      rw [show (!((str (z::zs)).toList==(str []).toList))=true by rw [toList_bs,toList_bs,bs_str,bs_str];rfl,cT]
      rw [ln [str [125,32],str (z::zs),str [32,123]] (by simp) (by simp [bs_str,headT,h0])]
      exact rest
    | cons z zs =>
     rw [show ((j:Int)==w64 ((bl.length:Int)-1))=false by rw [w64_id (by omega) (by omega)];simp at hlen ⊢;omega,cF]
     rw [ln [str [125,32],str w,str [32,123]] (by simp) (by simp [bs_str,headT,h0])]
     exact rest
 have:=key bl 0 N B rfl (by omega) hB
 exact this
theorem items_src:∀ (N:Nat) (xs:List T10) (k:Nat) (B:List UInt8),4194306+dL xs≤N→xs.length≤4194304→bL xs→shL xs→k+dL xs≤1000→B.length+(xL k xs).length≤4294967296 →
  z82_14 N xs ⟨mkB B,(k:Int)⟩=some ⟨mkB (B++xL k xs),(k:Int)⟩
 | 0,_,_,_,h,_,_,_,_,_=>by omega
 | N+1,xs,k,B,h,hs,hb,hsh,hk,hB=>by
  show z82_14_b N (z82_14 N) xs ⟨mkB B,(k:Int)⟩=_
  unfold z82_14_b
  have hN:4194304 < N:=by omega
  have key:∀ (l:List T10) (j n:Nat) (B:List UInt8),xs.drop j=l→l.length < n→shL l→dL l≤dL xs→B.length+(xL k l).length≤4294967296 →
    z82_14_l2 N (z82_14 N) xs n (mkB B) (k:Int) (j:Int)=some ⟨mkB (B++xL k l),(k:Int)⟩:=by
   intro l
   induction l with
   | nil =>
    intro j n B h hn _ _ hL
    obtain ⟨n,rfl⟩:∃ m,n=m+1:=⟨n-1,by simp at hn;omega⟩
    simp only [z82_14_l2,lt_f (drop_nil h),cF,z82_14_k1,xL,List.append_nil]
   | cons x l ih =>
    intro j n B h hn hsh' hdl hL
    obtain ⟨n,rfl⟩:∃ m,n=m+1:=⟨n-1,by simp at hn;omega⟩
    obtain ⟨a,c,d⟩:=drop_cons h
    have hm:=List.mem_of_getElem? c
    have hbx:=(bI_eq _).1 (bL_mem hb hm)
    have hdx:=dL_mem hm
    rw [dI_eq] at hdx
    simp only [shL,shI_eq] at hsh'
    obtain ⟨⟨hP,hsb⟩,hsl⟩:=hsh'
    simp only [xL,lA] at hL
    simp only [dL] at hdl
    have step:∀ (o:Option T15),o=some ⟨mkB (B++xI k x),(k:Int)⟩→(o.bind fun y=>z82_14_l2 N (z82_14 N) xs n y.Builder y.depth' (w64 ((j:Int)+1)))=some ⟨mkB (B++xL k (x::l)),(k:Int)⟩:=by
     intro o ho
     rw [ho,bS,w64_succ (by omega:j < 4611686018427387904)]
     have:=ih (j+1) n (B++xI k x) d (by simp at hn;omega) hsl (by omega) (by simp only [lA];omega)
     rw [this];simp only [xL,aA]
    have blk:∀ hd w last,B.length+(xR k true hd w last x.Blocks).length≤4294967296→z133_13 N (z82_14 N) (str hd) (str w) (str last) x.Blocks ⟨mkB B,(k:Int)⟩=some ⟨mkB (B++xR k true hd w last x.Blocks),(k:Int)⟩:=by
     intro hd w last hB
     refine blocks_line hN (by omega) hbx.2.1 hd w last (fun b hb' B' hB'=>?_) B hB
     have hbb:=bLL_mem hbx.2.2 hb'
     have hdb:=dLL_mem hb'
     have hsb':∀ {l:List (List T10)},shLL l→∀ {b},b∈l→shL b:=by
      intro l
      induction l with
      | nil=>intro _ b hb;cases hb
      | cons y l ih =>
       intro hy b hb
       simp only [shLL] at hy
       rcases List.mem_cons.1 hb with rfl | hb
       ·exact hy.1
       ·exact ih hy.2 hb
     exact items_src N b (k+1) B' (by omega) hbb.1 hbb.2 (hsb' hsb hb') (by omega) hB'
    have hx:=xI_eq k x
    simp only [z82_14_l2,lt_t a,cT,idx_nat,c,bS]
    unfold ShP at hP
    rcases hP with hP | hP | hP | hP | hP | hP
    ·rw [hP.1] at hx ⊢
     rw [hx] at hL
     have hx:xI k x=lineT k (sendT x.From x.To x.Name):=hx
     have hL:B.length+((lineT k (sendT x.From x.To x.Name)).length+(xL k l).length)≤4294967296:=hL
     have hc:(joinT [44,32] x.To).length≤4294967296:=by
      rw [lineT_len] at hL
      unfold sendT commaT at hL
      simp only [lA] at hL;omega
     show ((z80 N x.To (str [44,32])).bind _)=_
     rw [join_eq x.To [44,32] hbx.1 (by omega),bS]
     refine step _ ?_
     rw [hx]
     exact line_eq _ B _ k (by simp [bs_str,bs_mkB,sendT,commaT,aA]) (by simp) (by omega) (by omega)
    ·rw [hP.1] at hx ⊢
     have hw:=word_len hP.2.1
     have hx:xI k x=(bif decide (x.Ticks > 0) then xR k true (withinT x.From x.Ticks) orT elseT x.Blocks else xR k true (choiceT x.From) orT [] x.Blocks):=hx
     rw [hx] at hL
     show (bif decide (x.Ticks > 0) then _ else _)=_
     have hd:=dig_len x.Ticks
     unfold dig at hd
     cases ht:decide (x.Ticks > 0) with
     | true =>
      rw [ht] at hx hL
      simp only [cT] at hL hx ⊢
      rw [itoa_eq (by unfold I64;omega)]
      have e:str (withinT x.From x.Ticks)=mkB ([99,104,111,105,99,101,32,97,116,32]++bs x.From++[32,119,105,116,104,105,110,32]++bs (itoaS x.Ticks)):=rfl
      simp (disch:=(simp only [bs_mkB,bs_str,lA,List.length_cons,List.length_nil];omega)) only [cat_eq,bS,bs_mkB,bs_str]
      rw [← e]
      refine step _ ?_
      rw [hx]
      exact blk (withinT x.From x.Ticks) orT elseT (by omega)
     | false =>
      rw [ht] at hx hL
      simp only [cF] at hL hx ⊢
      have e:str (choiceT x.From)=mkB ([99,104,111,105,99,101,32,97,116,32]++bs x.From):=rfl
      simp (disch:=(simp only [bs_mkB,bs_str,lA,List.length_cons,List.length_nil];omega)) only [cat_eq,bS,bs_mkB,bs_str]
      rw [← e]
      refine step _ ?_
      rw [hx]
      exact blk (choiceT x.From) orT [] (by omega)
    ·rw [hP.1] at hx ⊢
     have hw:=path_len hP.2.2.2.1
     have hx:xI k x=xR k true (loopT x.Name) [] [] x.Blocks:=hx
     rw [hx] at hL
     show ((catS (str [108,111,111,112,32]) x.Name).bind _)=_
     have e:str (loopT x.Name)=mkB ([108,111,111,112,32]++bs x.Name):=rfl
     simp (disch:=(simp only [bs_mkB,bs_str,lA,List.length_cons,List.length_nil];omega)) only [cat_eq,bS,bs_mkB,bs_str]
     rw [← e]
     refine step _ ?_
     rw [hx]
     exact blk (loopT x.Name) [] [] (by omega)
    ·rw [hP.1] at hx ⊢
     have hx:xI k x=lineT k (againT x.Name):=hx
     rw [hx] at hL
     refine step _ ?_
     rw [hx]
     exact line_eq _ B _ k (by simp [bs_str,againT,aA]) (by simp) (by omega) (by omega)
    ·rw [hP.1] at hx ⊢
     have hx:xI k x=xR k true parT andT [] x.Blocks:=hx
     rw [hx] at hL
     refine step _ ?_
     rw [hx]
     exact blk parT andT [] (by omega)
    ·rw [hP.1] at hx ⊢
     have hx:xI k x=lineT k (callT x.Name x.To x.As):=hx
     rw [hx] at hL
     have hc:(joinT [44,32] x.To).length≤4294967296:=by
      rw [lineT_len] at hL
      unfold callT commaT at hL
      simp only [lA] at hL;omega
     show ((z80 N x.To (str [44,32])).bind _)=_
     rw [join_eq x.To [44,32] hbx.1 (by omega),bS]
     refine step _ ?_
     rw [hx]
     exact line_eq _ B _ k (by simp [bs_str,bs_mkB,callT,commaT,aA]) (by simp) (by omega) (by omega)
  exact key xs 0 N B rfl (by omega) hsh (Nat.le_refl _) hB
end Gp
end
section
namespace Gp
open Go Go.Kx Gx
variable {N:Nat}
theorem rblock_eq (hN:4194304 < N) {rc:T5→ByteArray→Option ByteArray} {b:List T5} {k:Nat} (hk:k≤1000) (hb:b.length≤4194304)
  (hrc:∀ x∈b,(xI (k+1) (oI x)).length≤4294967296→∃ y,rc x (mkB (tabs (k+1)))=some (mkB y)∧lineT (k+1) y=xI (k+1) (oI x)) (hL:(xL (k+1) (oL b)).length≤4294967296) :
  z136 N rc b (mkB (tabs k))=some (mkB ([123,10]++xL (k+1) (oL b)++tabs k++[125])):=by
 unfold z136
 have key:∀ (l:List T5) (j n:Nat) (A:List UInt8),b.drop j=l→l.length < n→A.length+(xL (k+1) (oL l)).length≤8589934592→(xL (k+1) (oL l)).length≤4294967296 →
   z136_l2 rc b (mkB (tabs k)) n (mkB A) (j:Int)=some (mkB (A++xL (k+1) (oL l)++tabs k++[125])):=by
  intro l
  induction l with
  | nil =>
   intro j n A h hn hA hl
   obtain ⟨n,rfl⟩:∃ m,n=m+1:=⟨n-1,by simp at hn;omega⟩
   simp only [z136_l2,lt_f (drop_nil h),cF,z136_k1,oL,xL,List.append_nil]
   simp only [oL,xL,List.length_nil] at hA
   simp (disch:=(simp only [bs_mkB,bs_str,lA,List.length_cons,List.length_nil,tabs_len];omega)) only [cat_eq,bS,bs_mkB,bs_str]
  | cons x l ih =>
   intro j n A h hn hA hl
   obtain ⟨n,rfl⟩:∃ m,n=m+1:=⟨n-1,by simp at hn;omega⟩
   obtain ⟨a,c,d⟩:=drop_cons h
   simp only [oL,xL,lA] at hA hl
   obtain ⟨y,e1,e2⟩:=hrc x (List.mem_of_getElem? c) (by omega)
   have hy:y.length+(k+2)=(xI (k+1) (oI x)).length:=by rw [← e2,lineT_len];omega
   have ht:catS (mkB (tabs k)) (str [9])=some (mkB (tabs (k+1))):=by rw [tabs_succ];exact cat_mk (by simp [tabs_len];omega)
   simp only [z136_l2,lt_t a,cT,idx_nat,c,bS,w64_succ (show j < 4611686018427387904 by omega),ht,e1]
   simp (disch:=(simp only [bs_mkB,bs_str,lA,List.length_cons,List.length_nil,tabs_len];omega)) only [cat_eq,bS,bs_mkB,bs_str]
   have e3:tabs (k+1)++y++[10]=xI (k+1) (oI x):=by rw [← e2];simp [lineT]
   rw [e3,ih (j+1) n _ d (by simp at hn;omega) (by simp only [lA];omega) (by omega)]
   simp only [oL,xL,aA]
 have:=key b 0 N [123,10] rfl (by omega) (by simp only [List.length_cons,List.length_nil];omega) hL
 exact this
theorem rblocks_eq (hN:4194304 < N) {rc:T5→ByteArray→Option ByteArray} {x:T5} {k:Nat} (hk:k≤1000) (hbl:x.Blocks.length≤4194304) (hpos:0 < x.Blocks.length) (hd w last sep:List UInt8) (hw:w.length≤10) (hlast:last.length≤10)
  (hsep:1 < x.Blocks.length→sep=[32]++w++[32]) (hl1:x.Ticks > 0→last=elseT) (hl2:¬ x.Ticks > 0→last=[])
  (hrc:∀ b∈x.Blocks,(xL (k+1) (oL b)).length≤4294967296→z136 N rc b (mkB (tabs k))=some (mkB ([123,10]++xL (k+1) (oL b)++tabs k++[125])))
  (hL:(xR k true hd w last (oLL x.Blocks)).length≤4294967296) :
  ∃ y,z86_k4 N rc x (mkB (tabs k)) (mkB (hd++[32])) (mkB sep)=some (mkB y)∧lineT k y=xR k true hd w last (oLL x.Blocks):=by
 unfold z86_k4
 have hwd:sep.length≤12∨¬ 1 < x.Blocks.length:=by
  by_cases h:1 < x.Blocks.length
  ·left;rw [hsep h];simp;omega
  ·exact Or.inr h
 have key:∀ (l:List (List T5)) (j n:Nat) (A:List UInt8),x.Blocks.drop (j+1)=l→l.length < n→A.length+(xR k false hd w last (oLL l)).length≤8589934592→(xR k false hd w last (oLL l)).length≤4294967296 →
   ∃ T,z86_l2 N rc x (mkB (tabs k)) (mkB sep) n (mkB A) ((j+1:Nat):Int)=some (mkB (A++T))∧tabs k++([125]++(T++[10]))=xR k false hd w last (oLL l):=by
  intro l
  induction l with
  | nil =>
   intro j n A h hn hA hl
   obtain ⟨n,rfl⟩:∃ m,n=m+1:=⟨n-1,by simp at hn;omega⟩
   refine ⟨[],?_,by simp [oLL,xR,lineT]⟩
   simp only [z86_l2,lt_f (drop_nil h),cF,z86_k1,List.append_nil]
  | cons b l ih =>
   intro j n A h hn hA hl
   obtain ⟨n,rfl⟩:∃ m,n=m+1:=⟨n-1,by simp at hn;omega⟩
   obtain ⟨a,c,d⟩:=drop_cons h
   have hlen:x.Blocks.length=j+2+l.length:=by
    have:=congrArg List.length d
    rw [List.length_drop] at this;omega
   have hemp:(oLL l).isEmpty=l.isEmpty:=by cases l<;>simp [oLL]
   have hsp:=hsep (by omega)
   have hsl:sep.length≤12:=by rcases hwd with h | h<;>omega
   simp only [oLL,xR,lA,lineT_len] at hA hl
   have hb:=hrc b (List.mem_of_getElem? c) (by omega)
   have e0:headT false hd w last (oLL l).isEmpty=[125,32]++(bif (l.isEmpty && !last.isEmpty) then last else w)++[32,123]:=by rw [hemp];rfl
   have rest:∀ (S A':List UInt8),A'=A++(S++([123,10]++xL (k+1) (oL b)++tabs k++[125]))→S.length≤14→S=[32]++(bif (l.isEmpty && !last.isEmpty) then last else w)++[32] →
     ∃ T,z86_l2 N rc x (mkB (tabs k)) (mkB sep) n (mkB A') (w64 (((j+1:Nat):Int)+1))=some (mkB (A++T))∧tabs k++([125]++(T++[10]))=xR k false hd w last (oLL (b::l)):=by
    intro S A' hA' hS hS'
    rw [w64_succ (by omega)]
    have hS2:=congrArg List.length hS'
    have he:=congrArg List.length e0
    simp only [lA,List.length_cons,List.length_nil] at hS2 he
    obtain ⟨T,t1,t2⟩:=ih (j+1) n A' d (by simp at hn;omega) (by rw [hA'];simp only [lA,List.length_cons,List.length_nil,tabs_len];omega) (by omega)
    refine ⟨S++([123,10]++xL (k+1) (oL b)++tabs k++[125])++T,by rw [t1,hA'];simp only [aA],?_⟩
    simp only [oLL,xR,e0,← t2,hS',lineT,aA,List.cons_append,List.nil_append]
   simp only [z86_l2,lt_t a,cT]
   rw [dT (by omega:((j+1:Nat):Int) > 0),cT]
   have sepc:(bif (l.isEmpty && !last.isEmpty) then last else w)=w→z86_k3 N rc x (mkB (tabs k)) (mkB sep) (mkB A) ((j+1:Nat):Int) (z86_l2 N rc x (mkB (tabs k)) (mkB sep) n) false=z86_l2 N rc x (mkB (tabs k)) (mkB sep) n (mkB (A++(sep++([123,10]++xL (k+1) (oL b)++tabs k++[125])))) (w64 (((j+1:Nat):Int)+1)):=by
    intro _
    unfold z86_k3
    rw [dT (by omega:((j+1:Nat):Int) > 0)]
    simp only [cF,cT,idx_nat,c,bS,hb]
    simp (disch:=(simp only [bs_mkB,bs_str,lA,List.length_cons,List.length_nil,tabs_len];omega)) only [cat_eq,bS,bs_mkB,bs_str,aA]
   by_cases ht:x.Ticks > 0
   ·rw [dT ht,cT]
    have hla:=hl1 ht
    cases l with
    | nil =>
     rw [show (((j+1:Nat):Int)==w64 ((x.Blocks.length:Int)-1))=true by rw [w64_id (by omega) (by omega)];simp at hlen ⊢;omega]
     have e:(bif (([]:List (List T5)).isEmpty && !last.isEmpty) then last else w)=elseT:=by rw [hla];rfl
     unfold z86_k3
     simp only [cT,idx_nat,c,bS,hb]
     simp (disch:=(simp only [bs_mkB,bs_str,lA,List.length_cons,List.length_nil,tabs_len];omega)) only [cat_eq,bS,bs_mkB,bs_str]
     exact rest [32,101,108,115,101,32] _ (by simp only [aA]) (by simp) (by rw [e];rfl)
    | cons z zs =>
     rw [show (((j+1:Nat):Int)==w64 ((x.Blocks.length:Int)-1))=false by rw [w64_id (by omega) (by omega)];simp at hlen ⊢;omega]
     rw [sepc rfl]
     exact rest sep _ rfl (by omega) hsp
   ·rw [dF ht,cF]
    have hla:=hl2 ht
    have e:(bif (l.isEmpty && !last.isEmpty) then last else w)=w:=by rw [hla];simp
    rw [sepc e]
    exact rest sep _ rfl (by omega) (by rw [e];exact hsp)
 obtain ⟨b,bl,hbb⟩:∃ b bl,x.Blocks=b::bl:=by
  cases h:x.Blocks with
  | nil=>rw [h] at hpos;simp at hpos
  | cons b bl=>exact ⟨b,bl,rfl⟩
 obtain ⟨n,rfl⟩:∃ m,N=m+1:=⟨N-1,by omega⟩
 have h0:x.Blocks[0]? = some b:=by rw [hbb];rfl
 have hLL:oLL x.Blocks=oL b::oLL bl:=by rw [hbb];rfl
 rw [hLL] at hL ⊢
 simp only [xR,lA,lineT_len,headT,cT,List.length_cons,List.length_nil] at hL
 have hb:=hrc b (List.mem_of_getElem? h0) (by omega)
 have hlt:decide ((0:Int) < (x.Blocks.length:Int))=true:=dT (by omega)
 obtain ⟨T,t1,t2⟩:=key bl 0 n (hd++[32]++([123,10]++xL (k+1) (oL b)++tabs k++[125])) (by rw [hbb];rfl) (by rw [hbb] at hbl;simp at hbl;omega) (by simp only [lA,List.length_cons,List.length_nil,tabs_len];omega) (by omega)
 refine ⟨hd++[32]++([123,10]++xL (k+1) (oL b)++tabs k++[125])++T,?_,?_⟩
 ·rw [← t1]
  simp only [z86_l2,hlt,cT]
  rw [dF (by omega:¬ (0:Int) > 0),cF]
  unfold z86_k3
  rw [dF (by omega:¬ (0:Int) > 0)]
  simp only [cF]
  rw [show idx x.Blocks (0:Int)=some b from by rw [show (0:Int)=((0:Nat):Int) from rfl,idx_nat,h0]]
  simp only [bS,hb]
  simp (disch:=(simp only [bs_mkB,bs_str,lA,List.length_cons,List.length_nil,tabs_len];omega)) only [cat_eq,bS,bs_mkB,bs_str]
  rfl
 ·simp only [xR,headT,cT,← t2,lineT,aA,List.cons_append,List.nil_append]
theorem shLL_mem:∀ {l:List (List T10)} {b},shLL l→b∈l→shL b
 | y::l,b,hs,h=>by
  simp only [shLL] at hs
  rcases List.mem_cons.1 h with rfl | h
  ·exact hs.1
  ·exact shLL_mem hs.2 h
theorem shL_mem:∀ {l:List T10} {b},shL l→b∈l→shI b
 | y::l,b,hs,h=>by
  simp only [shL] at hs
  rcases List.mem_cons.1 h with rfl | h
  ·exact hs.1
  ·exact shL_mem hs.2 h
theorem ritem_eq:∀ (N:Nat) (x:T5) (k:Nat),4194306+dI (oI x)≤N→bI (oI x)→shI (oI x)→k+dI (oI x)≤1000→(xI k (oI x)).length≤4294967296 →
  ∃ y,z86 N x (mkB (tabs k))=some (mkB y)∧lineT k y=xI k (oI x)
 | 0,_,_,h,_,_,_,_=>by omega
 | N+1,x,k,h,hb,hs,hk,hL=>by
  show ∃ y,z86_b N (z86 N) x (mkB (tabs k))=some (mkB y)∧_
  have hN:4194304 < N:=by omega
  rw [bI_eq,oI_blocks,oLL_len,oI_to] at hb
  rw [dI_eq,oI_blocks] at h hk
  rw [shI_eq,oI_blocks] at hs
  obtain ⟨hP,hsb⟩:=hs
  have hob:(oI x).Blocks=oLL x.Blocks:=oI_blocks x
  have hol:(oI x).Blocks.length=x.Blocks.length:=by rw [hob,oLL_len]
  have e1:(oI x).Kind=x.Kind:=by rw [oI_eq]
  have e2:(oI x).From=x.From:=by rw [oI_eq]
  have e3:(oI x).To=x.To:=by rw [oI_eq]
  have e4:(oI x).Name=x.Name:=by rw [oI_eq]
  have e5:(oI x).As=x.As:=by rw [oI_eq]
  have e6:(oI x).Ticks=x.Ticks:=by rw [oI_eq]
  have hx:=xI_eq k (oI x)
  unfold ShP at hP
  rw [e1,e2,e3,e4,e5,e6,hol] at hP
  rw [e1,e2,e3,e4,e5,e6,hob] at hx
  have blk:∀ b∈x.Blocks,(xL (k+1) (oL b)).length≤4294967296→z136 N (z86 N) b (mkB (tabs k))=some (mkB ([123,10]++xL (k+1) (oL b)++tabs k++[125])):=by
   intro b hb' hbL
   have hbb:=bLL_mem hb.2.2 (oLL_in hb')
   have hdb:=dLL_mem (oLL_in hb')
   rw [oL_len] at hbb
   have hss:=shLL_mem hsb (oLL_in hb')
   refine rblock_eq hN (by omega) hbb.1 (fun z hz hzL=>?_) hbL
   have hdz:=dL_mem (oL_in hz)
   exact ritem_eq N z (k+1) (by omega) (bL_mem hbb.2 (oL_in hz)) (shL_mem hss (oL_in hz)) (by omega) hzL
  unfold z86_b
  rcases hP with hP | hP | hP | hP | hP | hP
  ·rw [hP.1] at hx ⊢
   have hx:xI k (oI x)=lineT k (sendT x.From x.To x.Name):=hx
   rw [hx] at hL
   rw [lineT_len] at hL
   unfold sendT commaT at hL
   simp only [lA,List.length_cons,List.length_nil] at hL
   refine ⟨_,?_,hx.symm⟩
   show ((catS x.From _).bind _)=_
   rw [list_eq hN x.To hb.1 (by omega)]
   simp (disch:=(simp only [bs_mkB,bs_str,lA,List.length_cons,List.length_nil,tabs_len];omega)) only [cat_eq,bS,bs_mkB,bs_str]
   rfl
  ·rw [hP.1] at hx ⊢
   have hw:=word_len hP.2.1
   have hd:=dig_len x.Ticks
   have hx:xI k (oI x)=(bif decide (x.Ticks > 0) then xR k true (withinT x.From x.Ticks) orT elseT (oLL x.Blocks) else xR k true (choiceT x.From) orT [] (oLL x.Blocks)):=hx
   rw [hx] at hL
   show ∃ y,((catS (str [99,104,111,105,99,101,32,97,116,32]) x.From).bind _)=_∧_
   by_cases ht:x.Ticks > 0
   ·rw [dT ht] at hx hL ⊢
    simp only [cT] at hx hL ⊢
    rw [digits09_eq hN (by unfold I64;omega)]
    obtain ⟨y,y1,y2⟩:=rblocks_eq (sep:=[32,111,114,32]) hN (by omega) hb.2.1 (by omega) (withinT x.From x.Ticks) orT elseT (by simp) (by simp) (fun _=>rfl) (fun _=>rfl) (fun h=>absurd ht h) blk hL
    refine ⟨y,?_,by rw [hx];exact y2⟩
    rw [← y1]
    unfold dig at hd
    simp (disch:=(simp only [bs_mkB,bs_str,lA,List.length_cons,List.length_nil,tabs_len];omega)) only [cat_eq,bS,bs_mkB,bs_str]
    have e:[99,104,111,105,99,101,32,97,116,32]++bs x.From++[32]++([119,105,116,104,105,110,32]++bs (itoaS x.Ticks)++[32])=withinT x.From x.Ticks++[32]:=by simp [withinT,choiceT,dig]
    rw [e];rfl
   ·rw [dF ht] at hx hL ⊢
    simp only [cF] at hx hL ⊢
    obtain ⟨y,y1,y2⟩:=rblocks_eq (sep:=[32,111,114,32]) hN (by omega) hb.2.1 (by omega) (choiceT x.From) orT [] (by simp) (by simp) (fun _=>rfl) (fun h=>absurd h ht) (fun _=>rfl) blk hL
    refine ⟨y,?_,by rw [hx];exact y2⟩
    rw [← y1]
    simp (disch:=(simp only [bs_mkB,bs_str,lA,List.length_cons,List.length_nil,tabs_len];omega)) only [cat_eq,bS,bs_mkB,bs_str]
    rfl
  ·rw [hP.1] at hx ⊢
   have hw:=path_len hP.2.2.2.1
   have ht:¬ x.Ticks > 0:=by omega
   have hx:xI k (oI x)=xR k true (loopT x.Name) [] [] (oLL x.Blocks):=hx
   rw [hx] at hL
   show ∃ y,((catS (str [108,111,111,112,32]) x.Name).bind _)=_∧_
   obtain ⟨y,y1,y2⟩:=rblocks_eq (sep:=[]) hN (by omega) hb.2.1 (by omega) (loopT x.Name) [] [] (by simp) (by simp) (fun h=>by omega) (fun h=>absurd h ht) (fun _=>rfl) blk hL
   refine ⟨y,?_,by rw [hx];exact y2⟩
   rw [← y1]
   simp (disch:=(simp only [bs_mkB,bs_str,lA,List.length_cons,List.length_nil,tabs_len];omega)) only [cat_eq,bS,bs_mkB,bs_str]
   rfl
  ·rw [hP.1] at hx ⊢
   have hw:=path_len hP.2.2.2.1
   have hx:xI k (oI x)=lineT k (againT x.Name):=hx
   refine ⟨_,?_,hx.symm⟩
   show ((catS (str [97,103,97,105,110,32]) x.Name).bind _)=_
   simp (disch:=(simp only [bs_mkB,bs_str,lA,List.length_cons,List.length_nil,tabs_len];omega)) only [cat_eq,bS,bs_mkB,bs_str]
   rfl
  ·rw [hP.1] at hx ⊢
   have ht:¬ x.Ticks > 0:=by omega
   have hx:xI k (oI x)=xR k true parT andT [] (oLL x.Blocks):=hx
   rw [hx] at hL
   obtain ⟨y,y1,y2⟩:=rblocks_eq (sep:=[32,97,110,100,32]) hN (by omega) hb.2.1 (by omega) parT andT [] (by simp) (by simp) (fun h=>rfl) (fun h=>absurd h ht) (fun _=>rfl) blk hL
   refine ⟨y,?_,by rw [hx];exact y2⟩
   rw [← y1]
   rfl
  ·rw [hP.1] at hx ⊢
   have hx:xI k (oI x)=lineT k (callT x.Name x.To x.As):=hx
   rw [hx] at hL
   rw [lineT_len] at hL
   unfold callT commaT at hL
   simp only [lA,List.length_cons,List.length_nil] at hL
   refine ⟨_,?_,hx.symm⟩
   show ((catS (str [99,97,108,108,32]) x.Name).bind _)=_
   rw [list_eq hN x.To hb.1 (by omega)]
   simp (disch:=(simp only [bs_mkB,bs_str,lA,List.length_cons,List.length_nil,tabs_len];omega)) only [cat_eq,bS,bs_mkB,bs_str]
   rfl
end Gp
end
