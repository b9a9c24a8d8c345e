/- The plain law, part 2: what the functions compute answers as the statement says. -/
import Derived.Test.YtopoacpklgcfnaaGreatDoorExplainParsedPlain1
set_option linter.all false
section
namespace Gp
open Go Go.Kx Gx
variable {N:Nat} (hN:4194304 < N)
def toI (l:List UInt8):List Int:=l.map fun c=>(c.toNat:Int)
theorem strOf_toI:∀ (l:List UInt8),strOf (toI l)=mkB l:=by
 have key:∀ (l acc:List UInt8),(toI l).foldl (fun (r:ByteArray) (n:Int)=>r.push (UInt8.ofNat n.toNat)) (mkB acc)=mkB (acc++l):=by
  intro l
  induction l with
  | nil=>intro acc;simp [toI]
  | cons c l ih =>
   intro acc
   show (toI l).foldl _ ((mkB acc).push (UInt8.ofNat (c.toNat:Int).toNat))=_
   have:(mkB acc).push (UInt8.ofNat (c.toNat:Int).toNat)=mkB (acc++[c]):=by
    apply bs_inj
    rw [bs_mkB]
    show ((mkB acc).data.push _).toList=_
    simp [mkB]
   rw [this,ih]
   simp
 intro l
 exact key l []
theorem txt34 (l:List UInt8):txtB (34::l)=some ([],1):=by cases l<;>rfl
theorem txt_esc (d:UInt8) (l:List UInt8) (hd:(d==34 || d==92)=true):txtB (92::d::l)=(txtB l).map fun x=>(d::x.1,x.2+2):=by
 simp only [txtB,hd];rfl
theorem txt_esc0 (d:UInt8) (l:List UInt8) (hd:(d==34 || d==92)=false):txtB (92::d::l)=none:=by
 simp only [txtB,hd];rfl
theorem txt_one (c:UInt8) (l:List UInt8) (h1:(c==34)=false) (h2:(c==92)=false) (h3:badB2 c=false):txtB (c::l)=(txtB l).map fun x=>(c::x.1,x.2+1):=by
 cases l with
 | nil=>simp only [txtB,h1];rfl
 | cons d l=>simp only [txtB,h1,h2,h3];rfl
theorem txt_bad (c:UInt8) (l:List UInt8) (h1:(c==34)=false) (h2:(c==92)=false) (h3:badB2 c=true):txtB (c::l)=none:=by
 cases l with
 | nil=>simp only [txtB,h1];rfl
 | cons d l=>simp only [txtB,h1,h2,h3];rfl
theorem txt_end (c:UInt8) (h1:(c==34)=false):txtB [c]=none:=by simp only [txtB,h1];rfl
def txX (acc:List UInt8) (a:Nat):Option (List UInt8 × Nat)→Lx
 | none=>.er 3
 | some (t,n)=>bif decide ((acc++t).length > 40) then .er 6 else .ok 3 (acc++t) 0 (a+n)
theorem txX_map (acc:List UInt8) (a:Nat) (c:UInt8) (k:Nat) (o:Option (List UInt8 × Nat)):txX acc a (o.map fun x=>(c::x.1,x.2+k))=txX (acc++[c]) (a+k) o:=by
 cases o with
 | none=>rfl
 | some x=>simp only [Option.map_some,txX,aA,List.singleton_append];rw [show a+(x.2+k)=a+k+x.2 by omega]
theorem u8i {c:UInt8} (n:Nat) (hn:n < 256) (b:UInt8) (hb:UInt8.ofNat n=b):((c.toNat:Int)==(n:Int))=(c==b):=by rw [u8_eq hn,hb]
theorem text_loop (s:ByteArray) (hs:s.size≤200000) (a0:Int) (x:List UInt8):∀ (n:Nat) (u y acc:List UInt8),y.length < n→bs s=x++(u++y)→acc.length≤u.length →
  Rd s x.length (txX acc u.length (txtB y)) (z60_l2 ⟨s,a0⟩ n ((x.length+u.length:Nat):Int) (toI acc)):=by
 intro n
 induction n with
 | zero=>intro u y acc h;omega
 | succ n ih =>
  intro u y acc hn he ha
  have hsz:s.size=x.length+(u.length+y.length):=by rw [size_bs,he];simp
  unfold z60_l2
  cases y with
  | nil =>
   rw [show decide (((x.length+u.length:Nat):Int) < (((⟨s,a0⟩:T15).s').size:Int))=false by show decide (((x.length+u.length:Nat):Int) < (s.size:Int))=false;simp at hsz;simp;omega,cF]
   exact ⟨by decide,_,_,rfl⟩
  | cons c l =>
   rw [show decide (((x.length+u.length:Nat):Int) < (((⟨s,a0⟩:T15).s').size:Int))=true by show decide (((x.length+u.length:Nat):Int) < (s.size:Int))=true;simp at hsz;simp;omega,cT]
   show Rd _ _ _ ((sidx s ((x.length+u.length:Nat):Int)).bind _)
   rw [sidx_mid (x:=x++u) (c:=c) (y:=l) (by rw [he];simp) (by simp),bS]
   simp only [List.length_cons] at hsz hn
   rw [show ((c.toNat:Int)==34)=(c==34) from u8i 34 (by omega) 34 rfl,show ((c.toNat:Int)==92)=(c==92) from u8i 92 (by omega) 92 rfl]
   -- one more sign
   have one:∀ (u':List UInt8) (d:UInt8) (l':List UInt8),u'.length≤u.length+1→bs s=x++(u'++d::l')→l'.length < n→u.length≤u'.length →
     Rd s x.length (bif badB2 d then .er 3 else txX (acc++[d]) (u'.length+1) (txtB l')) (z60_k3 ⟨s,a0⟩ (toI acc) (z60_l2 ⟨s,a0⟩ n) ((x.length+u'.length:Nat):Int) (d.toNat:Int)):=by
    intro u' d l' h1 h2 h3 h4
    have hsz':s.size=x.length+(u'.length+(l'.length+1)):=by rw [size_bs,h2];simp
    unfold z60_k3 badB2
    cases hb1:decide ((d.toNat:Int) < 32) with
    | true=>exact ⟨by decide,_,_,rfl⟩
    | false =>
     cases hb2:decide ((d.toNat:Int) > 126) with
     | true=>exact ⟨by decide,_,_,rfl⟩
     | false =>
      simp only [cF,Bool.or_false]
      rw [appL_some (by simp [toI];omega),bS,w64_succ (by omega)]
      have:=ih (u'++[d]) l' (acc++[d]) h3 (by rw [h2];simp) (by simp;omega)
      rw [show (u'++[d]).length=u'.length+1 by simp] at this
      rw [show x.length+(u'.length+1)=x.length+u'.length+1 by omega] at this
      rw [show toI acc++[(d.toNat:Int)]=toI (acc++[d]) by simp [toI]]
      exact this
   cases h34:(c==34) with
   | true =>
    have hc:c=34:=by simpa using h34
    subst hc
    rw [txt34,cT]
    have hl:(toI acc).length=acc.length:=by simp [toI]
    simp only [txX,List.append_nil,hl]
    by_cases h40:acc.length > 40
    ·rw [dT h40,show decide ((acc.length:Int) > 40)=true by simp;omega]
     exact ⟨by decide,_,_,rfl⟩
    ·rw [dF h40,show decide ((acc.length:Int) > 40)=false by simp;omega,cF,cF,strOf_toI,w64_succ (by omega)]
     rfl
   | false =>
    rw [cF]
    cases h92:(c==92) with
    | false =>
     rw [cF]
     have:=one u c l (by omega) he (by omega) (Nat.le_refl _)
     cases hb:badB2 c with
     | true=>rw [txt_bad c l h34 h92 hb];rw [hb] at this;exact this
     | false=>rw [txt_one c l h34 h92 hb,txX_map];rw [hb] at this;exact this
    | true =>
     rw [cT,w64_succ (by omega)]
     have hc:c=92:=by simpa using h92
     subst hc
     show Rd _ _ _ (bif (((x.length+u.length+1:Nat):Int)==(s.size:Int)) then _ else (sidx s ((x.length+u.length+1:Nat):Int)).bind _)
     cases l with
     | nil =>
      rw [show (((x.length+u.length+1:Nat):Int)==(s.size:Int))=true by simp at hsz;simp;omega,txt_end _ h34]
      exact ⟨by decide,_,_,rfl⟩
     | cons d l =>
      rw [show (((x.length+u.length+1:Nat):Int)==(s.size:Int))=false by simp at hsz;simp;omega,cF]
      have hd:sidx s ((x.length+u.length+1:Nat):Int)=some (d.toNat:Int):=sidx_mid (x:=x++u++[92]) (c:=d) (y:=l) (by rw [he];simp) (by simp;omega)
      show Rd _ _ _ ((sidx s ((x.length+u.length+1:Nat):Int)).bind _)
      rw [hd,bS]
      have e34:((d.toNat:Int) != 34) = !(d==34):=by rw [bne,show ((d.toNat:Int)==34)=(d==34) from u8i 34 (by omega) 34 rfl]
      have e92:((d.toNat:Int) != 92) = !(d==92):=by rw [bne,show ((d.toNat:Int)==92)=(d==92) from u8i 92 (by omega) 92 rfl]
      rw [e34]
      have:=one (u++[92]) d l (by simp) (by rw [he];simp) (by simp at hn;omega) (by simp)
      rw [show (u++[(92:UInt8)]).length=u.length+1 by simp,show x.length+(u.length+1)=x.length+u.length+1 by omega] at this
      cases hd34:(d==34) with
      | true =>
       have hd':d=34:=by simpa using hd34
       subst hd'
       rw [txt_esc _ _ rfl,txX_map]
       simp only [Bool.not_true,cF]
       rw [bS]
       exact this
      | false =>
       simp only [Bool.not_false,cT]
       rw [bS,e92]
       cases hd92:(d==92) with
       | false =>
        rw [txt_esc0 d l (by rw [hd34,hd92];rfl)]
        exact ⟨by decide,_,_,rfl⟩
       | true =>
        have hd':d=92:=by simpa using hd92
        subst hd'
        rw [txt_esc _ _ rfl,txX_map]
        simp only [Bool.not_true,cF]
        rw [bS]
        exact this
include hN in
theorem text_rd (s:ByteArray) (hs:s.size≤200000) (x l:List UInt8) (he:bs s=x++34::l) :
  Rd s x.length (match txtB l with | none=>.er 3 | some (t,n)=>bif decide (t.length > 40) then .er 6 else .ok 3 t 0 (n+1)) (z60 N ⟨s,(x.length:Int)⟩):=by
 have hsz:s.size=x.length+(l.length+1):=by rw [size_bs,he];simp
 unfold z60
 show Rd _ _ _ (z60_l2 _ N (w64 ((x.length:Int)+1)) [])
 rw [w64_succ (by omega)]
 have:=text_loop s hs (x.length:Int) x N [34] l [] (by omega) (by rw [he];simp) (by simp)
 have e:txX [] [(34:UInt8)].length (txtB l)=(match txtB l with | none=>.er 3 | some (t,n)=>bif decide (t.length > 40) then .er 6 else .ok 3 t 0 (n+1)):=by
  cases txtB l with
  | none=>rfl
  | some x=>simp only [txX,List.nil_append,List.length_singleton];rw [show 1+x.2=x.2+1 by omega]
 rw [← e]
 exact this
theorem contMark (k:Nat):((List.range 256).all fun r=>z114 (k+5) (str [40,41,123,125,44,59,58,46,43,45,42,47,37,60,62,61,33]) (mkB [UInt8.ofNat r])==some (marks1.any fun m=>m==UInt8.ofNat r))=true:=by kernel_rfl
include hN in
theorem contMark_eq (c:UInt8):z114 N (str [40,41,123,125,44,59,58,46,43,45,42,47,37,60,62,61,33]) (mkB [c])=some (marks1.any fun m=>m==c):=by
 obtain ⟨k,rfl⟩:∃ k,N=k+5:=⟨N-5,by omega⟩
 have:=List.all_eq_true.1 (contMark k) c.toNat (List.mem_range.2 c.toNat_lt)
 rw [beq_iff_eq,UInt8.ofNat_toNat] at this
 exact this
theorem mark_step (s:ByteArray) (hs:s.size≤200000) (x y:List UInt8) (he:bs s=x++y) (n i:Nat) (hi:i < 8) (a b:UInt8)
  (hx:idx ([(str [45,62]),(str [46,46]),(str [60,61]),(str [62,61]),(str [61,61]),(str [33,61]),(str [38,38]),(str [124,124])]:List ByteArray) (i:Int)=some (str [a,b])) :
  z55_l2 N ⟨s,(x.length:Int)⟩ (n+1) (i:Int)=bif (y.take 2==[a,b]) then some (⟨4,str [a,b],0,0⟩,0,⟨s,w64 ((x.length:Int)+2)⟩) else z55_l2 N ⟨s,(x.length:Int)⟩ n ((i+1:Nat):Int):=by
 have hsz:s.size=x.length+y.length:=by rw [size_bs,he];simp
 rw [z55_l2,show decide ((i:Int) < 8)=true by simp;omega,cT,hx,bS]
 show (ssl s (some (x.length:Int)) none).bind _=_
 rw [bs_from he,bS,hasPre _ a b (by rw [size_bs,bs_mkB];omega),bS,bs_mkB,w64_succ (by omega)]
theorem take2 {y:List UInt8} {a b:UInt8} (h:(y.take 2==[a,b])=true):y.take 2=[a,b]:=by simpa using h
include hN in
theorem mark_rd (s:ByteArray) (hs:s.size≤200000) (x l:List UInt8) (c:UInt8) (he:bs s=x++c::l) :
  Rd s x.length (bif (decide (l≠[]) && marks2.any fun m=>m==(c::l).take 2) then .ok 4 ((c::l).take 2) 0 2 else bif marks1.any fun m=>m==c then .ok 4 [c] 0 1 else .er 3) (z55 N ⟨s,(x.length:Int)⟩):=by
 have hsz:s.size=x.length+(l.length+1):=by rw [size_bs,he];simp
 obtain ⟨n,rfl⟩:∃ n,N=n+9:=⟨N-9,by omega⟩
 have hne:(decide (l≠[]) && marks2.any fun m=>m==(c::l).take 2)=marks2.any fun m=>(c::l).take 2==m:=by
  have:(fun m:List UInt8=>m==(c::l).take 2)=fun m=>(c::l).take 2==m:=by
   funext m
   rw [Bool.eq_iff_iff,beq_iff_eq,beq_iff_eq];exact ⟨Eq.symm,Eq.symm⟩
  rw [this]
  cases l with
  | nil => 
   rw [show List.take 2 [c]=[c] from rfl]
   simp [marks2]
  | cons d l=>rfl
 rw [hne]
 have w2:w64 ((x.length:Int)+2)=((x.length+2:Nat):Int):=by rw [w64_id (by omega) (by omega)];omega
 unfold z55
 have st:=fun n i hi a b hx=>mark_step (N:=n+9) s hs x (c::l) he n i hi a b hx
 have S:=fun m i hi a b hx=>mark_step (N:=n+9) s hs x (c::l) he m i hi a b hx
 rw [show (0:Int)=((0:Nat):Int) from rfl,S (n+8) 0 (by omega) 45 62 rfl,S (n+7) 1 (by omega) 46 46 rfl,S (n+6) 2 (by omega) 60 61 rfl,S (n+5) 3 (by omega) 62 61 rfl,S (n+4) 4 (by omega) 61 61 rfl,S (n+3) 5 (by omega) 33 61 rfl,
  S (n+2) 6 (by omega) 38 38 rfl,S (n+1) 7 (by omega) 124 124 rfl]
 simp only [marks2,List.any_cons,List.any_nil,Bool.or_false]
 have hit:∀ a b:UInt8,((c::l).take 2==[a,b])=true→Rd s x.length (.ok 4 ((c::l).take 2) 0 2) (some (⟨4,str [a,b],0,0⟩,0,⟨s,w64 ((x.length:Int)+2)⟩)):=fun a b h=>by
  rw [take2 h,w2];rfl
 cases h0:((c::l).take 2==[45,62]) with
 | true=>exact hit _ _ h0
 | false =>
 cases h1:((c::l).take 2==[46,46]) with
 | true=>exact hit _ _ h1
 | false =>
 cases h2:((c::l).take 2==[60,61]) with
 | true=>exact hit _ _ h2
 | false =>
 cases h3:((c::l).take 2==[62,61]) with
 | true=>exact hit _ _ h3
 | false =>
 cases h4:((c::l).take 2==[61,61]) with
 | true=>exact hit _ _ h4
 | false =>
 cases h5:((c::l).take 2==[33,61]) with
 | true=>exact hit _ _ h5
 | false =>
 cases h6:((c::l).take 2==[38,38]) with
 | true=>exact hit _ _ h6
 | false =>
 cases h7:((c::l).take 2==[124,124]) with
 | true=>exact hit _ _ h7
 | false =>
  simp only [Bool.or_false,cF]
  rw [z55_l2,show decide (((7+1:Nat):Int) < 8)=false from rfl,cF]
  unfold z55_k1
  show Rd _ _ _ ((ssl s (some (x.length:Int)) (some (w64 ((x.length:Int)+1)))).bind _)
  rw [w64_succ (by omega),ssl_mid (x:=x) (y:=[c]) (z:=l) (by rw [he];rfl) rfl (by simp),bS,contMark_eq hN c,bS]
  cases marks1.any fun m=>m==c with
  | false=>exact ⟨by decide,_,_,rfl⟩
  | true=>rfl
end Gp
end
section
namespace Gp
open Go Go.Kx Gx
theorem txtB_len:∀ (l:List UInt8) {t n},txtB l=some (t,n)→n≤l.length∧t.length+1≤n
 | [],t,n,h=>by simp [txtB] at h
 | [c],t,n,h=>by
  simp only [txtB] at h
  cases hc:(c==34) with
  | false=>rw [hc] at h;cases h
  | true=>rw [hc] at h;cases h;simp
 | c::d::l,t,n,h=>by
  simp only [txtB] at h
  cases hc:(c==34) with
  | true=>rw [hc] at h;cases h;simp
  | false =>
   rw [hc,cF] at h
   cases h92:(c==92) with
   | true =>
    rw [h92,cT] at h
    cases hd:(d==34 || d==92) with
    | false=>rw [hd] at h;cases h
    | true =>
     rw [hd,cT,Option.map_eq_some_iff] at h
     obtain ⟨⟨t',n'⟩,h1,h2⟩:=h
     cases h2
     have:=txtB_len l h1
     simp only [List.length_cons];omega
   | false =>
    rw [h92,cF] at h
    cases hb:badB2 c with
    | true=>rw [hb] at h;cases h
    | false =>
     rw [hb,cF,Option.map_eq_some_iff] at h
     obtain ⟨⟨t',n'⟩,h1,h2⟩:=h
     cases h2
     have:=txtB_len (d::l) h1
     simp only [List.length_cons] at this ⊢;omega
theorem takeWhile_len {α:Type} (p:α→Bool) (l:List α):(l.takeWhile p).length≤l.length:=by
 have:=congrArg List.length (drop_takeWhile p l)
 simp only [lA] at this;omega
structure TokOk (s:List UInt8) (k:Int) (tx:List UInt8) (n:Nat):Prop where
 pos:1≤n
 le:n≤s.length
 len:tx.length≤n
 name:k=1→∃ c l,tx=c::l∧letB c=true
 mark:k=4→(tx∈marks2∨∃ c,c∈marks1∧tx=[c])
theorem tokB_ok {s:List UInt8} {k:Int} {tx:List UInt8} {v:Int} {n:Nat} (h:tokB s=.ok k tx v n):TokOk s k tx n:=by
 cases s with
 | nil=>cases h
 | cons c l =>
  simp only [tokB] at h
  cases h1:letB c with
  | true =>
   rw [h1,cT] at h
   cases h2:decide ((l.takeWhile innB).length+1 > 16) with
   | true=>rw [h2] at h;cases h
   | false =>
    rw [h2,cF] at h
    cases h
    have:=takeWhile_len innB l
    exact ⟨by omega,by simp;omega,by simp,fun _=>⟨c,_,rfl,h1⟩,fun h=>(by cases h)⟩
  | false =>
   rw [h1,cF] at h
   cases h2:digB c with
   | true =>
    rw [h2,cT] at h
    unfold numB numK at h
    have hl:=takeWhile_len digB (c::l)
    have hpos:1≤((c::l).takeWhile digB).length:=by rw [List.takeWhile_cons,h2];simp
    generalize (c::l).takeWhile digB=d at *
    cases h3:((c::l).drop d.length).head?.any innB with
    | true=>rw [h3] at h;cases h
    | false =>
     rw [h3,cF] at h
     cases h4:(decide (d.length > 6) || (decide (d.length > 1) && (c::l).head? == some 48)) with
     | true=>rw [h4] at h;cases h
     | false =>
      rw [h4,cF] at h
      cases h
      exact ⟨hpos,hl,by simp,fun h=>(by cases h),fun h=>(by cases h)⟩
   | false =>
    rw [h2,cF] at h
    cases h3:(c==34) with
    | true =>
     rw [h3,cT] at h
     cases h4:txtB l with
     | none=>rw [h4] at h;cases h
     | some x =>
      rw [h4] at h
      simp only [] at h
      cases h5:decide (x.1.length > 40) with
      | true=>rw [h5] at h;cases h
      | false =>
       rw [h5,cF] at h
       cases h
       have:=txtB_len l (t:=x.1) (n:=x.2) h4
       exact ⟨by omega,by simp;omega,by omega,fun h=>(by cases h),fun h=>(by cases h)⟩
    | false =>
     rw [h3,cF] at h
     cases h4:(decide (l≠[]) && marks2.any fun m=>m==(c::l).take 2) with
     | true =>
      rw [h4,cT] at h
      cases h
      rw [Bool.and_eq_true,decide_eq_true_eq,List.any_eq_true] at h4
      obtain ⟨hl,m,hm,hm2⟩:=h4
      rw [beq_iff_eq] at hm2
      refine ⟨by omega,?_,by simp;omega,fun h=>(by cases h),fun _=>.inl (by rw [← hm2];exact hm)⟩
      cases l with
      | nil=>exact absurd rfl hl
      | cons d l=>simp
     | false =>
      rw [h4,cF] at h
      cases h5:marks1.any fun m=>m==c with
      | false=>rw [h5] at h;cases h
      | true =>
       rw [h5,cT] at h
       cases h
       rw [List.any_eq_true] at h5
       obtain ⟨m,hm,hm2⟩:=h5
       rw [beq_iff_eq] at hm2
       exact ⟨by omega,by simp,by simp,fun h=>(by cases h),fun _=>.inr ⟨c,by rw [← hm2];exact hm,rfl⟩⟩
variable {N:Nat} (hN:4194304 < N)
include hN in
theorem skipN (s:ByteArray) (hs:s.size≤200000) (x y:List UInt8) (he:bs s=x++y):z54 N ⟨s,(x.length:Int)⟩=some ⟨s,((x.length+skW false y:Nat):Int)⟩:=by
 have hsz:s.size=x.length+y.length:=by rw [size_bs,he];simp
 exact skip_eq hN s hs (x.length:Int) N x y x.length (by omega) he rfl
include hN in
theorem token_rd (s:ByteArray) (hs:s.size≤200000) (x l:List UInt8) (c:UInt8) (he:bs s=x++c::l) :
  (letB c=true→Rd s x.length (tokB (c::l)) (z57 N ⟨s,(x.length:Int)⟩)) ∧
  (letB c=false→digB c=true→Rd s x.length (tokB (c::l)) (z59 N ⟨s,(x.length:Int)⟩)) ∧
  (letB c=false→digB c=false→(c==34)=true→Rd s x.length (tokB (c::l)) (z60 N ⟨s,(x.length:Int)⟩)) ∧
  (letB c=false→digB c=false→(c==34)=false→Rd s x.length (tokB (c::l)) (z55 N ⟨s,(x.length:Int)⟩)):=by
 refine ⟨fun h=>?_,fun h1 h2=>?_,fun h1 h2 h3=>?_,fun h1 h2 h3=>?_⟩
 ·have:=name_rd hN s hs x l c he h
  simp only [tokB,h,cT];exact this
 ·have:=number_rd hN s hs x l c he h2
  simp only [tokB,h1,h2,cT,cF];exact this
 ·have hc:c=34:=by simpa using h3
  subst hc
  have:=text_rd hN s hs x l he
  simp only [tokB,h1,h2,h3,cT,cF];exact this
 ·have:=mark_rd hN s hs x l c he
  simp only [tokB,h1,h2,h3,cF];exact this
theorem tok_er {s:ByteArray} {a n':Nat} {acc:List Tok} {e:Int} {o:Option (T14 × Int × T15)} (h:Rd s a (.er e) o) :
  e≠0∧(o.bind fun x=>bif (x.2.1 != (0:Int)) then (some (([]:List T14),(a:Int),x.2.1)) else (appL acc ([(⟨x.1.Kind,x.1.Text,x.1.Value,(a:Int)⟩:T14)]:List T14)).bind fun y=>(z54 N x.2.2).bind fun z=>(z26_l2 N s n') y z.s' z.at')=some ([],(a:Int),e):=by
 obtain ⟨he,t,c,ho⟩:=h
 refine ⟨he,?_⟩
 rw [ho,bS,show (e != (0:Int))=true by simp [he]];rfl
theorem tok_ok {s:ByteArray} {a n':Nat} {acc:List Tok} (hacc:acc.length≤200000) {k:Int} {tx:List UInt8} {v:Int} {n:Nat} {o:Option (T14 × Int × T15)} (h:Rd s a (.ok k tx v n) o) :
  (o.bind fun x=>bif (x.2.1 != (0:Int)) then (some (([]:List T14),(a:Int),x.2.1)) else (appL acc ([(⟨x.1.Kind,x.1.Text,x.1.Value,(a:Int)⟩:T14)]:List T14)).bind fun y=>(z54 N x.2.2).bind fun z=>(z26_l2 N s n') y z.s' z.at')=(z54 N ⟨s,((a+n:Nat):Int)⟩).bind fun z=>z26_l2 N s n' (acc++[⟨k,mkB tx,v,(a:Int)⟩]) z.s' z.at':=by
 have ho:o=_:=h
 simp only [ho,bS]
 rw [show ((0:Int) != 0)=false from rfl,cF,appL_some (by simp;omega),bS]
include hN in
theorem toks_loop (s:ByteArray) (hs:s.size≤200000):∀ (F n:Nat) (x y:List UInt8) (acc:List Tok),F≤n→y.length < F→bs s=x++y→acc.length≤x.length →
  match lexL F y x.length with
  | .inl (p,e)=>e≠0∧z26_l2 N s n acc s ((x.length+skW false y:Nat):Int)=some ([],(p:Int),e)
  | .inr ts=>z26_l2 N s n acc s ((x.length+skW false y:Nat):Int)=some (acc++ts,0,0):=by
 intro F
 induction F with
 | zero=>intro n x y acc _ h;omega
 | succ F ih =>
  intro n x y acc hFn hF he hacc
  obtain ⟨n,rfl⟩:∃ m,n=m+1:=⟨n-1,by omega⟩
  have hsz:s.size=x.length+y.length:=by rw [size_bs,he];simp
  have hk:=skW_le false y
  simp only [lexL,z26_l2]
  cases hd:y.drop (skW false y) with
  | nil =>
   have hge:=List.drop_eq_nil_iff.1 hd
   rw [show decide (((x.length+skW false y:Nat):Int) < (s.size:Int))=false by simp;omega,cF]
   simp only [z26_k1,List.append_nil]
  | cons c l =>
   have hlen:(c::l).length=y.length-skW false y:=by rw [← hd,List.length_drop]
   simp only [List.length_cons] at hlen
   rw [show decide (((x.length+skW false y:Nat):Int) < (s.size:Int))=true by simp;omega,cT]
   have he2:bs s=(x++y.take (skW false y))++c::l:=by rw [he,aA,← hd,List.take_append_drop]
   have hx2:(x++y.take (skW false y)).length=x.length+skW false y:=by simp;omega
   rw [sidx_mid he2 (by rw [hx2]),bS,let_eq,bS,dig_eq]
   obtain ⟨r1,r2,r3,r4⟩:=token_rd hN s hs _ l c he2
   rw [hx2] at r1 r2 r3 r4
   have fin:∀ o,Rd s (x.length+skW false y) (tokB (c::l)) o →
     match (match tokB (c::l) with
      | .er e=>Sum.inl (x.length+skW false y,e)
      | .ok k tx v n=>match lexL F ((c::l).drop n) (x.length+skW false y+n) with
       | .inl x=>.inl x
       | .inr ts=>.inr (⟨k,mkB tx,v,((x.length+skW false y:Nat):Int)⟩::ts):Sum (Nat × Int) (List Tok)) with
     | .inl (p,e)=>e≠0∧(o.bind fun x'=>bif (x'.2.1 != (0:Int)) then (some (([]:List T14),((x.length+skW false y:Nat):Int),x'.2.1)) else (appL acc ([(⟨x'.1.Kind,x'.1.Text,x'.1.Value,((x.length+skW false y:Nat):Int)⟩:T14)]:List T14)).bind fun y=>(z54 N x'.2.2).bind fun z=>(z26_l2 N s n) y z.s' z.at')=some ([],(p:Int),e)
     | .inr ts=>(o.bind fun x'=>bif (x'.2.1 != (0:Int)) then (some (([]:List T14),((x.length+skW false y:Nat):Int),x'.2.1)) else (appL acc ([(⟨x'.1.Kind,x'.1.Text,x'.1.Value,((x.length+skW false y:Nat):Int)⟩:T14)]:List T14)).bind fun y=>(z54 N x'.2.2).bind fun z=>(z26_l2 N s n) y z.s' z.at')=some (acc++ts,0,0):=by
    intro o ho
    cases ht:tokB (c::l) with
    | er e=>rw [ht] at ho;exact tok_er (N:=N) (n':=n) (acc:=acc) ho
    | ok k tx v m =>
     rw [ht] at ho
     have st:=tok_ok (N:=N) (n':=n) (acc:=acc) (by omega) ho
     have tk:=tokB_ok ht
     have htk:=tk.le
     have htp:=tk.pos
     simp only [List.length_cons] at htk
     rw [st]
     have he3:bs s=((x++y.take (skW false y))++(c::l).take m)++(c::l).drop m:=by rw [he2,aA,aA,aA,List.take_append_drop]
     have hx3:((x++y.take (skW false y))++(c::l).take m).length=x.length+skW false y+m:=by rw [lA,hx2];simp;omega
     have hsk:=skipN hN s hs _ _ he3
     rw [hx3] at hsk
     rw [hsk,bS]
     have:=ih n ((x++y.take (skW false y))++(c::l).take m) ((c::l).drop m) (acc++[⟨k,mkB tx,v,((x.length+skW false y:Nat):Int)⟩]) (by omega) (by rw [List.length_drop,List.length_cons];omega) he3 (by rw [hx3];simp;omega)
     rw [hx3] at this
     cases hL:lexL F ((c::l).drop m) (x.length+skW false y+m) with
     | inl q=>rw [hL] at this;simp only [hL];exact this
     | inr ts=>rw [hL] at this;simp only [aA,List.singleton_append] at this;simp only [hL];exact this
   cases h1:letB c with
   | true=>exact fin _ (r1 h1)
   | false =>
    rw [cF,bS]
    cases h2:digB c with
    | true=>exact fin _ (r2 h1 h2)
    | false =>
     rw [cF,show ((c.toNat:Int)==34)=(c==34) from u8i 34 (by omega) 34 rfl]
     cases h3:(c==34) with
     | true=>exact fin _ (r3 h1 h2 h3)
     | false=>exact fin _ (r4 h1 h2 h3)
def toksS (s:ByteArray):Sum (Nat × Int) (List Tok):=bif decide (s.size > 8000) then .inl (8000,6) else lexL (s.size+1) (bs s) 0
include hN in
theorem tokens_eq (s:ByteArray):match toksS s with
  | .inl (p,e)=>e≠0∧z26 N s=some ([],(p:Int),e)
  | .inr ts=>z26 N s=some (ts,0,0):=by
 unfold toksS z26
 by_cases h:s.size > 8000
 ·rw [dT h,show decide ((s.size:Int) > 8000)=true by simp;omega]
  exact ⟨by decide,rfl⟩
 ·rw [dF h,show decide ((s.size:Int) > 8000)=false by simp;omega,cF,cF]
  have hsk:=skipN hN s (by omega) [] (bs s) rfl
  rw [show (0:Int)=(([]:List UInt8).length:Int) from rfl,hsk,bS]
  have:=toks_loop hN s (by omega) (s.size+1) N [] (bs s) [] (by omega) (by rw [← size_bs];omega) rfl (by simp)
  exact this
end Gp
end
section
namespace Gp
open Go Go.Kx Gx
variable {N:Nat} (hN:4194304 < N)
end Gp
end
section
namespace Gp
open Go Go.Kx Gx
variable {N:Nat} (hN:4194304 < N)
theorem eqStr_mk (a b:List UInt8):eqStr (mkB a) (mkB b)=(a==b):=by
 unfold eqStr
 rw [toList_bs,toList_bs,bs_mkB,bs_mkB]
theorem any_mk (l:List (List UInt8)) (t:List UInt8):(l.map mkB).any (fun x=>eqStr x (mkB t))=l.any fun m=>m==t:=by
 rw [List.any_map]
 congr 1
 funext m
 exact eqStr_mk m t
end Gp
end
section
namespace Gp
open Go Go.Kx Gx
theorem lexL_ok:∀ (F:Nat) (s:List UInt8) (a:Nat) {ts:List Tok},lexL F s a=.inr ts→ts.length≤s.length∧∀ t∈ts,∃ s' k tx v n,TokOk s' k tx n∧s'.length≤s.length∧t.Kind=k∧t.Text=mkB tx∧t.Value=v
 | 0,_,_,_,h=>by cases h
 | F+1,s,a,ts,h=>by
  simp only [lexL] at h
  have hk:=skW_le false s
  cases hd:s.drop (skW false s) with
  | nil=>rw [hd] at h;cases h;simp
  | cons c l =>
   rw [hd] at h
   have hlen:(c::l).length≤s.length:=by rw [← hd,List.length_drop];omega
   cases ht:tokB (c::l) with
   | er e=>simp only [ht] at h;cases h
   | ok k tx v n =>
    simp only [ht] at h
    have tk:=tokB_ok ht
    cases hL:lexL F ((c::l).drop n) (a+skW false s+n) with
    | inl x=>rw [hL] at h;cases h
    | inr ts' =>
     rw [hL] at h
     cases h
     obtain ⟨h1,h2⟩:=lexL_ok F _ _ hL
     have:=tk.pos
     have:=tk.le
     rw [List.length_drop] at h1
     refine ⟨by simp only [List.length_cons] at *;omega,fun t hm=>?_⟩
     rcases List.mem_cons.1 hm with rfl | hm
     ·exact ⟨_,k,tx,v,n,tk,hlen,rfl,rfl,rfl⟩
     ·obtain ⟨s',k',tx',v',n',q1,q2,q3⟩:=h2 t hm
      exact ⟨s',k',tx',v',n',q1,by rw [List.length_drop] at q2;omega,q3⟩
theorem letB_mark {c:UInt8} (h:letB c=true):c≠60∧c≠61∧c≠62:=by
 refine ⟨?_,?_,?_⟩<;>(rintro rfl;exact absurd h (by decide))
theorem marksL_map:marksL=([[60],[60,61],[61,61],[62,61],[62]]:List (List UInt8)).map mkB:=rfl
theorem starters_map:starters=([[99,104,111,105,99,101],[108,111,111,112],[97,103,97,105,110],[112,97,114],[99,97,108,108]]:List (List UInt8)).map mkB:=rfl
theorem toksS_ok {s:ByteArray} {ts:List Tok} (h:toksS s=.inr ts):ts.length≤8000∧(∀ t∈ts,t.Text.size≤8100)∧WfT ts∧s.size≤8000:=by
 unfold toksS at h
 by_cases h8:s.size > 8000
 ·rw [dT h8] at h;cases h
 ·rw [dF h8,cF] at h
  obtain ⟨h1,h2⟩:=lexL_ok _ _ _ h
  rw [← size_bs] at h1 h2
  refine ⟨by omega,fun t ht=>?_,fun t ht=>?_,by omega⟩
  ·obtain ⟨s',k,tx,v,n,q1,q2,q3,q4,q5⟩:=h2 t ht
   rw [q4,size_bs,bs_mkB]
   have:=q1.len;have:=q1.le;omega
  ·obtain ⟨s',k,tx,v,n,q1,q2,q3,q4,q5⟩:=h2 t ht
   rw [q3,q4]
   refine ⟨fun hk=>?_,fun hk=>?_⟩
   ·obtain ⟨c,l,rfl,hc⟩:=q1.name hk
    obtain ⟨n1,n2,n3⟩:=letB_mark hc
    rw [marksL_map,any_mk]
    simp only [List.any_cons,List.any_nil,Bool.or_false,Bool.or_eq_false_iff,beq_eq_false_iff_ne]
    refine ⟨?_,?_,?_,?_,?_⟩<;>(intro h;injection h with h _;first | exact n1 h.symm | exact n2 h.symm | exact n3 h.symm)
   ·rw [starters_map,any_mk]
    have hl:tx.length≤2:=by
     rcases q1.mark hk with hm | ⟨c,_,rfl⟩
     ·have:∀ m∈marks2,m.length≤2:=by decide
      exact this tx hm
     ·simp
    simp only [List.any_cons,List.any_nil,Bool.or_false,Bool.or_eq_false_iff,beq_eq_false_iff_ne]
    refine ⟨?_,?_,?_,?_,?_⟩<;>(intro h;rw [← h] at hl;simp at hl)
def pz (s:ByteArray):Nat:=s.size / 17
abbrev zp (s:ByteArray):Nat:=pz s+1
theorem pz_nil:pz (str [])=0:=rfl
mutual
def zI:T20→Nat
 | ⟨_,_,t,nm,_,_,b⟩=>t.length+pz nm+zLL b+1
def zL:List T20→Nat
 | []=>0
 | x::l=>zI x+zL l
def zLL:List (List T20)→Nat
 | []=>0
 | x::l=>zL x+1+zLL l
end
theorem zL_len:∀ l:List T20,l.length≤zL l
 | []=>by simp [zL]
 | x::l=>by
  have:=zL_len l
  cases x
  simp only [zL,zI,List.length_cons];omega
theorem zLL_len:∀ l:List (List T20),l.length≤zLL l
 | []=>by simp [zLL]
 | x::l=>by
  have:=zLL_len l
  simp only [zLL,List.length_cons];omega
mutual
theorem z_I:∀ x,zI x≤4194304→bI x∧dI x≤zI x
 | ⟨_,_,t,_,_,_,b⟩,h=>by
  simp only [zI] at h
  have hb:=zLL_len b
  obtain ⟨h1,h2⟩:=z_LL b (by omega)
  simp only [bI,dI,zI]
  exact ⟨⟨by omega,by omega,h1⟩,by omega⟩
theorem z_L:∀ l,zL l≤4194304→bL l∧dL l≤zL l
 | [],_=>by simp only [bL,dL,zL];exact ⟨trivial,Nat.le_refl _⟩
 | x::l,h=>by
  simp only [zL] at h
  obtain ⟨h1,h2⟩:=z_I x (by omega)
  obtain ⟨h3,h4⟩:=z_L l (by omega)
  simp only [bL,dL,zL]
  exact ⟨⟨h1,h3⟩,by omega⟩
theorem z_LL:∀ l,zLL l≤4194304→bLL l∧dLL l≤zLL l
 | [],_=>by simp only [bLL,dLL,zLL];exact ⟨trivial,Nat.le_refl _⟩
 | x::l,h=>by
  simp only [zLL] at h
  have hx:=zL_len x
  obtain ⟨h1,h2⟩:=z_L x (by omega)
  obtain ⟨h3,h4⟩:=z_LL l (by omega)
  simp only [bLL,dLL,zLL]
  exact ⟨⟨by omega,h1,h3⟩,by omega⟩
end
theorem zL_snoc (l:List T20) (x:T20):zL (snoc l x)=zL l+zI x:=by
 unfold snoc
 induction l with
 | nil=>simp [zL]
 | cons y l ih=>simp only [List.cons_append,zL];rw [ih];omega
theorem zLL_snoc (l:List (List T20)) (x:List T20):zLL (snoc l x)=zLL l+(zL x+1):=by
 unfold snoc
 induction l with
 | nil=>simp [zLL]
 | cons y l ih=>simp only [List.cons_append,zLL];rw [ih];omega
section
variable (l:List Tok)
structure Nm {β:Type} (d:Nat) (z:β→Nat) (c:Nat) (S:Nat→Rr β) (B:Nat):Prop where
 out:∀ n,B≤n→n≤l.length→S n≠.out
 ok:∀ n,B≤n→n≤l.length→∀ a m,S n=.ok a m→n+d≤m∧m≤l.length∧z a+n≤m+c
variable {l}
theorem Nm.ret {β:Type} {z:β→Nat} {c:Nat} {b:β} {B:Nat} (h:z b≤c):Nm l 0 z c (fun n=>.ok b n) B :=
 ⟨fun _ _ _ h=>(by cases h),fun n _ hn a m h=>by cases h;exact ⟨Nat.le_refl _,hn,by omega⟩⟩
theorem Nm.bind {α β:Type} {d1 d2:Nat} {z1:α→Nat} {z2:β→Nat} {c:Nat} {S:Nat→Rr α} {T:α→Nat→Rr β} {B:Nat} (h:Nm l d1 z1 0 S B) (hT:∀ a,Nm l d2 z2 (c+z1 a) (T a) B):Nm l (d1+d2) z2 c (fun n=>(S n).bind T) B:=by
 refine ⟨fun n hB hn=>?_,fun n hB hn b m hm=>?_⟩
 ·cases hS:S n with
  | ok a m => 
   obtain ⟨h1,h2,_⟩:=h.ok n hB hn a m hS
   exact (hT a).out m (by omega) h2
  | er k e=>intro h;cases h
  | out=>exact absurd hS (h.out n hB hn)
 ·have hm:(S n).bind T=.ok b m:=hm
  cases hS:S n with
  | ok a m1 =>
   rw [hS] at hm
   obtain ⟨h1,h2,h3⟩:=h.ok n hB hn a m1 hS
   obtain ⟨h4,h5,h6⟩:=(hT a).ok m1 (by omega) h2 b m hm
   exact ⟨by omega,h5,by omega⟩
  | er k e=>rw [hS] at hm;cases hm
  | out=>rw [hS] at hm;cases hm
theorem Nm.weak {β:Type} {d d':Nat} {z z':β→Nat} {c c':Nat} {S:Nat→Rr β} {B B':Nat} (h:Nm l d z c S B) (hd:d'≤d) (hz:∀ a,z' a≤z a) (hc:c≤c') (hB:B≤B'):Nm l d' z' c' S B' :=
 ⟨fun n h1 h2=>h.out n (by omega) h2,fun n h1 h2 a m hm=>by
  obtain ⟨q1,q2,q3⟩:=h.ok n (by omega) h2 a m hm
  have:=hz a
  exact ⟨by omega,q2,by omega⟩⟩
theorem Nm.takes {β:Type} {d:Nat} {z:β→Nat} {c:Nat} {s:ByteArray} {A C:Nat→Rr β} {B:Nat} (hA:Nm l d z (c+1) A (B+1)) (hC:Nm l (d+1) z c C B):Nm l (d+1) z c (fun n=>bif isT s (tk l n) then A (n+1) else C n) B:=by
 refine ⟨fun n hB hn=>?_,fun n hB hn b m hm=>?_⟩
 ·cases hi:isT s (tk l n) with
  | true=>exact hA.out (n+1) (by omega) (isT_lt hi)
  | false=>exact hC.out n hB hn
 ·have hm:(bif isT s (tk l n) then A (n+1) else C n)=.ok b m:=hm
  cases hi:isT s (tk l n) with
  | true =>
   rw [hi] at hm
   obtain ⟨h1,h2,h3⟩:=hA.ok (n+1) (by omega) (isT_lt hi) b m hm
   exact ⟨by omega,h2,by omega⟩
  | false=>rw [hi] at hm;exact hC.ok n hB hn b m hm
theorem Nm.takes0 {β:Type} {z:β→Nat} {c:Nat} {s:ByteArray} {A C:Nat→Rr β} {B:Nat} (hA:Nm l 0 z (c+1) A (B+1)) (hC:Nm l 0 z c C B):Nm l 0 z c (fun n=>bif isT s (tk l n) then A (n+1) else C n) B:=by
 refine ⟨fun n hB hn=>?_,fun n hB hn b m hm=>?_⟩
 ·cases hi:isT s (tk l n) with
  | true=>exact hA.out (n+1) (by omega) (isT_lt hi)
  | false=>exact hC.out n hB hn
 ·have hm:(bif isT s (tk l n) then A (n+1) else C n)=.ok b m:=hm
  cases hi:isT s (tk l n) with
  | true =>
   rw [hi] at hm
   obtain ⟨h1,h2,h3⟩:=hA.ok (n+1) (by omega) (isT_lt hi) b m hm
   exact ⟨by omega,h2,by omega⟩
  | false=>rw [hi] at hm;exact hC.ok n hB hn b m hm
abbrev Z0 {β:Type}:β→Nat:=fun _=>0
abbrev Z1 {β:Type}:β→Nat:=fun _=>1
theorem wants_nm (s:ByteArray) (B:Nat):Nm l 1 (Z1:Unit→Nat) 0 (sWants s l) B:=by
 refine ⟨fun n _ _=>?_,fun n _ hn a m hm=>?_⟩
 ·unfold sWants;cases isT s (tk l n)<;>(intro h;cases h)
 ·unfold sWants at hm
  cases hi:isT s (tk l n) with
  | true=>rw [hi] at hm;cases hm;exact ⟨Nat.le_refl _,isT_lt hi,by show 1+n≤_;omega⟩
  | false=>rw [hi] at hm;cases hm
theorem word_size {s:ByteArray} (h:isWord s=true):s.size≤16:=by
 rw [size_bs]
 unfold isWord isName at h
 rw [Bool.and_eq_true] at h
 cases hb:bs s with
 | nil=>simp
 | cons x l =>
  rw [hb] at h
  have:=h.1
  simp only [Bool.and_eq_true,decide_eq_true_eq] at this
  simp only [List.length_cons];omega
theorem word_nm (B:Nat):Nm l 1 zp 0 (sWord l) B:=by
 refine ⟨fun n _ _=>?_,fun n _ hn a m hm=>?_⟩
 ·unfold sWord;cases wordT (tk l n)<;>(intro h;cases h)
 ·unfold sWord at hm
  cases hi:wordT (tk l n) with
  | true =>
   rw [hi] at hm;cases hm
   have hw:=word_size ((wordT_iff _).1 hi).2
   exact ⟨Nat.le_refl _,kind_lt (k:=1) (by decide) (by simp [((wordT_iff _).1 hi).1]),by show (tk l n).Text.size / 17+1+n≤_;omega⟩
  | false=>rw [hi] at hm;cases hm
theorem num_nm (B:Nat):Nm l 1 (Z1:Int→Nat) 0 (sNum l) B:=by
 refine ⟨fun n _ _=>?_,fun n _ hn a m hm=>?_⟩
 ·unfold sNum;cases ((tk l n).Kind==2)<;>(intro h;cases h)
 ·unfold sNum at hm
  cases hi:((tk l n).Kind==2) with
  | true=>rw [hi] at hm;cases hm;exact ⟨Nat.le_refl _,kind_lt (k:=2) (by decide) hi,by show 1+n≤_;omega⟩
  | false=>rw [hi] at hm;cases hm
theorem signed_nm (B:Nat):Nm l 1 (Z1:Int→Nat) 0 (sSigned l) B:=by
 refine (Nm.takes (d:=0) (c:=0) (z:=Z1) (A:=fun m=>(sNum l m).bind fun v k=>.ok (w64 (0-v)) k) ?_ ?_)
 ·exact (Nm.bind (d2:=0) (c:=1) (num_nm (B+1)) fun v=>Nm.ret (by show 1≤1+1;omega)).weak (by omega) (fun _=>Nat.le_refl _) (by omega) (Nat.le_refl _)
 ·exact num_nm B
theorem loop_nm {α β:Type} {s:ByteArray} {p:Pm α} {upd:β→α→β} {za:α→Nat} {zb:β→Nat} {B:Nat} (hz:∀ acc a,zb (upd acc a)≤zb acc+za a+1) (hp:Nm l 0 za 0 (p l) B):∀ (F:Nat) (acc:β) (n:Nat),l.length < F+n→B≤n→n≤l.length →
  sLoop s p upd F acc l n≠.out∧∀ a m,sLoop s p upd F acc l n=.ok a m→n≤m∧m≤l.length∧zb a+n≤m+zb acc:=by
 intro F
 induction F with
 | zero=>intro acc n h h1 h2;omega
 | succ F ih =>
  intro acc n h h1 h2
  simp only [sLoop]
  cases hi:isT s (tk l n) with
  | false=>exact ⟨fun h=>(by cases h),fun a m h=>by cases h;exact ⟨Nat.le_refl _,h2,by omega⟩⟩
  | true =>
   have hn:=isT_lt hi
   simp only [cT]
   cases hp1:p l (n+1) with
   | ok a m =>
    obtain ⟨q1,q2,q3⟩:=hp.ok (n+1) (by omega) hn a m hp1
    obtain ⟨r1,r2⟩:=ih (upd acc a) m (by omega) (by omega) q2
    refine ⟨r1,fun b k hb=>?_⟩
    obtain ⟨r3,r4,r5⟩:=r2 b k hb
    have:=hz acc a
    exact ⟨by omega,r4,by omega⟩
   | er k e=>exact ⟨fun h=>(by cases h),fun a m h=>by cases h⟩
   | out=>exact absurd hp1 (hp.out (n+1) (by omega) hn)
theorem Nm.loop {α β:Type} {s:ByteArray} {p:Pm α} {upd:β→α→β} {za:α→Nat} {zb:β→Nat} {B F:Nat} (hz:∀ acc a,zb (upd acc a)≤zb acc+za a+1) (hp:Nm l 0 za 0 (p l) B) (hF:l.length < F+B) (acc:β):Nm l 0 zb (zb acc) (sLoop s p upd F acc l) B :=
 ⟨fun n h1 h2=>(loop_nm hz hp F acc n (by omega) h1 h2).1,fun n h1 h2 a m hm=>by
  obtain ⟨q1,q2,q3⟩:=(loop_nm hz hp F acc n (by omega) h1 h2).2 a m hm
  exact ⟨q1,q2,q3⟩⟩
abbrev Zl {β:Type}:List β→Nat:=fun l=>l.length
theorem Zl_snoc {β:Type} (k:Nat) (acc:List β) (a:β):Zl (snoc acc a)≤Zl acc+k+1:=by simp [snoc]
theorem words_nm {F B:Nat} (hF:l.length < F+B):Nm l 1 (Zl:List ByteArray→Nat) 0 (sWords F l) B:=by
 refine (Nm.bind (d2:=0) (word_nm B) fun w=>?_)
 exact (Nm.loop (zb:=Zl) (za:=Z0) (fun acc a=>Zl_snoc 0 acc a) ((word_nm B).weak (by omega) (fun _=>Nat.zero_le _) (by omega) (Nat.le_refl _)) hF [w]).weak (Nat.le_refl _) (fun _=>Nat.le_refl _) (by simp) (Nat.le_refl _)
theorem path_nm {F B:Nat} (hF:l.length < F+B):Nm l 1 zp 0 (sPath F l) B:=by
 refine (Nm.bind (d2:=0) (word_nm B) fun w=>?_)
 exact (Nm.loop (zb:=zp) (za:=zp) (fun acc a=>by
  have h:(dotW acc a).size=acc.size+(1+a.size):=by unfold dotW;rw [ByteArray.size_append,ByteArray.size_append];rfl
  show (dotW acc a).size / 17+1≤acc.size / 17+1+(a.size / 17+1)+1
  rw [h];omega) ((word_nm B).weak (by omega) (fun _=>Nat.le_refl _) (by omega) (Nat.le_refl _)) hF w).weak (Nat.le_refl _) (fun _=>Nat.le_refl _) (by show zp w≤0+zp w;omega) (Nat.le_refl _)
end
end Gp
end
section
namespace Gp
open Go Go.Kx Gx
section
variable {l:List Tok}
theorem Nm.congr {β:Type} {d:Nat} {z:β→Nat} {c:Nat} {S S':Nat→Rr β} {B:Nat} (h:Nm l d z c S B) (e:∀ n,S' n=S n):Nm l d z c S' B :=
 ⟨fun n h1 h2=>by rw [e];exact h.out n h1 h2,fun n h1 h2 a m hm=>h.ok n h1 h2 a m (by rw [← e];exact hm)⟩
theorem Nm.b0 {α β:Type} {d1:Nat} {z1:α→Nat} {z2:β→Nat} {c:Nat} {S:Nat→Rr α} {T:α→Nat→Rr β} {B:Nat} (h:Nm l d1 z1 0 S B) (hT:∀ a,Nm l 0 z2 (c+z1 a) (T a) B):Nm l 0 z2 c (fun n=>(S n).bind T) B :=
 (Nm.bind h hT).weak (Nat.zero_le _) (fun _=>Nat.le_refl _) (Nat.le_refl _) (Nat.le_refl _)
theorem Nm.b1 {α β:Type} {z1:α→Nat} {z2:β→Nat} {c:Nat} {S:Nat→Rr α} {T:α→Nat→Rr β} {B:Nat} (h:Nm l 1 z1 0 S B) (hT:∀ a,Nm l 0 z2 (c+z1 a) (T a) B):Nm l 1 z2 c (fun n=>(S n).bind T) B :=
 Nm.bind (d2:=0) h hT
theorem sep_nm {α:Type} {s:ByteArray} {p:Pm α} {za:α→Nat} {zb:List α→Nat} {B F:Nat} (hz:∀ acc a,zb (snoc acc a)≤zb acc+za a+1) (h1:∀ a,zb [a]≤za a+1) (hp:Nm l 1 (fun a=>za a+1) 0 (p l) B) (hF:l.length < F+B) :
  Nm l 1 zb 0 (fun n=>(p l n).bind fun a n=>sLoop s p snoc F [a] l n) B :=
 Nm.b1 hp fun a=>(Nm.loop hz (hp.weak (Nat.zero_le _) (fun a=>Nat.le_succ _) (Nat.le_refl _) (Nat.le_refl _)) hF [a]).weak (Nat.le_refl _) (fun _=>Nat.le_refl _) (by have:=h1 a;omega) (Nat.le_refl _)
theorem field_nm (B:Nat):Nm l 1 (Z1:T4→Nat) 0 (sField l) B:=by
 refine Nm.b1 (word_nm B) fun w=>Nm.b0 (wants_nm _ B) fun _=>?_
 refine Nm.takes0 (A:=fun m=>(sSigned l m).bind fun lo n=>(sWants (str [46,46]) l n).bind fun _ n=>(sSigned l n).bind fun hi n=>.ok (⟨w,⟨1,lo,hi⟩⟩:T4) n) ?_ ?_
 ·exact Nm.b0 (signed_nm _) fun _=>Nm.b0 (wants_nm _ _) fun _=>Nm.b0 (signed_nm _) fun _=>Nm.ret (by show 1≤_+1;omega)
 ·exact Nm.b0 (wants_nm _ _) fun _=>Nm.b0 (num_nm _) fun _=>Nm.b0 (wants_nm _ _) fun _=>Nm.b0 (num_nm _) fun _=>Nm.ret (by show 1≤_+1;omega)
abbrev zT (t:T23):Nat:=pz t.Message+1
theorem splitP_size (s:ByteArray):(splitP s).1.size≤s.size:=by
 unfold splitP
 cases h:lastDot (bs s) with
 | some i =>
  have:=lastDot_lt h
  show (mkB ((bs s).take i)).size≤_
  rw [size_bs,bs_mkB,List.length_take,size_bs];omega
 | none=>exact Nat.zero_le _
theorem splitP_pz (s:ByteArray):pz (splitP s).1≤pz s:=Nat.div_le_div_right (splitP_size s)
theorem tail_nm (k:Int) (s:ByteArray) (c B:Nat) (hc:zp s≤c):Nm l 0 zT c (sTail k s l) B:=by
 have h0:=splitP_pz s
 unfold sTail
 refine Nm.takes0 (A:=fun m=>(sNum l m).bind fun v n=>.ok (⟨k,(splitP s).1,(splitP s).2,v⟩:T23) n) ?_ ?_
 ·exact Nm.b0 (num_nm _) fun _=>Nm.ret (by show pz (splitP s).1+1≤_;have:pz s+1≤c:=hc;omega)
 ·refine Nm.takes0 (A:=fun m=>(sNum l m).bind fun v n=>.ok (⟨k,(splitP s).1,(splitP s).2,w64 (0-v)⟩:T23) n) ?_ ?_
  ·exact Nm.b0 (num_nm _) fun _=>Nm.ret (by show pz (splitP s).1+1≤_;have:pz s+1≤c:=hc;omega)
  ·exact Nm.ret (by show pz (splitP s).1+1≤_;have:pz s+1≤c:=hc;omega)
theorem term_nm {F B:Nat} (hF:l.length < F+B):Nm l 1 zT 0 (sTerm F l) B:=by
 have hs:Nm l 1 zT 0 (fun n=>(sSigned l n).bind fun v n=>.ok ⟨1,str [],str [],v⟩ n) B:=Nm.b1 (signed_nm B) fun _=>Nm.ret (by show pz (str [])+1≤0+1;rw [pz_nil];omega)
 have hp:Nm l 1 zT 0 (fun n=>bif isT (str [108,101,110]) (tk l n) then (sWants (str [40]) l (n+1)).bind fun _ n=>(sPath F l n).bind fun s n=>(sWants (str [41]) l n).bind fun _ n=>sTail 3 s l n else (sPath F l n).bind fun s n=>sTail 2 s l n) B:=by
  refine Nm.takes (d:=0) (A:=fun m=>(sWants (str [40]) l m).bind fun _ n=>(sPath F l n).bind fun s n=>(sWants (str [41]) l n).bind fun _ n=>sTail 3 s l n) ?_ ?_
  ·exact Nm.b0 (wants_nm _ _) fun _=>Nm.b0 (path_nm (by omega)) fun s=>Nm.b0 (wants_nm _ _) fun _=>tail_nm 3 s _ _ (by show zp s≤0+1+1+zp s+1;omega)
  ·exact Nm.b1 (path_nm hF) fun s=>tail_nm 2 s _ _ (by omega)
 refine ⟨fun n h1 h2=>?_,fun n h1 h2 a m hm=>?_⟩
 ·unfold sTerm
  cases (isT (str [45]) (tk l n) || (tk l n).Kind==2) with
  | true=>exact hs.out n h1 h2
  | false=>exact hp.out n h1 h2
 ·unfold sTerm at hm
  cases hx:(isT (str [45]) (tk l n) || (tk l n).Kind==2) with
  | true=>rw [hx] at hm;exact hs.ok n h1 h2 a m hm
  | false=>rw [hx] at hm;exact hp.ok n h1 h2 a m hm
abbrev zA (a:T19):Nat:=pz a.Left.Message+pz a.Right.Message
theorem atom_nm {F B:Nat} (hF:l.length < F+B):Nm l 1 (fun a=>zA a+1) 0 (sAtom F l) B:=by
 refine Nm.b1 (term_nm hF) fun a=>?_
 have hA:∀ tx,Nm l 0 (fun a=>zA a+1) (zT a+1) (fun m=>(sTerm F l m).bind fun b m=>.ok (⟨a,tx,b⟩:T19) m) (B+1):=fun tx=>Nm.b0 (term_nm (by omega)) fun b=>Nm.ret (by show pz a.Message+pz b.Message+1≤pz a.Message+1+1+(pz b.Message+1);omega)
 refine ⟨fun n h1 h2=>?_,fun n h1 h2 b m hm=>?_⟩
 ·cases hx:markT (tk l n) with
  | true =>
   have hn:n < l.length:=by unfold markT at hx;rw [Bool.and_eq_true] at hx;exact kind_lt (k:=4) (by decide) hx.1
   simp only [hx,cT]
   exact (hA _).out (n+1) (by omega) hn
  | false=>simp only [hx,cF];intro h;cases h
 ·cases hx:markT (tk l n) with
  | true =>
   have hn:n < l.length:=by unfold markT at hx;rw [Bool.and_eq_true] at hx;exact kind_lt (k:=4) (by decide) hx.1
   simp only [hx,cT] at hm
   obtain ⟨q1,q2,q3⟩:=(hA _).ok (n+1) (by omega) hn b m hm
   exact ⟨by omega,q2,by show zA b+1+n≤m+(0+zT a);omega⟩
  | false=>simp only [hx,cF] at hm;cases hm
def zAs:List T19→Nat
 | []=>0
 | a::l=>zA a+1+zAs l
theorem zAs_snoc (acc:List T19) (a:T19):zAs (snoc acc a)≤zAs acc+zA a+1:=by
 unfold snoc
 induction acc with
 | nil=>simp [zAs]
 | cons x l ih=>simp only [List.cons_append,zAs];omega
def zM (m:T21):Nat:=pz m.Name+m.Fields.length+zAs m.Where
theorem where_nm {F B:Nat} (hF:l.length < F+B) (nm:ByteArray) (fs:List T4) (c:Nat) (hc:pz nm+fs.length≤c):Nm l 0 zM c (sWhere F nm fs l) B:=by
 unfold sWhere
 refine Nm.takes0 (A:=fun m=>(sAtom F l m).bind fun a n=>(sLoop (str [97,110,100]) (sAtom F) snoc F [a] l n).bind fun as' n=>(sWants (str [59]) l n).bind fun _ n=>.ok (⟨nm,fs,as'⟩:T21) n) ?_ ?_
 ·refine Nm.congr (S:=fun m=>((sAtom F l m).bind fun a n=>sLoop (str [97,110,100]) (sAtom F) snoc F [a] l n).bind fun as' n=>(sWants (str [59]) l n).bind fun _ n=>.ok (⟨nm,fs,as'⟩:T21) n) ?_ (fun n=>(rr_assoc _ _ _).symm)
  exact Nm.b0 (sep_nm (zb:=zAs) (za:=zA) zAs_snoc (fun _=>Nat.le_refl _) (atom_nm (by omega)) (by omega)) fun as'=>Nm.b0 (wants_nm _ _) fun _=>Nm.ret (by show pz nm+fs.length+zAs as'≤c+1+zAs as'+1;omega)
 ·exact Nm.b0 (wants_nm _ _) fun _=>Nm.ret (by show pz nm+fs.length+0≤c+1;omega)
theorem message_nm {F B:Nat} (hF:l.length < F+B):Nm l 1 (fun m=>zM m+1) 0 (sMessage F l) B:=by
 ·have q:Nm l 1 (fun m=>zM m+1) 0 (fun n=>(sPath F l n).bind fun nm n=>(sWants (str [40]) l n).bind fun _ n =>
    bif isT (str [41]) (tk l n) then sWhere F nm [] l (n+1)
    else ((sField l n).bind fun f n=>sLoop (str [44]) sField snoc F [f] l n).bind fun fs n=>(sWants (str [41]) l n).bind fun _ n=>sWhere F nm fs l n) B:=by
   refine Nm.b1 (path_nm hF) fun nm=>?_
   have w:∀ fs c B',l.length < F+B'→pz nm+fs.length≤c→Nm l 0 (fun m=>zM m+1) (c+1) (sWhere F nm fs l) B':=fun fs c B' h1 h2=>by
    have:=where_nm h1 nm fs c h2
    exact ⟨this.out,fun n h1 h2 a m hm=>by
     obtain ⟨q1,q2,q3⟩:=this.ok n h1 h2 a m hm
     exact ⟨q1,q2,by show zM a+1+n≤_;omega⟩⟩
   refine Nm.b0 (wants_nm _ _) fun _=>?_
   refine Nm.takes0 (A:=sWhere F nm [] l) ((w [] (pz nm) _ (by omega) (by simp)).weak (Nat.le_refl _) (fun _=>Nat.le_refl _) (by show pz nm+1≤0+(pz nm+1)+1+1;omega) (Nat.le_refl _)) ?_
   refine Nm.b0 (sep_nm (zb:=Zl) (za:=Z0) (fun acc a=>Zl_snoc 0 acc a) (fun _=>Nat.le_refl 1) (field_nm _) hF) fun fs=>Nm.b0 (wants_nm _ _) fun _=>?_
   exact (w fs (pz nm+fs.length) _ (by omega) (Nat.le_refl _)).weak (Nat.le_refl _) (fun _=>Nat.le_refl _) (by show pz nm+fs.length+1≤0+(pz nm+1)+1+fs.length+1;omega) (Nat.le_refl _)
  refine Nm.congr q (fun n=>?_)
  unfold sMessage
  simp only [rr_assoc]
abbrev zB:List T20→Nat:=fun b=>zL b+1
theorem block_nm {items:Pm (List T20)} {B:Nat} (h:Nm l 0 zL 0 (items l) (B+1)):Nm l 1 zB 0 (sBlock items l) B:=by
 have hw:=wants_nm (l:=l) (str [125]) 0
 refine ⟨fun n h1 h2=>?_,fun n h1 h2 a m hm=>?_⟩
 ·unfold sBlock sWants
  cases hi:isT (str [123]) (tk l n) with
  | false=>intro h;cases h
  | true =>
   show (items l (n+1)).bind _≠_
   have hn:=isT_lt hi
   cases hit:items l (n+1) with
   | ok x k =>
    show Rr.bind (bif isT (str [125]) (tk l k) then Rr.ok () (k+1) else Rr.er k 3) _≠_
    cases isT (str [125]) (tk l k)<;>(intro h;cases h)
   | er k e=>intro h;cases h
   | out=>exact absurd hit (h.out (n+1) (by omega) hn)
 ·unfold sBlock sWants at hm
  cases hi:isT (str [123]) (tk l n) with
  | false=>rw [hi] at hm;cases hm
  | true =>
   rw [hi] at hm
   have hn:=isT_lt hi
   have hm:(items l (n+1)).bind _=_:=hm
   cases hit:items l (n+1) with
   | ok x k =>
    rw [hit] at hm
    obtain ⟨q1,q2,q3⟩:=h.ok (n+1) (by omega) hn x k hit
    have hm:Rr.bind (bif isT (str [125]) (tk l k) then Rr.ok () (k+1) else Rr.er k 3) (fun _ n=>Rr.ok x n)=Rr.ok a m:=hm
    cases hj:isT (str [125]) (tk l k) with
    | false=>rw [hj] at hm;cases hm
    | true=>rw [hj] at hm;cases hm;exact ⟨by omega,isT_lt hj,by show zL _+1+n≤k+1+0;omega⟩
   | er k e=>rw [hit] at hm;cases hm
   | out=>rw [hit] at hm;cases hm
theorem zI_mk (k f t n a x b):zI ⟨k,f,t,n,a,x,b⟩=t.length+pz n+zLL b+1:=by simp only [zI]
theorem zLL_one (b:List T20):zLL [b]=zL b+1:=by simp [zLL]
theorem zLL_hz (acc:List (List T20)) (a:List T20):zLL (snoc acc a)≤zLL acc+zL a+1:=by rw [zLL_snoc];omega
theorem branches_nm {F B:Nat} {block:Pm (List T20)} (hb:Nm l 1 zB 0 (block l) B) (hF:l.length < F+B) (who:ByteArray) (t:Int) (c:Nat):Nm l 0 zI (c+1) (sBranches F block who t l) B:=by
 refine Nm.congr (S:=fun n=>((block l n).bind fun b n=>sLoop (str [111,114]) block snoc F [b] l n).bind fun bl n=>sElse block who t bl l n) ?_ (fun n=>by unfold sBranches;rw [rr_assoc])
 refine Nm.b0 (sep_nm (zb:=zLL) (za:=zL) zLL_hz (fun a=>by rw [zLL_one];exact Nat.le_refl _) hb hF) fun bl=>?_
 unfold sElse
 cases decide (t > 0) with
 | false=>exact Nm.ret (by rw [zI_mk,pz_nil];simp;omega)
 | true=>exact Nm.b0 (wants_nm _ _) fun _=>Nm.b0 hb fun b=>Nm.ret (by rw [zI_mk,zLL_snoc,pz_nil];show ([]:List ByteArray).length+0+(zLL bl+(zL b+1))+1≤c+1+zLL bl+1+(zL b+1);simp;omega)
theorem ticks_nm (B:Nat):Nm l 1 (Z1:Int→Nat) 0 (sTicks l) B:=by
 refine ⟨fun n h1 h2=>?_,fun n h1 h2 a m hm=>?_⟩
 ·unfold sTicks
  cases ((tk l n).Kind==2 && (decide ((tk l n).Value < 1) || decide ((tk l n).Value > 1000))) with
  | true=>intro h;cases h
  | false=>exact (num_nm B).out n h1 h2
 ·unfold sTicks at hm
  cases hx:((tk l n).Kind==2 && (decide ((tk l n).Value < 1) || decide ((tk l n).Value > 1000))) with
  | true=>rw [hx] at hm;cases hm
  | false=>rw [hx] at hm;exact (num_nm B).ok n h1 h2 a m hm
theorem choice_nm {F B:Nat} {block:Pm (List T20)} (hb:Nm l 1 zB 0 (block l) B) (hF:l.length < F+B):Nm l 0 zI 0 (sChoice F block l) B:=by
 unfold sChoice
 refine Nm.b0 (wants_nm _ _) fun _=>Nm.b0 (word_nm _) fun who=>?_
 refine Nm.takes0 (A:=fun m=>(sTicks l m).bind fun t n=>sBranches F block who t l n) ?_ (branches_nm hb hF who 0 _)
 exact Nm.b0 (ticks_nm _) fun t=>(branches_nm (hb.weak (Nat.le_refl _) (fun _=>Nat.le_refl _) (Nat.le_refl _) (Nat.le_succ _)) (by omega) who t 0).weak (Nat.le_refl _) (fun _=>Nat.le_refl _) (by show 0+1≤_+1;omega) (Nat.le_refl _)
theorem send_nm {F B:Nat} (hF:l.length < F+B):Nm l 1 zI 0 (sSend F l) B:=by
 unfold sSend
 exact Nm.b1 (word_nm _) fun f=>Nm.b0 (wants_nm _ _) fun _=>Nm.b0 (words_nm hF) fun t=>Nm.b0 (wants_nm _ _) fun _=>Nm.b0 (path_nm hF) fun nm=>Nm.b0 (wants_nm _ _) fun _=>Nm.ret (by
  rw [zI_mk];show t.length+pz nm+zLL []+1≤0+zp f+1+t.length+1+(pz nm+1)+1;simp [zLL];omega)
theorem call_nm {F B:Nat} (hF:l.length < F+B):Nm l 0 zI 0 (sCall F l) B:=by
 unfold sCall
 exact Nm.b0 (word_nm _) fun nm=>Nm.b0 (wants_nm _ _) fun _=>Nm.b0 (words_nm hF) fun t=>Nm.b0 (wants_nm _ _) fun _=>Nm.b0 (wants_nm _ _) fun _=>Nm.b0 (word_nm _) fun a=>Nm.b0 (wants_nm _ _) fun _=>Nm.ret (by
  rw [zI_mk];show t.length+pz nm+zLL []+1≤0+(pz nm+1)+1+t.length+1+1+zp a+1;simp [zLL];omega)
theorem item_nm {F B:Nat} {block:Pm (List T20)} (hb:Nm l 1 zB 0 (block l) (B+1)) (hF:l.length < F+B):Nm l 1 zI 0 (sItem F block l) B:=by
 have up:∀ {S:Nat→Rr T20},Nm l 0 zI 0 S (B+1)→Nm l 0 zI (0+1) S (B+1):=fun h=>h.weak (Nat.le_refl _) (fun _=>Nat.le_refl _) (by omega) (Nat.le_refl _)
 unfold sItem
 refine Nm.takes (d:=0) (A:=sChoice F block l) (up (choice_nm hb (by omega))) ?_
 refine Nm.takes (d:=0) (A:=fun m=>(sPath F l m).bind fun nm n=>(block l n).bind fun b n=>.ok (⟨3,str [],[],nm,str [],0,[b]⟩:T20) n) ?_ ?_
 ·exact Nm.b0 (path_nm (by omega)) fun nm=>Nm.b0 hb fun b=>Nm.ret (by rw [zI_mk,zLL_one];show ([]:List ByteArray).length+pz nm+(zL b+1)+1≤0+1+(pz nm+1)+(zL b+1);simp;omega)
 refine Nm.takes (d:=0) (A:=fun m=>(sPath F l m).bind fun nm n=>(sWants (str [59]) l n).bind fun _ n=>.ok (⟨4,str [],[],nm,str [],0,[]⟩:T20) n) ?_ ?_
 ·exact Nm.b0 (path_nm (by omega)) fun nm=>Nm.b0 (wants_nm _ _) fun _=>Nm.ret (by rw [zI_mk];show ([]:List ByteArray).length+pz nm+zLL []+1≤0+1+(pz nm+1)+1;simp [zLL];omega)
 refine Nm.takes (d:=0) (A:=fun m=>(block l m).bind fun b n=>(sWants (str [97,110,100]) l n).bind fun _ n=>(block l n).bind fun c n=>(sLoop (str [97,110,100]) block snoc F [b,c] l n).bind fun bl n=>.ok (⟨5,str [],[],str [],str [],0,bl⟩:T20) n) ?_ ?_
 ·refine Nm.b0 hb fun b=>Nm.b0 (wants_nm _ _) fun _=>?_
  refine Nm.congr (S:=fun n=>((block l n).bind fun c n=>sLoop (str [97,110,100]) block snoc F [c] l n).bind fun bl n=>.ok (⟨5,str [],[],str [],str [],0,b::bl⟩:T20) n) ?_ (fun n=>by
   rw [rr_assoc];congr 1;funext c m;rw [sLoop_cons,rr_assoc];rfl)
  exact Nm.b0 (sep_nm (zb:=zLL) (za:=zL) zLL_hz (fun a=>by rw [zLL_one];exact Nat.le_refl _) hb (by omega)) fun bl=>Nm.ret (by
   rw [zI_mk,pz_nil];show ([]:List ByteArray).length+0+zLL (b::bl)+1≤0+1+(zL b+1)+1+zLL bl;simp only [zLL,List.length_nil];omega)
 refine Nm.takes (d:=0) (A:=sCall F l) (up (call_nm (by omega))) (send_nm hF)
theorem list_nm {item:Pm T20} {B:Nat} (hi:Nm l 1 zI 0 (item l) B):∀ (F:Nat) (acc:List T20) (n:Nat),l.length < F+n→B≤n→n≤l.length →
  sList item F acc l n≠.out∧∀ a m,sList item F acc l n=.ok a m→n≤m∧m≤l.length∧zL a+n≤m+zL acc:=by
 intro F
 induction F with
 | zero=>intro acc n h h1 h2;omega
 | succ F ih =>
  intro acc n h h1 h2
  simp only [sList]
  cases hb:begT (tk l n) with
  | false=>exact ⟨fun h=>(by cases h),fun a m h=>by cases h;exact ⟨Nat.le_refl _,h2,by omega⟩⟩
  | true =>
   simp only [cT]
   cases hp1:item l n with
   | ok a m =>
    obtain ⟨q1,q2,q3⟩:=hi.ok n h1 h2 a m hp1
    obtain ⟨r1,r2⟩:=ih (snoc acc a) m (by omega) (by omega) q2
    refine ⟨r1,fun b k hb=>?_⟩
    obtain ⟨r3,r4,r5⟩:=r2 b k hb
    rw [zL_snoc] at r5
    exact ⟨by omega,r4,by omega⟩
   | er k e=>exact ⟨fun h=>(by cases h),fun a m h=>by cases h⟩
   | out=>exact absurd hp1 (hi.out n h1 h2)
theorem items_nm:∀ (F B:Nat),l.length+2≤F+B→Nm l 0 zL 0 (sItems F l) B
 | 0,B,h=>⟨fun n h1 h2=>by omega,fun n h1 h2=>by omega⟩
 | F+1,B,h=>by
  have hb:Nm l 1 zB 0 (sBlock (sItems F) l) (B+1):=block_nm (items_nm F (B+2) (by omega))
  have hi:=item_nm (F:=F) hb (by omega)
  exact ⟨fun n h1 h2=>(list_nm hi F [] n (by omega) h1 h2).1,fun n h1 h2 a m hm=>by
   obtain ⟨q1,q2,q3⟩:=(list_nm hi F [] n (by omega) h1 h2).2 a m hm
   exact ⟨q1,q2,by simpa [zL] using q3⟩⟩
def zMs:List T21→Nat
 | []=>0
 | m::l=>zM m+1+zMs l
theorem zMs_snoc (acc:List T21) (m:T21):zMs (snoc acc m)≤zMs acc+zM m+1:=by
 unfold snoc
 induction acc with
 | nil=>simp [zMs]
 | cons x l ih=>simp only [List.cons_append,zMs];omega
def zP (p:T22):Nat:=p.Roles.length+zMs p.Messages+zL p.Body
theorem protocol_nm {F:Nat} (hF:l.length+2≤F):Nm l 1 zP 0 (sProtocol F l) 0:=by
 unfold sProtocol
 refine Nm.b1 (wants_nm _ _) fun _=>Nm.b0 (word_nm _) fun nm=>Nm.b0 (wants_nm _ _) fun _=>Nm.b0 (words_nm (by omega)) fun rs=>Nm.b0 (wants_nm _ _) fun _=>Nm.b0 (wants_nm _ _) fun _=>?_
 refine Nm.b0 (z1:=zMs) (Nm.loop (acc:=[]) (zb:=zMs) (za:=fun m=>zM m) (fun acc m=>zMs_snoc acc m) ((message_nm (F:=F) (by omega)).weak (Nat.zero_le _) (fun a=>Nat.le_succ _) (Nat.le_refl _) (Nat.le_refl _)) (by omega)) fun ms=>?_
 refine Nm.b0 (items_nm F 0 (by omega)) fun b=>Nm.b0 (wants_nm _ _) fun _=>Nm.ret ?_
 show rs.length+zMs ms+zL b≤0+1+zp _+1+rs.length+1+1+zMs ms+zL b+1
 omega
theorem parse_nm {F:Nat} (hF:l.length+2≤F):∀ (G:Nat) (acc:List T22) (n:Nat),l.length < G+n→n≤l.length →
  sParse F G acc l n≠.out∧∀ ps m,sParse F G acc l n=.ok ps m→∃ qs,ps=acc++qs∧m=l.length∧qs.length+n≤l.length∧∀ p∈qs,zP p≤l.length:=by
 intro G
 induction G with
 | zero=>intro acc n h h1;omega
 | succ G ih =>
  intro acc n h h1
  simp only [sParse]
  by_cases hn:n < l.length
  ·rw [dT hn,cT]
   cases hp:sProtocol F l n with
   | ok p m =>
    obtain ⟨q1,q2,q3⟩:=(protocol_nm hF).ok n (by omega) h1 p m hp
    obtain ⟨r1,r2⟩:=ih (snoc acc p) m (by omega) q2
    refine ⟨r1,fun ps k hk=>?_⟩
    obtain ⟨qs,e1,e2,e3,e4⟩:=r2 ps k hk
    refine ⟨p::qs,by rw [e1];simp [snoc],e2,?_,fun x hx=>?_⟩
    ·simp only [List.length_cons];omega
    ·rcases List.mem_cons.1 hx with rfl | hx
     ·omega
     ·exact e4 x hx
   | er k e=>exact ⟨fun h=>(by cases h),fun ps m h=>by cases h⟩
   | out=>exact absurd hp ((protocol_nm hF).out n (by omega) h1)
  ·rw [dF hn,cF]
   exact ⟨fun h=>(by cases h),fun ps m h=>by cases h;exact ⟨[],by simp,by omega,by simp;omega,by simp⟩⟩
end
end Gp
end
section
namespace Gp
open Go Go.Kx Gx
theorem Dq.ite {c:Bool} {C P:Prop} {o1 o2:Option Bool} (hc:c=true↔C) (h1:C→Dq o1 P) (h2:¬C→Dq o2 P):Dq (bif c then o1 else o2) P:=by
 cases c with
 | false=>exact h2 (fun h=>by have:=hc.2 h;cases this)
 | true=>exact h1 (hc.1 rfl)
theorem Dq.of {o:Option Bool} {b:Bool} {P:Prop} (h:o=some b) (hb:b=true↔P):Dq o P:=⟨b,h,hb⟩
theorem Dq.dec {P:Prop} [Decidable P] {Q:Prop} (h:P↔Q):Dq (some (decide P)) Q:=⟨decide P,rfl,by rw [decide_eq_true_eq,h]⟩
theorem dq_all {α:Type} {xs:List α} (hs:xs.length≤4194304) {P:α→Prop} (F:Nat→Int→Option Bool) {E:Prop}
  (h1:∀ (n k:Nat) x Q,k < 4194304→xs[k]? = some x→(P x→Dq (F n ((k+1:Nat):Int)) Q)→Dq (F (n+1) (k:Int)) (P x∧Q))
  (h2:(∀ x∈xs,P x)→∀ (n k:Nat),xs.length≤k→Dq (F (n+1) (k:Int)) E) {N:Nat} (hN:xs.length < N):Dq (F N (0:Int)) ((∀ x∈xs,P x)∧E):=by
 have key:∀ (l:List α) (k n:Nat),xs.drop k=l→l.length < n→(∀ x∈xs.take k,P x)→Dq (F n (k:Int)) ((∀ x∈l,P x)∧E):=by
  intro l
  induction l with
  | nil =>
   intro k n h hn ht
   obtain ⟨n,rfl⟩:∃ m,n=m+1:=⟨n-1,by simp at hn;omega⟩
   have hk:=drop_nil h
   rw [List.take_of_length_le hk] at ht
   exact (h2 ht n k hk).iff ⟨fun h=>⟨by simp,h⟩,fun h=>h.2⟩
  | cons x l ih =>
   intro k n h hn ht
   obtain ⟨n,rfl⟩:∃ m,n=m+1:=⟨n-1,by simp at hn;omega⟩
   obtain ⟨a,c,d⟩:=drop_cons h
   refine (h1 n k x _ (by omega) c fun hp=>ih (k+1) n d (by simp at hn;omega) ?_).iff ?_
   ·intro y hy
    rw [List.take_succ,c] at hy
    rcases List.mem_append.1 hy with hy | hy
    ·exact ht y hy
    ·simp at hy;subst hy;exact hp
   ·simp only [List.mem_cons,forall_eq_or_imp,and_assoc]
 have:=key xs 0 N rfl hN (by simp)
 exact this
variable {N:Nat} (hN:4194304 < N)
include hN in
theorem word_own' (s:ByteArray):z67 N s=some (isWord s):=by
 by_cases hs:s.size≤4194304
 ·exact word_own hN s hs
 ·have hb:bs s≠[]:=fun h=>by rw [size_bs,h] at hs;simp at hs
  have hw:isWord s=false:=by
   cases h:isWord s with
   | false=>rfl
   | true=>have:=word_size h;omega
  obtain ⟨x,l,hx⟩:∃ x l,bs s=x::l:=by
   cases h:bs s with
   | nil=>exact absurd h hb
   | cons x l=>exact ⟨x,l,rfl⟩
  have e1:(s.toList==(str []).toList)=false:=by rw [toList_bs,toList_bs,hx];rfl
  have e2:decide ((s.size:Int) > 16)=true:=dT (by omega)
  have e3:sidx s (0:Int)=some (x.toNat:Int):=by rw [show sidx s (0:Int)=sidx s ((0:Nat):Int) from rfl,sidx_bs,hx];rfl
  rw [hw]
  unfold z67 z125
  rw [e1,e2,e3]
  simp only [cF,cT,bS]
include hN in
theorem word_dq (s:ByteArray):Dq (z67 N s) (isWord s=true):=Dq.of (word_own' hN s) Iff.rfl
include hN in
theorem path_dq (s:ByteArray):Dq (z99 N s) (pathV s=true):=Dq.of (path_eq hN s) Iff.rfl
theorem emp {a:ByteArray}:(a.toList==(str []).toList)=true↔a=str []:=seq'
def WordsP (l:List ByteArray) (k:Nat):Prop:=1≤l.length∧l.length≤k∧∀ w∈l,isWord w=true
include hN in
theorem words_dq (l:List ByteArray) (hl:l.length≤4194304) (k:Nat):Dq (z68 N l (k:Int)) (WordsP l k):=by
 unfold z68
 refine Dq.cA (by rw [decide_eq_true_eq];omega) fun _=>Dq.cA (by rw [decide_eq_true_eq];omega) fun _=>?_
 unfold z126_33 z189_32
 rw [look l hl (fun x k r=>bif !isWord x then some k else r) (z189_32_l2 N l) (some (-1)) hN]
 ·obtain ⟨i,h1,h2⟩:=whereV_any (fun x => !isWord x) l 0
  rw [h1]
  simp only [bS]
  refine ⟨_,rfl,?_⟩
  rw [h2]
  simp
 ·intro n k x hk hx
  simp only [z189_32_l2,lt_t (get_lt hx),cT,idx_nat,hx,bS,z127,word_own' hN x,w64_succ (show k < 4611686018427387904 by omega)]
 ·intro n k hk
  simp only [z189_32_l2,lt_f hk,cF,z189_32_k1]
def ShP (x:T20):Prop :=
 (x.Kind=1∧isWord x.From=true∧WordsP x.To 5∧pathV x.Name=true∧x.As=str []∧x.Ticks=0∧x.Blocks.length=0) ∨
 (x.Kind=2∧isWord x.From=true∧x.To.length=0∧x.Name=str []∧x.As=str []∧0≤x.Ticks∧x.Ticks≤1000∧1+min x.Ticks 1≤(x.Blocks.length:Int)∧x.Blocks.length≤8) ∨
 (x.Kind=3∧x.From=str []∧x.To.length=0∧pathV x.Name=true∧x.As=str []∧x.Ticks=0∧x.Blocks.length=1) ∨
 (x.Kind=4∧x.From=str []∧x.To.length=0∧pathV x.Name=true∧x.As=str []∧x.Ticks=0∧x.Blocks.length=0) ∨
 (x.Kind=5∧x.From=str []∧x.To.length=0∧x.Name=str []∧x.As=str []∧x.Ticks=0∧2≤x.Blocks.length∧x.Blocks.length≤8) ∨
 (x.Kind=6∧x.From=str []∧WordsP x.To 6∧isWord x.Name=true∧isWord x.As=true∧x.Ticks=0∧x.Blocks.length=0)
theorem len0 {n:Nat}:((n:Int)==0)=true↔n=0:=by simp
include hN in
theorem shaped_dq (x:T20) (ht:x.To.length≤4194304):Dq (z128 N x) (ShP x):=by
 unfold z128
 refine Dq.ite ibeq (fun h1=>?_) fun h1=>Dq.ite ibeq (fun h2=>?_) fun h2=>?_
 ·refine (Dq.bA (word_dq hN _) fun _=>Dq.bA (words_dq hN _ ht 5) fun _=>Dq.bA (path_dq hN _) fun _=>Dq.cA emp fun _=>Dq.cA ibeq fun _=>Dq.of rfl len0).iff ?_
  unfold ShP
  simp [h1]
 ·refine (Dq.bA (word_dq hN _) fun _=>Dq.cA len0 fun _=>Dq.cA emp fun _=>Dq.cA emp fun _=>Dq.cA (C:=0≤x.Ticks) decide_eq_true_iff fun _=>Dq.cA (C:=x.Ticks≤1000) decide_eq_true_iff fun _ =>
   Dq.cA (C:=1+min x.Ticks 1≤(x.Blocks.length:Int)) ?_ fun _=>Dq.dec (Q:=x.Blocks.length≤8) (by omega)).iff ?_
  ·rw [decide_eq_true_eq]
   unfold minI
   rw [w64_id (by split<;>omega) (by split<;>omega)]
   split<;>omega
  ·unfold ShP
   simp [h2]
 have hk:∀ k,(k=3∧x.Kind=3)∨(k=4∧x.Kind=4)→Dq (z128_k1 N x true) (ShP x):=by
  intro k hk
  unfold z128_k1
  simp only [cT]
  refine (Dq.cA emp fun _=>Dq.cA len0 fun _=>Dq.bA (path_dq hN _) fun _=>Dq.cA emp fun _=>Dq.cA ibeq fun _=>Dq.cA (C:=x.Kind=3↔x.Blocks.length=1) ?_ fun _=>Dq.dec (Q:=x.Blocks.length≤1) (by omega)).iff ?_
  ·rw [beq_iff_eq,Bool.eq_iff_iff];simp;omega
  ·unfold ShP
   rcases hk with ⟨_,hk⟩ | ⟨_,hk⟩
   ·simp only [hk]
    constructor
    ·rintro ⟨a,b,c,d,e,f,g⟩;exact Or.inr (Or.inr (Or.inl ⟨trivial,a,b,c,d,e,by simpa using f⟩))
    ·rintro (h | h | h | h | h | h)<;>simp at h
     obtain ⟨a,b,c,d,e,f⟩:=h
     exact ⟨a,by simpa using b,c,d,e,by simpa using f,by omega⟩
   ·simp only [hk]
    constructor
    ·rintro ⟨a,b,c,d,e,f,g⟩
     refine Or.inr (Or.inr (Or.inr (Or.inl ⟨trivial,a,b,c,d,e,?_⟩)))
     have:¬ x.Blocks.length=1:=fun h=>by simpa using f.2 h
     omega
    ·rintro (h | h | h | h | h | h)<;>simp at h
     obtain ⟨a,b,c,d,e,f⟩:=h
     have f:x.Blocks.length=0:=by rw [f];rfl
     exact ⟨a,by simpa using b,c,d,e,⟨fun h=>by omega,fun h=>by omega⟩,by omega⟩
 refine Dq.ite ibeq (fun h3=>hk 3 (Or.inl ⟨rfl,h3⟩)) fun h3=>?_
 cases h4:(x.Kind==4) with
 | true=>exact hk 4 (Or.inr ⟨rfl,ibeq.1 h4⟩)
 | false =>
  have h4:¬ x.Kind=4:=fun h=>by rw [h] at h4;cases h4
  unfold z128_k1
  simp only [cF]
  refine Dq.ite ibeq (fun h5=>?_) fun h5=>Dq.ite ibeq (fun h6=>?_) fun h6=>?_
  ·refine (Dq.cA emp fun _=>Dq.cA len0 fun _=>Dq.cA emp fun _=>Dq.cA emp fun _=>Dq.cA ibeq fun _=>Dq.cA (C:=2≤x.Blocks.length) (by rw [decide_eq_true_eq];omega) fun _=>Dq.dec (Q:=x.Blocks.length≤8) (by omega)).iff ?_
   unfold ShP
   simp [h5]
  ·refine (Dq.cA emp fun _=>Dq.bA (words_dq hN _ ht 6) fun _=>Dq.bA (word_dq hN _) fun _=>Dq.bA (word_dq hN _) fun _=>Dq.cA ibeq fun _=>Dq.of rfl len0).iff ?_
   unfold ShP
   simp [h6]
  ·refine Dq.fa.iff ⟨fun h=>h.elim,fun h=>?_⟩
   unfold ShP at h
   rcases h with h | h | h | h | h | h
   ·exact h1 h.1
   ·exact h2 h.1
   ·exact h3 h.1
   ·exact h4 h.1
   ·exact h5 h.1
   ·exact h6 h.1
end Gp
end
section
namespace Gp
open Go Go.Kx Gx
mutual
def shI:T20→Prop
 | ⟨k,f,t,n,a,x,b⟩=>ShP ⟨k,f,t,n,a,x,b⟩∧shLL b
def shL:List T20→Prop
 | []=>True
 | x::l=>shI x∧shL l
def shLL:List (List T20)→Prop
 | []=>True
 | x::l=>shL x∧shLL l
end
theorem shI_eq (x:T20):shI x↔ShP x∧shLL x.Blocks:=by cases x;simp only [shI]
def Vq (o:Option (Bool × Int)) (P:Prop) (m:Int):Prop:=∃ r k,o=some (r,k)∧(r=true↔P)∧(r=true→k=m)
theorem Vq.iff {o P Q m m'} (h:Vq o P m) (k:P↔Q) (e:Q→m=m'):Vq o Q m':=by
 obtain ⟨r,j,h1,h2,h3⟩:=h
 exact ⟨r,j,h1,h2.trans k,fun hr=>(h3 hr).trans (e (k.1 (h2.1 hr)))⟩
theorem Vq.fa {k:Int} {P:Prop} {m:Int} (h:¬P):Vq (some (false,k)) P m:=⟨false,k,rfl,by simp [h],fun h=>by cases h⟩
theorem vi_inner {rc:List T20→Int→Int→Option (Bool × Int)} {d k:Nat} {ag:Int→Int→Option (Bool × Int)} {x:T20} {rest:List T20} (hd:d≤10) (hk:k < 4194304) (hbl:x.Blocks.length≤4194304)
  (hrc:∀ b∈x.Blocks,∀ n:Nat,n≤300→Vq (rc b ((d+1:Nat):Int) (n:Int)) (shL b∧dL b+(d+1)≤11∧n+cL b≤300) ((n+cL b:Nat):Int))
  (hag:∀ n:Nat,n≤300→Vq (ag (n:Int) ((k+1:Nat):Int)) (shL rest∧dL rest+d≤11∧n+cL rest≤300) ((n+cL rest:Nat):Int)) :
  ∀ (bl:List (List T20)) (j n' n:Nat),x.Blocks.drop j=bl→bl.length < n'→n≤300 →
   Vq (z69_l4 rc (d:Int) (k:Int) ag x n' (n:Int) (j:Int)) (shLL bl∧dLL bl+d≤10∧n+cLL bl≤300∧shL rest∧dL rest+d≤11∧n+cLL bl+cL rest≤300) ((n+cLL bl+cL rest:Nat):Int):=by
 intro bl
 induction bl with
 | nil =>
  intro j n' n h hn hc
  obtain ⟨n',rfl⟩:∃ m,n'=m+1:=⟨n'-1,by simp at hn;omega⟩
  simp only [z69_l4,lt_f (drop_nil h),cF,z69_k3,w64_succ (show k < 4611686018427387904 by omega),shLL,dLL,cLL]
  exact (hag n hc).iff ⟨fun q=>⟨trivial,by omega,by omega,q.1,q.2.1,by omega⟩,fun q=>⟨q.2.2.2.1,q.2.2.2.2.1,by omega⟩⟩ (fun _=>rfl)
 | cons b bl ih =>
  intro j n' n h hn hc
  obtain ⟨n',rfl⟩:∃ m,n'=m+1:=⟨n'-1,by simp at hn;omega⟩
  obtain ⟨a,c,e⟩:=drop_cons h
  obtain ⟨r,m,e1,e2,e3⟩:=hrc b (List.mem_of_getElem? c) n hc
  simp only [z69_l4,lt_t a,cT,idx_nat,c,bS,w64_succ (show d < 4611686018427387904 by omega),w64_succ (show j < 4611686018427387904 by omega),e1,shLL,dLL,cLL]
  cases r with
  | false =>
   refine Vq.fa fun q=>?_
   have:false=true:=e2.2 ⟨q.1.1,by omega,by omega⟩
   cases this
  | true =>
   obtain ⟨q1,q2,q3⟩:=e2.1 rfl
   rw [e3 rfl]
   simp only [Bool.not_true,cF]
   refine (ih (j+1) n' (n+cL b) e (by simp at hn;omega) (by omega)).iff ⟨fun q=>⟨⟨q1,q.1⟩,by omega,by omega,q.2.2.2.1,q.2.2.2.2.1,by omega⟩,fun q=>⟨q.1.2,by omega,by omega,q.2.2.2.1,q.2.2.2.2.1,by omega⟩⟩ (fun _=>by congr 1;omega)
theorem valid_items:∀ (N:Nat) (xs:List T20) (d n:Nat),4194317≤N+d→xs.length≤4194304→bL xs→d≤11→n≤300 →
  Vq (z69 N xs (d:Int) (n:Int)) (shL xs∧dL xs+d≤11∧n+cL xs≤300) ((n+cL xs:Nat):Int)
 | 0,_,_,_,h,_,_,_,_=>by omega
 | N+1,xs,d,n,h,hs,hb,hd,hn=>by
  show Vq (z69_b N (z69 N) xs (d:Int) (n:Int)) _ _
  unfold z69_b
  have hN:4194304 < N:=by omega
  have key:∀ (l:List T20) (k n' n:Nat),xs.drop k=l→l.length < n'→n≤300 →
    Vq (z69_l2 N (z69 N) xs (d:Int) n' (n:Int) (k:Int)) (shL l∧dL l+d≤11∧n+cL l≤300) ((n+cL l:Nat):Int):=by
   intro l
   induction l with
   | nil =>
    intro k n' n h hn hc
    obtain ⟨n',rfl⟩:∃ m,n'=m+1:=⟨n'-1,by simp at hn;omega⟩
    simp only [z69_l2,lt_f (drop_nil h),cF,z69_k1,shL,dL,cL]
    exact ⟨true,n,rfl,by simp;omega,fun _=>rfl⟩
   | cons x l ih =>
    intro k n' n h hn hc
    obtain ⟨n',rfl⟩:∃ m,n'=m+1:=⟨n'-1,by simp at hn;omega⟩
    obtain ⟨a,c,e⟩:=drop_cons h
    have hm:=List.mem_of_getElem? c
    have hbx:=(bI_eq _).1 (bL_mem hb hm)
    simp only [z69_l2,lt_t a,cT,idx_nat,c,bS,w64_succ (show n < 4611686018427387904 by omega)]
    have hdI:=dI_eq x
    have hcI:=cI_eq2 x
    have hsI:=shI_eq x
    by_cases h10:d≤10
    ·rw [dF (show ¬ (d:Int) > 10 by omega),cF]
     by_cases h300:n+1≤300
     ·rw [dF (show ¬ ((n+1:Nat):Int) > 300 by omega),cF]
      obtain ⟨r,e1,e2⟩:=shaped_dq hN x hbx.1
      rw [e1,bS]
      cases r with
      | false =>
       refine Vq.fa fun q=>?_
       have:=e2.2 (hsI.1 (by simp only [shL] at q;exact q.1.1)).1
       cases this
      | true =>
       simp only [Bool.not_true,cF]
       refine (vi_inner (rest:=l) h10 (by omega) hbx.2.1 (fun b hb' n2 hn2=>?_) (fun n2 hn2=>ih (k+1) n' n2 e (by simp at hn;omega) hn2) x.Blocks 0 N (n+1) rfl (by omega) h300).iff ?_ ?_
       ·have hbb:=bLL_mem hbx.2.2 hb'
        exact valid_items N b (d+1) n2 (by omega) hbb.1 hbb.2 (by omega) hn2
       ·simp only [shL,dL,cL,hdI,hcI,hsI]
        exact ⟨fun q=>⟨⟨⟨e2.1 rfl,q.1⟩,q.2.2.2.1⟩,by omega,by omega⟩,fun q=>⟨q.1.1.2,by omega,by omega,q.1.2,by omega,by omega⟩⟩
       ·intro _
        simp only [cL,hcI]
        congr 1;omega
     ·rw [dT (show ((n+1:Nat):Int) > 300 by omega),cT]
      refine Vq.fa fun q=>?_
      simp only [cL,hcI] at q
      omega
    ·rw [dT (show (d:Int) > 10 by omega),cT]
     refine Vq.fa fun q=>?_
     simp only [dL,hdI] at q
     omega
  exact key xs 0 N n rfl (by omega) hn
end Gp
end
section
namespace Gp
open Go Go.Kx Gx
mutual
def nI:T20→Prop
 | ⟨_,_,_,n,_,_,b⟩=>n.size≤4000000∧nLL b
def nL:List T20→Prop
 | []=>True
 | x::l=>nI x∧nL l
def nLL:List (List T20)→Prop
 | []=>True
 | x::l=>nL x∧nLL l
end
mutual
theorem zn_I:∀ x,zI x≤200000→nI x
 | ⟨_,_,t,nm,_,_,b⟩,h=>by
  simp only [zI,pz] at h
  simp only [nI]
  exact ⟨by omega,zn_LL b (by omega)⟩
theorem zn_L:∀ l,zL l≤200000→nL l
 | [],_=>by simp only [nL]
 | x::l,h=>by
  simp only [zL] at h
  simp only [nL]
  exact ⟨zn_I x (by omega),zn_L l (by omega)⟩
theorem zn_LL:∀ l,zLL l≤200000→nLL l
 | [],_=>by simp only [nLL]
 | x::l,h=>by
  simp only [zLL] at h
  simp only [nLL]
  exact ⟨zn_L x (by omega),zn_LL l (by omega)⟩
end
mutual
theorem zc_I:∀ x,cIz x≤zI x
 | ⟨_,_,t,nm,_,_,b⟩=>by have:=zc_LL b;simp only [zI,cIz];omega
theorem zc_L:∀ l,cL l≤zL l
 | []=>by simp only [cL,zL];omega
 | x::l=>by have:=zc_I x;have:=zc_L l;simp only [cL,zL];omega
theorem zc_LL:∀ l,cLL l≤zLL l
 | []=>by simp only [cLL,zLL];omega
 | x::l=>by have:=zc_L x;have:=zc_LL l;simp only [cLL,zLL];omega
end
variable {N:Nat}
end Gp
end
section
namespace Gp
open Go Go.Kx Gx
variable {N:Nat} (hN:4194304 < N)
def Small (n:Int):Prop:=-999999≤n∧n≤999999
theorem within_dq (n:Int):Dq (z190 N n) (Small n):=Dq.cA (C:=-999999≤n) decide_eq_true_iff fun _=>Dq.dec Iff.rfl
def TermP (t:T23):Prop:=Small t.N∧((t.Kind=1∧t.Message=str []∧t.Field=str [])∨((t.Kind=2∨t.Kind=3)∧isWord t.Field=true∧(t.Message=str []∨pathV t.Message=true)))
theorem Dq.orE {c:Bool} {C P:Prop} {o:Option Bool} (hc:c=true↔C) (h:¬C→Dq o P):Dq (bif c then some true else o) (C∨P) :=
 Dq.ite hc (fun h'=>Dq.tr.iff ⟨fun _=>Or.inl h',fun _=>trivial⟩) (fun h'=>(h h').iff ⟨fun p=>Or.inr p,fun p=>p.resolve_left h'⟩)
include hN in
theorem term_dq (t:T23):Dq (z129 N t) (TermP t):=by
 unfold z129
 refine Dq.bN (within_dq _) fun _=>Dq.ite ibeq (fun h1=>?_) fun h1=>?_
 ·refine (Dq.cA emp fun _=>Dq.of rfl emp).iff ?_
  simp [h1]
 have hk:(t.Kind=2∨t.Kind=3)→Dq (z129_k1 N t true) ((t.Kind=1∧t.Message=str []∧t.Field=str [])∨((t.Kind=2∨t.Kind=3)∧isWord t.Field=true∧(t.Message=str []∨pathV t.Message=true))):=by
  intro hk
  unfold z129_k1
  simp only [cT]
  refine (Dq.bA (word_dq hN _) fun _=>Dq.orE emp fun _=>Dq.bS (path_dq hN _)).iff ?_
  simp [h1,hk]
 refine Dq.ite ibeq (fun h2=>hk (Or.inl h2)) fun h2=>?_
 cases h3:(t.Kind==3) with
 | true=>exact hk (Or.inr (ibeq.1 h3))
 | false =>
  have h3:¬ t.Kind=3:=fun h=>by rw [h] at h3;cases h3
  unfold z129_k1
  simp only [cF]
  exact Dq.fa.iff (by simp [h1,h2,h3])
def FldP (f:T4):Prop:=isWord f.Name=true∧(f.Sort'.Kind=1∨f.Sort'.Kind=2)∧Small f.Sort'.Lo∧Small f.Sort'.Hi∧(f.Sort'.Kind=2→0≤f.Sort'.Lo∧0≤f.Sort'.Hi)
def AtomP (a:T19):Prop:=TermP a.Left∧TermP a.Right∧a.Op∈marksL
def MsgP (m:T21):Prop:=pathV m.Name=true∧m.Fields.length≤4∧m.Where.length≤6∧(∀ f∈m.Fields,FldP f)∧∀ a∈m.Where,AtomP a
theorem minI_lt2 {a b c:Int}:decide (minI a b < c)=false↔c≤a∧c≤b:=by rw [decide_eq_false_iff_not];unfold minI;split<;>omega
theorem maxI_gt {a b c:Int}:decide (maxI a b > c)=false↔a≤c∧b≤c:=by rw [decide_eq_false_iff_not];unfold maxI;split<;>omega
include hN in
theorem mark_dq (s:ByteArray):Dq ((z130 N).bind fun x=>z123 N x s) (s∈marksL):=by
 have h:=contains_eq hN marksL (by decide) s
 refine Dq.of (b:=marksL.any fun x=>eqStr x s) h ?_
 rw [List.any_eq_true]
 constructor
 ·rintro ⟨x,hx,h⟩;rw [(eqStr_iff _ _).1 h] at hx;exact hx
 ·intro h;exact ⟨s,h,eqStr_refl s⟩
include hN in
theorem mval_dq (m:T21):Dq (z70 N m) (MsgP m):=by
 unfold z70
 refine Dq.bN (path_dq hN _) fun _=>Dq.cN (C:=m.Fields.length≤4) gt_lem fun h4=>Dq.cN (C:=m.Where.length≤6) gt_lem fun h6=>?_
 refine dq_all (P:=FldP) (E:=∀ a∈m.Where,AtomP a) (by omega) _ (fun n k x Q hk hx hq=>?_) (fun _ n k hk=>?_) (by omega)
 ·have key:∀ (lo:Int),(x.Sort'.Kind=2∧lo=0)∨(x.Sort'.Kind≠2∧lo=-999999)→Dq (z70_k5 N (k:Int) (z70_l4 N m n) x lo) (FldP x∧Q):=by
   intro lo hlo
   unfold z70_k5
   rw [w64_succ (show k < 4611686018427387904 by omega)]
   refine (Dq.bN (P:=(x.Sort'.Kind=1∨x.Sort'.Kind=2)∧(lo≤x.Sort'.Lo∧lo≤x.Sort'.Hi)∧(x.Sort'.Lo≤999999∧x.Sort'.Hi≤999999)∧Q) (word_dq hN _) fun hw=>?_).iff ?_
   ·have rest:(x.Sort'.Kind=1∨x.Sort'.Kind=2)→Dq (bif decide (minI x.Sort'.Lo x.Sort'.Hi < lo) then some false else bif decide (maxI x.Sort'.Lo x.Sort'.Hi > (999999:Int)) then some false else z70_l4 N m n ((k+1:Nat):Int)) ((lo≤x.Sort'.Lo∧lo≤x.Sort'.Hi)∧(x.Sort'.Lo≤999999∧x.Sort'.Hi≤999999)∧Q):=fun hkk =>
     Dq.cN minI_lt2 fun ha=>Dq.cN maxI_gt fun hb=>hq (by unfold FldP Small;exact ⟨hw,hkk,⟨by omega,by omega⟩,⟨by omega,by omega⟩,fun h2=>by omega⟩)
    cases h1:(x.Sort'.Kind != 1) with
    | false =>
     have h1:=nbeq.1 h1
     simp only [cF]
     exact (rest (Or.inl h1)).iff (by simp [h1])
    | true =>
     simp only [cT]
     have h1':¬ x.Sort'.Kind=1:=fun h=>by rw [h] at h1;cases h1
     refine (Dq.cN (C:=x.Sort'.Kind=2) nbeq fun h2=>rest (Or.inr h2)).iff ?_
     simp [h1']
   ·unfold FldP Small
    constructor
    ·rintro ⟨a,b,c,d,e⟩;exact ⟨⟨a,b,by omega,by omega,by omega⟩,e⟩
    ·rintro ⟨⟨a,b,c,d,e⟩,f⟩
     refine ⟨a,b,?_,by omega,f⟩
     rcases hlo with ⟨h,hl⟩ | ⟨h,hl⟩
     ·have:=e h;omega
     ·omega
  simp only [z70_l4,lt_t (get_lt hx),cT,idx_nat,hx,bS]
  exact Dq.ite ibeq (fun h2=>key 0 (Or.inl ⟨h2,rfl⟩)) fun h2=>key (-999999) (Or.inr ⟨h2,rfl⟩)
 ·simp only [z70_l4,lt_f hk,cF,z70_k3]
  refine (dq_all (xs:=m.Where) (P:=AtomP) (E:=True) (by omega) _ (fun n k x Q hk hx hq=>?_) (fun _ n k hk=>?_) (by omega)).iff (by simp)
  ·simp only [z70_l2,lt_t (get_lt hx),cT,idx_nat,hx,bS,w64_succ (show k < 4611686018427387904 by omega)]
   refine (Dq.bN (term_dq hN _) fun h1=>Dq.bN (term_dq hN _) fun h2=>?_:Dq _ (TermP x.Left∧TermP x.Right∧x.Op∈marksL∧Q)).iff (by unfold AtomP;simp only [and_assoc])
   exact Dq.bN (o1:=(z130 N).bind fun y=>z123 N y x.Op) (mark_dq hN _) fun h3=>hq ⟨h1,h2,h3⟩
  ·simp only [z70_l2,lt_f hk,cF,z70_k1]
   exact Dq.tr
def nM (m:T21):Prop:=m.Name.size≤4000000∧∀ a∈m.Where,a.Left.Message.size≤4000000∧a.Right.Message.size≤4000000
end Gp
end
section
namespace Gp
open Go Go.Kx Gx
variable {N:Nat}
theorem cat_eq {a b:ByteArray} (h:(bs a).length+(bs b).length≤140737488355328):catS a b=some (mkB (bs a++bs b)):=by
 have:=cat_mk (a:=bs a) (b:=bs b) (by omega)
 rw [mkB_bs,mkB_bs] at this
 exact this
theorem bs_str (l:List UInt8):bs (str l)=l:=bs_mkB l
def tabs (k:Nat):List UInt8:=List.replicate k 9
theorem tabs_len (k:Nat):(tabs k).length=k:=List.length_replicate
theorem tabs_succ (k:Nat):tabs (k+1)=tabs k++[9]:=List.replicate_succ'
def lineT (k:Nat) (F:List UInt8):List UInt8:=tabs k++(F++[10])
theorem lineT_len (k:Nat) (F:List UInt8):(lineT k F).length=k+(F.length+1):=by simp [lineT,tabs]
def dig (n:Int):List UInt8:=bs (itoaS n)
theorem dig_len (n:Int):(dig n).length≤26:=itoa_len n
theorem rep_eq (k:Nat) (hk:k≤1000000):z86 N (str [9]) (k:Int)=some (mkB (tabs k)):=by
 unfold z86
 have e:∀ k,repL (str [9]).data.toList k=List.replicate k 9:=by
  intro k
  induction k with
  | zero=>rfl
  | succ k ih=>rw [repL,ih];rfl
 rw [dT (show (0:Int)≤(k:Int) by omega),dT (show (k:Int)≤140737488355328 by omega),dT (show (str [9]).size * ((k:Int)).toNat≤140737488355328 by show 1 * _≤_;omega),e,Int.toNat_natCast]
 rfl
def joinT (sep:List UInt8) (l:List ByteArray):List UInt8:=joinL sep (l.map bs)
theorem join_eq2 (l:List ByteArray) (sep:List UInt8) (hl:l.length≤4194304) (h:(joinT sep l).length≤140737488355328):z25 N l (str sep)=some (mkB (joinT sep l)):=by
  unfold z25
  have e:joinL (str sep).data.toList (l.map (·.data.toList))=joinT sep l:=rfl
  rw [e,dT (show l.length≤140737488355328 by omega),dT h]
  rfl
theorem joinL_nil:∀ l:List (List UInt8),joinL [] l=l.flatten
  | []=>rfl
  | x::r=>by
    show x++(r.map (([]:List UInt8)++·)).flatten=(x::r).flatten
    have e:r.map (([]:List UInt8)++·)=r:=by
      have:(fun y:List UInt8=>[]++y)=id:=by funext y;simp
      show r.map (fun y=>[]++y)=r
      rw [this,List.map_id]
    rw [e];rfl
theorem joinL_len2 (sep:List UInt8) (M:Nat):∀ l:List (List UInt8),(∀ x∈l,x.length≤M)→(joinL sep l).length≤l.length * (M+sep.length)
  | [],_=>by simp [joinL]
  | x::r,h=>by
    have hx:=h x (List.mem_cons_self ..)
    have hr:∀ r:List (List UInt8),(∀ x∈r,x.length≤M)→((r.map (sep++·)).flatten).length≤r.length * (M+sep.length):=by
      intro r
      induction r with
      | nil=>intro _;simp
      | cons y r ih =>
        intro h
        have h1:=h y (List.mem_cons_self ..)
        have h2:=ih fun z hz=>h z (List.mem_cons_of_mem _ hz)
        simp only [List.map_cons,List.flatten_cons,lA,List.length_cons,Nat.add_mul,Nat.one_mul]
        omega
    have h2:=hr r fun z hz=>h z (List.mem_cons_of_mem _ hz)
    show (x++(r.map (sep++·)).flatten).length≤_
    simp only [lA,List.length_cons,Nat.add_mul,Nat.one_mul]
    omega
theorem apB_eq {B F:List UInt8} (h:B.length+F.length≤4294967296):apB (mkB B) (mkB F)=some (mkB (B++F)):=by
 unfold apB
 have e:(mkB B).size=B.length∧(mkB F).size=F.length:=⟨by rw [size_bs,bs_mkB],by rw [size_bs,bs_mkB]⟩
 rw [e.1,e.2,Nat.ble_eq_true_of_le (show B.length+F.length≤lim by show B.length+F.length≤4294967296;omega)]
 simp only [cT]
 refine congrArg some (bs_inj ?_)
 rw [bs_app,bs_mkB,bs_mkB,bs_mkB]
theorem line_eq (parts:List ByteArray) (B F:List UInt8) (k:Nat) (hF:(parts.map bs).flatten=F) (hp:parts.length≤4194304) (hk:k≤1000000) (h:B.length+(lineT k F).length≤4294967296) :
  z131_39 N parts ⟨mkB B,(k:Int)⟩=some ⟨mkB (B++lineT k F),(k:Int)⟩:=by
 subst hF
 rw [lineT_len] at h
 unfold z131_39
 have ej:joinT [] parts=(parts.map bs).flatten:=joinL_nil _
 rw [rep_eq k hk,bS,join_eq2 parts [] hp (by rw [ej];omega),bS,ej,cat_mk (by rw [tabs_len];omega),bS,show str [10]=mkB [10] from rfl,cat_mk (by simp only [lA,List.length_singleton,tabs_len,List.length_nil];omega),bS]
 unfold z52_38 z109_37
 simp only [bS]
 rw [apB_eq (by simp only [lA,List.length_singleton,tabs_len,List.length_nil];omega)]
 simp only [bS,lineT,aA]
theorem line_eq0 (parts:List ByteArray) (F:List UInt8) (hF:(parts.map bs).flatten=F) (hp:parts.length≤4194304) (h:(lineT 0 F).length≤4294967296) :
  z131_36 N parts ⟨ByteArray.empty,(0:Int)⟩=some ⟨mkB (lineT 0 F),(0:Int)⟩:=by
 subst hF
 rw [lineT_len] at h
 unfold z131_36
 have ej:joinT [] parts=(parts.map bs).flatten:=joinL_nil _
 show (z86 N (str [9]) ((0:Nat):Int)).bind _=_
 rw [rep_eq 0 (by omega),bS,join_eq2 parts [] hp (by rw [ej];omega),bS,ej,cat_mk (by rw [tabs_len];omega),bS,show str [10]=mkB [10] from rfl,cat_mk (by simp only [lA,List.length_singleton,tabs_len,List.length_nil];omega),bS]
 unfold z52_35 z109_34
 simp only [bS]
 rw [show ByteArray.empty=mkB [] from rfl,apB_eq (by simp only [lA,List.length_singleton,tabs_len,List.length_nil];omega)]
 simp only [bS,lineT,aA,List.nil_append]
end Gp
end
section
namespace Gp
open Go Go.Kx Gx
def termB (t:T23):List UInt8:=bif eqStr t.Message (str []) then bs t.Field else bs t.Message++[46]++bs t.Field
def termN (t:T23):List UInt8:=bif decide (t.N > 0) then [32,43,32]++dig t.N else bif decide (t.N < 0) then [32,45,32]++dig (0-t.N) else []
def termT (t:T23):List UInt8:=bif t.Kind==1 then dig t.N else (bif t.Kind==3 then [108,101,110,40]++termB t++[41] else termB t)++termN t
def fldT (f:T4):List UInt8:=bs f.Name++(bif f.Sort'.Kind==2 then [58,32,116,101,120,116,32] else [58,32,105,110,116,32])++dig f.Sort'.Lo++[46,46]++dig f.Sort'.Hi
def atomT (a:T19):List UInt8:=termT a.Left++[32]++bs a.Op++[32]++termT a.Right
def whereT (l:List T19):List UInt8:=match l with
 | []=>[]
 | _::_=>[32,119,104,101,114,101,32]++joinL [32,97,110,100,32] (l.map atomT)
def msgT (m:T21):List UInt8:=[109,101,115,115,97,103,101,32]++bs m.Name++[40]++joinL [44,32] (m.Fields.map fldT)++[41]++whereT m.Where++[59]
theorem word_len {s:ByteArray} (h:isWord s=true):(bs s).length≤16:=word_size h
theorem path_len {s:ByteArray} (h:pathV s=true):(bs s).length≤50:=by
 unfold pathV at h
 rw [Bool.and_eq_true,decide_eq_true_eq] at h
 exact h.1
theorem small_I64 {n:Int} (h:Small n):I64 n:=by unfold Small at h;unfold I64;omega
theorem termP_len {t:T23} (h:TermP t):(bs t.Message).length≤50∧(bs t.Field).length≤16:=by
 rcases h.2 with ⟨_,h1,h2⟩ | ⟨_,h1,h2⟩
 ·rw [h1,h2,bs_str];simp
 ·refine ⟨?_,word_len h1⟩
  rcases h2 with h2 | h2
  ·rw [h2,bs_str];simp
  ·exact path_len h2
theorem mark_len {s:ByteArray} (h:s∈marksL):(bs s).length≤2:=by
 have:∀ x∈marksL,(bs x).length≤2:=by
  intro x hx
  simp only [marksL,List.mem_cons,List.not_mem_nil,or_false] at hx
  rcases hx with h | h | h | h | h<;>subst h<;>(rw [bs_str];simp)
 exact this s h
theorem termT_len {t:T23} (h:TermP t):(termT t).length≤150:=by
 obtain ⟨h1,h2⟩:=termP_len h
 have hb:(termB t).length≤67:=by unfold termB;cases eqStr t.Message (str [])<;>simp<;>omega
 have hd:=dig_len t.N
 have hd2:=dig_len (0-t.N)
 have hn:(termN t).length≤29:=by
  unfold termN
  cases decide (t.N > 0)<;>cases decide (t.N < 0)<;>simp only [cT,cF,lA,List.length_cons,List.length_nil]<;>omega
 unfold termT
 cases (t.Kind==1)<;>cases (t.Kind==3)<;>simp only [cT,cF,lA,List.length_cons,List.length_nil]<;>omega
theorem fldT_len {f:T4} (h:FldP f):(fldT f).length≤100:=by
 have:=word_len h.1
 have h1:=dig_len f.Sort'.Lo
 have h2:=dig_len f.Sort'.Hi
 unfold fldT
 cases (f.Sort'.Kind==2)<;>simp only [cT,cF,lA,List.length_cons,List.length_nil]<;>omega
theorem atomT_len {a:T19} (h:AtomP a):(atomT a).length≤350:=by
 have h1:=termT_len h.1
 have h2:=termT_len h.2.1
 have h3:=mark_len h.2.2
 unfold atomT
 simp only [lA,List.length_cons,List.length_nil];omega
variable {N:Nat} (hN:4194304 < N)
theorem term_k1 {t:T23} (h:TermP t) (A:List UInt8) (hA:A.length≤100):z191_k1 N t (mkB A)=some (mkB (A++termN t)):=by
 unfold z191_k1 termN
 have hs:=h.1;unfold Small at hs
 have h1:=dig_len t.N
 have h2:=dig_len (0-t.N)
 unfold dig at h1 h2
 rw [itoa_eq (small_I64 h.1),w64_id (by omega) (by omega),itoa_eq (by unfold I64;omega)]
 cases decide (t.N > 0)<;>cases decide (t.N < 0)<;>simp only [cT,cF,bS,List.append_nil]
 all_goals simp (disch:=(simp only [bs_mkB,bs_str,lA,List.length_cons,List.length_nil];omega)) only [cat_eq,bS,bs_mkB,bs_str,dig]
theorem term_k2 {t:T23} (h:TermP t) (h1:(t.Kind==1)=false):z191_k2 N t (mkB (termB t))=some (mkB (termT t)):=by
 obtain ⟨q1,q2⟩:=termP_len h
 have hb:(termB t).length≤67:=by unfold termB;cases eqStr t.Message (str [])<;>simp<;>omega
 unfold z191_k2 termT
 rw [h1]
 cases (t.Kind==3)<;>simp only [cT,cF]
 ·exact term_k1 h _ (by omega)
 ·simp (disch:=(simp only [bs_mkB,bs_str,lA,List.length_cons,List.length_nil];omega)) only [cat_eq,bS,bs_mkB,bs_str]
  exact term_k1 h _ (by simp only [lA,List.length_cons,List.length_nil];omega)
theorem show_eq2 {t:T23} (h:TermP t):z191 N t=some (mkB (termT t)):=by
 obtain ⟨q1,q2⟩:=termP_len h
 unfold z191
 cases h1:(t.Kind==1) with
 | true =>
  simp only [cT,itoa_eq (small_I64 h.1),bS]
  unfold termT
  rw [h1];simp only [cT,dig,mkB_bs]
 | false =>
  simp only [cF]
  have e:(t.Message.toList==(str []).toList)=eqStr t.Message (str []):=rfl
  have k2:=term_k2 (N:=N) h h1
  unfold termB at k2
  rw [e]
  cases he:eqStr t.Message (str []) with
  | true =>
   rw [he] at k2
   simp only [cT,mkB_bs] at k2
   simp only [Bool.not_true,cF]
   exact k2
  | false =>
   rw [he] at k2
   simp only [cF] at k2
   simp only [Bool.not_false,cT]
   simp (disch:=(simp only [bs_mkB,bs_str,lA,List.length_cons,List.length_nil];omega)) only [cat_eq,bS,bs_mkB,bs_str]
   exact k2
theorem map_mk (f:T4→List UInt8) (l:List T4):(l.map fun x=>mkB (f x)).map bs=l.map f:=by
 rw [List.map_map];congr 1
theorem map_mk' (f:T19→List UInt8) (l:List T19):(l.map fun x=>mkB (f x)).map bs=l.map f:=by
 rw [List.map_map];congr 1
theorem fields_len {m:T21} (h:MsgP m):(joinL [44,32] (m.Fields.map fldT)).length≤500:=by
 have:=joinL_len2 [44,32] 100 (m.Fields.map fldT) (fun x hx=>by obtain ⟨f,hf,rfl⟩:=List.mem_map.1 hx;exact fldT_len (h.2.2.2.1 f hf))
 simp only [List.length_map,List.length_cons,List.length_nil] at this
 have:=h.2.1
 omega
theorem atoms_len {m:T21} (h:MsgP m):(joinL [32,97,110,100,32] (m.Where.map atomT)).length≤2200:=by
 have:=joinL_len2 [32,97,110,100,32] 350 (m.Where.map atomT) (fun x hx=>by obtain ⟨f,hf,rfl⟩:=List.mem_map.1 hx;exact atomT_len (h.2.2.2.2 f hf))
 simp only [List.length_map,List.length_cons,List.length_nil] at this
 have:=h.2.2.1
 omega
theorem whereT_len {m:T21} (h:MsgP m):(whereT m.Where).length≤2300:=by
 have:=atoms_len h
 unfold whereT
 cases hw:m.Where with
 | nil=>simp
 | cons a l=>rw [hw] at this;simp only [lA,List.length_cons,List.length_nil] at this ⊢;omega
theorem msgT_len {m:T21} (h:MsgP m):(msgT m).length≤3000:=by
 have h1:=fields_len h
 have h2:=whereT_len h
 have h3:=path_len h.1
 unfold msgT
 simp only [lA,List.length_cons,List.length_nil];omega
include hN in
theorem message_line {m:T21} (h:MsgP m) (B:List UInt8) (k:Nat) (hk:k≤1000) (hB:B.length+(lineT k (msgT m)).length≤4294967296) :
  z132_40 N m ⟨mkB B,(k:Int)⟩=some ⟨mkB (B++lineT k (msgT m)),(k:Int)⟩:=by
 have hf:=fields_len h
 have hw:=atoms_len h
 have hl1:=h.2.1;have hl2:=h.2.2.1
 unfold z132_40
 rw [(fold_loop m.Fields (z132_40_l4 N m ⟨mkB B,(k:Int)⟩) (fun s f=>s++[mkB (fldT f)]) (fun s=>z132_40_k3 N m ⟨mkB B,(k:Int)⟩ s) (fun j s=>s.length=j) (fun n j s f hi hx=>?_) (fun n j s hi hj=>?_) (N:=N) (s:=[]) (by omega) rfl).1]
 ·rw [snoc_fold (fun f=>mkB (fldT f))]
  rw [List.nil_append]
  unfold z132_40_k3
  rw [(fold_loop m.Where (z132_40_l2 N m ⟨mkB B,(k:Int)⟩ (m.Fields.map fun f=>mkB (fldT f))) (fun s a=>s++[mkB (atomT a)]) (fun s=>z132_40_k1 N m ⟨mkB B,(k:Int)⟩ (m.Fields.map fun f=>mkB (fldT f)) s) (fun j s=>s.length=j) (fun n j s a hi hx=>?_) (fun n j s hi hj=>?_) (N:=N) (s:=[]) (by omega) rfl).1]
  ·rw [snoc_fold (fun a=>mkB (atomT a)),List.nil_append]
   unfold z132_40_k1
   have j1:joinT [44,32] (m.Fields.map fun f=>mkB (fldT f))=joinL [44,32] (m.Fields.map fldT):=by unfold joinT;rw [map_mk]
   have j2:joinT [32,97,110,100,32] (m.Where.map fun f=>mkB (atomT f))=joinL [32,97,110,100,32] (m.Where.map atomT):=by unfold joinT;rw [map_mk']
   rw [join_eq2 (m.Where.map fun f=>mkB (atomT f)) _ (by simp;omega) (by rw [j2];omega),join_eq2 (m.Fields.map fun f=>mkB (fldT f)) _ (by simp;omega) (by rw [j1];omega),j1,j2]
   simp only [bS]
   cases hw':m.Where with
   | nil =>
    simp only [List.map_nil,List.length_nil]
    rw [show decide (((0:Nat):Int) > 0)=false from rfl,cF]
    rw [line_eq _ B (msgT m) k (by simp [bs_str,bs_mkB,msgT,whereT,hw',aA]) (by simp) (by omega) hB];rfl
   | cons a l =>
    rw [hw'] at hw
    rw [dT (by simp:(((((a::l).map fun a=>mkB (atomT a)).length:Nat)):Int) > 0),cT]
    rw [show str [32,119,104,101,114,101,32]=mkB [32,119,104,101,114,101,32] from rfl,cat_mk (by simp only [List.length_cons,List.length_nil] at hw ⊢;omega)]
    simp only [bS]
    rw [line_eq _ B (msgT m) k (by simp [bs_str,bs_mkB,msgT,whereT,hw',aA]) (by simp) (by omega) hB];rfl
  ·refine ⟨?_,by simp [hi]⟩
   have hx':=get_lt hx
   have ha:=h.2.2.2.2 a (List.mem_of_getElem? hx)
   have q1:=termT_len ha.1
   have q2:=termT_len ha.2.1
   have q3:=mark_len ha.2.2
   simp only [z132_40_l2,lt_t hx',cT,idx_nat,hx,bS,show_eq2 ha.1,show_eq2 ha.2.1,w64_succ (show j < 4611686018427387904 by omega)]
   simp (disch:=(simp only [bs_mkB,bs_str,lA,List.length_cons,List.length_nil];omega)) only [cat_eq,bS,bs_mkB,bs_str]
   rw [appL_some (by simp [hi];omega)]
   rfl
  ·simp only [z132_40_l2,lt_f hj,cF]
 ·refine ⟨?_,by simp [hi]⟩
  have hx':=get_lt hx
  have ha:=h.2.2.2.1 f (List.mem_of_getElem? hx)
  have q1:=word_len ha.1
  have q2:=dig_len f.Sort'.Lo
  have q3:=dig_len f.Sort'.Hi
  unfold dig at q2 q3
  have key:∀ T:List UInt8,T.length≤10→fldT f=bs f.Name++T++dig f.Sort'.Lo++[46,46]++dig f.Sort'.Hi→∀ ag:List ByteArray→Int→Option T25,z132_40_k5 N s (j:Int) ag f (str T)=ag (s++[mkB (fldT f)]) ((j+1:Nat):Int):=by
   intro T hT e ag
   unfold z132_40_k5
   rw [itoa_eq (small_I64 ha.2.2.1),itoa_eq (small_I64 ha.2.2.2.1),w64_succ (by omega),e]
   simp (disch:=(simp only [bs_mkB,bs_str,lA,List.length_cons,List.length_nil];omega)) only [cat_eq,bS,bs_mkB,bs_str]
   rw [appL_some (by simp [hi];omega)]
   rfl
  simp only [z132_40_l4,lt_t hx',cT,idx_nat,hx,bS]
  cases h2:(f.Sort'.Kind==2) with
  | true=>exact key [58,32,116,101,120,116,32] (by simp) (by unfold fldT;rw [h2];rfl) _
  | false=>exact key [58,32,105,110,116,32] (by simp) (by unfold fldT;rw [h2];rfl) _
 ·simp only [z132_40_l4,lt_f hj,cF]
end Gp
end
section
namespace Gp
open Go Go.Kx Gx
variable {N:Nat} (hN:4194304 < N)
end Gp
end
section
namespace Gp
open Go Go.Kx Gx
def commaT (l:List ByteArray):List UInt8:=joinT [44,32] l
def headT (first:Bool) (hd w last:List UInt8) (atEnd:Bool):List UInt8:=bif first then hd++[32,123] else [125,32]++(bif (atEnd && !last.isEmpty) then last else w)++[32,123]
def sendT (f:ByteArray) (t:List ByteArray) (n:ByteArray):List UInt8:=bs f++[32,45,62,32]++commaT t++[58,32]++bs n++[59]
def againT (n:ByteArray):List UInt8:=[97,103,97,105,110,32]++bs n++[59]
def callT (n:ByteArray) (t:List ByteArray) (a:ByteArray):List UInt8:=[99,97,108,108,32]++bs n++[40]++commaT t++[41,32,97,115,32]++bs a++[59]
def choiceT (f:ByteArray):List UInt8:=[99,104,111,105,99,101,32,97,116,32]++bs f
def withinT (f:ByteArray) (x:Int):List UInt8:=choiceT f++[32,119,105,116,104,105,110,32]++dig x
def loopT (n:ByteArray):List UInt8:=[108,111,111,112,32]++bs n
abbrev parT:List UInt8:=[112,97,114]
abbrev orT:List UInt8:=[111,114]
abbrev andT:List UInt8:=[97,110,100]
abbrev elseT:List UInt8:=[101,108,115,101]
mutual
def xI (k:Nat):T20→List UInt8
 | ⟨kd,f,t,n,a,x,b⟩ =>
  bif kd==1 then lineT k (sendT f t n)
  else bif kd==2 then (bif decide (x > 0) then xR k true (withinT f x) orT elseT b else xR k true (choiceT f) orT [] b)
  else bif kd==3 then xR k true (loopT n) [] [] b
  else bif kd==4 then lineT k (againT n)
  else bif kd==5 then xR k true parT andT [] b
  else bif kd==6 then lineT k (callT n t a)
  else []
def xL (k:Nat):List T20→List UInt8
 | []=>[]
 | x::l=>xI k x++xL k l
def xR (k:Nat) (first:Bool) (hd w last:List UInt8):List (List T20)→List UInt8
 | []=>lineT k [125]
 | b::l=>lineT k (headT first hd w last l.isEmpty)++(xL (k+1) b++xR k false hd w last l)
end
theorem xI_eq (k:Nat) (x:T20):xI k x=(bif x.Kind==1 then lineT k (sendT x.From x.To x.Name)
  else bif x.Kind==2 then (bif decide (x.Ticks > 0) then xR k true (withinT x.From x.Ticks) orT elseT x.Blocks else xR k true (choiceT x.From) orT [] x.Blocks)
  else bif x.Kind==3 then xR k true (loopT x.Name) [] [] x.Blocks
  else bif x.Kind==4 then lineT k (againT x.Name)
  else bif x.Kind==5 then xR k true parT andT [] x.Blocks
  else bif x.Kind==6 then lineT k (callT x.Name x.To x.As)
  else []):=by cases x;simp only [xI]
variable {N:Nat}
theorem blocks_line (hN:4194304 < N) {rc:List T20→T25→Option T25} {bl:List (List T20)} {k:Nat} (hk:k≤1000) (hbl:bl.length≤4194304) (hd w last:List UInt8)
  (hrc:∀ b∈bl,∀ B:List UInt8,B.length+(xL (k+1) b).length≤4294967296→rc b ⟨mkB B,((k+1:Nat):Int)⟩=some ⟨mkB (B++xL (k+1) b),((k+1:Nat):Int)⟩)
  (B:List UInt8) (hB:B.length+(xR k true hd w last bl).length≤4294967296) :
  z192_41 N rc (str hd) (str w) (str last) bl ⟨mkB B,(k:Int)⟩=some ⟨mkB (B++xR k true hd w last bl),(k:Int)⟩:=by
 unfold z192_41
 have key:∀ (l:List (List T20)) (j n:Nat) (B:List UInt8),bl.drop j=l→l.length < n→B.length+(xR k (decide (j=0)) hd w last l).length≤4294967296 →
   z192_41_l2 N rc (str hd) (str w) (str last) bl n (mkB B) (k:Int) (j:Int)=some ⟨mkB (B++xR k (decide (j=0)) hd w last l),(k:Int)⟩:=by
  intro l
  induction l with
  | nil =>
   intro j n B h hn hL
   obtain ⟨n,rfl⟩:∃ m,n=m+1:=⟨n-1,by simp at hn;omega⟩
   simp only [xR] at hL ⊢
   simp only [z192_41_l2,lt_f (drop_nil h),cF,z192_41_k1]
   rw [line_eq [str [125]] B [125] k (by simp [bs_str]) (by simp) (by omega) hL];rfl
  | cons b l ih =>
   intro j n B h hn hL
   obtain ⟨n,rfl⟩:∃ m,n=m+1:=⟨n-1,by simp at hn;omega⟩
   obtain ⟨a,c,d⟩:=drop_cons h
   simp only [xR,lA] at hL
   have hlen:bl.length=j+1+l.length:=by
    have:=congrArg List.length d
    rw [List.length_drop] at this;omega
   have ih':=ih (j+1) n (B++lineT k (headT (decide (j=0)) hd w last l.isEmpty)++xL (k+1) b) d (by simp at hn;omega) (by
    rw [dF (by omega:¬ j+1=0)];simp only [lA];omega)
   rw [dF (by omega:¬ j+1=0)] at ih'
   have rest:z192_41_k3 rc (j:Int) (z192_41_l2 N rc (str hd) (str w) (str last) bl n) b (mkB (B++lineT k (headT (decide (j=0)) hd w last l.isEmpty))) (k:Int)=some ⟨mkB (B++xR k (decide (j=0)) hd w last (b::l)),(k:Int)⟩:=by
    unfold z192_41_k3
    rw [w64_succ (by omega:k < 4611686018427387904),hrc b (List.mem_of_getElem? c) _ (by simp only [lA];omega)]
    simp only [bS]
    rw [w64_id (by omega) (by omega),w64_succ (by omega),show ((k+1:Nat):Int)-1=(k:Int) by omega,ih']
    simp only [xR,aA]
   have ln:∀ parts:List ByteArray,parts.length≤3→(parts.map bs).flatten=headT (decide (j=0)) hd w last l.isEmpty→z131_39 N parts ⟨mkB B,(k:Int)⟩=some ⟨mkB (B++lineT k (headT (decide (j=0)) hd w last l.isEmpty)),(k:Int)⟩:=fun parts h3 hp =>
    line_eq parts B _ k hp (by omega) (by omega) (by omega)
   simp only [z192_41_l2,lt_t a,cT,idx_nat,c,bS]
   by_cases h0:j=0
   ·rw [show ((j:Int)==0)=true by simp [h0],cT]
    rw [ln [str hd,str [32,123]] (by simp) (by simp [bs_str,headT,h0])]
    exact rest
   ·rw [show ((j:Int)==0)=false by simp;omega,cF]
    cases l with
    | nil =>
     rw [show ((j:Int)==w64 ((bl.length:Int)-1))=true by rw [w64_id (by omega) (by omega)];simp at hlen ⊢;omega,cT]
     cases last with
     | nil =>
      rw [show (!((str []).toList==(str []).toList))=false by rw [toList_bs,bs_str];rfl,cF]
      rw [ln [str [125,32],str w,str [32,123]] (by simp) (by simp [bs_str,headT,h0])]
      exact rest
     | cons z zs =>
      rw [show (!((str (z::zs)).toList==(str []).toList))=true by rw [toList_bs,toList_bs,bs_str,bs_str];rfl,cT]
      rw [ln [str [125,32],str (z::zs),str [32,123]] (by simp) (by simp [bs_str,headT,h0])]
      exact rest
    | cons z zs =>
     rw [show ((j:Int)==w64 ((bl.length:Int)-1))=false by rw [w64_id (by omega) (by omega)];simp at hlen ⊢;omega,cF]
     rw [ln [str [125,32],str w,str [32,123]] (by simp) (by simp [bs_str,headT,h0])]
     exact rest
 have:=key bl 0 N B rfl (by omega) hB
 exact this
theorem items_src:∀ (N:Nat) (xs:List T20) (k:Nat) (B:List UInt8),4194306+dL xs≤N→xs.length≤4194304→bL xs→shL xs→k+dL xs≤1000→B.length+(xL k xs).length≤4294967296 →
  z133_42 N xs ⟨mkB B,(k:Int)⟩=some ⟨mkB (B++xL k xs),(k:Int)⟩
 | 0,_,_,_,h,_,_,_,_,_=>by omega
 | N+1,xs,k,B,h,hs,hb,hsh,hk,hB=>by
  show z133_42_b N (z133_42 N) xs ⟨mkB B,(k:Int)⟩=_
  unfold z133_42_b
  have hN:4194304 < N:=by omega
  have key:∀ (l:List T20) (j n:Nat) (B:List UInt8),xs.drop j=l→l.length < n→shL l→dL l≤dL xs→B.length+(xL k l).length≤4294967296 →
    z133_42_l2 N (z133_42 N) xs n (mkB B) (k:Int) (j:Int)=some ⟨mkB (B++xL k l),(k:Int)⟩:=by
   intro l
   induction l with
   | nil =>
    intro j n B h hn _ _ hL
    obtain ⟨n,rfl⟩:∃ m,n=m+1:=⟨n-1,by simp at hn;omega⟩
    simp only [z133_42_l2,lt_f (drop_nil h),cF,z133_42_k1,xL,List.append_nil]
   | cons x l ih =>
    intro j n B h hn hsh' hdl hL
    obtain ⟨n,rfl⟩:∃ m,n=m+1:=⟨n-1,by simp at hn;omega⟩
    obtain ⟨a,c,d⟩:=drop_cons h
    have hm:=List.mem_of_getElem? c
    have hbx:=(bI_eq _).1 (bL_mem hb hm)
    have hdx:=dL_mem hm
    rw [dI_eq] at hdx
    simp only [shL,shI_eq] at hsh'
    obtain ⟨⟨hP,hsb⟩,hsl⟩:=hsh'
    simp only [xL,lA] at hL
    simp only [dL] at hdl
    have step:∀ (o:Option T25),o=some ⟨mkB (B++xI k x),(k:Int)⟩→(o.bind fun y=>z133_42_l2 N (z133_42 N) xs n y.Builder y.depth' (w64 ((j:Int)+1)))=some ⟨mkB (B++xL k (x::l)),(k:Int)⟩:=by
     intro o ho
     rw [ho,bS,w64_succ (by omega:j < 4611686018427387904)]
     have:=ih (j+1) n (B++xI k x) d (by simp at hn;omega) hsl (by omega) (by simp only [lA];omega)
     rw [this];simp only [xL,aA]
    have blk:∀ hd w last,B.length+(xR k true hd w last x.Blocks).length≤4294967296→z192_41 N (z133_42 N) (str hd) (str w) (str last) x.Blocks ⟨mkB B,(k:Int)⟩=some ⟨mkB (B++xR k true hd w last x.Blocks),(k:Int)⟩:=by
     intro hd w last hB
     refine blocks_line hN (by omega) hbx.2.1 hd w last (fun b hb' B' hB'=>?_) B hB
     have hbb:=bLL_mem hbx.2.2 hb'
     have hdb:=dLL_mem hb'
     have hsb':∀ {l:List (List T20)},shLL l→∀ {b},b∈l→shL b:=by
      intro l
      induction l with
      | nil=>intro _ b hb;cases hb
      | cons y l ih =>
       intro hy b hb
       simp only [shLL] at hy
       rcases List.mem_cons.1 hb with rfl | hb
       ·exact hy.1
       ·exact ih hy.2 hb
     exact items_src N b (k+1) B' (by omega) hbb.1 hbb.2 (hsb' hsb hb') (by omega) hB'
    have hx:=xI_eq k x
    simp only [z133_42_l2,lt_t a,cT,idx_nat,c,bS]
    unfold ShP at hP
    rcases hP with hP | hP | hP | hP | hP | hP
    ·rw [hP.1] at hx ⊢
     rw [hx] at hL
     have hx:xI k x=lineT k (sendT x.From x.To x.Name):=hx
     have hL:B.length+((lineT k (sendT x.From x.To x.Name)).length+(xL k l).length)≤4294967296:=hL
     have hc:(joinT [44,32] x.To).length≤4294967296:=by
      rw [lineT_len] at hL
      unfold sendT commaT at hL
      simp only [lA] at hL;omega
     show ((z25 N x.To (str [44,32])).bind _)=_
     rw [join_eq2 x.To [44,32] hbx.1 (by omega),bS]
     refine step _ ?_
     rw [hx]
     exact line_eq _ B _ k (by simp [bs_str,bs_mkB,sendT,commaT,aA]) (by simp) (by omega) (by omega)
    ·rw [hP.1] at hx ⊢
     have hw:=word_len hP.2.1
     have hx:xI k x=(bif decide (x.Ticks > 0) then xR k true (withinT x.From x.Ticks) orT elseT x.Blocks else xR k true (choiceT x.From) orT [] x.Blocks):=hx
     rw [hx] at hL
     show (bif decide (x.Ticks > 0) then _ else _)=_
     have hd:=dig_len x.Ticks
     unfold dig at hd
     cases ht:decide (x.Ticks > 0) with
     | true =>
      rw [ht] at hx hL
      simp only [cT] at hL hx ⊢
      rw [itoa_eq (by unfold I64;omega)]
      have e:str (withinT x.From x.Ticks)=mkB ([99,104,111,105,99,101,32,97,116,32]++bs x.From++[32,119,105,116,104,105,110,32]++bs (itoaS x.Ticks)):=rfl
      simp (disch:=(simp only [bs_mkB,bs_str,lA,List.length_cons,List.length_nil];omega)) only [cat_eq,bS,bs_mkB,bs_str]
      rw [← e]
      refine step _ ?_
      rw [hx]
      exact blk (withinT x.From x.Ticks) orT elseT (by omega)
     | false =>
      rw [ht] at hx hL
      simp only [cF] at hL hx ⊢
      have e:str (choiceT x.From)=mkB ([99,104,111,105,99,101,32,97,116,32]++bs x.From):=rfl
      simp (disch:=(simp only [bs_mkB,bs_str,lA,List.length_cons,List.length_nil];omega)) only [cat_eq,bS,bs_mkB,bs_str]
      rw [← e]
      refine step _ ?_
      rw [hx]
      exact blk (choiceT x.From) orT [] (by omega)
    ·rw [hP.1] at hx ⊢
     have hw:=path_len hP.2.2.2.1
     have hx:xI k x=xR k true (loopT x.Name) [] [] x.Blocks:=hx
     rw [hx] at hL
     show ((catS (str [108,111,111,112,32]) x.Name).bind _)=_
     have e:str (loopT x.Name)=mkB ([108,111,111,112,32]++bs x.Name):=rfl
     simp (disch:=(simp only [bs_mkB,bs_str,lA,List.length_cons,List.length_nil];omega)) only [cat_eq,bS,bs_mkB,bs_str]
     rw [← e]
     refine step _ ?_
     rw [hx]
     exact blk (loopT x.Name) [] [] (by omega)
    ·rw [hP.1] at hx ⊢
     have hx:xI k x=lineT k (againT x.Name):=hx
     rw [hx] at hL
     refine step _ ?_
     rw [hx]
     exact line_eq _ B _ k (by simp [bs_str,againT,aA]) (by simp) (by omega) (by omega)
    ·rw [hP.1] at hx ⊢
     have hx:xI k x=xR k true parT andT [] x.Blocks:=hx
     rw [hx] at hL
     refine step _ ?_
     rw [hx]
     exact blk parT andT [] (by omega)
    ·rw [hP.1] at hx ⊢
     have hx:xI k x=lineT k (callT x.Name x.To x.As):=hx
     rw [hx] at hL
     have hc:(joinT [44,32] x.To).length≤4294967296:=by
      rw [lineT_len] at hL
      unfold callT commaT at hL
      simp only [lA] at hL;omega
     show ((z25 N x.To (str [44,32])).bind _)=_
     rw [join_eq2 x.To [44,32] hbx.1 (by omega),bS]
     refine step _ ?_
     rw [hx]
     exact line_eq _ B _ k (by simp [bs_str,bs_mkB,callT,commaT,aA]) (by simp) (by omega) (by omega)
  exact key xs 0 N B rfl (by omega) hsh (Nat.le_refl _) hB
end Gp
end
section
namespace Gp
open Go Go.Kx Gx
variable {N:Nat}
theorem shLL_mem:∀ {l:List (List T20)} {b},shLL l→b∈l→shL b
 | y::l,b,hs,h=>by
  simp only [shLL] at hs
  rcases List.mem_cons.1 h with rfl | h
  ·exact hs.1
  ·exact shLL_mem hs.2 h
theorem shL_mem:∀ {l:List T20} {b},shL l→b∈l→shI b
 | y::l,b,hs,h=>by
  simp only [shL] at hs
  rcases List.mem_cons.1 h with rfl | h
  ·exact hs.1
  ·exact shL_mem hs.2 h
end Gp
end
section
namespace Gp
open Go Go.Kx Gx
theorem lines_at {α γ:Type} (xs:List α) (F:Nat→ByteArray→Int→γ) (fin:ByteArray→γ) (g:α→List UInt8) (L:Nat) (hs:xs.length≤4194304)
  (h1:∀ (n k:Nat) x A,k < 4194304→xs[k]? = some x→A.length+(g x).length≤L→F (n+1) (mkB A) (k:Int)=F n (mkB (A++g x)) ((k+1:Nat):Int))
  (h2:∀ (n k:Nat) A,xs.length≤k→k≤xs.length→A.length≤L→F (n+1) (mkB A) (k:Int)=fin (mkB A)):∀ (l:List α) (k n:Nat) (A:List UInt8),k≤xs.length→xs.drop k=l→l.length < n→A.length+((l.map g).flatten).length≤L→F n (mkB A) (k:Int)=fin (mkB (A++(l.map g).flatten)):=by
 intro l
 induction l with
 | nil =>
  intro k n A hk h hn hL
  obtain ⟨n,rfl⟩:∃ m,n=m+1:=⟨n-1,by simp at hn;omega⟩
  rw [h2 n k A (drop_nil h) hk (by omega)];simp
 | cons x l ih =>
  intro k n A hk h hn hL
  obtain ⟨n,rfl⟩:∃ m,n=m+1:=⟨n-1,by simp at hn;omega⟩
  obtain ⟨a,c,d⟩:=drop_cons h
  rw [List.map_cons,List.flatten_cons,lA] at hL
  rw [h1 n k x A (by omega) c (by omega),ih (k+1) n _ (by omega) d (by simp at hn;omega) (by rw [lA];omega)]
  simp only [List.map_cons,List.flatten_cons,aA]
def protHead (p:T22):List UInt8:=[112,114,111,116,111,99,111,108,32]++bs p.Name++[40]++commaT p.Roles++[41,32,123]
def msgLine (m:T21):List UInt8:=lineT 1 (msgT m)
def protT (p:T22):List UInt8:=lineT 0 (protHead p)++(p.Messages.map msgLine).flatten++xL 1 p.Body++lineT 0 [125]
def srcT (l:List T22):List UInt8:=(l.map protT).flatten
def ProtP (p:T22):Prop:=isWord p.Name=true∧WordsP p.Roles 6∧p.Messages.length≤40∧shL p.Body∧dL p.Body≤10∧cL p.Body≤300∧∀ m∈p.Messages,MsgP m
theorem comma_len {l:List ByteArray} {k:Nat} (h:WordsP l k) (hk:k≤6):(commaT l).length≤108:=by
 have:=joinL_len2 [44,32] 16 (l.map bs) (fun x hx=>by obtain ⟨w,hw,rfl⟩:=List.mem_map.1 hx;exact word_len (h.2.2 w hw))
 simp only [List.length_map,List.length_cons,List.length_nil] at this
 have:=h.2.1
 unfold commaT joinT
 omega
theorem headT_len (first:Bool) (hd w last:List UInt8) (e:Bool) (h1:hd.length≤70) (h2:w.length≤10) (h3:last.length≤10):(headT first hd w last e).length≤72:=by
 unfold headT
 cases first<;>cases (e && !last.isEmpty)<;>simp only [cT,cF,lA,List.length_cons,List.length_nil]<;>omega
mutual
theorem xI_len:∀ (x:T20) (k:Nat),shI x→k+dI x≤20→(xI k x).length≤1000 * cIz x
 | ⟨kd,f,t,n,a,x,b⟩,k,hs,hk=>by
  simp only [shI,dI,cIz] at hs hk ⊢
  obtain ⟨hP,hsb⟩:=hs
  have hr:∀ hd w last,hd.length≤70→w.length≤10→last.length≤10→(xR k true hd w last b).length≤100 * (b.length+1)+1000 * cLL b:=fun hd w last h1 h2 h3=>xR_len b k true hd w last hsb (by omega) h1 h2 h3
  unfold ShP at hP
  simp only at hP
  rcases hP with hP | hP | hP | hP | hP | hP
  ·rw [hP.1]
   have h1:=word_len hP.2.1
   have h2:=comma_len hP.2.2.1 (by omega)
   have h3:=path_len hP.2.2.2.1
   show (lineT k (sendT f t n)).length≤_
   rw [lineT_len];unfold sendT
   simp only [lA,List.length_cons,List.length_nil];omega
  ·rw [hP.1]
   have h1:=word_len hP.2.1
   have h2:=dig_len x
   show (bif decide (x > 0) then xR k true (withinT f x) orT elseT b else xR k true (choiceT f) orT [] b).length≤_
   have h3:(withinT f x).length≤70:=by unfold withinT choiceT;simp only [lA,List.length_cons,List.length_nil];omega
   have h4:(choiceT f).length≤70:=by unfold choiceT;simp only [lA,List.length_cons,List.length_nil];omega
   have q1:=hr (withinT f x) orT elseT h3 (by simp) (by simp)
   have q2:=hr (choiceT f) orT [] h4 (by simp) (by simp)
   cases decide (x > 0)<;>simp only [cT,cF]<;>omega
  ·rw [hP.1]
   have h1:=path_len hP.2.2.2.1
   show (xR k true (loopT n) [] [] b).length≤_
   have h4:(loopT n).length≤70:=by unfold loopT;simp only [lA,List.length_cons,List.length_nil];omega
   have q:=hr (loopT n) [] [] h4 (by simp) (by simp)
   omega
  ·rw [hP.1]
   have h3:=path_len hP.2.2.2.1
   show (lineT k (againT n)).length≤_
   rw [lineT_len];unfold againT
   simp only [lA,List.length_cons,List.length_nil];omega
  ·rw [hP.1]
   show (xR k true parT andT [] b).length≤_
   have q:=hr parT andT [] (by simp) (by simp) (by simp)
   omega
  ·rw [hP.1]
   have h1:=word_len hP.2.2.2.1
   have h2:=comma_len hP.2.2.1 (by omega)
   have h3:=word_len hP.2.2.2.2.1
   show (lineT k (callT n t a)).length≤_
   rw [lineT_len];unfold callT
   simp only [lA,List.length_cons,List.length_nil];omega
theorem xL_len:∀ (l:List T20) (k:Nat),shL l→k+dL l≤20→(xL k l).length≤1000 * cL l
 | [],k,_,_=>by simp [xL]
 | x::l,k,hs,hk=>by
  simp only [shL,dL] at hs hk
  have h1:=xI_len x k hs.1 (by omega)
  have h2:=xL_len l k hs.2 (by omega)
  simp only [xL,cL,lA];omega
theorem xR_len:∀ (l:List (List T20)) (k:Nat) (first:Bool) (hd w last:List UInt8),shLL l→k+dLL l+1≤20→hd.length≤70→w.length≤10→last.length≤10→(xR k first hd w last l).length≤100 * (l.length+1)+1000 * cLL l
 | [],k,first,hd,w,last,_,hk,_,_,_=>by simp only [xR,lineT_len,List.length_cons,List.length_nil];omega
 | b::l,k,first,hd,w,last,hs,hk,h1,h2,h3=>by
  simp only [shLL,dLL] at hs hk
  have q1:=xL_len b (k+1) hs.1 (by omega)
  have q2:=xR_len l k false hd w last hs.2 (by omega) h1 h2 h3
  have q3:=headT_len first hd w last l.isEmpty h1 h2 h3
  simp only [xR,cLL,lA,lineT_len,List.length_cons];omega
end
theorem flat_len {α:Type} (g:α→List UInt8) (M:Nat):∀ l:List α,(∀ x∈l,(g x).length≤M)→((l.map g).flatten).length≤l.length * M
 | [],_=>by simp
 | x::l,h=>by
  have h1:=h x (List.mem_cons_self ..)
  have h2:=flat_len g M l fun z hz=>h z (List.mem_cons_of_mem _ hz)
  simp only [List.map_cons,List.flatten_cons,lA,List.length_cons,Nat.add_mul,Nat.one_mul];omega
theorem protT_len {p:T22} (h:ProtP p):(protT p).length≤1000000:=by
 obtain ⟨h1,h2,h3,h4,h5,h6,h7⟩:=h
 have q1:=word_len h1
 have q2:=comma_len h2 (Nat.le_refl _)
 have q3:=flat_len msgLine 3010 p.Messages (fun m hm=>by have:=msgT_len (h7 m hm);unfold msgLine;rw [lineT_len];omega)
 have q4:=xL_len p.Body 1 h4 (by omega)
 have q5:p.Messages.length * 3010≤40 * 3010:=Nat.mul_le_mul_right _ h3
 unfold protT protHead
 simp only [lA,lineT_len,List.length_cons,List.length_nil];omega
theorem srcT_len {l:List T22} (hl:l.length≤4194304) (h:∀ p∈l,ProtP p) (h10:l.length≤10):(srcT l).length≤10000000:=by
 have:=flat_len protT 1000000 l fun p hp=>protT_len (h p hp)
 unfold srcT
 have:l.length * 1000000≤10 * 1000000:=Nat.mul_le_mul_right _ h10
 omega
end Gp
end
section
namespace Gp
open Go Go.Kx Gx
variable {N:Nat}
structure Pk (N:Nat) (p:T22):Prop where
 v:ProtP p
 l:p.Body.length≤4194304
 b:bL p.Body
theorem Pk.r {p:T22} (h:Pk N p):p.Roles.length≤6:=h.v.2.1.2.1
theorem done_eq (A:List UInt8) (h0:0 < A.length) (hA:A.length≤4294967296):z53_43 N ⟨mkB A,(0:Int)⟩=some (mkB A):=by
 unfold z53_43
 have e:(mkB A).size=A.length:=by rw [size_bs,bs_mkB]
 have g:gdB (mkB A)=some ():=by
  unfold gdB
  rw [e,show Nat.beq A.length 0=false by cases h:A.length with | zero=>omega | succ n=>rfl,Nat.ble_eq_true_of_le (show A.length≤lim by show A.length≤4294967296;omega)]
  rfl
 rw [g];rfl
theorem prot_body (hN:4194320 < N) {p:T22} (h:Pk N p) (A:List UInt8) (hA:A.length≤100000000) :
  (z133_42 N p.Body ⟨mkB A,(1:Int)⟩).bind (fun y=>z131_39 N ([(str [125])]:List ByteArray) (⟨y.Builder,(w64 (y.depth'-(1:Int)))⟩:T25))=some ⟨mkB (A++xL 1 p.Body++lineT 0 [125]),(0:Int)⟩:=by
 obtain ⟨h1,h2,h3,h4,h5,h6,h7⟩:=h.v
 have q4:=xL_len p.Body 1 h4 (by omega)
 rw [show (1:Int)=((1:Nat):Int) from rfl,items_src N p.Body 1 A (by omega) h.l h.b h4 (by omega) (by omega),bS]
 show z131_39 N [str [125]] ⟨mkB (A++xL 1 p.Body),w64 (((1:Nat):Int)-((1:Nat):Int))⟩=_
 rw [show w64 (((1:Nat):Int)-((1:Nat):Int))=((0:Nat):Int) from rfl]
 rw [line_eq [str [125]] _ [125] 0 (by simp [bs_str]) (by simp) (by omega) (by simp only [lA,lineT_len,List.length_cons,List.length_nil];omega)]
 rfl
theorem msgs_len {p:T22} (h:ProtP p):((p.Messages.map msgLine).flatten).length≤120400:=by
 have q3:=flat_len msgLine 3010 p.Messages (fun m hm=>by have:=msgT_len (h.2.2.2.2.2.2 m hm);unfold msgLine;rw [lineT_len];omega)
 have q5:p.Messages.length * 3010≤40 * 3010:=Nat.mul_le_mul_right _ h.2.2.1
 omega
theorem head_parts (p:T22):(([(str [112,114,111,116,111,99,111,108,32]),p.Name,(str [40]),mkB (joinT [44,32] p.Roles),(str [41,32,123])]:List ByteArray).map bs).flatten=protHead p:=by
 simp [bs_str,bs_mkB,protHead,commaT,aA]
theorem source_eq (hN:4194320 < N) (l:List T22) (hl:l.length≤10) (h:∀ p∈l,Pk N p):z71 N l=some (mkB (srcT l)):=by
 have hs:=srcT_len (l:=l) (by omega) (fun p hp=>(h p hp).v) hl
 unfold z71
 cases hll:l with
 | nil=>rfl
 | cons p r =>
  rw [← hll]
  have hlt:decide ((0:Int) < (l.length:Int))=true:=dT (by rw [hll];simp)
  have h0:l[0]? = some p:=by rw [hll];rfl
  have hp:=h p (List.mem_of_getElem? h0)
  have e:srcT l=protT p++(r.map protT).flatten:=by rw [hll];rfl
  have hpl:=protT_len hp.v
  have hml:=msgs_len hp.v
  have hL:=hs
  rw [e,lA] at hL
  have hh:(lineT 0 (protHead p)).length≤200:=by
   have:=word_len hp.v.1
   have:=comma_len hp.v.2.1 (Nat.le_refl _)
   unfold protHead;simp only [lA,lineT_len,List.length_cons,List.length_nil];omega
  have hc:∀ q:T22,ProtP q→(joinT [44,32] q.Roles).length≤108:=fun q hq=>comma_len hq.2.1 (Nat.le_refl _)
  rw [hlt,cT,show idx l (0:Int)=some p by rw [show (0:Int)=((0:Nat):Int) from rfl,idx_nat,h0]]
  simp only [bS]
  rw [join_eq2 p.Roles [44,32] (by have:=hp.r;omega) (by have:=hc p hp.v;omega),bS,line_eq0 _ _ (head_parts p) (by simp) (by omega)]
  simp only [bS]
  rw [show w64 ((0:Int)+1)=(1:Int) from rfl]
  -- the first protocol's messages
  have msgs:∀ (q:T22),Pk N q→∀ (F:Nat→ByteArray→Int→Option ByteArray) (fin:ByteArray→Option ByteArray) (A:List UInt8),A.length≤50000000 →
    (∀ (n k:Nat) (m:T21) (A:List UInt8),q.Messages[k]? = some m→z132_40 N m ⟨mkB A,(1:Int)⟩=some ⟨mkB (A++msgLine m),(1:Int)⟩→k < 4194304→F (n+1) (mkB A) (k:Int)=F n (mkB (A++msgLine m)) ((k+1:Nat):Int)) →
    (∀ (n k:Nat) (A:List UInt8),q.Messages.length≤k→F (n+1) (mkB A) (k:Int)=fin (mkB A))→F N (mkB A) (0:Int)=fin (mkB (A++(q.Messages.map msgLine).flatten)):=by
   intro q hq F fin A hA g1 g2
   have hq3:=hq.v.2.2.1
   have hml:=msgs_len hq.v
   exact lines_at q.Messages F fin msgLine 100000000 (by omega) (fun n k m A hk hm hA=>g1 n k m A hm (by
    have hm':=hq.v.2.2.2.2.2.2 m (List.mem_of_getElem? hm)
    exact message_line (by omega) hm' A 1 (by omega) (by show A.length+(msgLine m).length≤_;omega)) hk) (fun n k A h1 _ h3=>g2 n k A h1) q.Messages 0 N A (by omega) rfl (by omega) (by omega)
  rw [msgs p hp (fun n b k=>z71_l5 N l p n b (1:Int) k) (fun b=>z71_k4 N l p b (1:Int)) (lineT 0 (protHead p)) (by omega) (fun n k m A hm hline hk=>?_) (fun n k A hk=>?_)]
  ·unfold z71_k4
   have hb:=prot_body hN hp (lineT 0 (protHead p)++(p.Messages.map msgLine).flatten) (by simp only [lA];omega)
   rw [← Option.bind_assoc] 
   rw [hb,bS]
   show z71_l1 N l N (mkB _) (0:Int) (w64 ((0:Int)+1))=_
   rw [show w64 ((0:Int)+1)=((1:Nat):Int) from rfl]
   have e2:lineT 0 (protHead p)++(p.Messages.map msgLine).flatten++xL 1 p.Body++lineT 0 [125]=protT p:=rfl
   rw [e2]
   rw [lines_at l (fun n b k=>z71_l1 N l n b (0:Int) k) (fun b=>(z53_43 N (⟨b,0⟩:T25)).bind fun x=>some x) protT 10000000 (by omega) (fun n k q A hk hq hA=>?_) (fun n k A hk _ hA=>?_) r 1 N (protT p) (by rw [hll];simp) (by rw [hll];rfl) (by rw [hll] at hl;simp at hl;omega) (by omega)]
   ·rw [← e,done_eq _ (by rw [e];unfold protT protHead;simp only [lA,lineT_len,List.length_cons];omega) (by omega)]
    rfl
   ·have hq':=h q (List.mem_of_getElem? hq)
    have hqr:=hq'.r
    have hqc:=hc q hq'.v
    have hqm:=msgs_len hq'.v
    have hqh:(lineT 0 (protHead q)).length≤200:=by
     have:=word_len hq'.v.1
     have:=comma_len hq'.v.2.1 (Nat.le_refl _)
     unfold protHead;simp only [lA,lineT_len,List.length_cons,List.length_nil];omega
    simp only [z71_l1,lt_t (get_lt hq),cT,idx_nat,hq,bS]
    rw [join_eq2 q.Roles [44,32] (by omega) (by omega),bS]
    have hline:=line_eq (N:=N) _ A _ 0 (head_parts q) (by simp) (by omega) (by omega)
    rw [show (((0:Nat):Int))=(0:Int) from rfl] at hline
    rw [hline]
    simp only [bS]
    rw [show w64 ((0:Int)+1)=(1:Int) from rfl]
    rw [msgs q hq' (fun n' b j=>z71_l3 N (k:Int) (z71_l1 N l n) q n' b (1:Int) j) (fun b=>z71_k2 N (k:Int) (z71_l1 N l n) q b (1:Int)) (A++lineT 0 (protHead q)) (by simp only [lA];omega) (fun n' j m A hm hline hj=>?_) (fun n' j A hj=>?_)]
    ·unfold z71_k2
     have hb:=prot_body hN hq' (A++lineT 0 (protHead q)++(q.Messages.map msgLine).flatten) (by simp only [lA];omega)
     rw [← Option.bind_assoc]
     rw [hb,bS,w64_succ (by omega)]
     simp only [protT,aA]
    ·simp only [z71_l3,lt_t (get_lt hm),cT,idx_nat,hm,bS,hline,w64_succ (show j < 4611686018427387904 by omega)]
    ·simp only [z71_l3,lt_f hj,cF]
   ·simp only [z71_l1,lt_f hk,cF]
  ·simp only [z71_l5,lt_t (get_lt hm),cT,idx_nat,hm,bS,hline,w64_succ (show k < 4611686018427387904 by omega)]
  ·simp only [z71_l5,lt_f hk,cF]
end Gp
end
section
namespace Gp
open Go Go.Kx Gx
variable {N:Nat}
def ValidP (l:List T22):Prop:=l.length≤10∧(∀ p∈l,ProtP p)∧(srcT l).length≤8000
theorem prot_iff (p:T22) (Q:Prop):(isWord p.Name=true∧WordsP p.Roles 6∧p.Messages.length≤40∧(shL p.Body∧dL p.Body≤10∧cL p.Body≤300)∧(∀ m∈p.Messages,MsgP m)∧Q)↔ProtP p∧Q:=by
 unfold ProtP
 constructor
 ·rintro ⟨a,b,c,⟨d,e,f⟩,g,h⟩;exact ⟨⟨a,b,c,d,e,f,g⟩,h⟩
 ·rintro ⟨⟨a,b,c,d,e,f,g⟩,h⟩;exact ⟨a,b,c,⟨d,e,f⟩,g,h⟩
theorem valid_dq (hN:4194320 < N) (l:List T22) (hl:l.length≤4194304) (hb:∀ p∈l,bP p):Dq (z28 N l) (ValidP l):=by
 unfold z28
 refine Dq.cN (C:=l.length≤10) gt_lem fun h10=>?_
 refine dq_all (P:=ProtP) (E:=(srcT l).length≤8000) (by omega) _ (fun n k p Q hk hp hq=>?_) (fun hall n k hk=>?_) (by omega)
 ·have hbp:=hb p (List.mem_of_getElem? hp)
  simp only [z28_l2,lt_t (get_lt hp),cT,idx_nat,hp,bS]
  refine (Dq.bN (word_dq (by omega) _) fun h1=>Dq.bN (words_dq (by omega) _ hbp.r 6) fun h2=>Dq.cN (C:=p.Messages.length≤40) gt_lem fun h3=>?_).iff (prot_iff p Q)
  obtain ⟨r,m,v1,v2,v3⟩:=valid_items N p.Body 1 0 (by omega) hbp.l hbp.b (by omega) (by omega)
  rw [show z69 N p.Body (1:Int) (0:Int)=some (r,m) from v1,bS]
  refine Dq.cN (C:=shL p.Body∧dL p.Body≤10∧cL p.Body≤300) ?_ fun h4=>?_
  ·have:r=true↔shL p.Body∧dL p.Body≤10∧cL p.Body≤300:=v2.trans ⟨fun q=>⟨q.1,by omega,by omega⟩,fun q=>⟨q.1,by omega,by omega⟩⟩
   rw [← this];cases r<;>simp
  ·refine dq_all (P:=MsgP) (E:=Q) (by omega) (z28_l4 N (k:Int) (z28_l2 N l n) p) (fun n' j m Q' hj hm hq'=>?_) (fun hall n' j hj=>?_) (by omega)
   ·simp only [z28_l4,lt_t (get_lt hm),cT,idx_nat,hm,bS,w64_succ (show j < 4611686018427387904 by omega)]
    exact Dq.bN (mval_dq (by omega) m) hq'
   ·simp only [z28_l4,lt_f hj,cF,z28_k3,w64_succ (show k < 4611686018427387904 by omega)]
    exact hq ⟨h1,h2,h3,h4.1,h4.2.1,h4.2.2,hall⟩
 ·simp only [z28_l2,lt_f hk,cF,z28_k1]
  rw [source_eq hN l h10 fun p hp=>⟨hall p hp,(hb p hp).l,(hb p hp).b⟩,bS]
  exact Dq.dec (by rw [size_bs,bs_mkB];omega)
end Gp
end
section
namespace Gp
open Go Go.Kx Gx
open Classical in
noncomputable def fineR (ps:List T22):List T22 × Int × Int:=if ValidP ps then (ps,0,0) else ([],0,6)
theorem fineR_pos {ps:List T22} (h:ValidP ps):fineR ps=(ps,0,0):=by unfold fineR;rw [if_pos h]
theorem fineR_neg {ps:List T22} (h:¬ ValidP ps):fineR ps=([],0,6):=by unfold fineR;rw [if_neg h]
def endR (ts:List Tok) (e:Int) (o:List T22→List T22 × Int × Int):Rr (List T22)→List T22 × Int × Int
 | .ok ps _=>o ps
 | .er k c=>([],off ts e k,c)
 | .out=>([],0,6)
noncomputable def parseS (s:ByteArray):List T22 × Int × Int :=
 match toksS s with
 | .inl (p,e)=>([],(p:Int),e)
 | .inr ts=>endR ts (s.size:Int) fineR (sParse 8200 8200 [] ts 0)
theorem zM_le (m:T21) (ms:List T21) (h:m∈ms):zM m≤zMs ms:=by
 induction ms with
 | nil=>cases h
 | cons x l ih =>
  simp only [zMs]
  rcases List.mem_cons.1 h with rfl | h
  ·omega
  ·have:=ih h;omega
theorem zMs_len (ms:List T21):ms.length≤zMs ms:=by
 induction ms with
 | nil=>exact Nat.le_refl _
 | cons x l ih=>simp only [zMs,List.length_cons];omega
theorem zA_le (a:T19) (l:List T19) (h:a∈l):zA a≤zAs l:=by
 induction l with
 | nil=>cases h
 | cons x l ih =>
  simp only [zAs]
  rcases List.mem_cons.1 h with rfl | h
  ·omega
  ·have:=ih h;omega
theorem zAs_len (l:List T19):l.length≤zAs l:=by
 induction l with
 | nil=>exact Nat.le_refl _
 | cons x l ih=>simp only [zAs,List.length_cons];omega
structure Zf (p:T22):Prop where
 b:bP p
 d:dL p.Body≤8000
 c:cL p.Body≤8000
 n:nL p.Body
 m:∀ m∈p.Messages,nM m
theorem Zf.of {p:T22} (h:zP p≤8000):Zf p:=by
 unfold zP at h
 obtain ⟨h1,h2⟩:=z_L p.Body (by omega)
 have h3:=zc_L p.Body
 have h4:=zL_len p.Body
 have h5:=zMs_len p.Messages
 refine ⟨⟨by omega,by omega,fun m hm=>?_,by omega,h1⟩,by omega,by omega,zn_L _ (by omega),fun m hm=>?_⟩
 ·have:=zM_le m _ hm
  unfold zM at this
  have:=zAs_len m.Where
  exact ⟨by omega,by omega⟩
 ·have hz:=zM_le m _ hm
  unfold zM pz at hz
  refine ⟨by omega,fun a ha=>?_⟩
  have:=zA_le a _ ha
  unfold zA pz at this
  exact ⟨by omega,by omega⟩
theorem Dq.get {o:Option Bool} {P:Prop} (h:Dq o P) (hp:P):o=some true:=by
 obtain ⟨r,h1,h2⟩:=h
 rw [h1,h2.2 hp]
theorem Dq.getN {o:Option Bool} {P:Prop} (h:Dq o P) (hp:¬P):o=some false:=by
 obtain ⟨r,h1,h2⟩:=h
 cases r with
 | false=>exact h1
 | true=>exact absurd (h2.1 rfl) hp
variable {N:Nat}
theorem parse_small {s:ByteArray} {ts:List Tok} (ht:toksS s=.inr ts) {ps:List T22} {m:Nat} (h:sParse 8200 8200 [] ts 0=.ok ps m):ps.length≤8000∧∀ p∈ps,zP p≤8000:=by
 obtain ⟨h1,_⟩:=toksS_ok ht
 obtain ⟨qs,e1,e2,e3,e4⟩:=(parse_nm (F:=8200) (by omega) 8200 [] 0 (by omega) (Nat.zero_le _)).2 ps m h
 simp only [List.nil_append] at e1
 subst e1
 exact ⟨by omega,fun p hp=>by have:=e4 p hp;omega⟩
end Gp
end
section
namespace Gp
open Go Go.Kx Gx
theorem takeWhile_app {α:Type} (p:α→Bool) (l:List α) (b:α) (w:List α) (h:p b=false):(l++b::w).takeWhile p=l.takeWhile p:=by
 induction l with
 | nil=>simp [List.takeWhile,h]
 | cons c l ih =>
  rw [List.cons_append]
  simp only [List.takeWhile]
  cases p c with
  | true=>simp only [ih]
  | false=>rfl
abbrev Ls:=Sum (Nat × Int) (List Tok)
def prepL (ts:List Tok):Ls→Ls
 | .inl x=>.inl x
 | .inr us=>.inr (ts++us)
def lexA (s:List UInt8) (a:Nat):Ls:=lexL (s.length+1) s a
theorem lex_fuel:∀ (F F':Nat) (s:List UInt8) (a:Nat),s.length < F→s.length < F'→lexL F s a=lexL F' s a
 | 0,_,s,a,h,_=>by omega
 | _,0,s,a,_,h=>by omega
 | F+1,F'+1,s,a,h1,h2=>by
  simp only [lexL]
  cases hd:s.drop (skW false s) with
  | nil=>rfl
  | cons c l =>
   simp only []
   cases ht:tokB (c::l) with
   | er e=>rfl
   | ok k tx v n =>
    have ok:=tokB_ok ht
    have hl:(c::l).length≤s.length:=by rw [← hd,List.length_drop];omega
    have:=ok.pos;have:=ok.le
    simp only []
    rw [lex_fuel F F' ((c::l).drop n) _ (by rw [List.length_drop];omega) (by rw [List.length_drop];omega)]
theorem lexA_end {s:List UInt8} (h:skW false s=s.length) (a:Nat):lexA s a=.inr []:=by
 unfold lexA lexL
 rw [List.drop_of_length_le (by omega)]
theorem lexA_step {s:List UInt8} {c:UInt8} {l:List UInt8} (h:s.drop (skW false s)=c::l) {k:Int} {tx:List UInt8} {v:Int} {n:Nat} (ht:tokB (c::l)=.ok k tx v n) (a:Nat) :
  lexA s a=prepL [⟨k,mkB tx,v,((a+skW false s:Nat):Int)⟩] (lexA ((c::l).drop n) (a+skW false s+n)):=by
 have ok:=tokB_ok ht
 have hl:(c::l).length≤s.length:=by rw [← h,List.length_drop];omega
 have:=ok.pos;have:=ok.le
 have key:lexL (s.length+1) s a=prepL [⟨k,mkB tx,v,((a+skW false s:Nat):Int)⟩] (lexL s.length ((c::l).drop n) (a+skW false s+n)):=by
  rw [lexL]
  simp only [h,ht]
  cases lexL s.length ((c::l).drop n) (a+skW false s+n)<;>rfl
 unfold lexA
 rw [key,lex_fuel s.length (((c::l).drop n).length+1) ((c::l).drop n) _ (by rw [List.length_drop];omega) (by omega)]
def strip (t:Tok):Tok:=⟨t.Kind,t.Text,t.Value,0⟩
end Gp
end
section
namespace Gp
open Go Go.Kx Gx
def Agr (l l':List Tok) (d n m:Nat):Prop:=∀ i,n≤i→i≤m→strip (tk l' (i+d))=strip (tk l i)
theorem Agr.sub {l l':List Tok} {d n m n' m':Nat} (h:Agr l l' d n m) (hn:n≤n') (hm:m'≤m):Agr l l' d n' m':=fun i h1 h2=>h i (by omega) (by omega)
def LoR {α:Type} (S:Pm α) (l:List Tok) (n:Nat):Rr α→Prop
 | .ok a m=>n≤m∧∀ l' d,Agr l l' d n m→S l' (n+d)=.ok a (m+d)
 | .er k c=>n≤k∧∀ l' d,Agr l l' d n k→S l' (n+d)=.er (k+d) c
 | .out=>True
def Lo {α:Type} (S:Pm α):Prop:=∀ l n,LoR S l n (S l n)
theorem Lo.ret {α:Type} (b:α):Lo (fun _ n=>.ok b n):=fun l n=>⟨Nat.le_refl _,fun _ _ _=>rfl⟩
theorem Lo.fail {α:Type} (e:Int):Lo (α:=α) (fun _ n=>.er n e):=fun l n=>⟨Nat.le_refl _,fun _ _ _=>rfl⟩
theorem lorOk {α:Type} {S:Pm α} {l:List Tok} {n:Nat} {a:α} {m:Nat} (e:S l n=.ok a m) (h1:n≤m) (h2:∀ l' d,Agr l l' d n m→S l' (n+d)=.ok a (m+d)):LoR S l n (S l n):=by rw [e];exact ⟨h1,h2⟩
theorem lorEr {α:Type} {S:Pm α} {l:List Tok} {n:Nat} {k:Nat} {c:Int} (e:S l n=.er k c) (h1:n≤k) (h2:∀ l' d,Agr l l' d n k→S l' (n+d)=.er (k+d) c):LoR S l n (S l n):=by rw [e];exact ⟨h1,h2⟩
theorem lorOut {α:Type} {S:Pm α} {l:List Tok} {n:Nat} (e:S l n=.out):LoR S l n (S l n):=by rw [e];trivial
theorem Lo.bind {α β:Type} {S:Pm α} {T:α→Pm β} (hS:Lo S) (hT:∀ a,Lo (T a)):Lo (fun l n=>(S l n).bind fun a m=>T a l m):=by
 intro l n
 have h:=hS l n
 have st:∀ {l':List Tok} {a:α} {n m:Nat},S l' n=.ok a m→(fun l n=>(S l n).bind fun a m=>T a l m) l' n=T a l' m:=fun e=>by
  show (S _ _).bind _=_
  rw [e];rfl
 have st2:∀ {l':List Tok} {n k:Nat} {c:Int},S l' n=.er k c→(fun l n=>(S l n).bind fun a m=>T a l m) l' n=.er k c:=fun e=>by
  show (S _ _).bind _=_
  rw [e];rfl
 cases hs:S l n with
 | ok a m =>
  rw [hs] at h
  obtain ⟨h1,h2⟩:=h
  have h':=hT a l m
  cases ht:T a l m with
  | ok b k =>
   rw [ht] at h'
   exact lorOk ((st hs).trans ht) (Nat.le_trans h1 h'.1) fun l' d hl=>(st (h2 l' d (hl.sub (Nat.le_refl _) h'.1))).trans (h'.2 l' d (hl.sub h1 (Nat.le_refl _)))
  | er k c =>
   rw [ht] at h'
   exact lorEr ((st hs).trans ht) (Nat.le_trans h1 h'.1) fun l' d hl=>(st (h2 l' d (hl.sub (Nat.le_refl _) h'.1))).trans (h'.2 l' d (hl.sub h1 (Nat.le_refl _)))
  | out=>exact lorOut ((st hs).trans ht)
 | er k c =>
  rw [hs] at h
  exact lorEr (st2 hs) h.1 fun l' d hl=>st2 (h.2 l' d hl)
 | out=>exact lorOut (by show (S l n).bind _=_;rw [hs];rfl)
theorem Lo.succ {α:Type} {S:Pm α} (h:Lo S):Lo (fun l n=>S l (n+1)):=by
 intro l n
 have h:=h l (n+1)
 have e:∀ d,n+d+1=n+1+d:=fun d=>by omega
 cases hs:S l (n+1) with
 | ok a m=>rw [hs] at h;exact lorOk (S:=fun l n=>S l (n+1)) hs (by have:=h.1;omega) fun l' d hl=>by show S l' (n+d+1)=_;rw [e];exact h.2 l' d (hl.sub (Nat.le_succ _) (Nat.le_refl _))
 | er k c=>rw [hs] at h;exact lorEr (S:=fun l n=>S l (n+1)) hs (by have:=h.1;omega) fun l' d hl=>by show S l' (n+d+1)=_;rw [e];exact h.2 l' d (hl.sub (Nat.le_succ _) (Nat.le_refl _))
 | out=>exact lorOut (S:=fun l n=>S l (n+1)) hs
theorem agr_at {P:Tok→Bool} (hP:∀ t,P (strip t)=P t) {l l':List Tok} {d n m:Nat} (h:Agr l l' d n m) (hn:n≤m):P (tk l' (n+d))=P (tk l n):=by
 rw [← hP,h n (Nat.le_refl _) hn,hP]
theorem Lo.test {α:Type} {P:Tok→Bool} (hP:∀ t,P (strip t)=P t) {A C:Pm α} (hA:Lo A) (hC:Lo C):Lo (fun l n=>bif P (tk l n) then A l n else C l n):=by
 intro l n
 have h1:=hA l n
 have h2:=hC l n
 have st:∀ {l':List Tok} {n:Nat},P (tk l' n)=true→(fun l n=>bif P (tk l n) then A l n else C l n) l' n=A l' n:=fun e=>by
  show (bif P (tk _ _) then _ else _)=_
  rw [e];rfl
 have sf:∀ {l':List Tok} {n:Nat},P (tk l' n)=false→(fun l n=>bif P (tk l n) then A l n else C l n) l' n=C l' n:=fun e=>by
  show (bif P (tk _ _) then _ else _)=_
  rw [e];rfl
 cases hp:P (tk l n) with
 | true =>
  cases hs:A l n with
  | ok a m=>rw [hs] at h1;exact lorOk ((st hp).trans hs) h1.1 fun l' d hl=>(st (by rw [agr_at hP hl h1.1,hp])).trans (h1.2 l' d hl)
  | er k c=>rw [hs] at h1;exact lorEr ((st hp).trans hs) h1.1 fun l' d hl=>(st (by rw [agr_at hP hl h1.1,hp])).trans (h1.2 l' d hl)
  | out=>exact lorOut ((st hp).trans hs)
 | false =>
  cases hs:C l n with
  | ok a m=>rw [hs] at h2;exact lorOk ((sf hp).trans hs) h2.1 fun l' d hl=>(sf (by rw [agr_at hP hl h2.1,hp])).trans (h2.2 l' d hl)
  | er k c=>rw [hs] at h2;exact lorEr ((sf hp).trans hs) h2.1 fun l' d hl=>(sf (by rw [agr_at hP hl h2.1,hp])).trans (h2.2 l' d hl)
  | out=>exact lorOut ((sf hp).trans hs)
theorem Lo.val {α:Type} {f:Tok→α} (hf:∀ t,f (strip t)=f t):Lo (fun l n=>.ok (f (tk l n)) (n+1)) :=
 fun l n=>⟨Nat.le_succ _,fun l' d hl=>by
  show Rr.ok (f (tk l' (n+d))) (n+d+1)=_
  rw [← hf,hl n (Nat.le_refl _) (Nat.le_succ _),hf,show n+d+1=n+1+d by omega]⟩
theorem Lo.cond {α:Type} (b:Bool) {A C:Pm α} (hA:Lo A) (hC:Lo C):Lo (fun l n=>bif b then A l n else C l n):=by
 cases b
 ·exact hC
 ·exact hA
theorem isT_strip (s:ByteArray) (t:Tok):isT s (strip t)=isT s t:=rfl
theorem Lo.takes {α:Type} (s:ByteArray) {A C:Pm α} (hA:Lo A) (hC:Lo C):Lo (fun l n=>bif isT s (tk l n) then A l (n+1) else C l n):=Lo.test (P:=isT s) (isT_strip s) hA.succ hC
theorem wants_lo (s:ByteArray):Lo (sWants s):=Lo.test (P:=isT s) (isT_strip s) (Lo.ret ()).succ (Lo.fail 3)
theorem word_lo:Lo sWord:=Lo.test (P:=wordT) (fun _=>rfl) (Lo.val (f:=fun t=>t.Text) fun _=>rfl) (Lo.fail 3)
theorem num_lo:Lo sNum:=Lo.test (P:=fun t=>t.Kind==2) (fun _=>rfl) (Lo.val (f:=fun t=>t.Value) fun _=>rfl) (Lo.fail 3)
theorem signed_lo:Lo sSigned:=Lo.takes (str [45]) (A:=fun l n=>(sNum l n).bind fun v m=>.ok (w64 (0-v)) m) (Lo.bind num_lo fun v=>Lo.ret _) num_lo
theorem loop_lo {α β:Type} (s:ByteArray) {p:Pm α} (hp:Lo p) (upd:β→α→β):∀ (F:Nat) (acc:β),Lo (sLoop s p upd F acc)
 | 0,_=>fun l n=>trivial
 | F+1,acc=>Lo.takes s (A:=fun l n=>(p l n).bind fun a m=>sLoop s p upd F (upd acc a) l m) (Lo.bind hp fun a=>loop_lo s hp upd F (upd acc a)) (Lo.ret acc)
theorem words_lo (F:Nat):Lo (sWords F):=Lo.bind word_lo fun w=>loop_lo _ word_lo snoc F [w]
theorem path_lo (F:Nat):Lo (sPath F):=Lo.bind word_lo fun w=>loop_lo _ word_lo dotW F w
theorem field_lo:Lo sField:=Lo.bind word_lo fun w=>Lo.bind (wants_lo _) fun _=>Lo.takes (str [105,110,116])
 (A:=fun l n=>(sSigned l n).bind fun lo n=>(sWants (str [46,46]) l n).bind fun _ n=>(sSigned l n).bind fun hi n=>.ok (⟨w,⟨1,lo,hi⟩⟩:T4) n)
 (Lo.bind signed_lo fun _=>Lo.bind (wants_lo _) fun _=>Lo.bind signed_lo fun _=>Lo.ret _)
 (Lo.bind (wants_lo _) fun _=>Lo.bind num_lo fun _=>Lo.bind (wants_lo _) fun _=>Lo.bind num_lo fun _=>Lo.ret _)
theorem tail_lo (k:Int) (s:ByteArray):Lo (sTail k s) :=
 Lo.takes (str [43]) (A:=fun l n=>(sNum l n).bind fun v n=>.ok (⟨k,(splitP s).1,(splitP s).2,v⟩:T23) n) (Lo.bind num_lo fun _=>Lo.ret _)
  (Lo.takes (str [45]) (A:=fun l n=>(sNum l n).bind fun v n=>.ok (⟨k,(splitP s).1,(splitP s).2,w64 (0-v)⟩:T23) n) (Lo.bind num_lo fun _=>Lo.ret _) (Lo.ret _))
theorem term_lo (F:Nat):Lo (sTerm F) :=
 Lo.test (P:=fun t=>isT (str [45]) t || t.Kind==2) (fun _=>rfl) (Lo.bind signed_lo fun _=>Lo.ret _)
  (Lo.takes (str [108,101,110]) (A:=fun l n=>(sWants (str [40]) l n).bind fun _ n=>(sPath F l n).bind fun s n=>(sWants (str [41]) l n).bind fun _ n=>sTail 3 s l n)
   (Lo.bind (wants_lo _) fun _=>Lo.bind (path_lo F) fun s=>Lo.bind (wants_lo _) fun _=>tail_lo 3 s) (Lo.bind (path_lo F) fun s=>tail_lo 2 s))
def sMark:Pm ByteArray:=fun l n=>bif markT (tk l n) then .ok (tk l n).Text (n+1) else .er n 3
theorem mark_lo:Lo sMark:=Lo.test (P:=markT) (fun _=>rfl) (Lo.val (f:=fun t=>t.Text) fun _=>rfl) (Lo.fail 3)
theorem sAtom_eq (F:Nat):sAtom F=fun l n=>(sTerm F l n).bind fun a n=>(sMark l n).bind fun tx n=>(sTerm F l n).bind fun b m=>.ok ⟨a,tx,b⟩ m:=by
 funext l n
 unfold sAtom sMark
 congr 1;funext a m
 cases markT (tk l m)<;>rfl
theorem atom_lo (F:Nat):Lo (sAtom F):=by
 rw [sAtom_eq]
 exact Lo.bind (term_lo F) fun a=>Lo.bind mark_lo fun tx=>Lo.bind (term_lo F) fun b=>Lo.ret _
theorem where_lo (F:Nat) (nm:ByteArray) (fs:List T4):Lo (sWhere F nm fs) :=
 Lo.takes (str [119,104,101,114,101]) (A:=fun l n=>(sAtom F l n).bind fun a n=>(sLoop (str [97,110,100]) (sAtom F) snoc F [a] l n).bind fun as' n=>(sWants (str [59]) l n).bind fun _ n=>.ok (⟨nm,fs,as'⟩:T21) n)
  (Lo.bind (atom_lo F) fun a=>Lo.bind (loop_lo _ (atom_lo F) snoc F [a]) fun _=>Lo.bind (wants_lo _) fun _=>Lo.ret _) (Lo.bind (wants_lo _) fun _=>Lo.ret _)
theorem message_lo (F:Nat):Lo (sMessage F) :=
 Lo.bind (path_lo F) fun nm=>Lo.bind (wants_lo _) fun _=>Lo.takes (str [41]) (where_lo F nm [])
  (Lo.bind field_lo fun f=>Lo.bind (loop_lo _ field_lo snoc F [f]) fun fs=>Lo.bind (wants_lo _) fun _=>where_lo F nm fs)
theorem block_lo {items:Pm (List T20)} (h:Lo items):Lo (sBlock items):=Lo.bind (wants_lo _) fun _=>Lo.bind h fun _=>Lo.bind (wants_lo _) fun _=>Lo.ret _
theorem else_lo {block:Pm (List T20)} (h:Lo block) (who:ByteArray) (t:Int) (bl:List (List T20)):Lo (sElse block who t bl) :=
 Lo.cond _ (Lo.bind (wants_lo _) fun _=>Lo.bind h fun _=>Lo.ret _) (Lo.ret _)
theorem branches_lo (F:Nat) {block:Pm (List T20)} (h:Lo block) (who:ByteArray) (t:Int):Lo (sBranches F block who t) :=
 Lo.bind h fun b=>Lo.bind (loop_lo _ h snoc F [b]) fun bl=>else_lo h who t bl
theorem ticks_lo:Lo sTicks:=Lo.test (P:=fun t=>t.Kind==2 && (decide (t.Value < 1) || decide (t.Value > 1000))) (fun _=>rfl) (Lo.fail 2) num_lo
theorem choice_lo (F:Nat) {block:Pm (List T20)} (h:Lo block):Lo (sChoice F block) :=
 Lo.bind (wants_lo _) fun _=>Lo.bind word_lo fun who=>Lo.takes (str [119,105,116,104,105,110]) (A:=fun l n=>(sTicks l n).bind fun t n=>sBranches F block who t l n)
  (Lo.bind ticks_lo fun t=>branches_lo F h who t) (branches_lo F h who 0)
theorem send_lo (F:Nat):Lo (sSend F):=Lo.bind word_lo fun _=>Lo.bind (wants_lo _) fun _=>Lo.bind (words_lo F) fun _=>Lo.bind (wants_lo _) fun _=>Lo.bind (path_lo F) fun _=>Lo.bind (wants_lo _) fun _=>Lo.ret _
theorem call_lo (F:Nat):Lo (sCall F):=Lo.bind word_lo fun _=>Lo.bind (wants_lo _) fun _=>Lo.bind (words_lo F) fun _=>Lo.bind (wants_lo _) fun _=>Lo.bind (wants_lo _) fun _=>Lo.bind word_lo fun _=>Lo.bind (wants_lo _) fun _=>Lo.ret _
theorem item_lo (F:Nat) {block:Pm (List T20)} (h:Lo block):Lo (sItem F block) :=
 Lo.takes (str [99,104,111,105,99,101]) (choice_lo F h)
  (Lo.takes (str [108,111,111,112]) (A:=fun l n=>(sPath F l n).bind fun nm n=>(block l n).bind fun b n=>.ok (⟨3,str [],[],nm,str [],0,[b]⟩:T20) n) (Lo.bind (path_lo F) fun _=>Lo.bind h fun _=>Lo.ret _)
  (Lo.takes (str [97,103,97,105,110]) (A:=fun l n=>(sPath F l n).bind fun nm n=>(sWants (str [59]) l n).bind fun _ n=>.ok (⟨4,str [],[],nm,str [],0,[]⟩:T20) n) (Lo.bind (path_lo F) fun _=>Lo.bind (wants_lo _) fun _=>Lo.ret _)
  (Lo.takes (str [112,97,114]) (A:=fun l n=>(block l n).bind fun b n=>(sWants (str [97,110,100]) l n).bind fun _ n=>(block l n).bind fun c n=>(sLoop (str [97,110,100]) block snoc F [b,c] l n).bind fun bl n=>.ok (⟨5,str [],[],str [],str [],0,bl⟩:T20) n)
   (Lo.bind h fun b=>Lo.bind (wants_lo _) fun _=>Lo.bind h fun c=>Lo.bind (loop_lo _ h snoc F [b,c]) fun _=>Lo.ret _)
  (Lo.takes (str [99,97,108,108]) (call_lo F) (send_lo F)))))
theorem list_lo {item:Pm T20} (h:Lo item):∀ (F:Nat) (acc:List T20),Lo (sList item F acc)
 | 0,_=>fun l n=>trivial
 | F+1,acc=>Lo.test (P:=begT) (fun _=>rfl) (A:=fun l n=>(item l n).bind fun x m=>sList item F (snoc acc x) l m) (Lo.bind h fun x=>list_lo h F (snoc acc x)) (Lo.ret acc)
theorem items_lo:∀ F:Nat,Lo (sItems F)
 | 0=>fun l n=>trivial
 | F+1=>list_lo (item_lo F (block_lo (items_lo F))) F []
def sProt0 (F:Nat):Pm T22:=fun l n=>(sWants (str [112,114,111,116,111,99,111,108]) l n).bind fun _ n=>(sWord l n).bind fun nm n=>(sWants (str [40]) l n).bind fun _ n=>(sWords F l n).bind fun rs n =>
 (sWants (str [41]) l n).bind fun _ n=>(sWants (str [123]) l n).bind fun _ n=>(sLoop (str [109,101,115,115,97,103,101]) (sMessage F) snoc F [] l n).bind fun ms n=>(sItems F l n).bind fun b n=>.ok ⟨nm,rs,ms,b⟩ n
theorem prot0_lo (F:Nat):Lo (sProt0 F):=Lo.bind (wants_lo _) fun _=>Lo.bind word_lo fun _=>Lo.bind (wants_lo _) fun _=>Lo.bind (words_lo F) fun _=>Lo.bind (wants_lo _) fun _=>Lo.bind (wants_lo _) fun _ =>
 Lo.bind (loop_lo _ (message_lo F) snoc F []) fun _=>Lo.bind (items_lo F) fun _=>Lo.ret _
theorem sProtocol_eq (F:Nat):sProtocol F=fun l n=>(sProt0 F l n).bind fun p n=>(sWants (str [125]) l n).bind fun _ n=>.ok p n:=by
 funext l n
 unfold sProtocol sProt0
 simp only [rr_assoc]
 rfl
theorem protocol_lo {F:Nat} {l:List Tok} {n:Nat}:match sProtocol F l n with
  | .ok p m=>n < m∧∀ l' d,Agr l l' d n (m-1)→sProtocol F l' (n+d)=.ok p (m+d)
  | .er k c=>n≤k∧∀ l' d,Agr l l' d n k→sProtocol F l' (n+d)=.er (k+d) c
  | .out=>True:=by
 rw [sProtocol_eq]
 have h:=prot0_lo F l n
 simp only []
 cases hs:sProt0 F l n with
 | ok p m =>
  rw [hs] at h
  obtain ⟨h1,h2⟩:=h
  cases hi:isT (str [125]) (tk l m) with
  | true =>
   have e:sWants (str [125]) l m=.ok () (m+1):=by unfold sWants;rw [hi];rfl
   simp only [Rr.bind,e]
   refine ⟨by omega,fun l' d hl=>?_⟩
   rw [Nat.add_sub_cancel] at hl
   have hl':=agr_at (P:=isT (str [125])) (isT_strip _) (hl.sub h1 (Nat.le_refl _)) (Nat.le_refl _)
   have e2:sWants (str [125]) l' (m+d)=.ok () (m+d+1):=by unfold sWants;rw [hl',hi];rfl
   rw [h2 l' d hl]
   simp only [e2]
   rw [show m+d+1=m+1+d by omega]
  | false =>
   have e:sWants (str [125]) l m=.er m 3:=by unfold sWants;rw [hi];rfl
   simp only [Rr.bind,e]
   refine ⟨h1,fun l' d hl=>?_⟩
   have hl':=agr_at (P:=isT (str [125])) (isT_strip _) (hl.sub h1 (Nat.le_refl _)) (Nat.le_refl _)
   have e2:sWants (str [125]) l' (m+d)=.er (m+d) 3:=by unfold sWants;rw [hl',hi];rfl
   rw [h2 l' d hl]
   simp only [e2]
 | er k c =>
  rw [hs] at h
  refine ⟨h.1,fun l' d hl=>?_⟩
  rw [h.2 l' d hl];rfl
 | out=>trivial
end Gp
end
section
namespace Gp
open Go Go.Kx Gx
def AgrA (l l':List Tok) (d n:Nat):Prop:=∀ i,n≤i→strip (tk l' (i+d))=strip (tk l i)
theorem AgrA.agr {l l':List Tok} {d n:Nat} (h:AgrA l l' d n) (m:Nat):Agr l l' d n m:=fun i h1 _=>h i h1
theorem AgrA.sub {l l':List Tok} {d n n':Nat} (h:AgrA l l' d n) (hn:n≤n'):AgrA l l' d n':=fun i h1=>h i (by omega)
theorem parse_shift {F:Nat} {l:List Tok} (hF:l.length+2≤F) {l':List Tok} {d:Nat} (hl:l'.length=l.length+d):∀ (G G':Nat) (acc acc':List T22) (n:Nat),l.length < G+n→l'.length < G'+(n+d)→n≤l.length→AgrA l l' d n →
  match sParse F G acc l n with
  | .ok ps m=>∃ qs,ps=acc++qs∧m=l.length∧sParse F G' acc' l' (n+d)=.ok (acc'++qs) (m+d)
  | .er k c=>sParse F G' acc' l' (n+d)=.er (k+d) c
  | .out=>True:=by
 intro G
 induction G with
 | zero=>intro G' acc acc' n h;omega
 | succ G ih =>
  intro G' acc acc' n h h' hn ha
  obtain ⟨G',rfl⟩:∃ m,G'=m+1:=⟨G'-1,by omega⟩
  simp only [sParse]
  by_cases hlt:n < l.length
  ·rw [dT hlt,dT (by omega:n+d < l'.length)]
   simp only [cT]
   have hp:=protocol_lo (F:=F) (l:=l) (n:=n)
   cases hs:sProtocol F l n with
   | ok p m =>
    rw [hs] at hp
    obtain ⟨_,hm,_⟩:=(protocol_nm hF).ok n (Nat.zero_le _) hn p m hs
    rw [hp.2 l' d (ha.agr _)]
    simp only [Rr.bind]
    have:=ih G' (snoc acc p) (snoc acc' p) m (by have:=hp.1;omega) (by have:=hp.1;omega) hm (ha.sub (by have:=hp.1;omega))
    cases hr:sParse F G (snoc acc p) l m with
    | ok ps k =>
     rw [hr] at this
     obtain ⟨qs,e1,e2,e3⟩:=this
     exact ⟨p::qs,by rw [e1];simp [snoc],e2,by rw [e3];simp [snoc]⟩
    | er k c=>rw [hr] at this;exact this
    | out=>trivial
   | er k c =>
    rw [hs] at hp
    rw [hp.2 l' d (ha.agr _)]
    rfl
   | out=>trivial
  ·rw [dF hlt,dF (by omega:¬ n+d < l'.length)]
   simp only [cF]
   exact ⟨[],by simp,by omega,by simp⟩
theorem parseS_inr {s:ByteArray} {ts:List Tok} (h:toksS s=.inr ts):parseS s=endR ts (s.size:Int) fineR (sParse 8200 8200 [] ts 0):=by
 unfold parseS
 rw [h]
theorem toks_lex {s:ByteArray} (h:s.size≤8000):toksS s=lexA (bs s) 0:=by
 unfold toksS lexA
 rw [dF (by omega),cF,size_bs]
theorem strip_tk {l l':List Tok} (h:l'.map strip=l.map strip) (i:Nat):strip (tk l' i)=strip (tk l i):=by
 have h1:∀ l:List Tok,strip (tk l i)=((l.map strip)[i]?).getD zt:=by
  intro l
  unfold tk
  rw [List.getElem?_map]
  cases l[i]?<;>rfl
 rw [h1,h1,h]
theorem parse_alike {l l':List Tok} (h:l'.map strip=l.map strip) (hl:l.length≤8000) {ps:List T22} {m:Nat} (hp:sParse 8200 8200 [] l 0=.ok ps m):sParse 8200 8200 [] l' 0=.ok ps m:=by
 have hlen:l'.length=l.length:=by have:=congrArg List.length h;simpa using this
 have:=parse_shift (F:=8200) (l:=l) (l':=l') (d:=0) (by omega) (by omega) 8200 8200 [] [] 0 (by omega) (by omega) (Nat.zero_le _) (fun i _=>by rw [Nat.add_zero];exact strip_tk h i)
 rw [hp] at this
 obtain ⟨qs,e1,e2,e3⟩:=this
 simp only [List.nil_append] at e1 e3
 rw [e1];exact e3
variable {N:Nat}
end Gp
end
section
namespace Gp
open Go Go.Kx Gx
variable {N:Nat}
end Gp
end
section
namespace Gp
open Go Go.Kx Gx
def wrL (t:Tok):List UInt8:=bif t.Kind==2 then digN 25 t.Value.toNat else bif t.Kind==3 then [34]++quoL (bs t.Text)++[34] else bs t.Text
def valN (d:List UInt8):Nat:=d.foldl (fun v c=>10 * v+(c.toNat-48)) 0
theorem digB_iff {c:UInt8}:digB c=true↔48≤c.toNat∧c.toNat≤57:=by unfold digB;rw [Bool.and_eq_true,decide_eq_true_eq,decide_eq_true_eq];omega
theorem valD_valN:∀ (d:List UInt8) (v:Nat),(∀ c∈d,digB c=true)→d.foldl (fun (v:Int) c=>10 * v+((c.toNat:Int)-48)) (v:Int)=((d.foldl (fun v c=>10 * v+(c.toNat-48)) v:Nat):Int)
 | [],v,_=>rfl
 | c::d,v,h=>by
  have hc:=digB_iff.1 (h c (List.mem_cons_self ..))
  simp only [List.foldl_cons]
  rw [show (10 * (v:Int)+((c.toNat:Int)-48))=((10 * v+(c.toNat-48):Nat):Int) by omega]
  exact valD_valN d _ fun x hx=>h x (List.mem_cons_of_mem _ hx)
variable {N:Nat}
end Gp
end
section
namespace Gp
open Go Go.Kx Gx
theorem takeWhile_self {α:Type} (p:α→Bool):∀ l:List α,(∀ c∈l,p c=true)→l.takeWhile p=l
 | [],_=>rfl
 | c::l,h=>by
  simp only [List.takeWhile,h c (List.mem_cons_self ..)]
  rw [takeWhile_self p l fun x hx=>h x (List.mem_cons_of_mem _ hx)]
theorem marks2_tok:∀ m∈marks2,tokB m=.ok 4 m 0 2:=by
 intro m hm
 simp only [marks2,List.mem_cons,List.not_mem_nil,or_false] at hm
 rcases hm with h | h | h | h | h | h | h | h<;>subst h<;>rfl
theorem marks1_tok:∀ c∈marks1,tokB [c]=.ok 4 [c] 0 1:=by
 intro c hc
 simp only [marks1,List.mem_cons,List.not_mem_nil,or_false] at hc
 rcases hc with h | h | h | h | h | h | h | h | h | h | h | h | h | h | h | h | h<;>subst h<;>rfl
structure TokW (t:Tok):Prop where
 ex:∃ tx,tokB (wrL t)=.ok t.Kind tx t.Value (wrL t).length∧mkB tx=t.Text
 num:t.Kind=2→0≤t.Value∧t.Value < 1000000
 len:t.Text.size≤40
 wl:(wrL t).length≤90
theorem startAll:((List.range 256).all fun r => !(blankB (UInt8.ofNat r)) || (!(letB (UInt8.ofNat r)) && !(digB (UInt8.ofNat r)) && !(UInt8.ofNat r==34) && !(marks2.any fun m=>m.head? == some (UInt8.ofNat r)) && !(marks1.any fun m=>m==UInt8.ofNat r)))=true:=by kernel_rfl
theorem any2h {c:UInt8} {l:List UInt8} (h:(marks2.any fun m=>m.head? == some c)=false):(marks2.any fun m=>m==(c::l).take 2)=false:=by
 rw [Bool.eq_false_iff] at h ⊢
 intro h3
 apply h
 rw [List.any_eq_true] at h3 ⊢
 obtain ⟨m,hm,he⟩:=h3
 refine ⟨m,hm,?_⟩
 have he:m=(c::l).take 2:=by simpa using he
 subst he
 simp
theorem tok_start {c:UInt8} {l:List UInt8} {k:Int} {tx:List UInt8} {v:Int} {n:Nat} (h:tokB (c::l)=.ok k tx v n):blankB c=false∧(c=47→n=1):=by
 constructor
 ·cases hb:blankB c with
  | false=>rfl
  | true =>
   have:=List.all_eq_true.1 startAll c.toNat (List.mem_range.2 c.toNat_lt)
   rw [UInt8.ofNat_toNat,hb] at this
   simp only [Bool.not_true,Bool.false_or,Bool.and_eq_true,Bool.not_eq_true'] at this
   obtain ⟨⟨⟨⟨a1,a2⟩,a3⟩,a4⟩,a5⟩:=this
   unfold tokB at h
   simp only [a1,a2,a3,any2h (l:=l) a4,a5,Bool.and_false,cF] at h
   cases h
 ·intro hc
  subst hc
  unfold tokB at h
  simp only [show letB 47=false from rfl,show digB 47=false from rfl,show ((47:UInt8)==34)=false from rfl,any2h (c:=47) (l:=l) rfl,show (marks1.any fun m=>m==47)=true from rfl,Bool.and_false,cF,cT] at h
  injection h with _ _ _ h4
  exact h4.symm
structure GapP (g:List UInt8):Prop where
 hd:∃ b g',g=b::g'∧blankB b=true
 sk:∀ w,skW false (g++w)=g.length+skW false w
end Gp
end
section
namespace Gp
open Go Go.Kx Gx
variable {N:Nat}
end Gp
end
section
namespace Gp
open Go Go.Kx Gx
abbrev Wt (x:List UInt8):Tok:=⟨1,mkB x,0,0⟩
abbrev Mt (x:List UInt8):Tok:=⟨4,mkB x,0,0⟩
abbrev Nt (v:Int):Tok:=⟨2,mkB [],v,0⟩
def LX (s:List UInt8) (ts:List Tok) (p:UInt8→Bool):Prop:=∀ (w:List UInt8) (a:Nat) (us:List Tok),(∀ c,w.head? = some c→p c=true)→lexA w (a+s.length)=.inr us→∃ vs,lexA (s++w) a=.inr vs∧vs.map strip=ts++us.map strip
abbrev pT:UInt8→Bool:=fun _=>true
abbrev pI:UInt8→Bool:=fun c => !innB c
theorem LX.nil (p:UInt8→Bool):LX [] [] p:=fun w a us _ h=>⟨us,by simpa using h,by simp⟩
theorem LX.app {s1 s2:List UInt8} {t1 t2:List Tok} {p1 p2:UInt8→Bool} (h1:LX s1 t1 p1) (h2:LX s2 t2 p2) (hp:∀ c,s2.head? = some c→p1 c=true) (h0:s2=[]→∀ c,p2 c=true→p1 c=true):LX (s1++s2) (t1++t2) p2:=by
 intro w a us hw hl
 rw [lA,← Nat.add_assoc] at hl
 obtain ⟨vs,v1,v2⟩:=h2 w (a+s1.length) us hw hl
 obtain ⟨xs,x1,x2⟩:=h1 (s2++w) a vs (fun c hc=>by
  cases s2 with
  | nil=>exact h0 rfl c (hw c (by simpa using hc))
  | cons y ys=>exact hp c (by simpa using hc)) v1
 exact ⟨xs,by rw [aA];exact x1,by rw [x2,v2,aA]⟩
theorem LX.appT {s1 s2:List UInt8} {t1 t2:List Tok} {p2:UInt8→Bool} (h1:LX s1 t1 pT) (h2:LX s2 t2 p2):LX (s1++s2) (t1++t2) p2:=h1.app h2 (fun _ _=>rfl) (fun _ _ _=>rfl)
theorem LX.appC {s1 r:List UInt8} {t1 t2:List Tok} {p1 p2:UInt8→Bool} {c:UInt8} (h1:LX s1 t1 p1) (h2:LX (c::r) t2 p2) (hc:p1 c=true):LX (s1++c::r) (t1++t2) p2 :=
 h1.app h2 (fun x hx=>by simp at hx;subst hx;exact hc) (fun h=>by cases h)
theorem LX.weak {s:List UInt8} {ts:List Tok} {p q:UInt8→Bool} (h:LX s ts p) (hq:∀ c,q c=true→p c=true):LX s ts q:=fun w a us hw hl=>h w a us (fun c hc=>hq c (hw c hc)) hl
theorem LX.toI {s:List UInt8} {ts:List Tok} (h:LX s ts pT):LX s ts pI:=h.weak fun _ _=>rfl
theorem lex_skip (g w:List UInt8) (a:Nat) (h:skW false (g++w)=g.length+skW false w):lexA (g++w) a=lexA w (a+g.length):=by
 have hd:(g++w).drop (skW false (g++w))=w.drop (skW false w):=by
  rw [h,List.drop_append,List.drop_of_length_le (by omega),List.nil_append,Nat.add_sub_cancel_left]
 have ha:a+skW false (g++w)=a+g.length+skW false w:=by omega
 unfold lexA
 simp only [lexL,hd,ha]
 have hw:=skW_le false w
 cases hdr:w.drop (skW false w) with
 | nil=>rfl
 | cons c l =>
  simp only []
  cases ht:tokB (c::l) with
  | er e=>rfl
  | ok k tx v n =>
   have ok:=tokB_ok ht
   have hl:(c::l).length=w.length-skW false w:=by rw [← hdr,List.length_drop]
   have:=ok.pos;have:=ok.le
   simp only []
   rw [lex_fuel (g++w).length w.length ((c::l).drop n) _ (by rw [List.length_drop];simp only [lA,List.length_cons] at hl ⊢;omega) (by rw [List.length_drop];omega)]
theorem LX.blank {b:UInt8} (hb:blankB b=true):LX [b] [] pT:=fun w a us _ h=>⟨us,by
 rw [lex_skip [b] w a (by simp only [List.cons_append,List.nil_append,skW,hb,cT,List.length_cons,List.length_nil];omega)]
 exact h,by simp⟩
theorem LX.tok {s:List UInt8} {k:Int} {tx:List UInt8} {v:Int} {p:UInt8→Bool} (h:tokB s=.ok k tx v s.length) (h47:s.head? ≠ some 47) (ha:∀ c w,p c=true→tokB (s++c::w)=.ok k tx v s.length):LX s [⟨k,mkB tx,v,0⟩] p:=by
 intro w a us hw hl
 obtain ⟨c,l,hs⟩:∃ c l,s=c::l:=by
  cases s with
  | nil=>simp [tokB] at h
  | cons c l=>exact ⟨c,l,rfl⟩
 have hb:=(tok_start (by rw [← hs];exact h)).1
 have hc:(c==47)=false:=by
  rw [beq_eq_false_iff_ne];intro e;apply h47;rw [hs,e];rfl
 have hsk:skW false (s++w)=0:=by
  rw [hs,List.cons_append]
  simp only [skW,hb,hc,cF,Bool.false_and]
 have ht:tokB (s++w)=.ok k tx v s.length:=by
  cases w with
  | nil=>rw [List.append_nil];exact h
  | cons d w=>exact ha d w (hw d rfl)
 have hd:(s++w).drop (skW false (s++w))=c::(l++w):=by rw [hsk,hs];rfl
 have ht':tokB (c::(l++w))=.ok k tx v s.length:=by rw [← ht,hs];rfl
 have hr:(c::(l++w)).drop s.length=w:=by rw [show c::(l++w)=s++w by rw [hs];rfl,List.drop_left]
 refine ⟨_,by rw [lexA_step hd ht',hr,hsk,Nat.add_zero,hl];rfl,?_⟩
 rfl
theorem tokB_appI {s:List UInt8} {k:Int} {tx:List UInt8} {v:Int} {n:Nat} (h:tokB s=.ok k tx v n) (hk:k=1∨k=2) {b:UInt8} (hb:innB b=false) (w:List UInt8):tokB (s++b::w)=.ok k tx v n:=by
 have f2:digB b=false:=by
  cases hd:digB b with
  | false=>rfl
  | true=>rw [dig_inn hd] at hb;cases hb
 cases s with
 | nil=>simp [tokB] at h
 | cons c l =>
  rw [List.cons_append]
  unfold tokB at h ⊢
  simp only [takeWhile_app innB l b w hb] at h ⊢
  cases c1:letB c with
  | true=>simp only [c1,cT] at h ⊢;exact h
  | false =>
   simp only [c1,cF] at h ⊢
   cases c2:digB c with
   | true =>
    simp only [c2,cT] at h ⊢
    unfold numB at h ⊢
    have e:=takeWhile_app digB (c::l) b w f2
    rw [List.cons_append] at e
    rw [e]
    have hle:=takeWhile_len digB (c::l)
    have e2:(c::(l++b::w)).drop ((c::l).takeWhile digB).length=(c::l).drop ((c::l).takeWhile digB).length++b::w:=by
     rw [← List.cons_append,List.drop_append_of_le_length hle]
    rw [e2]
    unfold numK at h ⊢
    have e3:((c::l).drop ((c::l).takeWhile digB).length++b::w).head?.any innB=((c::l).drop ((c::l).takeWhile digB).length).head?.any innB:=by
     cases (c::l).drop ((c::l).takeWhile digB).length with
     | nil=>simp [hb]
     | cons x y=>rfl
    rw [e3]
    exact h
   | false =>
    exfalso
    simp only [c2,cF] at h
    have hk':k=3∨k=4:=by
     cases c3:(c==34) with
     | true =>
      simp only [c3,cT] at h
      cases ht:txtB l with
      | none=>rw [ht] at h;cases h
      | some q =>
       obtain ⟨t',n'⟩:=q
       rw [ht] at h
       simp only [] at h
       cases hd:decide (t'.length > 40) with
       | true=>rw [hd] at h;cases h
       | false=>rw [hd] at h;simp only [cF] at h;injection h with h1;exact .inl h1.symm
     | false =>
      simp only [c3,cF] at h
      cases h4:(decide (l≠[]) && marks2.any fun m=>m==(c::l).take 2) with
      | true=>rw [h4] at h;simp only [cT] at h;injection h with h1;exact .inr h1.symm
      | false =>
       rw [h4] at h
       simp only [cF] at h
       cases h5:(marks1.any fun m=>m==c) with
       | true=>rw [h5] at h;simp only [cT] at h;injection h with h1;exact .inr h1.symm
       | false=>rw [h5] at h;cases h
    omega
def nameL' (x:List UInt8):Prop:=∃ c l,x=c::l∧letB c=true∧(∀ d∈l,innB d=true)∧l.length < 16
theorem name_tok {x:List UInt8} (h:nameL' x):tokB x=.ok 1 x 0 x.length:=by
 obtain ⟨c,l,rfl,h1,h2,h3⟩:=h
 unfold tokB
 simp only [h1,cT]
 rw [takeWhile_self innB l h2,dF (by omega),cF]
 rfl
theorem let47:letB 47=false:=rfl
theorem LX.name {x:List UInt8} (h:nameL' x):LX x [Wt x] pI:=by
 refine LX.tok (name_tok h) (fun e=>?_) (fun c w hc=>tokB_appI (name_tok h) (.inl rfl) (by simpa using hc) w)
 obtain ⟨c,l,rfl,h1,_⟩:=h
 simp at e;subst e
 rw [let47] at h1;cases h1
theorem word_name {s:ByteArray} (h:isWord s=true):nameL' (bs s):=by
 unfold isWord isName at h
 rw [Bool.and_eq_true] at h
 cases hb:bs s with
 | nil=>rw [hb] at h;simp at h
 | cons x l =>
  rw [hb] at h
  have h1:=h.1
  simp only [Bool.and_eq_true,decide_eq_true_eq] at h1
  refine ⟨x,l,rfl,h1.1,fun d hd=>?_,h1.2.1⟩
  obtain ⟨i,hi⟩:=List.mem_iff_getElem?.1 hd
  have:=(allV_iff (fun (c:UInt8) _=>innerV (c.toNat:Int)) (x::l) 0).1 h1.2.2 (i+1) d (by simpa using hi)
  exact this
theorem LX.word {s:ByteArray} (h:isWord s=true):LX (bs s) [Wt (bs s)] pI:=LX.name (word_name h)
theorem LX.mark2 {m:List UInt8} (hm:m∈marks2):LX m [Mt m] pT:=by
 have h2:m.length=2:=by
  have:∀ m∈marks2,m.length=2:=by decide
  exact this m hm
 refine LX.tok (by rw [h2];exact marks2_tok m hm) (fun e=>?_) (fun c w _=>?_)
 ·have:∀ m∈marks2,m.head? ≠ some 47:=by decide
  exact this m hm e
 ·rw [h2]
  simp only [marks2,List.mem_cons,List.not_mem_nil,or_false] at hm
  rcases hm with h | h | h | h | h | h | h | h<;>subst h<;>rfl
theorem LX.mark1 {x:UInt8} (hx:x∈marks1) (h47:x≠47):LX [x] [Mt [x]] (fun c => !(marks2.any fun m=>m==[x,c])):=by
 refine LX.tok (marks1_tok x hx) (fun e=>h47 (by simpa using e)) (fun c w hc=>?_)
 have ht:=marks1_tok x hx
 have hc:(marks2.any fun m=>m==[x,c])=false:=by simpa using hc
 unfold tokB at ht
 have hl:letB x=false∧digB x=false∧(x==34)=false∧(marks1.any fun m=>m==x)=true:=by
  simp only [marks1,List.mem_cons,List.not_mem_nil,or_false] at hx
  rcases hx with h | h | h | h | h | h | h | h | h | h | h | h | h | h | h | h | h<;>subst h<;>exact ⟨rfl,rfl,rfl,rfl⟩
 obtain ⟨a1,a2,a3,a4⟩:=hl
 show tokB (x::c::w)=_
 unfold tokB
 simp only [a1,a2,a3,a4,cT,cF]
 rw [show ([x,c]:List UInt8)=(x::c::w).take 2 from rfl] at hc
 rw [hc,Bool.and_false]
 rfl
theorem LX.sign {x:UInt8} (hx:x∈marks1) (h47:x≠47) (h:(marks2.any fun m=>m.head? == some x)=false):LX [x] [Mt [x]] pT:=(LX.mark1 hx h47).weak fun c _=>by
 have:=any2h (c:=x) (l:=[c]) h
 rw [show (x::[c]).take 2=[x,c] from rfl] at this
 simp [this]
theorem LX.eqT {s s':List UInt8} {ts ts':List Tok} {p:UInt8→Bool} (h:LX s ts p) (hs:s'=s) (ht:ts'=ts):LX s' ts' p:=by subst hs;subst ht;exact h
theorem digN_dig:∀ (f u:Nat),∀ c∈digN f u,digB c=true
 | 0,u,c,h=>by simp [digN] at h
 | f+1,u,c,h=>by
  have hd:∀ x:Nat,x < 10→digB (UInt8.ofNat (48+x))=true:=by
   intro x hx
   rw [digB_iff,UInt8.toNat_ofNat']
   omega
  rw [digN] at h
  cases hb:Nat.blt u 10 with
  | true =>
   rw [hb,cT] at h
   rw [Nat.blt_eq] at hb
   rw [List.mem_singleton] at h;rw [h];exact hd u hb
  | false =>
   rw [hb,cF] at h
   rcases List.mem_append.1 h with h | h
   ·exact digN_dig f _ c h
   ·rw [List.mem_singleton] at h;rw [h];exact hd (u % 10) (Nat.mod_lt _ (by omega))
theorem ldAll:((List.range 256).all fun r => !(letB (UInt8.ofNat r)) || !(digB (UInt8.ofNat r)))=true:=by kernel_rfl
theorem dmAll:((List.range 256).all fun r => !(digB (UInt8.ofNat r)) || !(marks2.any fun m=>m==[45,UInt8.ofNat r]))=true:=by kernel_rfl
theorem digN_ne (f u:Nat):digN (f+1) u≠[]:=by
 rw [digN];cases Nat.blt u 10<;>simp
theorem digN_head:∀ (f u:Nat),0 < u→u < 10 ^ (f+1)→(digN (f+1) u).head? ≠ some 48
 | f,u,h0,hu=>by
  rw [digN]
  cases hb:Nat.blt u 10 with
  | true =>
   rw [Nat.blt_eq] at hb
   simp only [cT,List.head?_cons]
   intro h
   injection h with h
   have:=congrArg UInt8.toNat h
   rw [UInt8.toNat_ofNat'] at this
   simp at this;omega
  | false =>
   have hb':¬ u < 10:=by intro h;rw [show Nat.blt u 10=true by rw [Nat.blt_eq];exact h] at hb;cases hb
   cases f with
   | zero=>omega
   | succ f =>
    simp only [cF]
    have:=digN_head f (u / 10) (by omega) (by rw [Nat.pow_succ] at hu;omega)
    cases hd:digN (f+1) (u / 10) with
    | nil=>exact absurd hd (digN_ne f _)
    | cons x l=>rw [hd] at this;simpa using this
theorem digN_short:∀ (f k u:Nat),u < 10 ^ k→0 < k→(digN f u).length≤k
 | 0,k,u,_,_=>by simp [digN]
 | f+1,k,u,h,hk=>by
  rw [digN]
  cases hb:Nat.blt u 10 with
  | true=>simp;omega
  | false =>
   have hb':¬ u < 10:=by intro h;rw [show Nat.blt u 10=true by rw [Nat.blt_eq];exact h] at hb;cases hb
   obtain ⟨k,rfl⟩:∃ j,k=j+1:=⟨k-1,by omega⟩
   cases k with
   | zero=>omega
   | succ k =>
    have:=digN_short f (k+1) (u / 10) (by rw [Nat.pow_succ] at h;omega) (by omega)
    simp only [cF,lA,List.length_cons,List.length_nil];omega
theorem valN_digN:∀ (f u:Nat),u < 10 ^ f→valN (digN f u)=u
 | 0,u,h=>by
  have:u=0:=by simpa using h
  subst this;rfl
 | f+1,u,h=>by
  rw [digN]
  have hd:∀ x:Nat,x < 10→(UInt8.ofNat (48+x)).toNat-48=x:=by
   intro x hx
   rw [UInt8.toNat_ofNat'];omega
  cases hb:Nat.blt u 10 with
  | true =>
   rw [Nat.blt_eq] at hb
   show 10 * 0+((UInt8.ofNat (48+u)).toNat-48)=u
   rw [hd u hb];omega
  | false =>
   simp only [cF]
   have hv:valN (digN f (u / 10)++[UInt8.ofNat (48+u % 10)])=10 * valN (digN f (u / 10))+((UInt8.ofNat (48+u % 10)).toNat-48):=by unfold valN;rw [List.foldl_append];rfl
   rw [hv,valN_digN f (u / 10) (by rw [Nat.pow_succ] at h;omega),hd (u % 10) (Nat.mod_lt _ (by omega))]
   omega
theorem num_tok {u:Nat} (hu:u < 1000000):tokB (digN 25 u)=.ok 2 [] (u:Int) (digN 25 u).length:=by
 have hall:=digN_dig 25 u
 have hlen:=digN_short 25 6 u (by omega) (by omega)
 have hv:valD (digN 25 u)=(u:Int):=by
  rw [show valD (digN 25 u)=((valN (digN 25 u):Nat):Int) from valD_valN _ 0 hall,valN_digN 25 u (by omega)]
 have hne:=digN_ne 24 u
 have hz:(decide ((digN 25 u).length > 6) || (decide ((digN 25 u).length > 1) && (digN 25 u).head? == some 48))=false:=by
  rw [dF (by omega),Bool.false_or,Bool.and_eq_false_iff]
  by_cases h0:u=0
  ·subst h0;left;decide
  ·right
   rw [beq_eq_false_iff_ne]
   exact digN_head 24 u (by omega) (by omega)
 generalize digN 25 u=d at *
 cases d with
 | nil=>exact absurd rfl hne
 | cons x d =>
  have hx:=hall x (List.mem_cons_self ..)
  have hl:letB x=false:=by
   cases h:letB x with
   | false=>rfl
   | true =>
    exfalso
    have h1:=List.all_eq_true.1 ldAll x.toNat (List.mem_range.2 x.toNat_lt)
    rw [UInt8.ofNat_toNat,h,hx] at h1
    cases h1
  unfold tokB
  simp only [hl,hx,cT,cF]
  unfold numB numK
  rw [takeWhile_self digB (x::d) hall,List.drop_length,hz,hv]
  rfl
theorem LX.num {u:Nat} (hu:u < 1000000):LX (digN 25 u) [Nt (u:Int)] pI:=by
 refine LX.tok (num_tok hu) (fun e=>?_) (fun c w hc=>tokB_appI (num_tok hu) (.inr rfl) (by simpa using hc) w)
 cases h:digN 25 u with
 | nil=>exact digN_ne 24 u h
 | cons x d =>
  rw [h] at e
  have:x=47:=by simpa using e
  have hd:=digN_dig 25 u x (by rw [h];simp)
  rw [this] at hd;cases hd
def tkDig (n:Int):List Tok:=if n < 0 then [Mt [45],Nt (0-n)] else [Nt n]
theorem dig_pos {n:Int} (h:0≤n):dig n=digN 25 n.toNat:=by unfold dig itoaS;rw [dF (by omega)];exact bs_mkB _
theorem dig_neg {n:Int} (h:n < 0):dig n=45::digN 25 n.natAbs:=by unfold dig itoaS;rw [dT h];exact bs_mkB _
theorem LX.digp {n:Int} (h0:0≤n) (h:n≤999999):LX (dig n) [Nt n] pI:=by
 rw [dig_pos h0]
 have:=LX.num (u:=n.toNat) (by omega)
 rw [show ((n.toNat:Nat):Int)=n by omega] at this
 exact this
theorem LX.dig {n:Int} (h:Small n):LX (dig n) (tkDig n) pI:=by
 unfold Small at h
 unfold tkDig
 by_cases hn:n < 0
 ·rw [if_pos hn,dig_neg hn]
  have h2:=LX.num (u:=n.natAbs) (by omega)
  rw [show ((n.natAbs:Nat):Int)=0-n by omega] at h2
  have hall:=digN_dig 25 n.natAbs
  have hne:digN 25 n.natAbs≠[]:=digN_ne 24 _
  generalize digN 25 n.natAbs=d at *
  refine (LX.mark1 (x:=45) (by decide) (by decide)).app h2 (fun c hc=>?_) (fun h=>absurd h hne)
  cases d with
  | nil=>exact absurd rfl hne
  | cons x d =>
   have hx:=hall x (by simp)
   have:x=c:=by simpa using hc
   subst this
   have h1:=List.all_eq_true.1 dmAll x.toNat (List.mem_range.2 x.toNat_lt)
   rw [UInt8.ofNat_toNat,hx] at h1
   simpa using h1
 ·rw [if_neg hn];exact LX.digp (by omega) (by omega)
end Gp
end
section
namespace Gp
open Go Go.Kx Gx
def sepK (st:List Tok):List (List Tok)→List Tok
  | []=>[]
  | x::r=>x++(r.map (st++·)).flatten
theorem LX.flat {α:Type} {g:α→List UInt8} {t:α→List Tok} {sb:List UInt8} {st:List Tok} {c:UInt8} {sb':List UInt8} (hsb:sb=c::sb') (hc:pI c=true):∀ (l:List α),(∀ x∈l,LX (sb++g x) (st++t x) pI)→LX ((l.map fun x=>sb++g x).flatten) ((l.map fun x=>st++t x).flatten) pI
 | [],_=>LX.nil _
 | x::l,h=>by
  simp only [List.map_cons,List.flatten_cons]
  refine (h x (List.mem_cons_self ..)).app (LX.flat hsb hc l fun y hy=>h y (List.mem_cons_of_mem _ hy)) (fun d hd=>?_) (fun _ _ h=>h)
  cases l with
  | nil=>simp at hd
  | cons y l=>rw [hsb] at hd;simp at hd;subst hd;exact hc
theorem LX.sep {α:Type} {g:α→List UInt8} {t:α→List Tok} {sb:List UInt8} {st:List Tok} {c:UInt8} {sb':List UInt8} (hsb:sb=c::sb') (hc:pI c=true) (l:List α) (h1:∀ x∈l,LX (g x) (t x) pI) (h2:∀ x∈l,LX (sb++g x) (st++t x) pI):LX (joinL sb (l.map g)) (sepK st (l.map t)) pI:=by
 cases l with
 | nil=>exact LX.nil _
 | cons x l =>
  have e1:joinL sb ((x::l).map g)=g x++(l.map fun x=>sb++g x).flatten:=by simp only [List.map_cons,joinL,List.map_map];rfl
  have e2:sepK st ((x::l).map t)=t x++(l.map fun x=>st++t x).flatten:=by simp only [List.map_cons,sepK,List.map_map];rfl
  rw [e1,e2]
  refine (h1 x (List.mem_cons_self ..)).app (LX.flat hsb hc l fun y hy=>h2 y (List.mem_cons_of_mem _ hy)) (fun d hd=>?_) (fun _ _ h=>h)
  cases l with
  | nil=>simp at hd
  | cons y l=>rw [hsb] at hd;simp at hd;subst hd;exact hc
theorem LX.kwR {x:List UInt8} (h:nameL' x):LX (x++[32]) [Wt x] pT:=((LX.name h).appC (LX.blank (b:=32) rfl) rfl).eqT rfl (by simp)
theorem LX.kw {x:List UInt8} (h:nameL' x):LX ([32]++(x++[32])) [Wt x] pT:=((LX.blank (b:=32) rfl).appT (LX.kwR h)).eqT rfl (by simp)
theorem kname {x:List UInt8} (c:UInt8) (l:List UInt8) (h:x=c::l) (h1:letB c=true) (h2:(l.all innB)=true) (h3:decide (l.length < 16)=true):nameL' x:=⟨c,l,h,h1,by simpa using h2,by simpa using h3⟩
theorem pAll:((List.range 256).all fun r => !(letB (UInt8.ofNat r)) || !(marks2.any fun m=>m==[46,UInt8.ofNat r]))=true:=by kernel_rfl
theorem let_dot {c:UInt8} (h:letB c=true):(!(marks2.any fun m=>m==[46,c]))=true:=by
 have h1:=List.all_eq_true.1 pAll c.toNat (List.mem_range.2 c.toNat_lt)
 rw [UInt8.ofNat_toNat,h] at h1
 simpa using h1
theorem LX.dot {x:List UInt8} (h:nameL' x):LX ([46]++x) ([Mt [46]]++[Wt x]) pI:=by
 refine (LX.mark1 (x:=46) (by decide) (by decide)).app (LX.name h) (fun c hc=>?_) (fun e=>?_)
 ·obtain ⟨d,l,rfl,h1,_⟩:=h
  simp at hc;subst hc
  exact let_dot h1
 ·obtain ⟨d,l,rfl,h1,_⟩:=h;cases e
def tkPath (s:ByteArray):List Tok:=sepK [Mt [46]] ((splitA [] (bs s)).map fun p=>[Wt p])
theorem splitA_ne:∀ (l acc:List UInt8),splitA acc l≠[]
 | [],acc=>by simp [splitA]
 | c::l,acc=>by
  rw [splitA_cons]
  split
  ·simp
  ·exact splitA_ne l _
theorem joinA:∀ (l acc:List UInt8),joinL [46] (splitA acc l)=acc++l
 | [],acc=>by simp [splitA,joinL]
 | c::l,acc=>by
  rw [splitA_cons]
  by_cases hc:c=46
  ·rw [if_pos hc,hc]
   have ih:=joinA l []
   cases h:splitA [] l with
   | nil=>exact absurd h (splitA_ne l [])
   | cons x r =>
    rw [h] at ih
    simp only [joinL,List.map_cons,List.flatten_cons,List.nil_append] at ih ⊢
    rw [← ih];simp
  ·rw [if_neg hc,joinA l (acc++[c])];simp
theorem path_parts {s:ByteArray} (h:pathV s=true):∀ p∈splitA [] (bs s),nameL' p:=by
 unfold pathV at h
 rw [Bool.and_eq_true,List.all_eq_true] at h
 intro p hp
 have:=word_name (h.2 p hp)
 rw [bs_mkB] at this
 exact this
theorem LX.path {s:ByteArray} (h:pathV s=true):LX (bs s) (tkPath s) pI:=by
 have hp:=path_parts h
 have:=LX.sep (g:=fun p:List UInt8=>p) (t:=fun p=>[Wt p]) (sb:=[46]) (st:=[Mt [46]]) (c:=46) (sb':=[]) rfl rfl (splitA [] (bs s)) (fun p h=>LX.name (hp p h)) (fun p h=>LX.dot (hp p h))
 rw [List.map_id',joinA,List.nil_append] at this
 exact this
theorem LX.comma:LX [44,32] [Mt [44]] pT:=((LX.sign (x:=44) (by decide) (by decide) rfl).appT (LX.blank (b:=32) rfl)).eqT rfl rfl
def tkWords (l:List ByteArray):List Tok:=sepK [Mt [44]] (l.map fun w=>[Wt (bs w)])
theorem LX.words {l:List ByteArray} {k:Nat} (h:WordsP l k):LX (commaT l) (tkWords l) pI :=
 LX.sep (g:=bs) (t:=fun w=>[Wt (bs w)]) (c:=44) (sb':=[32]) rfl rfl l (fun w hw=>LX.word (h.2.2 w hw)) (fun w hw=>LX.comma.appT (LX.word (h.2.2 w hw)))
def tkFld (f:T4):List Tok:=[Wt (bs f.Name)]++(bif f.Sort'.Kind==2 then [Mt [58],Wt [116,101,120,116]] else [Mt [58],Wt [105,110,116]])++tkDig f.Sort'.Lo++[Mt [46,46]]++tkDig f.Sort'.Hi
theorem LX.colonT:LX [58,32,116,101,120,116,32] [Mt [58],Wt [116,101,120,116]] pT:=((LX.sign (x:=58) (by decide) (by decide) rfl).appT (LX.kw (x:=[116,101,120,116]) (kname _ _ rfl rfl rfl rfl))).eqT rfl rfl
theorem LX.colonI:LX [58,32,105,110,116,32] [Mt [58],Wt [105,110,116]] pT:=((LX.sign (x:=58) (by decide) (by decide) rfl).appT (LX.kw (x:=[105,110,116]) (kname _ _ rfl rfl rfl rfl))).eqT rfl rfl
theorem LX.fld {f:T4} (h:FldP f):LX (fldT f) (tkFld f) pI:=by
 unfold fldT tkFld
 have hd:LX (bs f.Name++(bif f.Sort'.Kind==2 then [58,32,116,101,120,116,32] else [58,32,105,110,116,32])) ([Wt (bs f.Name)]++(bif f.Sort'.Kind==2 then [Mt [58],Wt [116,101,120,116]] else [Mt [58],Wt [105,110,116]])) pT:=by
  cases (f.Sort'.Kind==2) with
  | true=>exact (LX.word h.1).appC LX.colonT rfl
  | false=>exact (LX.word h.1).appC LX.colonI rfl
 exact ((hd.appT (LX.dig h.2.2.1)).appC (LX.mark2 (m:=[46,46]) (by decide)) rfl).appT (LX.dig h.2.2.2.1)
def tkBase (t:T23):List Tok:=bif eqStr t.Message (str []) then [Wt (bs t.Field)] else tkPath t.Message++[Mt [46]]++[Wt (bs t.Field)]
def tkTail (t:T23):List Tok:=bif decide (t.N > 0) then [Mt [43],Nt t.N] else bif decide (t.N < 0) then [Mt [45],Nt (0-t.N)] else []
def tkTerm (t:T23):List Tok:=bif t.Kind==1 then tkDig t.N else (bif t.Kind==3 then [Wt [108,101,110],Mt [40]]++tkBase t++[Mt [41]] else tkBase t)++tkTail t
theorem LX.tail {t:T23} (h:Small t.N) {s:List UInt8} {ts:List Tok} (hs:LX s ts pI):LX (s++termN t) (ts++tkTail t) pI:=by
 unfold Small at h
 unfold termN tkTail
 cases h1:decide (t.N > 0) with
 | true =>
  rw [decide_eq_true_eq] at h1
  simp only [cT]
  have e:LX [32,43,32] [Mt [43]] pT:=((LX.blank (b:=32) rfl).appT ((LX.sign (x:=43) (by decide) (by decide) rfl).appT (LX.blank (b:=32) rfl))).eqT rfl rfl
  exact (hs.appC (e.appT (LX.digp (by omega) (by omega))) rfl).eqT rfl rfl
 | false =>
  simp only [cF]
  cases h2:decide (t.N < 0) with
  | true =>
   rw [decide_eq_true_eq] at h2
   simp only [cT]
   have e:LX [32,45,32] [Mt [45]] pT:=((LX.blank (b:=32) rfl).appT ((LX.mark1 (x:=45) (by decide) (by decide)).appC (LX.blank (b:=32) rfl) rfl)).eqT rfl rfl
   exact (hs.appC (e.appT (LX.digp (by omega) (by omega))) rfl).eqT rfl rfl
  | false=>exact hs.eqT (by simp) (by simp)
theorem LX.base {t:T23} (h:TermP t) (h1:t.Kind≠1):LX (termB t) (tkBase t) pI:=by
 rcases h.2 with h | ⟨_,h2,h3⟩
 ·exact absurd h.1 h1
 ·unfold termB tkBase
  cases he:eqStr t.Message (str []) with
  | true=>exact LX.word h2
  | false =>
   simp only [cF]
   have hp:pathV t.Message=true:=h3.resolve_left (fun e=>by rw [(eqStr_iff _ _).2 e] at he;cases he)
   refine ((LX.path hp).appC (LX.mark1 (x:=46) (by decide) (by decide)) rfl).app (LX.word h2) (fun c hc=>?_) (fun e=>?_)
   ·obtain ⟨d,l,e,h1,_⟩:=word_name h2
    rw [e] at hc;simp at hc;subst hc
    exact let_dot h1
   ·obtain ⟨d,l,e',h1,_⟩:=word_name h2
    rw [e] at e';cases e'
theorem LX.term {t:T23} (h:TermP t):LX (termT t) (tkTerm t) pI:=by
 unfold termT tkTerm
 cases h1:(t.Kind==1) with
 | true=>exact LX.dig h.1
 | false =>
  have h1:t.Kind≠1:=by simpa using h1
  simp only [cF]
  refine LX.tail h.1 ?_
  cases (t.Kind==3) with
  | false=>exact LX.base h h1
  | true =>
   simp only [cT]
   have e:LX [108,101,110,40] [Wt [108,101,110],Mt [40]] pT:=((LX.name (x:=[108,101,110]) (kname _ _ rfl rfl rfl rfl)).appC (LX.sign (x:=40) (by decide) (by decide) rfl) rfl).eqT rfl rfl
   exact ((e.appT (LX.base h h1)).appC (LX.sign (x:=41) (by decide) (by decide) rfl) rfl).toI
def tkAtom (a:T19):List Tok:=tkTerm a.Left++[Mt (bs a.Op)]++tkTerm a.Right
theorem LX.op {s:ByteArray} (h:s∈marksL):LX ([32]++bs s++[32]) [Mt (bs s)] pT:=by
 simp only [marksL,List.mem_cons,List.not_mem_nil,or_false] at h
 rcases h with h | h | h | h | h<;>subst h
 ·exact (((LX.blank (b:=32) rfl).appT (LX.mark1 (x:=60) (by decide) (by decide))).appC (LX.blank (b:=32) rfl) rfl).eqT rfl rfl
 ·exact (((LX.blank (b:=32) rfl).appT (LX.mark2 (m:=[60,61]) (by decide))).appT (LX.blank (b:=32) rfl)).eqT rfl rfl
 ·exact (((LX.blank (b:=32) rfl).appT (LX.mark2 (m:=[61,61]) (by decide))).appT (LX.blank (b:=32) rfl)).eqT rfl rfl
 ·exact (((LX.blank (b:=32) rfl).appT (LX.mark2 (m:=[62,61]) (by decide))).appT (LX.blank (b:=32) rfl)).eqT rfl rfl
 ·exact (((LX.blank (b:=32) rfl).appT (LX.mark1 (x:=62) (by decide) (by decide))).appC (LX.blank (b:=32) rfl) rfl).eqT rfl rfl
theorem LX.atom {a:T19} (h:AtomP a):LX (atomT a) (tkAtom a) pI :=
 (((LX.term h.1).appC (LX.op h.2.2) rfl).appT (LX.term h.2.1)).eqT (by simp [atomT]) (by simp [tkAtom])
def tkWhere (l:List T19):List Tok:=match l with
 | []=>[]
 | _::_=>Wt [119,104,101,114,101]::sepK [Wt [97,110,100]] (l.map tkAtom)
def tkMsg (m:T21):List Tok:=[Wt [109,101,115,115,97,103,101]]++tkPath m.Name++[Mt [40]]++sepK [Mt [44]] (m.Fields.map tkFld)++[Mt [41]]++tkWhere m.Where++[Mt [59]]
theorem LX.semi:LX [59] [Mt [59]] pT:=LX.sign (x:=59) (by decide) (by decide) rfl
theorem LX.wh {l:List T19} (h:∀ a∈l,AtomP a) {s:List UInt8} {ts:List Tok} (hs:LX s ts pT):LX (s++whereT l++[59]) (ts++tkWhere l++[Mt [59]]) pT:=by
 cases l with
 | nil=>exact (hs.appT LX.semi).eqT (by simp [whereT]) (by simp [tkWhere])
 | cons a l =>
  have hw:=LX.kw (x:=[119,104,101,114,101]) (kname _ _ rfl rfl rfl rfl)
  have ha:=LX.kw (x:=[97,110,100]) (kname _ _ rfl rfl rfl rfl)
  have hl:=LX.sep (g:=atomT) (t:=tkAtom) (sb:=[32,97,110,100,32]) (st:=[Wt [97,110,100]]) (c:=32) (sb':=[97,110,100,32]) rfl rfl (a::l) (fun x hx=>LX.atom (h x hx)) (fun x hx=>(ha.appT (LX.atom (h x hx))).eqT rfl rfl)
  exact ((hs.appT (hw.appT hl)).appC LX.semi rfl).eqT rfl rfl
theorem LX.msg {m:T21} (h:MsgP m):LX (msgT m) (tkMsg m) pT:=by
 unfold msgT tkMsg
 have hk:LX [109,101,115,115,97,103,101,32] [Wt [109,101,115,115,97,103,101]] pT:=LX.kwR (x:=[109,101,115,115,97,103,101]) (kname _ _ rfl rfl rfl rfl)
 have hf:=LX.sep (g:=fldT) (t:=tkFld) (sb:=[44,32]) (st:=[Mt [44]]) (c:=44) (sb':=[32]) rfl rfl m.Fields (fun f hf=>LX.fld (h.2.2.2.1 f hf)) (fun f hf=>LX.comma.appT (LX.fld (h.2.2.2.1 f hf)))
 refine LX.wh h.2.2.2.2 ?_
 exact (((hk.appT (LX.path h.1)).appC (LX.sign (x:=40) (by decide) (by decide) rfl) rfl).appT hf).appC (LX.sign (x:=41) (by decide) (by decide) rfl) rfl
end Gp
end
section
namespace Gp
open Go Go.Kx Gx
def kwT (w:List UInt8):List Tok:=match w with
 | []=>[]
 | _::_=>[Wt w]
def tkHead (first:Bool) (th:List Tok) (w last:List UInt8) (e:Bool):List Tok:=bif first then th++[Mt [123]] else [Mt [125]]++kwT (bif (e && !last.isEmpty) then last else w)++[Mt [123]]
def tkSend (f:ByteArray) (t:List ByteArray) (n:ByteArray):List Tok:=[Wt (bs f)]++[Mt [45,62]]++tkWords t++[Mt [58]]++tkPath n++[Mt [59]]
def tkAgain (n:ByteArray):List Tok:=[Wt [97,103,97,105,110]]++tkPath n++[Mt [59]]
def tkCall (n:ByteArray) (t:List ByteArray) (a:ByteArray):List Tok:=[Wt [99,97,108,108]]++[Wt (bs n)]++[Mt [40]]++tkWords t++[Mt [41],Wt [97,115]]++[Wt (bs a)]++[Mt [59]]
def tkChoice (f:ByteArray):List Tok:=[Wt [99,104,111,105,99,101],Wt [97,116]]++[Wt (bs f)]
def tkWithin (f:ByteArray) (x:Int):List Tok:=tkChoice f++[Wt [119,105,116,104,105,110]]++[Nt x]
def tkLoop (n:ByteArray):List Tok:=[Wt [108,111,111,112]]++tkPath n
mutual
def tkI:T20→List Tok
 | ⟨kd,f,t,n,a,x,b⟩ =>
  bif kd==1 then tkSend f t n
  else bif kd==2 then (bif decide (x > 0) then tkR true (tkWithin f x) orT elseT b else tkR true (tkChoice f) orT [] b)
  else bif kd==3 then tkR true (tkLoop n) [] [] b
  else bif kd==4 then tkAgain n
  else bif kd==5 then tkR true [Wt parT] andT [] b
  else bif kd==6 then tkCall n t a
  else []
def tkL:List T20→List Tok
 | []=>[]
 | x::l=>tkI x++tkL l
def tkR (first:Bool) (th:List Tok) (w last:List UInt8):List (List T20)→List Tok
 | []=>[Mt [125]]
 | b::l=>tkHead first th w last l.isEmpty++(tkL b++tkR false th w last l)
end
theorem LX.tabs:∀ k,LX (tabs k) [] pT
 | 0=>LX.nil _
 | k+1=>by
  rw [tabs_succ]
  exact ((LX.tabs k).appT (LX.blank (b:=9) rfl)).eqT rfl rfl
theorem LX.line {F:List UInt8} {ts:List Tok} (k:Nat) (h:LX F ts pI):LX (lineT k F) ts pT :=
 ((LX.tabs k).appT (h.appC (LX.blank (b:=10) rfl) rfl)).eqT rfl (by simp)
theorem LX.open':LX [32,123] [Mt [123]] pT:=((LX.blank (b:=32) rfl).appT (LX.sign (x:=123) (by decide) (by decide) rfl)).eqT rfl rfl
theorem LX.close:LX [125] [Mt [125]] pT:=LX.sign (x:=125) (by decide) (by decide) rfl
def kwP (w:List UInt8):Prop:=w=[]∨nameL' w
theorem LX.kwT {w:List UInt8} (h:kwP w):LX w (kwT w) pI:=by
 rcases h with rfl | h
 ·exact LX.nil _
 ·obtain ⟨c,l,rfl,h1,h2⟩:=h
  exact LX.name ⟨c,l,rfl,h1,h2⟩
theorem LX.head {first:Bool} {hd w last:List UInt8} {th:List Tok} {e:Bool} (h1:LX hd th pI) (h2:kwP w) (h3:kwP last):LX (headT first hd w last e) (tkHead first th w last e) pI:=by
 unfold headT tkHead
 cases first with
 | true=>exact (h1.appC LX.open' rfl).toI
 | false =>
  simp only [cF]
  have hx:kwP (bif (e && !last.isEmpty) then last else w):=by cases (e && !last.isEmpty)<;>assumption
  have hc:LX [125,32] [Mt [125]] pT:=(LX.close.appT (LX.blank (b:=32) rfl)).eqT rfl rfl
  exact ((hc.appT (LX.kwT hx)).appC LX.open' rfl).toI
theorem LX.sendL {f:ByteArray} {t:List ByteArray} {n:ByteArray} {k:Nat} (h1:isWord f=true) (h2:WordsP t k) (h3:pathV n=true):LX (sendT f t n) (tkSend f t n) pT:=by
 unfold sendT tkSend
 have e1:LX [32,45,62,32] [Mt [45,62]] pT:=((LX.blank (b:=32) rfl).appT ((LX.mark2 (m:=[45,62]) (by decide)).appT (LX.blank (b:=32) rfl))).eqT rfl rfl
 have e2:LX [58,32] [Mt [58]] pT:=((LX.sign (x:=58) (by decide) (by decide) rfl).appT (LX.blank (b:=32) rfl)).eqT rfl rfl
 exact ((((((LX.word h1).appC e1 rfl).appT (LX.words h2)).appC e2 rfl).appT (LX.path h3)).appC LX.semi rfl)
theorem LX.againL {n:ByteArray} (h:pathV n=true):LX (againT n) (tkAgain n) pT :=
 ((LX.kwR (x:=[97,103,97,105,110]) (kname _ _ rfl rfl rfl rfl)).appT (LX.path h)).appC LX.semi rfl
theorem LX.callL {n:ByteArray} {t:List ByteArray} {a:ByteArray} {k:Nat} (h1:isWord n=true) (h2:WordsP t k) (h3:isWord a=true):LX (callT n t a) (tkCall n t a) pT:=by
 unfold callT tkCall
 have e1:=LX.kwR (x:=[99,97,108,108]) (kname _ _ rfl rfl rfl rfl)
 have e2:LX [40] [Mt [40]] pT:=LX.sign (x:=40) (by decide) (by decide) rfl
 have e3:LX [41,32,97,115,32] [Mt [41],Wt [97,115]] pT:=((LX.sign (x:=41) (by decide) (by decide) rfl).appT (LX.kw (x:=[97,115]) (kname _ _ rfl rfl rfl rfl))).eqT rfl rfl
 exact ((((((e1.appT (LX.word h1)).appC e2 rfl).appT (LX.words h2)).appC e3 rfl).appT (LX.word h3)).appC LX.semi rfl)
theorem LX.choiceL {f:ByteArray} (h:isWord f=true):LX (choiceT f) (tkChoice f) pI:=by
 have e:LX [99,104,111,105,99,101,32,97,116,32] [Wt [99,104,111,105,99,101],Wt [97,116]] pT:=((LX.kwR (x:=[99,104,111,105,99,101]) (kname _ _ rfl rfl rfl rfl)).appT (LX.kwR (x:=[97,116]) (kname _ _ rfl rfl rfl rfl))).eqT rfl rfl
 exact e.appT (LX.word h)
theorem LX.withinL {f:ByteArray} {x:Int} (h:isWord f=true) (h0:0≤x) (h1:x≤1000):LX (withinT f x) (tkWithin f x) pI :=
 ((LX.choiceL h).appC (LX.kw (x:=[119,105,116,104,105,110]) (kname _ _ rfl rfl rfl rfl)) rfl).appT (LX.digp h0 (by omega))
theorem LX.loopL {n:ByteArray} (h:pathV n=true):LX (loopT n) (tkLoop n) pI :=
 (LX.kwR (x:=[108,111,111,112]) (kname _ _ rfl rfl rfl rfl)).appT (LX.path h)
mutual
theorem LX.item:∀ (x:T20) (k:Nat),shI x→LX (xI k x) (tkI x) pT
 | ⟨kd,f,t,n,a,x,b⟩,k,hs=>by
  simp only [shI] at hs
  obtain ⟨hP,hsb⟩:=hs
  unfold ShP at hP
  simp only at hP
  rcases hP with hP | hP | hP | hP | hP | hP
  ·rw [hP.1]
   exact LX.line k (LX.sendL hP.2.1 hP.2.2.1 hP.2.2.2.1).toI
  ·rw [hP.1]
   show LX (bif decide (x > 0) then xR k true (withinT f x) orT elseT b else xR k true (choiceT f) orT [] b) (bif decide (x > 0) then tkR true (tkWithin f x) orT elseT b else tkR true (tkChoice f) orT [] b) pT
   cases decide (x > 0) with
   | true=>exact LX.blocks b k true (withinT f x) (tkWithin f x) orT elseT hsb (LX.withinL hP.2.1 hP.2.2.2.2.2.1 hP.2.2.2.2.2.2.1) (.inr (kname _ _ rfl rfl rfl rfl)) (.inr (kname _ _ rfl rfl rfl rfl))
   | false=>exact LX.blocks b k true (choiceT f) (tkChoice f) orT [] hsb (LX.choiceL hP.2.1) (.inr (kname _ _ rfl rfl rfl rfl)) (.inl rfl)
  ·rw [hP.1]
   exact LX.blocks b k true (loopT n) (tkLoop n) [] [] hsb (LX.loopL hP.2.2.2.1) (.inl rfl) (.inl rfl)
  ·rw [hP.1]
   exact LX.line k (LX.againL hP.2.2.2.1).toI
  ·rw [hP.1]
   exact LX.blocks b k true parT [Wt parT] andT [] hsb (LX.name (kname _ _ rfl rfl rfl rfl)) (.inr (kname _ _ rfl rfl rfl rfl)) (.inl rfl)
  ·rw [hP.1]
   exact LX.line k (LX.callL hP.2.2.2.1 hP.2.2.1 hP.2.2.2.2.1).toI
theorem LX.items:∀ (l:List T20) (k:Nat),shL l→LX (xL k l) (tkL l) pT
 | [],k,_=>by simp only [xL,tkL];exact LX.nil _
 | x::l,k,hs=>by
  simp only [shL] at hs
  simp only [xL,tkL]
  exact (LX.item x k hs.1).appT (LX.items l k hs.2)
theorem LX.blocks:∀ (l:List (List T20)) (k:Nat) (first:Bool) (hd:List UInt8) (th:List Tok) (w last:List UInt8),shLL l→LX hd th pI→kwP w→kwP last→LX (xR k first hd w last l) (tkR first th w last l) pT
 | [],k,first,hd,th,w,last,_,_,_,_=>by simp only [xR,tkR];exact LX.line k LX.close.toI
 | b::l,k,first,hd,th,w,last,hs,h1,h2,h3=>by
  simp only [shLL] at hs
  simp only [xR,tkR]
  exact (LX.line k (LX.head h1 h2 h3)).appT ((LX.items b (k+1) hs.1).appT (LX.blocks l k false hd th w last hs.2 h1 h2 h3))
end
def tkProt (p:T22):List Tok:=[Wt [112,114,111,116,111,99,111,108]]++[Wt (bs p.Name)]++[Mt [40]]++tkWords p.Roles++[Mt [41],Mt [123]]++(p.Messages.map tkMsg).flatten++tkL p.Body++[Mt [125]]
def tkSrc (l:List T22):List Tok:=(l.map tkProt).flatten
theorem LX.msgs:∀ l:List T21,(∀ m∈l,MsgP m)→LX ((l.map msgLine).flatten) ((l.map tkMsg).flatten) pT
 | [],_=>LX.nil _
 | m::l,h=>by
  simp only [List.map_cons,List.flatten_cons]
  exact (LX.line 1 (LX.msg (h m (List.mem_cons_self ..))).toI).appT (LX.msgs l fun x hx=>h x (List.mem_cons_of_mem _ hx))
end Gp
end
