/- The plain law, part 3: what the functions compute answers as the statement says. -/
import Derived.Test.YteimgnlbpphmjaaGreatDoorSyntaxFirstPlain2
set_option linter.all false
section
namespace Gp
open Go Go.Kx Gx
open Classical in
noncomputable def fineR (ps:List T12):List T12 × Int × Int:=if ValidP ps then (ps,0,0) else ([],0,6)
theorem fineR_pos {ps:List T12} (h:ValidP ps):fineR ps=(ps,0,0):=by unfold fineR;rw [if_pos h]
theorem fineR_neg {ps:List T12} (h:¬ ValidP ps):fineR ps=([],0,6):=by unfold fineR;rw [if_neg h]
def endR (ts:List Tok) (e:Int) (o:List T12→List T12 × Int × Int):Rr (List T12)→List T12 × Int × Int
 | .ok ps _=>o ps
 | .er k c=>([],off ts e k,c)
 | .out=>([],0,6)
noncomputable def parseS (s:ByteArray):List T12 × Int × Int :=
 match toksS s with
 | .inl (p,e)=>([],(p:Int),e)
 | .inr ts=>endR ts (s.size:Int) fineR (sParse 8200 8200 [] ts 0)
theorem zM_le (m:T11) (ms:List T11) (h:m∈ms):zM m≤zMs ms:=by
 induction ms with
 | nil=>cases h
 | cons x l ih =>
  simp only [zMs]
  rcases List.mem_cons.1 h with rfl | h
  ·omega
  ·have:=ih h;omega
theorem zMs_len (ms:List T11):ms.length≤zMs ms:=by
 induction ms with
 | nil=>exact Nat.le_refl _
 | cons x l ih=>simp only [zMs,List.length_cons];omega
theorem zA_le (a:T9) (l:List T9) (h:a∈l):zA a≤zAs l:=by
 induction l with
 | nil=>cases h
 | cons x l ih =>
  simp only [zAs]
  rcases List.mem_cons.1 h with rfl | h
  ·omega
  ·have:=ih h;omega
theorem zAs_len (l:List T9):l.length≤zAs l:=by
 induction l with
 | nil=>exact Nat.le_refl _
 | cons x l ih=>simp only [zAs,List.length_cons];omega
structure Zf (p:T12):Prop where
 b:bP p
 d:dL p.Body≤8000
 c:cL p.Body≤8000
 n:nL p.Body
 m:∀ m∈p.Messages,nM m
theorem Zf.of {p:T12} (h:zP p≤8000):Zf p:=by
 unfold zP at h
 obtain ⟨h1,h2⟩:=z_L p.Body (by omega)
 have h3:=zc_L p.Body
 have h4:=zL_len p.Body
 have h5:=zMs_len p.Messages
 refine ⟨⟨by omega,by omega,fun m hm=>?_,by omega,h1⟩,by omega,by omega,zn_L _ (by omega),fun m hm=>?_⟩
 ·have:=zM_le m _ hm
  unfold zM at this
  have:=zAs_len m.Where
  exact ⟨by omega,by omega⟩
 ·have hz:=zM_le m _ hm
  unfold zM pz at hz
  refine ⟨by omega,fun a ha=>?_⟩
  have:=zA_le a _ ha
  unfold zA pz at this
  exact ⟨by omega,by omega⟩
theorem Dq.get {o:Option Bool} {P:Prop} (h:Dq o P) (hp:P):o=some true:=by
 obtain ⟨r,h1,h2⟩:=h
 rw [h1,h2.2 hp]
theorem Dq.getN {o:Option Bool} {P:Prop} (h:Dq o P) (hp:¬P):o=some false:=by
 obtain ⟨r,h1,h2⟩:=h
 cases r with
 | false=>exact h1
 | true=>exact absurd (h2.1 rfl) hp
variable {N:Nat}
theorem parse_small {s:ByteArray} {ts:List Tok} (ht:toksS s=.inr ts) {ps:List T12} {m:Nat} (h:sParse 8200 8200 [] ts 0=.ok ps m):ps.length≤8000∧∀ p∈ps,zP p≤8000:=by
 obtain ⟨h1,_⟩:=toksS_ok ht
 obtain ⟨qs,e1,e2,e3,e4⟩:=(parse_nm (F:=8200) (by omega) 8200 [] 0 (by omega) (Nat.zero_le _)).2 ps m h
 simp only [List.nil_append] at e1
 subst e1
 exact ⟨by omega,fun p hp=>by have:=e4 p hp;omega⟩
theorem parse_both (hN:4210000 < N) (s:ByteArray):z10 N s=some (parseS s)∧ref10_Parse N s=some ((parseS s).1.map tP,(parseS s).2):=by
 have t1:=tokens_eq (N:=N) (by omega) s
 have t2:=rtokens_eq (N:=N) (by omega) s
 unfold z10 ref10_Parse parseS
 cases ht:toksS s with
 | inl q =>
  obtain ⟨p,e⟩:=q
  rw [ht] at t1 t2
  obtain ⟨h1,h2⟩:=t1
  obtain ⟨_,h3⟩:=t2
  have he:(e != 0)=true:=by simp [h1]
  rw [h2,h3]
  simp only [bS,he,cT]
  exact ⟨by first | rfl | trivial,by first | rfl | trivial⟩
 | inr ts =>
  rw [ht] at t1 t2
  obtain ⟨h1,h2,h3,h4⟩:=toksS_ok ht
  have t1:z23 N s=some (ts,0,0):=t1
  have t2:ref09_Tokens N s=some (ts,0,0):=t2
  rw [t1,t2]
  simp only [bS]
  rw [show ((0:Int) != 0)=false from rfl]
  simp only [cF]
  have p1:=parse_loop (l:=ts) (e:=(s.size:Int)) (N:=N) (by omega) h2 (F:=8200) (by omega) (by omega) (ts,0,0) rfl 8200 N [] 0 (by omega) (by simp) (Nat.zero_le _)
  have p2:=rparse_loop (l:=ts) (N:=N) (by omega) h2 h3 s (F:=8200) (by omega) (by omega) (ts,0,0) rfl 8200 N [] 0 (by omega) (by simp) (Nat.zero_le _)
  cases hp:sParse 8200 8200 [] ts 0 with
  | ok ps m =>
   rw [hp] at p1 p2
   have p1:z10_l2 N (ts,0,0) N [] ts 0 (s.size:Int) 0 0=_:=p1
   have p2:ref10_Parse_l2 N (ts,0,0) N s ts 0 0 0 []=_:=p2
   rw [p1,p2]
   obtain ⟨q1,q2⟩:=parse_small ht hp
   have v1:=valid_dq (N:=N) (by omega) ps (by omega) (fun p hp=>(Zf.of (q2 p hp)).b)
   have v2:=rvalid_dq (N:=N) (by omega) (ps.map tP) (by simp;omega) (fun p hp=>by
    obtain ⟨q,hq,rfl⟩:=List.mem_map.1 hp
    have z:=Zf.of (q2 q hq)
    have e:oL (tP q).Body=q.Body:=ot_L _
    rw [e]
    refine ⟨by show bP (oP (tP q));rw [ot_P];exact z.b,by have:=z.d;omega,by have:=z.c;omega,z.n,fun m hm=>?_⟩
    obtain ⟨m',hm',rfl⟩:=List.mem_map.1 hm
    rw [ot_M]
    exact z.m m' hm')
   rw [map_id' ot_P] at v2
   unfold z10_k1 ref10_Parse_k1
   rw [show ((0:Int) != 0)=false from rfl]
   simp only [cF]
   by_cases hv:ValidP ps
   ·rw [v1.get hv,v2.get hv,endR,fineR_pos hv];exact ⟨rfl,rfl⟩
   ·rw [v1.getN hv,v2.getN hv,endR,fineR_neg hv];exact ⟨rfl,rfl⟩
  | er k c =>
   rw [hp] at p1 p2
   obtain ⟨hc,a1,p1⟩:=p1
   obtain ⟨_,a2,p2⟩:=p2
   have p1:z10_l2 N (ts,0,0) N [] ts 0 (s.size:Int) 0 0=_:=p1
   have p2:ref10_Parse_l2 N (ts,0,0) N s ts 0 0 0 []=_:=p2
   rw [p1,p2]
   unfold z10_k1 ref10_Parse_k1
   have hc:(c != 0)=true:=by simp [hc]
   rw [hc]
   exact ⟨rfl,rfl⟩
  | out=>exact absurd hp (parse_nm (F:=8200) (by omega) 8200 [] 0 (by omega) (Nat.zero_le _)).1
end Gp
end
section
namespace Gp
open Go Go.Kx Gx
theorem blankAll:((List.range 256).all fun r => !(blankB (UInt8.ofNat r)) || (!(innB (UInt8.ofNat r)) && !(digB (UInt8.ofNat r)) && !(UInt8.ofNat r==47) && !(marks2.any fun m=>m.drop 1==[UInt8.ofNat r])))=true:=by kernel_rfl
theorem blank_f {b:UInt8} (h:blankB b=true):innB b=false∧digB b=false∧(b==47)=false∧(marks2.any fun m=>m.drop 1==[b])=false:=by
 have:=List.all_eq_true.1 blankAll b.toNat (List.mem_range.2 b.toNat_lt)
 rw [UInt8.ofNat_toNat,h] at this
 simp only [Bool.not_true,Bool.false_or,Bool.and_eq_true,Bool.not_eq_true'] at this
 exact ⟨this.1.1.1,this.1.1.2,this.1.2,this.2⟩
theorem takeWhile_app {α:Type} (p:α→Bool) (l:List α) (b:α) (w:List α) (h:p b=false):(l++b::w).takeWhile p=l.takeWhile p:=by
 induction l with
 | nil=>simp [List.takeWhile,h]
 | cons c l ih =>
  rw [List.cons_append]
  simp only [List.takeWhile]
  cases p c with
  | true=>simp only [ih]
  | false=>rfl
theorem txtB_app:∀ (l:List UInt8) (w:List UInt8) {t n},txtB l=some (t,n)→txtB (l++w)=some (t,n)
 | [],w,t,n,h=>by simp [txtB] at h
 | [c],w,t,n,h=>by
  simp only [txtB] at h
  cases hc:(c==34) with
  | false=>rw [hc] at h;cases h
  | true =>
   rw [hc] at h
   have:c=34:=by simpa using hc
   subst this
   rw [List.cons_append,txt34];exact h
 | c::d::l,w,t,n,h=>by
  cases h1:(c==34) with
  | true =>
   have:c=34:=by simpa using h1
   subst this
   rw [txt34] at h
   rw [List.cons_append,txt34];exact h
  | false =>
   cases h2:(c==92) with
   | true =>
    have:c=92:=by simpa using h2
    subst this
    cases h3:(d==34 || d==92) with
    | false=>rw [txt_esc0 d l h3] at h;cases h
    | true =>
     rw [txt_esc d l h3] at h
     rw [List.cons_append,List.cons_append,txt_esc d _ h3]
     cases ht:txtB l with
     | none=>rw [ht] at h;cases h
     | some q =>
      obtain ⟨t',n'⟩:=q
      rw [txtB_app l w ht]
      rw [ht] at h
      exact h
   | false =>
    cases h3:badB c with
    | true=>rw [txt_bad c _ h1 h2 h3] at h;cases h
    | false =>
     rw [txt_one c _ h1 h2 h3] at h
     rw [List.cons_append,txt_one c _ h1 h2 h3]
     cases ht:txtB (d::l) with
     | none=>rw [ht] at h;cases h
     | some q =>
      obtain ⟨t',n'⟩:=q
      rw [txtB_app (d::l) w ht]
      rw [ht] at h
      exact h
theorem any2 {c b:UInt8} {w:List UInt8} (h:blankB b=true):(marks2.any fun m=>m==(c::b::w).take 2)=false:=by
 have h2:=(blank_f h).2.2.2
 rw [Bool.eq_false_iff] at h2 ⊢
 intro h3
 apply h2
 rw [List.any_eq_true] at h3 ⊢
 obtain ⟨m,hm,he⟩:=h3
 refine ⟨m,hm,?_⟩
 have he:m=[c,b]:=by simpa using he
 subst he
 simp
theorem tokB_app {s:List UInt8} {k:Int} {tx:List UInt8} {v:Int} {n:Nat} (h:tokB s=.ok k tx v n) {b:UInt8} (hb:blankB b=true) (w:List UInt8):tokB (s++b::w)=.ok k tx v n:=by
 obtain ⟨f1,f2,f3,f4⟩:=blank_f hb
 cases s with
 | nil=>simp [tokB] at h
 | cons c l =>
  rw [List.cons_append]
  unfold tokB at h ⊢
  simp only [takeWhile_app innB l b w f1] at h ⊢
  cases c1:letB c with
  | true=>simp only [c1,cT] at h ⊢;exact h
  | false =>
   simp only [c1,cF] at h ⊢
   cases c2:digB c with
   | true =>
    simp only [c2,cT] at h ⊢
    unfold numB at h ⊢
    have e:=takeWhile_app digB (c::l) b w f2
    rw [List.cons_append] at e
    rw [e]
    have hle:=takeWhile_len digB (c::l)
    have e2:(c::(l++b::w)).drop ((c::l).takeWhile digB).length=(c::l).drop ((c::l).takeWhile digB).length++b::w:=by
     rw [← List.cons_append,List.drop_append_of_le_length hle]
    rw [e2]
    unfold numK at h ⊢
    have e3:((c::l).drop ((c::l).takeWhile digB).length++b::w).head?.any innB=((c::l).drop ((c::l).takeWhile digB).length).head?.any innB:=by
     cases (c::l).drop ((c::l).takeWhile digB).length with
     | nil=>simp [f1]
     | cons x y=>rfl
    rw [e3]
    exact h
   | false =>
    simp only [c2,cF] at h ⊢
    cases c3:(c==34) with
    | true =>
     simp only [c3,cT] at h ⊢
     cases ht:txtB l with
     | none=>rw [ht] at h;cases h
     | some q =>
      obtain ⟨t',n'⟩:=q
      rw [txtB_app l (b::w) ht]
      rw [ht] at h
      exact h
    | false =>
     simp only [c3,cF] at h ⊢
     cases l with
     | nil =>
      have e:(marks2.any fun m=>m==(c::([]++b::w)).take 2)=false:=any2 hb
      rw [e]
      simpa using h
     | cons d l=>exact h
theorem skW_all:∀ (m:Bool) (u w:List UInt8),skW m u=u.length→skW m (u++10::w)=u.length+1+skW false w
 | true,[],w,_=>by simp only [List.nil_append,skW];rw [show ((10:UInt8)==10)=true from rfl,cT];simp only [List.length_nil];omega
 | false,[],w,_=>by simp only [List.nil_append,skW];rw [show blankB 10=true from rfl,cT];simp only [List.length_nil];omega
 | false,c::l,w,h=>by
  simp only [List.cons_append,skW,List.length_cons] at h ⊢
  cases hb:blankB c with
  | true =>
   simp only [hb,cT] at h ⊢
   rw [skW_all false l w (by omega)];omega
  | false =>
   simp only [hb,cF] at h ⊢
   cases hc:(c==47 && l.head? == some 47) with
   | false=>rw [hc] at h;simp at h
   | true =>
    rw [hc] at h
    have e:(c==47 && (l++10::w).head? == some 47)=true:=by
     cases l with
     | nil=>simp at hc
     | cons d l=>exact hc
    rw [e]
    simp only [cT] at h ⊢
    rw [skW_all true l w (by omega)];omega
 | true,c::l,w,h=>by
  simp only [List.cons_append,skW,List.length_cons] at h ⊢
  cases hb:(c==10) with
  | true =>
   simp only [hb,cT] at h ⊢
   rw [skW_all false l w (by omega)];omega
  | false =>
   simp only [hb,cF] at h ⊢
   rw [skW_all true l w (by omega)];omega
theorem skW_part:∀ (m:Bool) (u w:List UInt8) {b:UInt8},blankB b=true→skW m u < u.length→skW m (u++b::w)=skW m u
 | _,[],w,b,_,h=>by simp at h
 | false,c::l,w,b,hbl,h=>by
  simp only [List.cons_append,skW,List.length_cons] at h ⊢
  cases hb:blankB c with
  | true =>
   simp only [hb,cT] at h ⊢
   rw [skW_part false l w hbl (by omega)]
  | false =>
   simp only [hb,cF] at h ⊢
   have e:(c==47 && (l++b::w).head? == some 47)=(c==47 && l.head? == some 47):=by
    cases l with
    | nil=>simp [(blank_f hbl).2.2.1]
    | cons d l=>rfl
   rw [e]
   cases hc:(c==47 && l.head? == some 47) with
   | false=>rfl
   | true =>
    rw [hc] at h
    simp only [cT] at h ⊢
    rw [skW_part true l w hbl (by omega)]
 | true,c::l,w,b,hbl,h=>by
  simp only [List.cons_append,skW,List.length_cons] at h ⊢
  cases hb:(c==10) with
  | true =>
   simp only [hb,cT] at h ⊢
   rw [skW_part false l w hbl (by omega)]
  | false =>
   simp only [hb,cF] at h ⊢
   rw [skW_part true l w hbl (by omega)]
abbrev Ls:=Sum (Nat × Int) (List Tok)
def prepL (ts:List Tok):Ls→Ls
 | .inl x=>.inl x
 | .inr us=>.inr (ts++us)
def lexA (s:List UInt8) (a:Nat):Ls:=lexL (s.length+1) s a
theorem lex_fuel:∀ (F F':Nat) (s:List UInt8) (a:Nat),s.length < F→s.length < F'→lexL F s a=lexL F' s a
 | 0,_,s,a,h,_=>by omega
 | _,0,s,a,_,h=>by omega
 | F+1,F'+1,s,a,h1,h2=>by
  simp only [lexL]
  cases hd:s.drop (skW false s) with
  | nil=>rfl
  | cons c l =>
   simp only []
   cases ht:tokB (c::l) with
   | er e=>rfl
   | ok k tx v n =>
    have ok:=tokB_ok ht
    have hl:(c::l).length≤s.length:=by rw [← hd,List.length_drop];omega
    have:=ok.pos;have:=ok.le
    simp only []
    rw [lex_fuel F F' ((c::l).drop n) _ (by rw [List.length_drop];omega) (by rw [List.length_drop];omega)]
theorem lexA_end {s:List UInt8} (h:skW false s=s.length) (a:Nat):lexA s a=.inr []:=by
 unfold lexA lexL
 rw [List.drop_of_length_le (by omega)]
theorem lexA_step {s:List UInt8} {c:UInt8} {l:List UInt8} (h:s.drop (skW false s)=c::l) {k:Int} {tx:List UInt8} {v:Int} {n:Nat} (ht:tokB (c::l)=.ok k tx v n) (a:Nat) :
  lexA s a=prepL [⟨k,mkB tx,v,((a+skW false s:Nat):Int)⟩] (lexA ((c::l).drop n) (a+skW false s+n)):=by
 have ok:=tokB_ok ht
 have hl:(c::l).length≤s.length:=by rw [← h,List.length_drop];omega
 have:=ok.pos;have:=ok.le
 have key:lexL (s.length+1) s a=prepL [⟨k,mkB tx,v,((a+skW false s:Nat):Int)⟩] (lexL s.length ((c::l).drop n) (a+skW false s+n)):=by
  rw [lexL]
  simp only [h,ht]
  cases lexL s.length ((c::l).drop n) (a+skW false s+n)<;>rfl
 unfold lexA
 rw [key,lex_fuel s.length (((c::l).drop n).length+1) ((c::l).drop n) _ (by rw [List.length_drop];omega) (by omega)]
theorem prep_prep (x y:List Tok) (o:Ls):prepL x (prepL y o)=prepL (x++y) o:=by
 cases o<;>simp [prepL]
theorem prep_inr {x:List Tok} {o:Ls} {ts:List Tok} (h:prepL x o=.inr ts):∃ us,o=.inr us∧ts=x++us:=by
 cases o with
 | inl q=>cases h
 | inr us=>cases h;exact ⟨us,rfl,rfl⟩
theorem lexA_inv {s:List UInt8} {a:Nat} {ts:List Tok} (h:lexA s a=.inr ts):(skW false s=s.length∧ts=[]) ∨
  ∃ c l k tx v n us,skW false s < s.length∧s.drop (skW false s)=c::l∧tokB (c::l)=.ok k tx v n∧lexA ((c::l).drop n) (a+skW false s+n)=.inr us∧ts=⟨k,mkB tx,v,((a+skW false s:Nat):Int)⟩::us:=by
 rcases Nat.lt_or_ge (skW false s) s.length with hs | hs
 ·obtain ⟨c,l,hd⟩:∃ c l,s.drop (skW false s)=c::l:=by
   cases hd:s.drop (skW false s) with
   | nil=>have:=congrArg List.length hd;rw [List.length_drop] at this;simp at this;omega
   | cons c l=>exact ⟨c,l,rfl⟩
  cases ht:tokB (c::l) with
  | er e =>
   unfold lexA at h
   simp only [lexL,hd,ht] at h
   cases h
  | ok k tx v n =>
   rw [lexA_step hd ht] at h
   obtain ⟨us,h1,h2⟩:=prep_inr h
   exact .inr ⟨c,l,k,tx,v,n,us,hs,hd,ht,h1,h2⟩
 ·have:=skW_le false s
  have e:skW false s=s.length:=by omega
  rw [lexA_end e] at h
  cases h
  exact .inl ⟨e,rfl⟩
theorem drop_app {α:Type} (u w:List α) {n:Nat} (h:n≤u.length):(u++w).drop n=u.drop n++w:=List.drop_append_of_le_length h
theorem prep_nil (o:Ls):prepL [] o=o:=by cases o<;>rfl
theorem skip_lex' (u w:List UInt8) (a:Nat) (h:skW false (u++10::w)=u.length+1+skW false w):lexA (u++10::w) a=prepL [] (lexA w (a+u.length+1)):=by
 rw [prep_nil]
 have hd:(u++10::w).drop (skW false (u++10::w))=w.drop (skW false w):=by
  rw [h,show u++10::w=(u++[10])++w by simp,show u.length+1+skW false w=(u++[10]).length+skW false w by simp,List.drop_append,List.drop_of_length_le (by omega),List.nil_append,Nat.add_sub_cancel_left]
 have ha:a+skW false (u++10::w)=a+u.length+1+skW false w:=by omega
 unfold lexA
 simp only [lexL,hd,ha]
 have hw:=skW_le false w
 cases hdr:w.drop (skW false w) with
 | nil=>rfl
 | cons c l =>
  simp only []
  cases ht:tokB (c::l) with
  | er e=>rfl
  | ok k tx v n =>
   have ok:=tokB_ok ht
   have hl:(c::l).length=w.length-skW false w:=by rw [← hdr,List.length_drop]
   have:=ok.pos;have:=ok.le
   simp only []
   rw [lex_fuel (u++10::w).length w.length ((c::l).drop n) _ (by rw [List.length_drop];simp only [lA,List.length_cons] at hl ⊢;omega) (by rw [List.length_drop];omega)]
theorem lex_app:∀ (m:Nat) (u:List UInt8) (a:Nat) (ts:List Tok),u.length≤m→lexA u a=.inr ts→∀ w,lexA (u++10::w) a=prepL ts (lexA w (a+u.length+1)):=by
 intro m
 induction m with
 | zero =>
  intro u a ts hm h w
  have hu:u=[]:=List.length_eq_zero_iff.1 (by omega)
  subst hu
  rw [lexA_end rfl] at h
  cases h
  have hsk:skW false ([]++10::w)=0+1+skW false w:=skW_all false [] w rfl
  exact skip_lex' [] w a hsk
 | succ m ih =>
  intro u a ts hm h w
  rcases lexA_inv h with ⟨h1,h2⟩ | ⟨c,l,k,tx,v,n,us,h0,h1,h2,h3,h4⟩
  ·subst h2
   exact skip_lex' u w a (skW_all false u w h1)
  ·have hsk:=skW_part false u w (b:=10) rfl h0
   have hdr:(u++10::w).drop (skW false (u++10::w))=c::(l++10::w):=by rw [hsk,drop_app u _ (by omega),h1];rfl
   have ht:=tokB_app h2 (b:=10) rfl w
   have ok:=tokB_ok h2
   rw [lexA_step hdr ht,hsk]
   have hl:(c::l).length=u.length-skW false u:=by rw [← h1,List.length_drop]
   have hle:=ok.le
   have hpos:=ok.pos
   rw [show (c::(l++10::w)).drop n=(c::l).drop n++10::w from drop_app (c::l) _ ok.le]
   rw [ih ((c::l).drop n) _ us (by rw [List.length_drop];omega) h3 w,prep_prep,h4]
   congr 2
   rw [List.length_drop];omega
def strip (t:Tok):Tok:=⟨t.Kind,t.Text,t.Value,0⟩
end Gp
end
section
namespace Gp
open Go Go.Kx Gx
def Agr (l l':List Tok) (d n m:Nat):Prop:=∀ i,n≤i→i≤m→strip (tk l' (i+d))=strip (tk l i)
theorem Agr.sub {l l':List Tok} {d n m n' m':Nat} (h:Agr l l' d n m) (hn:n≤n') (hm:m'≤m):Agr l l' d n' m':=fun i h1 h2=>h i (by omega) (by omega)
def LoR {α:Type} (S:Pm α) (l:List Tok) (n:Nat):Rr α→Prop
 | .ok a m=>n≤m∧∀ l' d,Agr l l' d n m→S l' (n+d)=.ok a (m+d)
 | .er k c=>n≤k∧∀ l' d,Agr l l' d n k→S l' (n+d)=.er (k+d) c
 | .out=>True
def Lo {α:Type} (S:Pm α):Prop:=∀ l n,LoR S l n (S l n)
theorem Lo.ret {α:Type} (b:α):Lo (fun _ n=>.ok b n):=fun l n=>⟨Nat.le_refl _,fun _ _ _=>rfl⟩
theorem Lo.fail {α:Type} (e:Int):Lo (α:=α) (fun _ n=>.er n e):=fun l n=>⟨Nat.le_refl _,fun _ _ _=>rfl⟩
theorem lorOk {α:Type} {S:Pm α} {l:List Tok} {n:Nat} {a:α} {m:Nat} (e:S l n=.ok a m) (h1:n≤m) (h2:∀ l' d,Agr l l' d n m→S l' (n+d)=.ok a (m+d)):LoR S l n (S l n):=by rw [e];exact ⟨h1,h2⟩
theorem lorEr {α:Type} {S:Pm α} {l:List Tok} {n:Nat} {k:Nat} {c:Int} (e:S l n=.er k c) (h1:n≤k) (h2:∀ l' d,Agr l l' d n k→S l' (n+d)=.er (k+d) c):LoR S l n (S l n):=by rw [e];exact ⟨h1,h2⟩
theorem lorOut {α:Type} {S:Pm α} {l:List Tok} {n:Nat} (e:S l n=.out):LoR S l n (S l n):=by rw [e];trivial
theorem Lo.bind {α β:Type} {S:Pm α} {T:α→Pm β} (hS:Lo S) (hT:∀ a,Lo (T a)):Lo (fun l n=>(S l n).bind fun a m=>T a l m):=by
 intro l n
 have h:=hS l n
 have st:∀ {l':List Tok} {a:α} {n m:Nat},S l' n=.ok a m→(fun l n=>(S l n).bind fun a m=>T a l m) l' n=T a l' m:=fun e=>by
  show (S _ _).bind _=_
  rw [e];rfl
 have st2:∀ {l':List Tok} {n k:Nat} {c:Int},S l' n=.er k c→(fun l n=>(S l n).bind fun a m=>T a l m) l' n=.er k c:=fun e=>by
  show (S _ _).bind _=_
  rw [e];rfl
 cases hs:S l n with
 | ok a m =>
  rw [hs] at h
  obtain ⟨h1,h2⟩:=h
  have h':=hT a l m
  cases ht:T a l m with
  | ok b k =>
   rw [ht] at h'
   exact lorOk ((st hs).trans ht) (Nat.le_trans h1 h'.1) fun l' d hl=>(st (h2 l' d (hl.sub (Nat.le_refl _) h'.1))).trans (h'.2 l' d (hl.sub h1 (Nat.le_refl _)))
  | er k c =>
   rw [ht] at h'
   exact lorEr ((st hs).trans ht) (Nat.le_trans h1 h'.1) fun l' d hl=>(st (h2 l' d (hl.sub (Nat.le_refl _) h'.1))).trans (h'.2 l' d (hl.sub h1 (Nat.le_refl _)))
  | out=>exact lorOut ((st hs).trans ht)
 | er k c =>
  rw [hs] at h
  exact lorEr (st2 hs) h.1 fun l' d hl=>st2 (h.2 l' d hl)
 | out=>exact lorOut (by show (S l n).bind _=_;rw [hs];rfl)
theorem Lo.succ {α:Type} {S:Pm α} (h:Lo S):Lo (fun l n=>S l (n+1)):=by
 intro l n
 have h:=h l (n+1)
 have e:∀ d,n+d+1=n+1+d:=fun d=>by omega
 cases hs:S l (n+1) with
 | ok a m=>rw [hs] at h;exact lorOk (S:=fun l n=>S l (n+1)) hs (by have:=h.1;omega) fun l' d hl=>by show S l' (n+d+1)=_;rw [e];exact h.2 l' d (hl.sub (Nat.le_succ _) (Nat.le_refl _))
 | er k c=>rw [hs] at h;exact lorEr (S:=fun l n=>S l (n+1)) hs (by have:=h.1;omega) fun l' d hl=>by show S l' (n+d+1)=_;rw [e];exact h.2 l' d (hl.sub (Nat.le_succ _) (Nat.le_refl _))
 | out=>exact lorOut (S:=fun l n=>S l (n+1)) hs
theorem agr_at {P:Tok→Bool} (hP:∀ t,P (strip t)=P t) {l l':List Tok} {d n m:Nat} (h:Agr l l' d n m) (hn:n≤m):P (tk l' (n+d))=P (tk l n):=by
 rw [← hP,h n (Nat.le_refl _) hn,hP]
theorem Lo.test {α:Type} {P:Tok→Bool} (hP:∀ t,P (strip t)=P t) {A C:Pm α} (hA:Lo A) (hC:Lo C):Lo (fun l n=>bif P (tk l n) then A l n else C l n):=by
 intro l n
 have h1:=hA l n
 have h2:=hC l n
 have st:∀ {l':List Tok} {n:Nat},P (tk l' n)=true→(fun l n=>bif P (tk l n) then A l n else C l n) l' n=A l' n:=fun e=>by
  show (bif P (tk _ _) then _ else _)=_
  rw [e];rfl
 have sf:∀ {l':List Tok} {n:Nat},P (tk l' n)=false→(fun l n=>bif P (tk l n) then A l n else C l n) l' n=C l' n:=fun e=>by
  show (bif P (tk _ _) then _ else _)=_
  rw [e];rfl
 cases hp:P (tk l n) with
 | true =>
  cases hs:A l n with
  | ok a m=>rw [hs] at h1;exact lorOk ((st hp).trans hs) h1.1 fun l' d hl=>(st (by rw [agr_at hP hl h1.1,hp])).trans (h1.2 l' d hl)
  | er k c=>rw [hs] at h1;exact lorEr ((st hp).trans hs) h1.1 fun l' d hl=>(st (by rw [agr_at hP hl h1.1,hp])).trans (h1.2 l' d hl)
  | out=>exact lorOut ((st hp).trans hs)
 | false =>
  cases hs:C l n with
  | ok a m=>rw [hs] at h2;exact lorOk ((sf hp).trans hs) h2.1 fun l' d hl=>(sf (by rw [agr_at hP hl h2.1,hp])).trans (h2.2 l' d hl)
  | er k c=>rw [hs] at h2;exact lorEr ((sf hp).trans hs) h2.1 fun l' d hl=>(sf (by rw [agr_at hP hl h2.1,hp])).trans (h2.2 l' d hl)
  | out=>exact lorOut ((sf hp).trans hs)
theorem Lo.val {α:Type} {f:Tok→α} (hf:∀ t,f (strip t)=f t):Lo (fun l n=>.ok (f (tk l n)) (n+1)) :=
 fun l n=>⟨Nat.le_succ _,fun l' d hl=>by
  show Rr.ok (f (tk l' (n+d))) (n+d+1)=_
  rw [← hf,hl n (Nat.le_refl _) (Nat.le_succ _),hf,show n+d+1=n+1+d by omega]⟩
theorem Lo.cond {α:Type} (b:Bool) {A C:Pm α} (hA:Lo A) (hC:Lo C):Lo (fun l n=>bif b then A l n else C l n):=by
 cases b
 ·exact hC
 ·exact hA
theorem isT_strip (s:ByteArray) (t:Tok):isT s (strip t)=isT s t:=rfl
theorem Lo.takes {α:Type} (s:ByteArray) {A C:Pm α} (hA:Lo A) (hC:Lo C):Lo (fun l n=>bif isT s (tk l n) then A l (n+1) else C l n):=Lo.test (P:=isT s) (isT_strip s) hA.succ hC
theorem wants_lo (s:ByteArray):Lo (sWants s):=Lo.test (P:=isT s) (isT_strip s) (Lo.ret ()).succ (Lo.fail 3)
theorem word_lo:Lo sWord:=Lo.test (P:=wordT) (fun _=>rfl) (Lo.val (f:=fun t=>t.Text) fun _=>rfl) (Lo.fail 3)
theorem num_lo:Lo sNum:=Lo.test (P:=fun t=>t.Kind==2) (fun _=>rfl) (Lo.val (f:=fun t=>t.Value) fun _=>rfl) (Lo.fail 3)
theorem signed_lo:Lo sSigned:=Lo.takes (str [45]) (A:=fun l n=>(sNum l n).bind fun v m=>.ok (w64 (0-v)) m) (Lo.bind num_lo fun v=>Lo.ret _) num_lo
theorem loop_lo {α β:Type} (s:ByteArray) {p:Pm α} (hp:Lo p) (upd:β→α→β):∀ (F:Nat) (acc:β),Lo (sLoop s p upd F acc)
 | 0,_=>fun l n=>trivial
 | F+1,acc=>Lo.takes s (A:=fun l n=>(p l n).bind fun a m=>sLoop s p upd F (upd acc a) l m) (Lo.bind hp fun a=>loop_lo s hp upd F (upd acc a)) (Lo.ret acc)
theorem words_lo (F:Nat):Lo (sWords F):=Lo.bind word_lo fun w=>loop_lo _ word_lo snoc F [w]
theorem path_lo (F:Nat):Lo (sPath F):=Lo.bind word_lo fun w=>loop_lo _ word_lo dotW F w
theorem field_lo:Lo sField:=Lo.bind word_lo fun w=>Lo.bind (wants_lo _) fun _=>Lo.takes (str [105,110,116])
 (A:=fun l n=>(sSigned l n).bind fun lo n=>(sWants (str [46,46]) l n).bind fun _ n=>(sSigned l n).bind fun hi n=>.ok (⟨w,⟨1,lo,hi⟩⟩:T0) n)
 (Lo.bind signed_lo fun _=>Lo.bind (wants_lo _) fun _=>Lo.bind signed_lo fun _=>Lo.ret _)
 (Lo.bind (wants_lo _) fun _=>Lo.bind num_lo fun _=>Lo.bind (wants_lo _) fun _=>Lo.bind num_lo fun _=>Lo.ret _)
theorem tail_lo (k:Int) (s:ByteArray):Lo (sTail k s) :=
 Lo.takes (str [43]) (A:=fun l n=>(sNum l n).bind fun v n=>.ok (⟨k,(splitP s).1,(splitP s).2,v⟩:T13) n) (Lo.bind num_lo fun _=>Lo.ret _)
  (Lo.takes (str [45]) (A:=fun l n=>(sNum l n).bind fun v n=>.ok (⟨k,(splitP s).1,(splitP s).2,w64 (0-v)⟩:T13) n) (Lo.bind num_lo fun _=>Lo.ret _) (Lo.ret _))
theorem term_lo (F:Nat):Lo (sTerm F) :=
 Lo.test (P:=fun t=>isT (str [45]) t || t.Kind==2) (fun _=>rfl) (Lo.bind signed_lo fun _=>Lo.ret _)
  (Lo.takes (str [108,101,110]) (A:=fun l n=>(sWants (str [40]) l n).bind fun _ n=>(sPath F l n).bind fun s n=>(sWants (str [41]) l n).bind fun _ n=>sTail 3 s l n)
   (Lo.bind (wants_lo _) fun _=>Lo.bind (path_lo F) fun s=>Lo.bind (wants_lo _) fun _=>tail_lo 3 s) (Lo.bind (path_lo F) fun s=>tail_lo 2 s))
def sMark:Pm ByteArray:=fun l n=>bif markT (tk l n) then .ok (tk l n).Text (n+1) else .er n 3
theorem mark_lo:Lo sMark:=Lo.test (P:=markT) (fun _=>rfl) (Lo.val (f:=fun t=>t.Text) fun _=>rfl) (Lo.fail 3)
theorem sAtom_eq (F:Nat):sAtom F=fun l n=>(sTerm F l n).bind fun a n=>(sMark l n).bind fun tx n=>(sTerm F l n).bind fun b m=>.ok ⟨a,tx,b⟩ m:=by
 funext l n
 unfold sAtom sMark
 congr 1;funext a m
 cases markT (tk l m)<;>rfl
theorem atom_lo (F:Nat):Lo (sAtom F):=by
 rw [sAtom_eq]
 exact Lo.bind (term_lo F) fun a=>Lo.bind mark_lo fun tx=>Lo.bind (term_lo F) fun b=>Lo.ret _
theorem where_lo (F:Nat) (nm:ByteArray) (fs:List T0):Lo (sWhere F nm fs) :=
 Lo.takes (str [119,104,101,114,101]) (A:=fun l n=>(sAtom F l n).bind fun a n=>(sLoop (str [97,110,100]) (sAtom F) snoc F [a] l n).bind fun as' n=>(sWants (str [59]) l n).bind fun _ n=>.ok (⟨nm,fs,as'⟩:T11) n)
  (Lo.bind (atom_lo F) fun a=>Lo.bind (loop_lo _ (atom_lo F) snoc F [a]) fun _=>Lo.bind (wants_lo _) fun _=>Lo.ret _) (Lo.bind (wants_lo _) fun _=>Lo.ret _)
theorem message_lo (F:Nat):Lo (sMessage F) :=
 Lo.bind (path_lo F) fun nm=>Lo.bind (wants_lo _) fun _=>Lo.takes (str [41]) (where_lo F nm [])
  (Lo.bind field_lo fun f=>Lo.bind (loop_lo _ field_lo snoc F [f]) fun fs=>Lo.bind (wants_lo _) fun _=>where_lo F nm fs)
theorem block_lo {items:Pm (List T10)} (h:Lo items):Lo (sBlock items):=Lo.bind (wants_lo _) fun _=>Lo.bind h fun _=>Lo.bind (wants_lo _) fun _=>Lo.ret _
theorem else_lo {block:Pm (List T10)} (h:Lo block) (who:ByteArray) (t:Int) (bl:List (List T10)):Lo (sElse block who t bl) :=
 Lo.cond _ (Lo.bind (wants_lo _) fun _=>Lo.bind h fun _=>Lo.ret _) (Lo.ret _)
theorem branches_lo (F:Nat) {block:Pm (List T10)} (h:Lo block) (who:ByteArray) (t:Int):Lo (sBranches F block who t) :=
 Lo.bind h fun b=>Lo.bind (loop_lo _ h snoc F [b]) fun bl=>else_lo h who t bl
theorem ticks_lo:Lo sTicks:=Lo.test (P:=fun t=>t.Kind==2 && (decide (t.Value < 1) || decide (t.Value > 1000))) (fun _=>rfl) (Lo.fail 2) num_lo
theorem choice_lo (F:Nat) {block:Pm (List T10)} (h:Lo block):Lo (sChoice F block) :=
 Lo.bind (wants_lo _) fun _=>Lo.bind word_lo fun who=>Lo.takes (str [119,105,116,104,105,110]) (A:=fun l n=>(sTicks l n).bind fun t n=>sBranches F block who t l n)
  (Lo.bind ticks_lo fun t=>branches_lo F h who t) (branches_lo F h who 0)
theorem send_lo (F:Nat):Lo (sSend F):=Lo.bind word_lo fun _=>Lo.bind (wants_lo _) fun _=>Lo.bind (words_lo F) fun _=>Lo.bind (wants_lo _) fun _=>Lo.bind (path_lo F) fun _=>Lo.bind (wants_lo _) fun _=>Lo.ret _
theorem call_lo (F:Nat):Lo (sCall F):=Lo.bind word_lo fun _=>Lo.bind (wants_lo _) fun _=>Lo.bind (words_lo F) fun _=>Lo.bind (wants_lo _) fun _=>Lo.bind (wants_lo _) fun _=>Lo.bind word_lo fun _=>Lo.bind (wants_lo _) fun _=>Lo.ret _
theorem item_lo (F:Nat) {block:Pm (List T10)} (h:Lo block):Lo (sItem F block) :=
 Lo.takes (str [99,104,111,105,99,101]) (choice_lo F h)
  (Lo.takes (str [108,111,111,112]) (A:=fun l n=>(sPath F l n).bind fun nm n=>(block l n).bind fun b n=>.ok (⟨3,str [],[],nm,str [],0,[b]⟩:T10) n) (Lo.bind (path_lo F) fun _=>Lo.bind h fun _=>Lo.ret _)
  (Lo.takes (str [97,103,97,105,110]) (A:=fun l n=>(sPath F l n).bind fun nm n=>(sWants (str [59]) l n).bind fun _ n=>.ok (⟨4,str [],[],nm,str [],0,[]⟩:T10) n) (Lo.bind (path_lo F) fun _=>Lo.bind (wants_lo _) fun _=>Lo.ret _)
  (Lo.takes (str [112,97,114]) (A:=fun l n=>(block l n).bind fun b n=>(sWants (str [97,110,100]) l n).bind fun _ n=>(block l n).bind fun c n=>(sLoop (str [97,110,100]) block snoc F [b,c] l n).bind fun bl n=>.ok (⟨5,str [],[],str [],str [],0,bl⟩:T10) n)
   (Lo.bind h fun b=>Lo.bind (wants_lo _) fun _=>Lo.bind h fun c=>Lo.bind (loop_lo _ h snoc F [b,c]) fun _=>Lo.ret _)
  (Lo.takes (str [99,97,108,108]) (call_lo F) (send_lo F)))))
theorem list_lo {item:Pm T10} (h:Lo item):∀ (F:Nat) (acc:List T10),Lo (sList item F acc)
 | 0,_=>fun l n=>trivial
 | F+1,acc=>Lo.test (P:=begT) (fun _=>rfl) (A:=fun l n=>(item l n).bind fun x m=>sList item F (snoc acc x) l m) (Lo.bind h fun x=>list_lo h F (snoc acc x)) (Lo.ret acc)
theorem items_lo:∀ F:Nat,Lo (sItems F)
 | 0=>fun l n=>trivial
 | F+1=>list_lo (item_lo F (block_lo (items_lo F))) F []
def sProt0 (F:Nat):Pm T12:=fun l n=>(sWants (str [112,114,111,116,111,99,111,108]) l n).bind fun _ n=>(sWord l n).bind fun nm n=>(sWants (str [40]) l n).bind fun _ n=>(sWords F l n).bind fun rs n =>
 (sWants (str [41]) l n).bind fun _ n=>(sWants (str [123]) l n).bind fun _ n=>(sLoop (str [109,101,115,115,97,103,101]) (sMessage F) snoc F [] l n).bind fun ms n=>(sItems F l n).bind fun b n=>.ok ⟨nm,rs,ms,b⟩ n
theorem prot0_lo (F:Nat):Lo (sProt0 F):=Lo.bind (wants_lo _) fun _=>Lo.bind word_lo fun _=>Lo.bind (wants_lo _) fun _=>Lo.bind (words_lo F) fun _=>Lo.bind (wants_lo _) fun _=>Lo.bind (wants_lo _) fun _ =>
 Lo.bind (loop_lo _ (message_lo F) snoc F []) fun _=>Lo.bind (items_lo F) fun _=>Lo.ret _
theorem sProtocol_eq (F:Nat):sProtocol F=fun l n=>(sProt0 F l n).bind fun p n=>(sWants (str [125]) l n).bind fun _ n=>.ok p n:=by
 funext l n
 unfold sProtocol sProt0
 simp only [rr_assoc]
 rfl
theorem protocol_lo {F:Nat} {l:List Tok} {n:Nat}:match sProtocol F l n with
  | .ok p m=>n < m∧∀ l' d,Agr l l' d n (m-1)→sProtocol F l' (n+d)=.ok p (m+d)
  | .er k c=>n≤k∧∀ l' d,Agr l l' d n k→sProtocol F l' (n+d)=.er (k+d) c
  | .out=>True:=by
 rw [sProtocol_eq]
 have h:=prot0_lo F l n
 simp only []
 cases hs:sProt0 F l n with
 | ok p m =>
  rw [hs] at h
  obtain ⟨h1,h2⟩:=h
  cases hi:isT (str [125]) (tk l m) with
  | true =>
   have e:sWants (str [125]) l m=.ok () (m+1):=by unfold sWants;rw [hi];rfl
   simp only [Rr.bind,e]
   refine ⟨by omega,fun l' d hl=>?_⟩
   rw [Nat.add_sub_cancel] at hl
   have hl':=agr_at (P:=isT (str [125])) (isT_strip _) (hl.sub h1 (Nat.le_refl _)) (Nat.le_refl _)
   have e2:sWants (str [125]) l' (m+d)=.ok () (m+d+1):=by unfold sWants;rw [hl',hi];rfl
   rw [h2 l' d hl]
   simp only [e2]
   rw [show m+d+1=m+1+d by omega]
  | false =>
   have e:sWants (str [125]) l m=.er m 3:=by unfold sWants;rw [hi];rfl
   simp only [Rr.bind,e]
   refine ⟨h1,fun l' d hl=>?_⟩
   have hl':=agr_at (P:=isT (str [125])) (isT_strip _) (hl.sub h1 (Nat.le_refl _)) (Nat.le_refl _)
   have e2:sWants (str [125]) l' (m+d)=.er (m+d) 3:=by unfold sWants;rw [hl',hi];rfl
   rw [h2 l' d hl]
   simp only [e2]
 | er k c =>
  rw [hs] at h
  refine ⟨h.1,fun l' d hl=>?_⟩
  rw [h.2 l' d hl];rfl
 | out=>trivial
end Gp
end
section
namespace Gp
open Go Go.Kx Gx
def AgrA (l l':List Tok) (d n:Nat):Prop:=∀ i,n≤i→strip (tk l' (i+d))=strip (tk l i)
theorem AgrA.sub {l l':List Tok} {d n n':Nat} (h:AgrA l l' d n) (hn:n≤n'):AgrA l l' d n':=fun i h1=>h i (by omega)
theorem parseS_inr {s:ByteArray} {ts:List Tok} (h:toksS s=.inr ts):parseS s=endR ts (s.size:Int) fineR (sParse 8200 8200 [] ts 0):=by
 unfold parseS
 rw [h]
theorem toks_lex {s:ByteArray} (h:s.size≤8000):toksS s=lexA (bs s) 0:=by
 unfold toksS lexA
 rw [dF (by omega),cF,size_bs]
variable {N:Nat}
end Gp
end
section
namespace Gp
open Go Go.Kx Gx
theorem takeWhile_take {α:Type} (p:α→Bool):∀ (l:List α) (m:Nat),(l.takeWhile p).length≤m→(l.take m).takeWhile p=l.takeWhile p
 | [],m,_=>by simp
 | c::l,0,h=>by
  simp only [List.takeWhile] at h ⊢
  cases hp:p c with
  | true=>rw [hp] at h;simp at h
  | false=>simp
 | c::l,m+1,h=>by
  rw [List.take_succ_cons]
  simp only [List.takeWhile] at h ⊢
  cases hp:p c with
  | true =>
   rw [hp] at h
   simp only [List.length_cons] at h ⊢
   rw [takeWhile_take p l m (by omega)]
  | false=>rfl
theorem txtB_take:∀ (l:List UInt8) (m:Nat) {t n},txtB l=some (t,n)→n≤m→txtB (l.take m)=some (t,n)
 | [],m,t,n,h,_=>by simp [txtB] at h
 | [c],m,t,n,h,hm=>by
  have:=(txtB_len [c] h)
  rw [List.take_of_length_le (by simp;omega)];exact h
 | c::d::l,m,t,n,h,hm=>by
  have hn:=(txtB_len _ h).2
  obtain ⟨m,rfl⟩:∃ k,m=k+1:=⟨m-1,by omega⟩
  cases h1:(c==34) with
  | true =>
   have:c=34:=by simpa using h1
   subst this
   rw [txt34] at h
   rw [List.take_succ_cons,txt34];exact h
  | false =>
   cases h2:(c==92) with
   | true =>
    have:c=92:=by simpa using h2
    subst this
    cases h3:(d==34 || d==92) with
    | false=>rw [txt_esc0 d l h3] at h;cases h
    | true =>
     rw [txt_esc d l h3] at h
     cases ht:txtB l with
     | none=>rw [ht] at h;cases h
     | some q =>
      obtain ⟨t',n'⟩:=q
      rw [ht] at h
      simp only [Option.map_some,Option.some.injEq,Prod.mk.injEq] at h
      obtain ⟨m,rfl⟩:∃ k,m=k+1:=⟨m-1,by omega⟩
      rw [List.take_succ_cons,List.take_succ_cons,txt_esc d _ h3,txtB_take l m ht (by omega)]
      simp only [Option.map_some,h]
   | false =>
    cases h3:badB c with
    | true=>rw [txt_bad c _ h1 h2 h3] at h;cases h
    | false =>
     rw [txt_one c _ h1 h2 h3] at h
     cases ht:txtB (d::l) with
     | none=>rw [ht] at h;cases h
     | some q =>
      obtain ⟨t',n'⟩:=q
      rw [ht] at h
      simp only [Option.map_some,Option.some.injEq,Prod.mk.injEq] at h
      rw [List.take_succ_cons,txt_one c _ h1 h2 h3,txtB_take (d::l) m ht (by omega)]
      simp only [Option.map_some,h]
theorem tokB_take {s:List UInt8} {k:Int} {tx:List UInt8} {v:Int} {n:Nat} (h:tokB s=.ok k tx v n) {m:Nat} (hm:n≤m):tokB (s.take m)=.ok k tx v n:=by
 have hok:=tokB_ok h
 have hpos:=hok.pos
 obtain ⟨m,rfl⟩:∃ j,m=j+1:=⟨m-1,by omega⟩
 cases s with
 | nil=>simp [tokB] at h
 | cons c l =>
  rw [List.take_succ_cons]
  unfold tokB at h ⊢
  cases c1:letB c with
  | true =>
   simp only [c1,cT] at h ⊢
   have hl:(l.takeWhile innB).length≤m:=by
    cases hd:decide ((l.takeWhile innB).length+1 > 16) with
    | true=>rw [hd] at h;cases h
    | false=>rw [hd] at h;simp only [cF] at h;injection h with _ _ _ h4;omega
   rw [takeWhile_take innB l m hl];exact h
  | false =>
   simp only [c1,cF] at h ⊢
   cases c2:digB c with
   | true =>
    simp only [c2,cT] at h ⊢
    unfold numB numK at h ⊢
    have hl:((c::l).takeWhile digB).length≤m+1:=by
     cases h3:((c::l).drop ((c::l).takeWhile digB).length).head?.any innB with
     | true=>rw [h3] at h;cases h
     | false =>
      rw [h3] at h
      simp only [cF] at h
      cases h4:(decide (((c::l).takeWhile digB).length > 6) || (decide (((c::l).takeWhile digB).length > 1) && (c::l).head? == some 48)) with
      | true=>rw [h4] at h;cases h
      | false=>rw [h4] at h;simp only [cF] at h;injection h with _ _ _ h5;omega
    have e:=takeWhile_take digB (c::l) (m+1) hl
    rw [List.take_succ_cons] at e
    rw [e]
    cases h3:((c::l).drop ((c::l).takeWhile digB).length).head?.any innB with
    | true=>rw [h3] at h;cases h
    | false =>
     rw [h3] at h
     have e3:((c::l.take m).drop ((c::l).takeWhile digB).length).head?.any innB=false:=by
      rw [show c::l.take m=(c::l).take (m+1) from rfl,List.drop_take]
      cases hr:(c::l).drop ((c::l).takeWhile digB).length with
      | nil=>simp
      | cons x y =>
       rw [hr] at h3
       cases (m+1-((c::l).takeWhile digB).length) with
       | zero=>simp
       | succ j=>exact h3
     rw [e3];exact h
   | false =>
    simp only [c2,cF] at h ⊢
    cases c3:(c==34) with
    | true =>
     simp only [c3,cT] at h ⊢
     cases ht:txtB l with
     | none=>rw [ht] at h;cases h
     | some q =>
      obtain ⟨t',n'⟩:=q
      rw [ht] at h
      have hn:n'+1=n:=by
       simp only [] at h
       cases hd:decide (t'.length > 40) with
       | true=>rw [hd] at h;cases h
       | false=>rw [hd] at h;simp only [cF] at h;injection h
      rw [txtB_take l m ht (by omega)];exact h
    | false =>
     simp only [c3,cF] at h ⊢
     cases l with
     | nil=>simp only [List.take_nil];exact h
     | cons d l =>
      cases m with
      | zero =>
       have h4:(decide (d::l≠[]) && marks2.any fun m=>m==(c::d::l).take 2)=false:=by
        cases h4:(decide (d::l≠[]) && marks2.any fun m=>m==(c::d::l).take 2) with
        | false=>rfl
        | true=>rw [h4] at h;simp only [cT] at h;injection h with _ _ _ h5;omega
       rw [h4] at h
       exact h
      | succ m=>exact h
theorem skW_take:∀ (b:Bool) (s:List UInt8) (p:Nat),skW b s≤p→skW b (s.take p)=skW b s
 | _,[],p,_=>by simp
 | b,c::l,0,h=>by
  have h0:skW b (c::l)=0:=by omega
  rw [h0,List.take_zero];cases b<;>rfl
 | false,c::l,p+1,h=>by
  rw [List.take_succ_cons]
  simp only [skW] at h ⊢
  cases hb:blankB c with
  | true =>
   simp only [hb,cT] at h ⊢
   rw [skW_take false l p (by omega)]
  | false =>
   simp only [hb,cF] at h ⊢
   cases hc:(c==47 && l.head? == some 47) with
   | true =>
    rw [hc] at h
    simp only [cT] at h
    have hp:0 < p:=by
     cases l with
     | nil=>simp at hc
     | cons d l =>
      have:1≤skW true (d::l):=by simp only [skW];cases (d==10)<;>simp
      omega
    have e:(c==47 && (l.take p).head? == some 47)=true:=by
     cases l with
     | nil=>simp at hc
     | cons d l=>cases p with
      | zero=>omega
      | succ p=>exact hc
    rw [e]
    simp only [cT]
    rw [skW_take true l p (by omega)]
   | false =>
    have e:(c==47 && (l.take p).head? == some 47)=false:=by
     cases l with
     | nil=>simp
     | cons d l=>cases p with
      | zero=>simp
      | succ p=>exact hc
    rw [e];rfl
 | true,c::l,p+1,h=>by
  rw [List.take_succ_cons]
  simp only [skW] at h ⊢
  cases hb:(c==10) with
  | true =>
   simp only [hb,cT] at h ⊢
   rw [skW_take false l p (by omega)]
  | false =>
   simp only [hb,cF] at h ⊢
   rw [skW_take true l p (by omega)]
theorem lex_inc:∀ (m:Nat) (s:List UInt8) (a:Nat) (ts:List Tok),s.length≤m→lexA s a=.inr ts→(∀ t∈ts,(a:Int)≤t.From∧t.From < ((a+s.length:Nat):Int))∧ts.Pairwise (fun x y=>x.From < y.From):=by
 intro m
 induction m with
 | zero =>
  intro s a ts hm h
  have hs:s=[]:=List.length_eq_zero_iff.1 (by omega)
  subst hs
  rw [lexA_end rfl] at h
  cases h
  exact ⟨by simp,List.Pairwise.nil⟩
 | succ m ih =>
  intro s a ts hm h
  rcases lexA_inv h with ⟨h1,h2⟩ | ⟨c,l,k,tx,v,n,us,h0,h1,h2,h3,h4⟩
  ·subst h2;exact ⟨by simp,List.Pairwise.nil⟩
  ·have ok:=tokB_ok h2
   have hl:(c::l).length=s.length-skW false s:=by rw [← h1,List.length_drop]
   have:=ok.pos
   have hle:=ok.le
   obtain ⟨u1,u2⟩:=ih ((c::l).drop n) (a+skW false s+n) us (by rw [List.length_drop];omega) h3
   rw [List.length_drop] at u1
   subst h4
   refine ⟨fun t ht=>?_,List.Pairwise.cons (fun t ht=>?_) u2⟩
   ·rcases List.mem_cons.1 ht with rfl | ht
    ·simp only [];omega
    ·have:=u1 t ht;omega
   ·have:=u1 t ht
    simp only [];omega
theorem lex_take:∀ (m:Nat) (s:List UInt8) (a:Nat) (t1:List Tok) (t:Tok) (t2:List Tok),s.length≤m→lexA s a=.inr (t1++t::t2)→∃ p,t.From=((a+p:Nat):Int)∧p≤s.length∧lexA (s.take p) a=.inr t1:=by
 intro m
 induction m with
 | zero =>
  intro s a t1 t t2 hm h
  have hs:s=[]:=List.length_eq_zero_iff.1 (by omega)
  subst hs
  rw [lexA_end rfl] at h
  injection h with h
  simp at h
 | succ m ih =>
  intro s a t1 t t2 hm h
  rcases lexA_inv h with ⟨h1,h2⟩ | ⟨c,l,k,tx,v,n,us,h0,h1,h2,h3,h4⟩
  ·simp at h2
  ·have ok:=tokB_ok h2
   have hl:(c::l).length=s.length-skW false s:=by rw [← h1,List.length_drop]
   have hpos:=ok.pos
   have hle:=ok.le
   cases t1 with
   | nil =>
    simp only [List.nil_append,List.cons.injEq] at h4
    refine ⟨skW false s,by rw [h4.1],by omega,lexA_end ?_ a⟩
    rw [skW_take false s _ (Nat.le_refl _),List.length_take];omega
   | cons x t1 =>
    simp only [List.cons_append,List.cons.injEq] at h4
    obtain ⟨p,p1,p2,p3⟩:=ih ((c::l).drop n) (a+skW false s+n) t1 t t2 (by rw [List.length_drop];omega) (by rw [h3,h4.2])
    rw [List.length_drop] at p2
    refine ⟨skW false s+n+p,by rw [p1];congr 1;omega,by omega,?_⟩
    have hd:(s.take (skW false s+n+p)).drop (skW false (s.take (skW false s+n+p)))=(c::l).take (n+p):=by
     rw [skW_take false s _ (by omega),List.drop_take,h1,show skW false s+n+p-skW false s=n+p by omega]
    have htk:=tokB_take h2 (m:=n+p) (by omega)
    obtain ⟨l',hl'⟩:∃ l',(c::l).take (n+p)=c::l':=by
     obtain ⟨j,hj⟩:∃ j,n+p=j+1:=⟨n+p-1,by omega⟩
     rw [hj];exact ⟨l.take j,rfl⟩
    rw [hl'] at hd htk
    rw [lexA_step hd htk,skW_take false s _ (by omega),← hl',List.drop_take,show n+p-n=p by omega,p3,h4.1]
    rfl
theorem parse_er_le {F:Nat} {l:List Tok} (hF:l.length+2≤F):∀ (G:Nat) (acc:List T12) (n k:Nat) (c:Int),sParse F G acc l n=.er k c→n≤k:=by
 intro G
 induction G with
 | zero=>intro acc n k c h;cases h
 | succ G ih =>
  intro acc n k c h
  simp only [sParse] at h
  by_cases hn:n < l.length
  ·rw [dT hn,cT] at h
   have hp:=protocol_lo (F:=F) (l:=l) (n:=n)
   cases hs:sProtocol F l n with
   | ok p m =>
    rw [hs] at h hp
    have:=ih _ _ _ _ h
    have:=hp.1;omega
   | er k' c' =>
    rw [hs] at h hp
    cases h;exact hp.1
   | out=>rw [hs] at h;cases h
  ·rw [dF hn,cF] at h;cases h
theorem parse_err {F:Nat} {l l':List Tok} (hF:l.length+2≤F) {k:Nat} {c:Int} (hk':k < l'.length) (hag:Agr l l' 0 0 k):∀ (G G':Nat) (acc:List T12) (n:Nat),l'.length < G'+n→sParse F G acc l n=.er k c→sParse F G' acc l' n=.er k c:=by
 intro G
 induction G with
 | zero=>intro G' acc n h h1;cases h1
 | succ G ih =>
  intro G' acc n h h1
  have hnk:=parse_er_le hF _ _ _ _ _ h1
  obtain ⟨G',rfl⟩:∃ m,G'=m+1:=⟨G'-1,by omega⟩
  simp only [sParse] at h1 ⊢
  by_cases hn:n < l.length
  ·rw [dT hn,cT] at h1
   rw [dT (by omega:n < l'.length),cT]
   have hp:=protocol_lo (F:=F) (l:=l) (n:=n)
   cases hs:sProtocol F l n with
   | ok p m =>
    rw [hs] at h1 hp
    have h1:sParse F G (snoc acc p) l m=.er k c:=h1
    have hm:=parse_er_le hF _ _ _ _ _ h1
    have e:=hp.2 l' 0 (hag.sub (Nat.zero_le _) (by omega))
    simp only [Nat.add_zero] at e
    rw [e]
    exact ih G' (snoc acc p) m (by have:=hp.1;omega) h1
   | er k' c' =>
    rw [hs] at h1 hp
    cases h1
    have e:=hp.2 l' 0 (hag.sub (Nat.zero_le _) (Nat.le_refl _))
    simp only [Nat.add_zero] at e
    rw [e]
    rfl
   | out=>rw [hs] at h1;cases h1
  ·rw [dF hn,cF] at h1;cases h1
variable {N:Nat}
theorem first_l4 (s t:ByteArray) (x5:List Tok × Int × Int) (x6:List T12 × Int × Int):∀ n a b,law10_SyntaxFirst_l4 N s t x5 x6 n a b=law10_SyntaxFirst_l2 N s t x5 x6 n a b
 | 0,_,_=>rfl
 | n+1,a,b=>by
  simp only [law10_SyntaxFirst_l4,law10_SyntaxFirst_l2,first_l4 s t x5 x6 n]
  rfl
def cutV (ts:List Tok) (z:Int) (j:Nat):Int:=if j < ts.length then (tk ts j).From else z
theorem tk_some {ts:List Tok} {j:Nat} (h:j < ts.length):ts[j]? = some (tk ts j):=by unfold tk;rw [List.getElem?_eq_getElem h];rfl
theorem first_loop (s t:ByteArray) {ts:List Tok} {x6:List T12 × Int × Int} (hl:ts.length≤8000) (hinc:ts.Pairwise (fun x y=>x.From < y.From)) {k:Nat} (hk:k < ts.length) (hat:x6.2.1=(tk ts k).From):∀ (d i n:Nat),i=k+d→i < ts.length→d < n →
  law10_SyntaxFirst_l2 N s t (ts,0,0) x6 n (cutV ts (s.size:Int) (i+1)) (i:Int)=law10_SyntaxFirst_k1 N s t x6 (cutV ts (s.size:Int) (k+1)):=by
 intro d
 induction d with
 | zero =>
  intro i n hi hil hn
  obtain ⟨n,rfl⟩:∃ m,n=m+1:=⟨n-1,by omega⟩
  have hi':i=k:=by omega
  rw [hi']
  simp only [law10_SyntaxFirst_l2]
  rw [dT (by omega:(k:Int)≥0),cT,idx_nat,tk_some hk]
  simp only [bS]
  rw [hat,dF (by omega:¬ (tk ts k).From > (tk ts k).From),cF]
 | succ d ih =>
  intro i n hi hil hn
  obtain ⟨n,rfl⟩:∃ m,n=m+1:=⟨n-1,by omega⟩
  simp only [law10_SyntaxFirst_l2]
  rw [dT (by omega:(i:Int)≥0),cT,idx_nat,tk_some hil]
  simp only [bS]
  have hlt:(tk ts k).From < (tk ts i).From:=by
   have:=List.pairwise_iff_getElem.1 hinc k i hk hil (by omega)
   have e1:=tk_some hk
   have e2:=tk_some hil
   rw [List.getElem?_eq_getElem hk] at e1
   rw [List.getElem?_eq_getElem hil] at e2
   injection e1 with e1;injection e2 with e2
   rw [e1,e2] at this;exact this
  rw [hat,dT (by omega:(tk ts i).From > (tk ts k).From),cT,w64_id (by omega) (by omega)]
  have:=ih (i-1) n (by omega) (by omega) (by omega)
  rw [show i-1+1=i by omega,show ((i-1:Nat):Int)=(i:Int)-1 by omega] at this
  unfold cutV at this
  rw [if_pos hil] at this
  exact this
theorem first_law (hN:4210000 < N) (s t:ByteArray) (hw:z9 N=some true):law10_SyntaxFirst N s t=some true:=by
 unfold law10_SyntaxFirst
 rw [hw]
 simp only [bS,Bool.not_true,cF]
 by_cases s1:s.size > 1500
 ·rw [dT (by omega:(s.size:Int) > 1500)];rfl
 by_cases s2:t.size > 1500
 ·rw [dF (by omega:¬ (s.size:Int) > 1500),dT (by omega:(t.size:Int) > 1500)];rfl
 rw [dF (by omega:¬ (s.size:Int) > 1500),dF (by omega:¬ (t.size:Int) > 1500)]
 simp only [cF]
 rw [(parse_both hN s).1]
 have t1:=tokens_eq (N:=N) (by omega) s
 cases ht:toksS s with
 | inl q =>
  obtain ⟨p,e⟩:=q
  rw [ht] at t1
  rw [t1.2]
  simp only [bS]
  rw [show (e != 0)=true by simp [t1.1]];rfl
 | inr ts =>
  rw [ht] at t1
  have t1:z23 N s=some (ts,0,0):=t1
  rw [t1]
  simp only [bS]
  rw [show ((0:Int) != 0)=false from rfl]
  simp only [cF]
  obtain ⟨q1,q2,q3,q4⟩:=toksS_ok ht
  have hlex:lexA (bs s) 0=.inr ts:=by rw [← toks_lex q4,ht]
  have hinc:=(lex_inc _ (bs s) 0 ts (Nat.le_refl _) hlex).2
  rw [parseS_inr ht]
  cases hp:sParse 8200 8200 [] ts 0 with
  | out=>rfl
  | ok ps m =>
   rw [show endR ts (s.size:Int) fineR (.ok ps m)=fineR ps from rfl]
   by_cases hv:ValidP ps
   ·rw [fineR_pos hv];rfl
   ·rw [fineR_neg hv];rfl
  | er k c =>
   rcases Nat.lt_or_ge k ts.length with hk | hk
   ·have hoff:off ts (s.size:Int) k=(tk ts k).From:=by unfold off;rw [dT hk];rfl
    show (bif c != 3 then _ else _)=_
    simp only [endR,hoff]
    -- what the last step answers
    have last:law10_SyntaxFirst_k1 N s t (([],(tk ts k).From,c):List T12 × Int × Int) (cutV ts (s.size:Int) (k+1))=some true:=by
     have hcut:∃ p,cutV ts (s.size:Int) (k+1)=((p:Nat):Int)∧p≤(bs s).length∧lexA ((bs s).take p) 0=.inr (ts.take (k+1)):=by
      unfold cutV
      by_cases hk1:k+1 < ts.length
      ·rw [if_pos hk1]
       have hsplit:ts=ts.take (k+1)++tk ts (k+1)::ts.drop (k+2):=by
        have h1:=(List.take_append_drop (k+1) ts).symm
        rw [drop_get (tk_some hk1)] at h1
        exact h1
       obtain ⟨p,p1,p2,p3⟩:=lex_take _ (bs s) 0 (ts.take (k+1)) (tk ts (k+1)) (ts.drop (k+2)) (Nat.le_refl _) (by rw [← hsplit];exact hlex)
       exact ⟨p,by rw [p1,Nat.zero_add],p2,p3⟩
      ·rw [if_neg hk1]
       exact ⟨s.size,rfl,by rw [size_bs];exact Nat.le_refl _,by rw [size_bs,List.take_length,List.take_of_length_le (by omega)];exact hlex⟩
     obtain ⟨p,p1,p2,p3⟩:=hcut
     unfold law10_SyntaxFirst_k1
     rw [p1,ssl_to (x:=(bs s).take p) (y:=(bs s).drop p) (List.take_append_drop _ _).symm (by rw [List.length_take];omega)]
     have hpl:((bs s).take p).length=p:=by rw [List.length_take];omega
     rw [size_bs] at s1 s2
     simp only [bS]
     simp (disch:=(simp only [bs_mkB,bs_str,lA,List.length_cons,List.length_nil,List.length_take];omega)) only [cat_eq,bS,bs_mkB,bs_str]
     have hz:(mkB ((bs s).take p++[10]++bs t)).size≤8000:=by rw [size_bs,bs_mkB];simp only [lA,List.length_cons,List.length_nil,hpl];omega
     have hb:bs (mkB ((bs s).take p++[10]++bs t))=(bs s).take p++10::bs t:=by rw [bs_mkB];simp
     generalize mkB ((bs s).take p++[10]++bs t)=u at *
     have t2:=tokens_eq (N:=N) (by omega) u
     cases hu:toksS u with
     | inl q =>
      obtain ⟨p',e⟩:=q
      rw [hu] at t2
      rw [t2.2]
      simp only [bS]
      rw [show (e != 0)=true by simp [t2.1]];rfl
     | inr us =>
      rw [hu] at t2
      have t2:z23 N u=some (us,0,0):=t2
      rw [t2,(parse_both hN u).1,parseS_inr hu]
      simp only [bS]
      rw [show ((0:Int) != 0)=false from rfl]
      simp only [cF]
      obtain ⟨r1,_⟩:=toksS_ok hu
      have hul:lexA (bs u) 0=.inr us:=by rw [← toks_lex hz,hu]
      rw [hb,lex_app _ _ 0 _ (Nat.le_refl _) p3 (bs t)] at hul
      obtain ⟨vs,_,hus⟩:=prep_inr hul
      have htk:(ts.take (k+1)).length=k+1:=by rw [List.length_take];omega
      have hget:∀ i,i≤k→tk us i=tk ts i:=by
       intro i hi
       unfold tk
       rw [hus,List.getElem?_append_left (by omega),List.getElem?_take_of_lt (by omega)]
      have hkl:k < us.length:=by rw [hus,lA];omega
      rw [parse_err (F:=8200) (l:=ts) (l':=us) (by omega) hkl (fun i _ hi=>by rw [Nat.add_zero,hget i hi]) 8200 8200 [] 0 (by omega) hp]
      have hoff2:off us (u.size:Int) k=(tk ts k).From:=by unfold off;rw [dT hkl,hget k (Nat.le_refl _)];rfl
      simp only [endR,hoff2]
      simp
    have hlast:((ts.length:Int)-1)=((ts.length-1:Nat):Int):=by omega
    have hfin:=first_loop (N:=N) s t (x6:=(([],(tk ts k).From,c):List T12 × Int × Int)) q1 hinc hk rfl (ts.length-1-k) (ts.length-1) N (by omega) (by omega) (by omega)
    have hcv:cutV ts (s.size:Int) (ts.length-1+1)=(s.size:Int):=by unfold cutV;rw [if_neg (by omega)]
    rw [hcv,last] at hfin
    rw [w64_id (by omega) (by omega),hlast,first_l4,hfin]
    cases (c != 3)<;>cases (c != 2)<;>cases decide ((tk ts k).From≥(s.size:Int))<;>rfl
   ·have hoff:off ts (s.size:Int) k=(s.size:Int):=by unfold off;rw [dF (by omega)];rfl
    show (bif c != 3 then _ else _)=_
    simp only [endR,hoff]
    rw [dT (by omega:(s.size:Int)≥(s.size:Int))]
    cases (c != 3)<;>cases (c != 2)<;>rfl
end Gp
end
section
namespace Gx
open Go Go.Kx
end Gx
end
section
namespace Gp
open Go Go.Kx Gx
set_option maxRecDepth 100000
theorem awake_some (k:Nat):z9 (k+300)=some true:=by kernel_rfl
theorem plain:∀ (x0:ByteArray) (x1:ByteArray),(x0.size≤bd)→(x1.size≤bd)→∃ N,law10_SyntaxFirst N x0 x1=some true:=by
 intro a b _ _
 exact ⟨10000000+300,first_law (by omega) a b (awake_some _)⟩
end Gp
end
