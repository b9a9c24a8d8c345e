/- The plain law, part 3: what the functions compute answers as the statement says. -/
import Derived.Test.YteimgnlbpphmjaaGreatDoorSyntaxPrintPlain2
set_option linter.all false
section
namespace Gp
open Go Go.Kx Gx
theorem lines_at {α γ:Type} (xs:List α) (F:Nat→ByteArray→Int→γ) (fin:ByteArray→γ) (g:α→List UInt8) (L:Nat) (hs:xs.length≤4194304)
  (h1:∀ (n k:Nat) x A,k < 4194304→xs[k]? = some x→A.length+(g x).length≤L→F (n+1) (mkB A) (k:Int)=F n (mkB (A++g x)) ((k+1:Nat):Int))
  (h2:∀ (n k:Nat) A,xs.length≤k→k≤xs.length→A.length≤L→F (n+1) (mkB A) (k:Int)=fin (mkB A)):∀ (l:List α) (k n:Nat) (A:List UInt8),k≤xs.length→xs.drop k=l→l.length < n→A.length+((l.map g).flatten).length≤L→F n (mkB A) (k:Int)=fin (mkB (A++(l.map g).flatten)):=by
 intro l
 induction l with
 | nil =>
  intro k n A hk h hn hL
  obtain ⟨n,rfl⟩:∃ m,n=m+1:=⟨n-1,by simp at hn;omega⟩
  rw [h2 n k A (drop_nil h) hk (by omega)];simp
 | cons x l ih =>
  intro k n A hk h hn hL
  obtain ⟨n,rfl⟩:∃ m,n=m+1:=⟨n-1,by simp at hn;omega⟩
  obtain ⟨a,c,d⟩:=drop_cons h
  rw [List.map_cons,List.flatten_cons,lA] at hL
  rw [h1 n k x A (by omega) c (by omega),ih (k+1) n _ (by omega) d (by simp at hn;omega) (by rw [lA];omega)]
  simp only [List.map_cons,List.flatten_cons,aA]
def protHead (p:T12):List UInt8:=[112,114,111,116,111,99,111,108,32]++bs p.Name++[40]++commaT p.Roles++[41,32,123]
def msgLine (m:T11):List UInt8:=lineT 1 (msgT m)
def protT (p:T12):List UInt8:=lineT 0 (protHead p)++(p.Messages.map msgLine).flatten++xL 1 p.Body++lineT 0 [125]
def srcT (l:List T12):List UInt8:=(l.map protT).flatten
def ProtP (p:T12):Prop:=isWord p.Name=true∧WordsP p.Roles 6∧p.Messages.length≤40∧shL p.Body∧dL p.Body≤10∧cL p.Body≤300∧∀ m∈p.Messages,MsgP m
theorem comma_len {l:List ByteArray} {k:Nat} (h:WordsP l k) (hk:k≤6):(commaT l).length≤108:=by
 have:=joinL_len [44,32] 16 (l.map bs) (fun x hx=>by obtain ⟨w,hw,rfl⟩:=List.mem_map.1 hx;exact word_len (h.2.2 w hw))
 simp only [List.length_map,List.length_cons,List.length_nil] at this
 have:=h.2.1
 unfold commaT joinT
 omega
theorem headT_len (first:Bool) (hd w last:List UInt8) (e:Bool) (h1:hd.length≤70) (h2:w.length≤10) (h3:last.length≤10):(headT first hd w last e).length≤72:=by
 unfold headT
 cases first<;>cases (e && !last.isEmpty)<;>simp only [cT,cF,lA,List.length_cons,List.length_nil]<;>omega
mutual
theorem xI_len:∀ (x:T10) (k:Nat),shI x→k+dI x≤20→(xI k x).length≤1000 * cI x
 | ⟨kd,f,t,n,a,x,b⟩,k,hs,hk=>by
  simp only [shI,dI,cI] at hs hk ⊢
  obtain ⟨hP,hsb⟩:=hs
  have hr:∀ hd w last,hd.length≤70→w.length≤10→last.length≤10→(xR k true hd w last b).length≤100 * (b.length+1)+1000 * cLL b:=fun hd w last h1 h2 h3=>xR_len b k true hd w last hsb (by omega) h1 h2 h3
  unfold ShP at hP
  simp only at hP
  rcases hP with hP | hP | hP | hP | hP | hP
  ·rw [hP.1]
   have h1:=word_len hP.2.1
   have h2:=comma_len hP.2.2.1 (by omega)
   have h3:=path_len hP.2.2.2.1
   show (lineT k (sendT f t n)).length≤_
   rw [lineT_len];unfold sendT
   simp only [lA,List.length_cons,List.length_nil];omega
  ·rw [hP.1]
   have h1:=word_len hP.2.1
   have h2:=dig_len x
   show (bif decide (x > 0) then xR k true (withinT f x) orT elseT b else xR k true (choiceT f) orT [] b).length≤_
   have h3:(withinT f x).length≤70:=by unfold withinT choiceT;simp only [lA,List.length_cons,List.length_nil];omega
   have h4:(choiceT f).length≤70:=by unfold choiceT;simp only [lA,List.length_cons,List.length_nil];omega
   have q1:=hr (withinT f x) orT elseT h3 (by simp) (by simp)
   have q2:=hr (choiceT f) orT [] h4 (by simp) (by simp)
   cases decide (x > 0)<;>simp only [cT,cF]<;>omega
  ·rw [hP.1]
   have h1:=path_len hP.2.2.2.1
   show (xR k true (loopT n) [] [] b).length≤_
   have h4:(loopT n).length≤70:=by unfold loopT;simp only [lA,List.length_cons,List.length_nil];omega
   have q:=hr (loopT n) [] [] h4 (by simp) (by simp)
   omega
  ·rw [hP.1]
   have h3:=path_len hP.2.2.2.1
   show (lineT k (againT n)).length≤_
   rw [lineT_len];unfold againT
   simp only [lA,List.length_cons,List.length_nil];omega
  ·rw [hP.1]
   show (xR k true parT andT [] b).length≤_
   have q:=hr parT andT [] (by simp) (by simp) (by simp)
   omega
  ·rw [hP.1]
   have h1:=word_len hP.2.2.2.1
   have h2:=comma_len hP.2.2.1 (by omega)
   have h3:=word_len hP.2.2.2.2.1
   show (lineT k (callT n t a)).length≤_
   rw [lineT_len];unfold callT
   simp only [lA,List.length_cons,List.length_nil];omega
theorem xL_len:∀ (l:List T10) (k:Nat),shL l→k+dL l≤20→(xL k l).length≤1000 * cL l
 | [],k,_,_=>by simp [xL]
 | x::l,k,hs,hk=>by
  simp only [shL,dL] at hs hk
  have h1:=xI_len x k hs.1 (by omega)
  have h2:=xL_len l k hs.2 (by omega)
  simp only [xL,cL,lA];omega
theorem xR_len:∀ (l:List (List T10)) (k:Nat) (first:Bool) (hd w last:List UInt8),shLL l→k+dLL l+1≤20→hd.length≤70→w.length≤10→last.length≤10→(xR k first hd w last l).length≤100 * (l.length+1)+1000 * cLL l
 | [],k,first,hd,w,last,_,hk,_,_,_=>by simp only [xR,lineT_len,List.length_cons,List.length_nil];omega
 | b::l,k,first,hd,w,last,hs,hk,h1,h2,h3=>by
  simp only [shLL,dLL] at hs hk
  have q1:=xL_len b (k+1) hs.1 (by omega)
  have q2:=xR_len l k false hd w last hs.2 (by omega) h1 h2 h3
  have q3:=headT_len first hd w last l.isEmpty h1 h2 h3
  simp only [xR,cLL,lA,lineT_len,List.length_cons];omega
end
theorem flat_len {α:Type} (g:α→List UInt8) (M:Nat):∀ l:List α,(∀ x∈l,(g x).length≤M)→((l.map g).flatten).length≤l.length * M
 | [],_=>by simp
 | x::l,h=>by
  have h1:=h x (List.mem_cons_self ..)
  have h2:=flat_len g M l fun z hz=>h z (List.mem_cons_of_mem _ hz)
  simp only [List.map_cons,List.flatten_cons,lA,List.length_cons,Nat.add_mul,Nat.one_mul];omega
theorem protT_len {p:T12} (h:ProtP p):(protT p).length≤1000000:=by
 obtain ⟨h1,h2,h3,h4,h5,h6,h7⟩:=h
 have q1:=word_len h1
 have q2:=comma_len h2 (Nat.le_refl _)
 have q3:=flat_len msgLine 3010 p.Messages (fun m hm=>by have:=msgT_len (h7 m hm);unfold msgLine;rw [lineT_len];omega)
 have q4:=xL_len p.Body 1 h4 (by omega)
 have q5:p.Messages.length * 3010≤40 * 3010:=Nat.mul_le_mul_right _ h3
 unfold protT protHead
 simp only [lA,lineT_len,List.length_cons,List.length_nil];omega
theorem srcT_len {l:List T12} (hl:l.length≤4194304) (h:∀ p∈l,ProtP p) (h10:l.length≤10):(srcT l).length≤10000000:=by
 have:=flat_len protT 1000000 l fun p hp=>protT_len (h p hp)
 unfold srcT
 have:l.length * 1000000≤10 * 1000000:=Nat.mul_le_mul_right _ h10
 omega
end Gp
end
section
namespace Gp
open Go Go.Kx Gx
variable {N:Nat}
structure Pk (N:Nat) (p:T12):Prop where
 v:ProtP p
 l:p.Body.length≤4194304
 b:bL p.Body
theorem Pk.r {p:T12} (h:Pk N p):p.Roles.length≤6:=h.v.2.1.2.1
theorem done_eq (A:List UInt8) (h0:0 < A.length) (hA:A.length≤4294967296):z83_15 N ⟨mkB A,(0:Int)⟩=some (mkB A):=by
 unfold z83_15
 have e:(mkB A).size=A.length:=by rw [size_bs,bs_mkB]
 have g:gdB (mkB A)=some ():=by
  unfold gdB
  rw [e,show Nat.beq A.length 0=false by cases h:A.length with | zero=>omega | succ n=>rfl,Nat.ble_eq_true_of_le (show A.length≤lim by show A.length≤4294967296;omega)]
  rfl
 rw [g];rfl
theorem prot_body (hN:4194320 < N) {p:T12} (h:Pk N p) (A:List UInt8) (hA:A.length≤100000000) :
  (z82_14 N p.Body ⟨mkB A,(1:Int)⟩).bind (fun y=>z79_11 N ([(str [125])]:List ByteArray) (⟨y.Builder,(w64 (y.depth'-(1:Int)))⟩:T15))=some ⟨mkB (A++xL 1 p.Body++lineT 0 [125]),(0:Int)⟩:=by
 obtain ⟨h1,h2,h3,h4,h5,h6,h7⟩:=h.v
 have q4:=xL_len p.Body 1 h4 (by omega)
 rw [show (1:Int)=((1:Nat):Int) from rfl,items_src N p.Body 1 A (by omega) h.l h.b h4 (by omega) (by omega),bS]
 show z79_11 N [str [125]] ⟨mkB (A++xL 1 p.Body),w64 (((1:Nat):Int)-((1:Nat):Int))⟩=_
 rw [show w64 (((1:Nat):Int)-((1:Nat):Int))=((0:Nat):Int) from rfl]
 rw [line_eq [str [125]] _ [125] 0 (by simp [bs_str]) (by simp) (by omega) (by simp only [lA,lineT_len,List.length_cons,List.length_nil];omega)]
 rfl
theorem msgs_len {p:T12} (h:ProtP p):((p.Messages.map msgLine).flatten).length≤120400:=by
 have q3:=flat_len msgLine 3010 p.Messages (fun m hm=>by have:=msgT_len (h.2.2.2.2.2.2 m hm);unfold msgLine;rw [lineT_len];omega)
 have q5:p.Messages.length * 3010≤40 * 3010:=Nat.mul_le_mul_right _ h.2.2.1
 omega
theorem head_parts (p:T12):(([(str [112,114,111,116,111,99,111,108,32]),p.Name,(str [40]),mkB (joinT [44,32] p.Roles),(str [41,32,123])]:List ByteArray).map bs).flatten=protHead p:=by
 simp [bs_str,bs_mkB,protHead,commaT,aA]
theorem source_eq (hN:4194320 < N) (l:List T12) (hl:l.length≤10) (h:∀ p∈l,Pk N p):z36 N l=some (mkB (srcT l)):=by
 have hs:=srcT_len (l:=l) (by omega) (fun p hp=>(h p hp).v) hl
 unfold z36
 cases hll:l with
 | nil=>rfl
 | cons p r =>
  rw [← hll]
  have hlt:decide ((0:Int) < (l.length:Int))=true:=dT (by rw [hll];simp)
  have h0:l[0]? = some p:=by rw [hll];rfl
  have hp:=h p (List.mem_of_getElem? h0)
  have e:srcT l=protT p++(r.map protT).flatten:=by rw [hll];rfl
  have hpl:=protT_len hp.v
  have hml:=msgs_len hp.v
  have hL:=hs
  rw [e,lA] at hL
  have hh:(lineT 0 (protHead p)).length≤200:=by
   have:=word_len hp.v.1
   have:=comma_len hp.v.2.1 (Nat.le_refl _)
   unfold protHead;simp only [lA,lineT_len,List.length_cons,List.length_nil];omega
  have hc:∀ q:T12,ProtP q→(joinT [44,32] q.Roles).length≤108:=fun q hq=>comma_len hq.2.1 (Nat.le_refl _)
  rw [hlt,cT,show idx l (0:Int)=some p by rw [show (0:Int)=((0:Nat):Int) from rfl,idx_nat,h0]]
  simp only [bS]
  rw [join_eq p.Roles [44,32] (by have:=hp.r;omega) (by have:=hc p hp.v;omega),bS,line_eq0 _ _ (head_parts p) (by simp) (by omega)]
  simp only [bS]
  rw [show w64 ((0:Int)+1)=(1:Int) from rfl]
  -- the first protocol's messages
  have msgs:∀ (q:T12),Pk N q→∀ (F:Nat→ByteArray→Int→Option ByteArray) (fin:ByteArray→Option ByteArray) (A:List UInt8),A.length≤50000000 →
    (∀ (n k:Nat) (m:T11) (A:List UInt8),q.Messages[k]? = some m→z81_12 N m ⟨mkB A,(1:Int)⟩=some ⟨mkB (A++msgLine m),(1:Int)⟩→k < 4194304→F (n+1) (mkB A) (k:Int)=F n (mkB (A++msgLine m)) ((k+1:Nat):Int)) →
    (∀ (n k:Nat) (A:List UInt8),q.Messages.length≤k→F (n+1) (mkB A) (k:Int)=fin (mkB A))→F N (mkB A) (0:Int)=fin (mkB (A++(q.Messages.map msgLine).flatten)):=by
   intro q hq F fin A hA g1 g2
   have hq3:=hq.v.2.2.1
   have hml:=msgs_len hq.v
   exact lines_at q.Messages F fin msgLine 100000000 (by omega) (fun n k m A hk hm hA=>g1 n k m A hm (by
    have hm':=hq.v.2.2.2.2.2.2 m (List.mem_of_getElem? hm)
    exact message_line (by omega) hm' A 1 (by omega) (by show A.length+(msgLine m).length≤_;omega)) hk) (fun n k A h1 _ h3=>g2 n k A h1) q.Messages 0 N A (by omega) rfl (by omega) (by omega)
  rw [msgs p hp (fun n b k=>z36_l5 N l p n b (1:Int) k) (fun b=>z36_k4 N l p b (1:Int)) (lineT 0 (protHead p)) (by omega) (fun n k m A hm hline hk=>?_) (fun n k A hk=>?_)]
  ·unfold z36_k4
   have hb:=prot_body hN hp (lineT 0 (protHead p)++(p.Messages.map msgLine).flatten) (by simp only [lA];omega)
   rw [← Option.bind_assoc] 
   rw [hb,bS]
   show z36_l1 N l N (mkB _) (0:Int) (w64 ((0:Int)+1))=_
   rw [show w64 ((0:Int)+1)=((1:Nat):Int) from rfl]
   have e2:lineT 0 (protHead p)++(p.Messages.map msgLine).flatten++xL 1 p.Body++lineT 0 [125]=protT p:=rfl
   rw [e2]
   rw [lines_at l (fun n b k=>z36_l1 N l n b (0:Int) k) (fun b=>(z83_15 N (⟨b,0⟩:T15)).bind fun x=>some x) protT 10000000 (by omega) (fun n k q A hk hq hA=>?_) (fun n k A hk _ hA=>?_) r 1 N (protT p) (by rw [hll];simp) (by rw [hll];rfl) (by rw [hll] at hl;simp at hl;omega) (by omega)]
   ·rw [← e,done_eq _ (by rw [e];unfold protT protHead;simp only [lA,lineT_len,List.length_cons];omega) (by omega)]
    rfl
   ·have hq':=h q (List.mem_of_getElem? hq)
    have hqr:=hq'.r
    have hqc:=hc q hq'.v
    have hqm:=msgs_len hq'.v
    have hqh:(lineT 0 (protHead q)).length≤200:=by
     have:=word_len hq'.v.1
     have:=comma_len hq'.v.2.1 (Nat.le_refl _)
     unfold protHead;simp only [lA,lineT_len,List.length_cons,List.length_nil];omega
    simp only [z36_l1,lt_t (get_lt hq),cT,idx_nat,hq,bS]
    rw [join_eq q.Roles [44,32] (by omega) (by omega),bS]
    have hline:=line_eq (N:=N) _ A _ 0 (head_parts q) (by simp) (by omega) (by omega)
    rw [show (((0:Nat):Int))=(0:Int) from rfl] at hline
    rw [hline]
    simp only [bS]
    rw [show w64 ((0:Int)+1)=(1:Int) from rfl]
    rw [msgs q hq' (fun n' b j=>z36_l3 N (k:Int) (z36_l1 N l n) q n' b (1:Int) j) (fun b=>z36_k2 N (k:Int) (z36_l1 N l n) q b (1:Int)) (A++lineT 0 (protHead q)) (by simp only [lA];omega) (fun n' j m A hm hline hj=>?_) (fun n' j A hj=>?_)]
    ·unfold z36_k2
     have hb:=prot_body hN hq' (A++lineT 0 (protHead q)++(q.Messages.map msgLine).flatten) (by simp only [lA];omega)
     rw [← Option.bind_assoc]
     rw [hb,bS,w64_succ (by omega)]
     simp only [protT,aA]
    ·simp only [z36_l3,lt_t (get_lt hm),cT,idx_nat,hm,bS,hline,w64_succ (show j < 4611686018427387904 by omega)]
    ·simp only [z36_l3,lt_f hj,cF]
   ·simp only [z36_l1,lt_f hk,cF]
  ·simp only [z36_l5,lt_t (get_lt hm),cT,idx_nat,hm,bS,hline,w64_succ (show k < 4611686018427387904 by omega)]
  ·simp only [z36_l5,lt_f hk,cF]
end Gp
end
section
namespace Gp
open Go Go.Kx Gx
variable {N:Nat}
theorem lines_0 {α γ:Type} (xs:List α) (F:Nat→ByteArray→Int→γ) (fin:ByteArray→γ) (g:α→List UInt8) (L:Nat) (hs:xs.length≤4194304)
  (h1:∀ (n k:Nat) x A,k < 4194304→xs[k]? = some x→A.length+(g x).length≤L→F (n+1) (mkB A) (k:Int)=F n (mkB (A++g x)) ((k+1:Nat):Int))
  (h2:∀ (n k:Nat) A,xs.length≤k→A.length≤L→F (n+1) (mkB A) (k:Int)=fin (mkB A)) {n:Nat} {A:List UInt8} (hn:xs.length < n) (hA:A.length+((xs.map g).flatten).length≤L):F n (mkB A) (0:Int)=fin (mkB (A++(xs.map g).flatten)) :=
 lines_at xs F fin g L hs h1 (fun n k A a _ b=>h2 n k A a b) xs 0 n A (Nat.zero_le _) rfl hn hA
theorem rtext_eq (hN:4194320 < N) (l:List T7) (hl:l.length≤10) (h:∀ p∈l,Pk N (oP p)):z39 N l=some (mkB (srcT (l.map oP))):=by
 have hs:=srcT_len (l:=l.map oP) (by simp;omega) (fun p hp=>by obtain ⟨q,hq,rfl⟩:=List.mem_map.1 hp;exact (h q hq).v) (by simp;omega)
 have e:srcT (l.map oP)=(l.map fun p=>protT (oP p)).flatten:=by unfold srcT;rw [List.map_map];rfl
 rw [e] at hs ⊢
 unfold z39
 have:=lines_at l (z39_l2 N l) z39_k1 (fun p=>protT (oP p)) 10000000 (by omega) (fun n k p A hk hp hA=>?_) (fun n k A hk _ hA=>?_) l 0 N [] (by omega) rfl (by omega) (by simp only [List.length_nil];omega)
 ·exact this
 ·have hp':=h p (List.mem_of_getElem? hp)
  have hpr:p.Roles.length≤6:=hp'.r
  have hw:=word_len hp'.v.1
  have hc:(joinT [44,32] p.Roles).length≤108:=comma_len hp'.v.2.1 (Nat.le_refl _)
  have hm:=msgs_len hp'.v
  have hq4:=xL_len (oP p).Body 1 hp'.v.2.2.2.1 (by have:=hp'.v.2.2.2.2.1;omega)
  have hc6:=hp'.v.2.2.2.2.2.1
  have e1:(oP p).Name=p.Name:=rfl
  have e2:(oP p).Roles=p.Roles:=rfl
  have e3:(oP p).Messages=p.Messages.map oM:=rfl
  have e4:(oP p).Body=oL p.Body:=rfl
  rw [e1] at hw
  rw [e3] at hm
  have hh:lineT 0 (protHead (oP p))=[112,114,111,116,111,99,111,108,32]++bs p.Name++[40]++joinT [44,32] p.Roles++[41,32,123,10]:=by
   simp [lineT,tabs,protHead,commaT,e1,e2]
  simp only [z39_l2,lt_t (get_lt hp),cT,idx_nat,hp,bS]
  rw [list_eq (by omega) p.Roles (by omega) (by omega)]
  simp (disch:=(simp only [bs_mkB,bs_str,lA,List.length_cons,List.length_nil,tabs_len];omega)) only [cat_eq,bS,bs_mkB,bs_str]
  rw [← hh]
  have hhl:(lineT 0 (protHead (oP p))).length≤200:=by rw [hh];simp only [lA,List.length_cons,List.length_nil];omega
  have hml:p.Messages.length≤40:=by have:=hp'.v.2.2.1;rw [e3,List.length_map] at this;exact this
  have hbl:p.Body.length≤4194304:=by have:=hp'.l;rw [e4,oL_len] at this;exact this
  have hmm:(p.Messages.map oM).map msgLine=p.Messages.map (fun m=>msgLine (oM m)):=by rw [List.map_map];rfl
  rw [hmm] at hm
  rw [lines_0 p.Messages (z39_l6 N l (k:Int) (z39_l2 N l n)) (z39_k5 N l (k:Int) (z39_l2 N l n)) (fun m=>msgLine (oM m)) 50000000 (by omega) (fun n' j m A hj hmj hA=>?_) (fun n' j A hj hA=>?_) (by omega) (by simp only [lA];omega)]
  ·unfold z39_k5
   have hx:∀ l:List T5,(l.map fun x=>xI 1 (oI x)).flatten=xL 1 (oL l):=by
    intro l
    induction l with
    | nil=>simp [oL,xL]
    | cons x l ih=>simp only [List.map_cons,List.flatten_cons,oL,xL,ih]
   rw [lines_0 p.Body (z39_l4 N l (k:Int) (z39_l2 N l n)) (z39_k3 (k:Int) (z39_l2 N l n)) (fun x=>xI 1 (oI x)) 100000000 hbl (fun n' j x A hj hxj hA=>?_) (fun n' j A hj hA=>?_) (by omega) (by rw [hx];rw [e4] at hq4 hc6;simp only [lA];omega),hx]
   ·unfold z39_k3
    rw [e4] at hq4 hc6
    simp (disch:=(simp only [bs_mkB,bs_str,lA,List.length_cons,List.length_nil,tabs_len];omega)) only [cat_eq,bS,bs_mkB,bs_str]
    rw [w64_succ (by omega)]
    have:A++lineT 0 (protHead (oP p))++(p.Messages.map fun m=>msgLine (oM m)).flatten++xL 1 (oL p.Body)++[125,10]=A++protT (oP p):=by
     unfold protT
     rw [e3,hmm,e4]
     simp [lineT,tabs]
    rw [this]
   ·have hxm:=List.mem_of_getElem? hxj
    have hb:=bL_mem hp'.b (by rw [e4];exact oL_in hxm)
    have hs:=shL_mem hp'.v.2.2.2.1 (by rw [e4];exact oL_in hxm)
    have hd:=dL_mem (l:=(oP p).Body) (by rw [e4];exact oL_in hxm)
    have hd10:=hp'.v.2.2.2.2.1
    obtain ⟨y,y1,y2⟩:=ritem_eq N x 1 (by omega) hb hs (by omega) (by omega)
    have hyl:y.length+2=(xI 1 (oI x)).length:=by rw [← y2,lineT_len];omega
    simp only [z39_l4,idx_nat,hp,bS,lt_t (get_lt hxj),cT,hxj,w64_succ (show j < 4611686018427387904 by omega)]
    rw [show str [9]=mkB (tabs 1) from rfl,y1]
    simp only [bS]
    simp (disch:=(simp only [bs_mkB,bs_str,lA,List.length_cons,List.length_nil,tabs_len];omega)) only [cat_eq,bS,bs_mkB,bs_str]
    rw [← y2]
    simp [lineT]
   ·simp only [z39_l4,idx_nat,hp,bS,lt_f hj,cF]
  ·have hv:MsgP (oM m):=hp'.v.2.2.2.2.2.2 _ (by rw [e3];exact List.mem_map.2 ⟨m,List.mem_of_getElem? hmj,rfl⟩)
   have hvl:=msgT_len hv
   simp only [z39_l6,idx_nat,hp,bS,lt_t (get_lt hmj),cT,hmj,rmessage_eq (show 4194304 < N by omega) m hv,w64_succ (show j < 4611686018427387904 by omega)]
   simp (disch:=(simp only [bs_mkB,bs_str,lA,List.length_cons,List.length_nil,tabs_len];omega)) only [cat_eq,bS,bs_mkB,bs_str]
   rfl
  ·simp only [z39_l6,idx_nat,hp,bS,lt_f hj,cF]
 ·simp only [z39_l2,lt_f hk,cF]
def ValidP (l:List T12):Prop:=l.length≤10∧(∀ p∈l,ProtP p)∧(srcT l).length≤8000
theorem prot_iff (p:T12) (Q:Prop):(isWord p.Name=true∧WordsP p.Roles 6∧p.Messages.length≤40∧(shL p.Body∧dL p.Body≤10∧cL p.Body≤300)∧(∀ m∈p.Messages,MsgP m)∧Q)↔ProtP p∧Q:=by
 unfold ProtP
 constructor
 ·rintro ⟨a,b,c,⟨d,e,f⟩,g,h⟩;exact ⟨⟨a,b,c,d,e,f,g⟩,h⟩
 ·rintro ⟨⟨a,b,c,d,e,f,g⟩,h⟩;exact ⟨a,b,c,⟨d,e,f⟩,g,h⟩
theorem valid_dq (hN:4194320 < N) (l:List T12) (hl:l.length≤4194304) (hb:∀ p∈l,bP p):Dq (z14 N l) (ValidP l):=by
 unfold z14
 refine Dq.cN (C:=l.length≤10) gt_lem fun h10=>?_
 refine dq_all (P:=ProtP) (E:=(srcT l).length≤8000) (by omega) _ (fun n k p Q hk hp hq=>?_) (fun hall n k hk=>?_) (by omega)
 ·have hbp:=hb p (List.mem_of_getElem? hp)
  simp only [z14_l2,lt_t (get_lt hp),cT,idx_nat,hp,bS]
  refine (Dq.bN (word_dq (by omega) _) fun h1=>Dq.bN (words_dq (by omega) _ hbp.r 6) fun h2=>Dq.cN (C:=p.Messages.length≤40) gt_lem fun h3=>?_).iff (prot_iff p Q)
  obtain ⟨r,m,v1,v2,v3⟩:=valid_items N p.Body 1 0 (by omega) hbp.l hbp.b (by omega) (by omega)
  rw [show z34 N p.Body (1:Int) (0:Int)=some (r,m) from v1,bS]
  refine Dq.cN (C:=shL p.Body∧dL p.Body≤10∧cL p.Body≤300) ?_ fun h4=>?_
  ·have:r=true↔shL p.Body∧dL p.Body≤10∧cL p.Body≤300:=v2.trans ⟨fun q=>⟨q.1,by omega,by omega⟩,fun q=>⟨q.1,by omega,by omega⟩⟩
   rw [← this];cases r<;>simp
  ·refine dq_all (P:=MsgP) (E:=Q) (by omega) (z14_l4 N (k:Int) (z14_l2 N l n) p) (fun n' j m Q' hj hm hq'=>?_) (fun hall n' j hj=>?_) (by omega)
   ·simp only [z14_l4,lt_t (get_lt hm),cT,idx_nat,hm,bS,w64_succ (show j < 4611686018427387904 by omega)]
    exact Dq.bN (mval_dq (by omega) m) hq'
   ·simp only [z14_l4,lt_f hj,cF,z14_k3,w64_succ (show k < 4611686018427387904 by omega)]
    exact hq ⟨h1,h2,h3,h4.1,h4.2.1,h4.2.2,hall⟩
 ·simp only [z14_l2,lt_f hk,cF,z14_k1]
  rw [source_eq hN l h10 fun p hp=>⟨hall p hp,(hb p hp).l,(hb p hp).b⟩,bS]
  exact Dq.dec (by rw [size_bs,bs_mkB];omega)
theorem rvalid_dq (hN:4194320 < N) (l:List T7) (hl:l.length≤4194304) (hb:∀ p∈l,RP p∧4194306+dL (oL p.Body)≤N∧cL (oL p.Body)≤1099511627776∧nL (oL p.Body)∧∀ m∈p.Messages,nM (oM m)):Dq (z19 N l) (ValidP (l.map oP)):=by
 unfold z19
 refine (Dq.cN (C:=l.length≤10) gt_lem fun h10=>dq_all (P:=fun p=>ProtP (oP p)) (E:=(srcT (l.map oP)).length≤8000) (by omega) _ (fun n k p Q hk hp hq=>?_) (fun hall n k hk=>?_) (by omega)).iff (by unfold ValidP;rw [List.length_map,List.forall_mem_map])
 ·obtain ⟨hbp,hd,hc,hn,hnm⟩:=hb p (List.mem_of_getElem? hp)
  have hlb:=RP_l hbp
  have e1:(oP p).Name=p.Name:=rfl
  have e2:(oP p).Roles=p.Roles:=rfl
  have e3:(oP p).Messages=p.Messages.map oM:=rfl
  have e4:(oP p).Body=oL p.Body:=rfl
  have hdc:dL (oL p.Body)≤cL (oL p.Body):=dc_L _
  simp only [z19_l2,lt_t (get_lt hp),cT,idx_nat,hp,bS]
  have hi:=prot_iff (oP p) Q
  rw [e1,e2,e3,e4,List.length_map,List.forall_mem_map] at hi
  refine (Dq.bN (rword_dq (by omega) _) fun h1=>Dq.bN (rwords_dq (by omega) _ hbp.r 6) fun h2=>Dq.cN (C:=p.Messages.length≤40) gt_lem fun h3=>(?_:Dq _ ((dL (oL p.Body)≤10∧cL (oL p.Body)≤300∧shL (oL p.Body)∧∀ m∈p.Messages,MsgP (oM m))∧Q))).iff ?_
  ·rw [depth_eq N p.Body hd hlb hbp.b (by omega),count_eq' N p.Body hd hlb hbp.b hc]
   simp only [bS]
   refine (Dq.cN (C:=dL (oL p.Body)≤10) (gt_lem (b:=10)) fun h4=>Dq.cN (C:=cL (oL p.Body)≤300) (gt_lem (b:=300)) fun h5=>Dq.bN (goods_dq N p.Body hd hlb hbp.b hn) fun h6=>(?_:Dq _ ((∀ m∈p.Messages,MsgP (oM m))∧Q))).iff ⟨fun q=>⟨⟨q.1,q.2.1,q.2.2.1,q.2.2.2.1⟩,q.2.2.2.2⟩,fun q=>⟨q.1.1,q.1.2.1,q.1.2.2.1,q.1.2.2.2,q.2⟩⟩
   refine dq_all (P:=fun m=>MsgP (oM m)) (E:=Q) (by omega) (z19_l4 N (k:Int) (z19_l2 N l n) p) (fun n' j m Q' hj hm hq'=>?_) (fun hall n' j hj=>?_) (by omega)
   ·have hmm:=List.mem_of_getElem? hm
    have hms:=RP_ms hbp hmm
    simp only [z19_l4,lt_t (get_lt hm),cT,idx_nat,hm,bS,w64_succ (show j < 4611686018427387904 by omega)]
    exact Dq.bN (rmval_dq (by omega) m hms.1 hms.2 (hnm m hmm)) hq'
   ·simp only [z19_l4,lt_f hj,cF,z19_k3,w64_succ (show k < 4611686018427387904 by omega)]
    refine hq ?_
    unfold ProtP
    rw [e1,e2,e3,e4,List.length_map,List.forall_mem_map]
    exact ⟨h1,h2,h3,h6,h4,h5,hall⟩
  ·rw [← hi]
   constructor
   ·rintro ⟨a,b,c,⟨d,e,f,g⟩,h⟩;exact ⟨a,b,c,⟨f,d,e⟩,g,h⟩
   ·rintro ⟨a,b,c,⟨f,d,e⟩,g,h⟩;exact ⟨a,b,c,⟨d,e,f,g⟩,h⟩
 ·simp only [z19_l2,lt_f hk,cF,z19_k1]
  rw [rtext_eq hN l h10 fun p hp=>⟨hall p hp,(hb p hp).1.l,(hb p hp).1.b⟩,bS]
  exact Dq.dec (by rw [size_bs,bs_mkB];omega)
end Gp
end
section
namespace Gp
open Go Go.Kx Gx
open Classical in
noncomputable def fineR (ps:List T12):List T12 × Int × Int:=if ValidP ps then (ps,0,0) else ([],0,6)
theorem fineR_pos {ps:List T12} (h:ValidP ps):fineR ps=(ps,0,0):=by unfold fineR;rw [if_pos h]
theorem fineR_neg {ps:List T12} (h:¬ ValidP ps):fineR ps=([],0,6):=by unfold fineR;rw [if_neg h]
def endR (ts:List Tok) (e:Int) (o:List T12→List T12 × Int × Int):Rr (List T12)→List T12 × Int × Int
 | .ok ps _=>o ps
 | .er k c=>([],off ts e k,c)
 | .out=>([],0,6)
noncomputable def parseS (s:ByteArray):List T12 × Int × Int :=
 match toksS s with
 | .inl (p,e)=>([],(p:Int),e)
 | .inr ts=>endR ts (s.size:Int) fineR (sParse 8200 8200 [] ts 0)
theorem zM_le (m:T11) (ms:List T11) (h:m∈ms):zM m≤zMs ms:=by
 induction ms with
 | nil=>cases h
 | cons x l ih =>
  simp only [zMs]
  rcases List.mem_cons.1 h with rfl | h
  ·omega
  ·have:=ih h;omega
theorem zMs_len (ms:List T11):ms.length≤zMs ms:=by
 induction ms with
 | nil=>exact Nat.le_refl _
 | cons x l ih=>simp only [zMs,List.length_cons];omega
theorem zA_le (a:T9) (l:List T9) (h:a∈l):zA a≤zAs l:=by
 induction l with
 | nil=>cases h
 | cons x l ih =>
  simp only [zAs]
  rcases List.mem_cons.1 h with rfl | h
  ·omega
  ·have:=ih h;omega
theorem zAs_len (l:List T9):l.length≤zAs l:=by
 induction l with
 | nil=>exact Nat.le_refl _
 | cons x l ih=>simp only [zAs,List.length_cons];omega
structure Zf (p:T12):Prop where
 b:bP p
 d:dL p.Body≤8000
 c:cL p.Body≤8000
 n:nL p.Body
 m:∀ m∈p.Messages,nM m
theorem Zf.of {p:T12} (h:zP p≤8000):Zf p:=by
 unfold zP at h
 obtain ⟨h1,h2⟩:=z_L p.Body (by omega)
 have h3:=zc_L p.Body
 have h4:=zL_len p.Body
 have h5:=zMs_len p.Messages
 refine ⟨⟨by omega,by omega,fun m hm=>?_,by omega,h1⟩,by omega,by omega,zn_L _ (by omega),fun m hm=>?_⟩
 ·have:=zM_le m _ hm
  unfold zM at this
  have:=zAs_len m.Where
  exact ⟨by omega,by omega⟩
 ·have hz:=zM_le m _ hm
  unfold zM pz at hz
  refine ⟨by omega,fun a ha=>?_⟩
  have:=zA_le a _ ha
  unfold zA pz at this
  exact ⟨by omega,by omega⟩
theorem Dq.get {o:Option Bool} {P:Prop} (h:Dq o P) (hp:P):o=some true:=by
 obtain ⟨r,h1,h2⟩:=h
 rw [h1,h2.2 hp]
theorem Dq.getN {o:Option Bool} {P:Prop} (h:Dq o P) (hp:¬P):o=some false:=by
 obtain ⟨r,h1,h2⟩:=h
 cases r with
 | false=>exact h1
 | true=>exact absurd (h2.1 rfl) hp
variable {N:Nat}
theorem parse_small {s:ByteArray} {ts:List Tok} (ht:toksS s=.inr ts) {ps:List T12} {m:Nat} (h:sParse 8200 8200 [] ts 0=.ok ps m):ps.length≤8000∧∀ p∈ps,zP p≤8000:=by
 obtain ⟨h1,_⟩:=toksS_ok ht
 obtain ⟨qs,e1,e2,e3,e4⟩:=(parse_nm (F:=8200) (by omega) 8200 [] 0 (by omega) (Nat.zero_le _)).2 ps m h
 simp only [List.nil_append] at e1
 subst e1
 exact ⟨by omega,fun p hp=>by have:=e4 p hp;omega⟩
theorem parse_both (hN:4210000 < N) (s:ByteArray):z10 N s=some (parseS s)∧ref10_Parse N s=some ((parseS s).1.map tP,(parseS s).2):=by
 have t1:=tokens_eq (N:=N) (by omega) s
 have t2:=rtokens_eq (N:=N) (by omega) s
 unfold z10 ref10_Parse parseS
 cases ht:toksS s with
 | inl q =>
  obtain ⟨p,e⟩:=q
  rw [ht] at t1 t2
  obtain ⟨h1,h2⟩:=t1
  obtain ⟨_,h3⟩:=t2
  have he:(e != 0)=true:=by simp [h1]
  rw [h2,h3]
  simp only [bS,he,cT]
  exact ⟨by first | rfl | trivial,by first | rfl | trivial⟩
 | inr ts =>
  rw [ht] at t1 t2
  obtain ⟨h1,h2,h3,h4⟩:=toksS_ok ht
  have t1:z23 N s=some (ts,0,0):=t1
  have t2:ref09_Tokens N s=some (ts,0,0):=t2
  rw [t1,t2]
  simp only [bS]
  rw [show ((0:Int) != 0)=false from rfl]
  simp only [cF]
  have p1:=parse_loop (l:=ts) (e:=(s.size:Int)) (N:=N) (by omega) h2 (F:=8200) (by omega) (by omega) (ts,0,0) rfl 8200 N [] 0 (by omega) (by simp) (Nat.zero_le _)
  have p2:=rparse_loop (l:=ts) (N:=N) (by omega) h2 h3 s (F:=8200) (by omega) (by omega) (ts,0,0) rfl 8200 N [] 0 (by omega) (by simp) (Nat.zero_le _)
  cases hp:sParse 8200 8200 [] ts 0 with
  | ok ps m =>
   rw [hp] at p1 p2
   have p1:z10_l2 N (ts,0,0) N [] ts 0 (s.size:Int) 0 0=_:=p1
   have p2:ref10_Parse_l2 N (ts,0,0) N s ts 0 0 0 []=_:=p2
   rw [p1,p2]
   obtain ⟨q1,q2⟩:=parse_small ht hp
   have v1:=valid_dq (N:=N) (by omega) ps (by omega) (fun p hp=>(Zf.of (q2 p hp)).b)
   have v2:=rvalid_dq (N:=N) (by omega) (ps.map tP) (by simp;omega) (fun p hp=>by
    obtain ⟨q,hq,rfl⟩:=List.mem_map.1 hp
    have z:=Zf.of (q2 q hq)
    have e:oL (tP q).Body=q.Body:=ot_L _
    rw [e]
    refine ⟨by show bP (oP (tP q));rw [ot_P];exact z.b,by have:=z.d;omega,by have:=z.c;omega,z.n,fun m hm=>?_⟩
    obtain ⟨m',hm',rfl⟩:=List.mem_map.1 hm
    rw [ot_M]
    exact z.m m' hm')
   rw [map_id' ot_P] at v2
   unfold z10_k1 ref10_Parse_k1
   rw [show ((0:Int) != 0)=false from rfl]
   simp only [cF]
   by_cases hv:ValidP ps
   ·rw [v1.get hv,v2.get hv,endR,fineR_pos hv];exact ⟨rfl,rfl⟩
   ·rw [v1.getN hv,v2.getN hv,endR,fineR_neg hv];exact ⟨rfl,rfl⟩
  | er k c =>
   rw [hp] at p1 p2
   obtain ⟨hc,a1,p1⟩:=p1
   obtain ⟨_,a2,p2⟩:=p2
   have p1:z10_l2 N (ts,0,0) N [] ts 0 (s.size:Int) 0 0=_:=p1
   have p2:ref10_Parse_l2 N (ts,0,0) N s ts 0 0 0 []=_:=p2
   rw [p1,p2]
   unfold z10_k1 ref10_Parse_k1
   have hc:(c != 0)=true:=by simp [hc]
   rw [hc]
   exact ⟨rfl,rfl⟩
  | out=>exact absurd hp (parse_nm (F:=8200) (by omega) 8200 [] 0 (by omega) (Nat.zero_le _)).1
end Gp
end
section
namespace Gp
open Go Go.Kx Gx
theorem takeWhile_app {α:Type} (p:α→Bool) (l:List α) (b:α) (w:List α) (h:p b=false):(l++b::w).takeWhile p=l.takeWhile p:=by
 induction l with
 | nil=>simp [List.takeWhile,h]
 | cons c l ih =>
  rw [List.cons_append]
  simp only [List.takeWhile]
  cases p c with
  | true=>simp only [ih]
  | false=>rfl
abbrev Ls:=Sum (Nat × Int) (List Tok)
def prepL (ts:List Tok):Ls→Ls
 | .inl x=>.inl x
 | .inr us=>.inr (ts++us)
def lexA (s:List UInt8) (a:Nat):Ls:=lexL (s.length+1) s a
theorem lex_fuel:∀ (F F':Nat) (s:List UInt8) (a:Nat),s.length < F→s.length < F'→lexL F s a=lexL F' s a
 | 0,_,s,a,h,_=>by omega
 | _,0,s,a,_,h=>by omega
 | F+1,F'+1,s,a,h1,h2=>by
  simp only [lexL]
  cases hd:s.drop (skW false s) with
  | nil=>rfl
  | cons c l =>
   simp only []
   cases ht:tokB (c::l) with
   | er e=>rfl
   | ok k tx v n =>
    have ok:=tokB_ok ht
    have hl:(c::l).length≤s.length:=by rw [← hd,List.length_drop];omega
    have:=ok.pos;have:=ok.le
    simp only []
    rw [lex_fuel F F' ((c::l).drop n) _ (by rw [List.length_drop];omega) (by rw [List.length_drop];omega)]
theorem lexA_end {s:List UInt8} (h:skW false s=s.length) (a:Nat):lexA s a=.inr []:=by
 unfold lexA lexL
 rw [List.drop_of_length_le (by omega)]
theorem lexA_step {s:List UInt8} {c:UInt8} {l:List UInt8} (h:s.drop (skW false s)=c::l) {k:Int} {tx:List UInt8} {v:Int} {n:Nat} (ht:tokB (c::l)=.ok k tx v n) (a:Nat) :
  lexA s a=prepL [⟨k,mkB tx,v,((a+skW false s:Nat):Int)⟩] (lexA ((c::l).drop n) (a+skW false s+n)):=by
 have ok:=tokB_ok ht
 have hl:(c::l).length≤s.length:=by rw [← h,List.length_drop];omega
 have:=ok.pos;have:=ok.le
 have key:lexL (s.length+1) s a=prepL [⟨k,mkB tx,v,((a+skW false s:Nat):Int)⟩] (lexL s.length ((c::l).drop n) (a+skW false s+n)):=by
  rw [lexL]
  simp only [h,ht]
  cases lexL s.length ((c::l).drop n) (a+skW false s+n)<;>rfl
 unfold lexA
 rw [key,lex_fuel s.length (((c::l).drop n).length+1) ((c::l).drop n) _ (by rw [List.length_drop];omega) (by omega)]
def strip (t:Tok):Tok:=⟨t.Kind,t.Text,t.Value,0⟩
end Gp
end
section
namespace Gp
open Go Go.Kx Gx
def Agr (l l':List Tok) (d n m:Nat):Prop:=∀ i,n≤i→i≤m→strip (tk l' (i+d))=strip (tk l i)
theorem Agr.sub {l l':List Tok} {d n m n' m':Nat} (h:Agr l l' d n m) (hn:n≤n') (hm:m'≤m):Agr l l' d n' m':=fun i h1 h2=>h i (by omega) (by omega)
def LoR {α:Type} (S:Pm α) (l:List Tok) (n:Nat):Rr α→Prop
 | .ok a m=>n≤m∧∀ l' d,Agr l l' d n m→S l' (n+d)=.ok a (m+d)
 | .er k c=>n≤k∧∀ l' d,Agr l l' d n k→S l' (n+d)=.er (k+d) c
 | .out=>True
def Lo {α:Type} (S:Pm α):Prop:=∀ l n,LoR S l n (S l n)
theorem Lo.ret {α:Type} (b:α):Lo (fun _ n=>.ok b n):=fun l n=>⟨Nat.le_refl _,fun _ _ _=>rfl⟩
theorem Lo.fail {α:Type} (e:Int):Lo (α:=α) (fun _ n=>.er n e):=fun l n=>⟨Nat.le_refl _,fun _ _ _=>rfl⟩
theorem lorOk {α:Type} {S:Pm α} {l:List Tok} {n:Nat} {a:α} {m:Nat} (e:S l n=.ok a m) (h1:n≤m) (h2:∀ l' d,Agr l l' d n m→S l' (n+d)=.ok a (m+d)):LoR S l n (S l n):=by rw [e];exact ⟨h1,h2⟩
theorem lorEr {α:Type} {S:Pm α} {l:List Tok} {n:Nat} {k:Nat} {c:Int} (e:S l n=.er k c) (h1:n≤k) (h2:∀ l' d,Agr l l' d n k→S l' (n+d)=.er (k+d) c):LoR S l n (S l n):=by rw [e];exact ⟨h1,h2⟩
theorem lorOut {α:Type} {S:Pm α} {l:List Tok} {n:Nat} (e:S l n=.out):LoR S l n (S l n):=by rw [e];trivial
theorem Lo.bind {α β:Type} {S:Pm α} {T:α→Pm β} (hS:Lo S) (hT:∀ a,Lo (T a)):Lo (fun l n=>(S l n).bind fun a m=>T a l m):=by
 intro l n
 have h:=hS l n
 have st:∀ {l':List Tok} {a:α} {n m:Nat},S l' n=.ok a m→(fun l n=>(S l n).bind fun a m=>T a l m) l' n=T a l' m:=fun e=>by
  show (S _ _).bind _=_
  rw [e];rfl
 have st2:∀ {l':List Tok} {n k:Nat} {c:Int},S l' n=.er k c→(fun l n=>(S l n).bind fun a m=>T a l m) l' n=.er k c:=fun e=>by
  show (S _ _).bind _=_
  rw [e];rfl
 cases hs:S l n with
 | ok a m =>
  rw [hs] at h
  obtain ⟨h1,h2⟩:=h
  have h':=hT a l m
  cases ht:T a l m with
  | ok b k =>
   rw [ht] at h'
   exact lorOk ((st hs).trans ht) (Nat.le_trans h1 h'.1) fun l' d hl=>(st (h2 l' d (hl.sub (Nat.le_refl _) h'.1))).trans (h'.2 l' d (hl.sub h1 (Nat.le_refl _)))
  | er k c =>
   rw [ht] at h'
   exact lorEr ((st hs).trans ht) (Nat.le_trans h1 h'.1) fun l' d hl=>(st (h2 l' d (hl.sub (Nat.le_refl _) h'.1))).trans (h'.2 l' d (hl.sub h1 (Nat.le_refl _)))
  | out=>exact lorOut ((st hs).trans ht)
 | er k c =>
  rw [hs] at h
  exact lorEr (st2 hs) h.1 fun l' d hl=>st2 (h.2 l' d hl)
 | out=>exact lorOut (by show (S l n).bind _=_;rw [hs];rfl)
theorem Lo.succ {α:Type} {S:Pm α} (h:Lo S):Lo (fun l n=>S l (n+1)):=by
 intro l n
 have h:=h l (n+1)
 have e:∀ d,n+d+1=n+1+d:=fun d=>by omega
 cases hs:S l (n+1) with
 | ok a m=>rw [hs] at h;exact lorOk (S:=fun l n=>S l (n+1)) hs (by have:=h.1;omega) fun l' d hl=>by show S l' (n+d+1)=_;rw [e];exact h.2 l' d (hl.sub (Nat.le_succ _) (Nat.le_refl _))
 | er k c=>rw [hs] at h;exact lorEr (S:=fun l n=>S l (n+1)) hs (by have:=h.1;omega) fun l' d hl=>by show S l' (n+d+1)=_;rw [e];exact h.2 l' d (hl.sub (Nat.le_succ _) (Nat.le_refl _))
 | out=>exact lorOut (S:=fun l n=>S l (n+1)) hs
theorem agr_at {P:Tok→Bool} (hP:∀ t,P (strip t)=P t) {l l':List Tok} {d n m:Nat} (h:Agr l l' d n m) (hn:n≤m):P (tk l' (n+d))=P (tk l n):=by
 rw [← hP,h n (Nat.le_refl _) hn,hP]
theorem Lo.test {α:Type} {P:Tok→Bool} (hP:∀ t,P (strip t)=P t) {A C:Pm α} (hA:Lo A) (hC:Lo C):Lo (fun l n=>bif P (tk l n) then A l n else C l n):=by
 intro l n
 have h1:=hA l n
 have h2:=hC l n
 have st:∀ {l':List Tok} {n:Nat},P (tk l' n)=true→(fun l n=>bif P (tk l n) then A l n else C l n) l' n=A l' n:=fun e=>by
  show (bif P (tk _ _) then _ else _)=_
  rw [e];rfl
 have sf:∀ {l':List Tok} {n:Nat},P (tk l' n)=false→(fun l n=>bif P (tk l n) then A l n else C l n) l' n=C l' n:=fun e=>by
  show (bif P (tk _ _) then _ else _)=_
  rw [e];rfl
 cases hp:P (tk l n) with
 | true =>
  cases hs:A l n with
  | ok a m=>rw [hs] at h1;exact lorOk ((st hp).trans hs) h1.1 fun l' d hl=>(st (by rw [agr_at hP hl h1.1,hp])).trans (h1.2 l' d hl)
  | er k c=>rw [hs] at h1;exact lorEr ((st hp).trans hs) h1.1 fun l' d hl=>(st (by rw [agr_at hP hl h1.1,hp])).trans (h1.2 l' d hl)
  | out=>exact lorOut ((st hp).trans hs)
 | false =>
  cases hs:C l n with
  | ok a m=>rw [hs] at h2;exact lorOk ((sf hp).trans hs) h2.1 fun l' d hl=>(sf (by rw [agr_at hP hl h2.1,hp])).trans (h2.2 l' d hl)
  | er k c=>rw [hs] at h2;exact lorEr ((sf hp).trans hs) h2.1 fun l' d hl=>(sf (by rw [agr_at hP hl h2.1,hp])).trans (h2.2 l' d hl)
  | out=>exact lorOut ((sf hp).trans hs)
theorem Lo.val {α:Type} {f:Tok→α} (hf:∀ t,f (strip t)=f t):Lo (fun l n=>.ok (f (tk l n)) (n+1)) :=
 fun l n=>⟨Nat.le_succ _,fun l' d hl=>by
  show Rr.ok (f (tk l' (n+d))) (n+d+1)=_
  rw [← hf,hl n (Nat.le_refl _) (Nat.le_succ _),hf,show n+d+1=n+1+d by omega]⟩
theorem Lo.cond {α:Type} (b:Bool) {A C:Pm α} (hA:Lo A) (hC:Lo C):Lo (fun l n=>bif b then A l n else C l n):=by
 cases b
 ·exact hC
 ·exact hA
theorem isT_strip (s:ByteArray) (t:Tok):isT s (strip t)=isT s t:=rfl
theorem Lo.takes {α:Type} (s:ByteArray) {A C:Pm α} (hA:Lo A) (hC:Lo C):Lo (fun l n=>bif isT s (tk l n) then A l (n+1) else C l n):=Lo.test (P:=isT s) (isT_strip s) hA.succ hC
theorem wants_lo (s:ByteArray):Lo (sWants s):=Lo.test (P:=isT s) (isT_strip s) (Lo.ret ()).succ (Lo.fail 3)
theorem word_lo:Lo sWord:=Lo.test (P:=wordT) (fun _=>rfl) (Lo.val (f:=fun t=>t.Text) fun _=>rfl) (Lo.fail 3)
theorem num_lo:Lo sNum:=Lo.test (P:=fun t=>t.Kind==2) (fun _=>rfl) (Lo.val (f:=fun t=>t.Value) fun _=>rfl) (Lo.fail 3)
theorem signed_lo:Lo sSigned:=Lo.takes (str [45]) (A:=fun l n=>(sNum l n).bind fun v m=>.ok (w64 (0-v)) m) (Lo.bind num_lo fun v=>Lo.ret _) num_lo
theorem loop_lo {α β:Type} (s:ByteArray) {p:Pm α} (hp:Lo p) (upd:β→α→β):∀ (F:Nat) (acc:β),Lo (sLoop s p upd F acc)
 | 0,_=>fun l n=>trivial
 | F+1,acc=>Lo.takes s (A:=fun l n=>(p l n).bind fun a m=>sLoop s p upd F (upd acc a) l m) (Lo.bind hp fun a=>loop_lo s hp upd F (upd acc a)) (Lo.ret acc)
theorem words_lo (F:Nat):Lo (sWords F):=Lo.bind word_lo fun w=>loop_lo _ word_lo snoc F [w]
theorem path_lo (F:Nat):Lo (sPath F):=Lo.bind word_lo fun w=>loop_lo _ word_lo dotW F w
theorem field_lo:Lo sField:=Lo.bind word_lo fun w=>Lo.bind (wants_lo _) fun _=>Lo.takes (str [105,110,116])
 (A:=fun l n=>(sSigned l n).bind fun lo n=>(sWants (str [46,46]) l n).bind fun _ n=>(sSigned l n).bind fun hi n=>.ok (⟨w,⟨1,lo,hi⟩⟩:T0) n)
 (Lo.bind signed_lo fun _=>Lo.bind (wants_lo _) fun _=>Lo.bind signed_lo fun _=>Lo.ret _)
 (Lo.bind (wants_lo _) fun _=>Lo.bind num_lo fun _=>Lo.bind (wants_lo _) fun _=>Lo.bind num_lo fun _=>Lo.ret _)
theorem tail_lo (k:Int) (s:ByteArray):Lo (sTail k s) :=
 Lo.takes (str [43]) (A:=fun l n=>(sNum l n).bind fun v n=>.ok (⟨k,(splitP s).1,(splitP s).2,v⟩:T13) n) (Lo.bind num_lo fun _=>Lo.ret _)
  (Lo.takes (str [45]) (A:=fun l n=>(sNum l n).bind fun v n=>.ok (⟨k,(splitP s).1,(splitP s).2,w64 (0-v)⟩:T13) n) (Lo.bind num_lo fun _=>Lo.ret _) (Lo.ret _))
theorem term_lo (F:Nat):Lo (sTerm F) :=
 Lo.test (P:=fun t=>isT (str [45]) t || t.Kind==2) (fun _=>rfl) (Lo.bind signed_lo fun _=>Lo.ret _)
  (Lo.takes (str [108,101,110]) (A:=fun l n=>(sWants (str [40]) l n).bind fun _ n=>(sPath F l n).bind fun s n=>(sWants (str [41]) l n).bind fun _ n=>sTail 3 s l n)
   (Lo.bind (wants_lo _) fun _=>Lo.bind (path_lo F) fun s=>Lo.bind (wants_lo _) fun _=>tail_lo 3 s) (Lo.bind (path_lo F) fun s=>tail_lo 2 s))
def sMark:Pm ByteArray:=fun l n=>bif markT (tk l n) then .ok (tk l n).Text (n+1) else .er n 3
theorem mark_lo:Lo sMark:=Lo.test (P:=markT) (fun _=>rfl) (Lo.val (f:=fun t=>t.Text) fun _=>rfl) (Lo.fail 3)
theorem sAtom_eq (F:Nat):sAtom F=fun l n=>(sTerm F l n).bind fun a n=>(sMark l n).bind fun tx n=>(sTerm F l n).bind fun b m=>.ok ⟨a,tx,b⟩ m:=by
 funext l n
 unfold sAtom sMark
 congr 1;funext a m
 cases markT (tk l m)<;>rfl
theorem atom_lo (F:Nat):Lo (sAtom F):=by
 rw [sAtom_eq]
 exact Lo.bind (term_lo F) fun a=>Lo.bind mark_lo fun tx=>Lo.bind (term_lo F) fun b=>Lo.ret _
theorem where_lo (F:Nat) (nm:ByteArray) (fs:List T0):Lo (sWhere F nm fs) :=
 Lo.takes (str [119,104,101,114,101]) (A:=fun l n=>(sAtom F l n).bind fun a n=>(sLoop (str [97,110,100]) (sAtom F) snoc F [a] l n).bind fun as' n=>(sWants (str [59]) l n).bind fun _ n=>.ok (⟨nm,fs,as'⟩:T11) n)
  (Lo.bind (atom_lo F) fun a=>Lo.bind (loop_lo _ (atom_lo F) snoc F [a]) fun _=>Lo.bind (wants_lo _) fun _=>Lo.ret _) (Lo.bind (wants_lo _) fun _=>Lo.ret _)
theorem message_lo (F:Nat):Lo (sMessage F) :=
 Lo.bind (path_lo F) fun nm=>Lo.bind (wants_lo _) fun _=>Lo.takes (str [41]) (where_lo F nm [])
  (Lo.bind field_lo fun f=>Lo.bind (loop_lo _ field_lo snoc F [f]) fun fs=>Lo.bind (wants_lo _) fun _=>where_lo F nm fs)
theorem block_lo {items:Pm (List T10)} (h:Lo items):Lo (sBlock items):=Lo.bind (wants_lo _) fun _=>Lo.bind h fun _=>Lo.bind (wants_lo _) fun _=>Lo.ret _
theorem else_lo {block:Pm (List T10)} (h:Lo block) (who:ByteArray) (t:Int) (bl:List (List T10)):Lo (sElse block who t bl) :=
 Lo.cond _ (Lo.bind (wants_lo _) fun _=>Lo.bind h fun _=>Lo.ret _) (Lo.ret _)
theorem branches_lo (F:Nat) {block:Pm (List T10)} (h:Lo block) (who:ByteArray) (t:Int):Lo (sBranches F block who t) :=
 Lo.bind h fun b=>Lo.bind (loop_lo _ h snoc F [b]) fun bl=>else_lo h who t bl
theorem ticks_lo:Lo sTicks:=Lo.test (P:=fun t=>t.Kind==2 && (decide (t.Value < 1) || decide (t.Value > 1000))) (fun _=>rfl) (Lo.fail 2) num_lo
theorem choice_lo (F:Nat) {block:Pm (List T10)} (h:Lo block):Lo (sChoice F block) :=
 Lo.bind (wants_lo _) fun _=>Lo.bind word_lo fun who=>Lo.takes (str [119,105,116,104,105,110]) (A:=fun l n=>(sTicks l n).bind fun t n=>sBranches F block who t l n)
  (Lo.bind ticks_lo fun t=>branches_lo F h who t) (branches_lo F h who 0)
theorem send_lo (F:Nat):Lo (sSend F):=Lo.bind word_lo fun _=>Lo.bind (wants_lo _) fun _=>Lo.bind (words_lo F) fun _=>Lo.bind (wants_lo _) fun _=>Lo.bind (path_lo F) fun _=>Lo.bind (wants_lo _) fun _=>Lo.ret _
theorem call_lo (F:Nat):Lo (sCall F):=Lo.bind word_lo fun _=>Lo.bind (wants_lo _) fun _=>Lo.bind (words_lo F) fun _=>Lo.bind (wants_lo _) fun _=>Lo.bind (wants_lo _) fun _=>Lo.bind word_lo fun _=>Lo.bind (wants_lo _) fun _=>Lo.ret _
theorem item_lo (F:Nat) {block:Pm (List T10)} (h:Lo block):Lo (sItem F block) :=
 Lo.takes (str [99,104,111,105,99,101]) (choice_lo F h)
  (Lo.takes (str [108,111,111,112]) (A:=fun l n=>(sPath F l n).bind fun nm n=>(block l n).bind fun b n=>.ok (⟨3,str [],[],nm,str [],0,[b]⟩:T10) n) (Lo.bind (path_lo F) fun _=>Lo.bind h fun _=>Lo.ret _)
  (Lo.takes (str [97,103,97,105,110]) (A:=fun l n=>(sPath F l n).bind fun nm n=>(sWants (str [59]) l n).bind fun _ n=>.ok (⟨4,str [],[],nm,str [],0,[]⟩:T10) n) (Lo.bind (path_lo F) fun _=>Lo.bind (wants_lo _) fun _=>Lo.ret _)
  (Lo.takes (str [112,97,114]) (A:=fun l n=>(block l n).bind fun b n=>(sWants (str [97,110,100]) l n).bind fun _ n=>(block l n).bind fun c n=>(sLoop (str [97,110,100]) block snoc F [b,c] l n).bind fun bl n=>.ok (⟨5,str [],[],str [],str [],0,bl⟩:T10) n)
   (Lo.bind h fun b=>Lo.bind (wants_lo _) fun _=>Lo.bind h fun c=>Lo.bind (loop_lo _ h snoc F [b,c]) fun _=>Lo.ret _)
  (Lo.takes (str [99,97,108,108]) (call_lo F) (send_lo F)))))
theorem list_lo {item:Pm T10} (h:Lo item):∀ (F:Nat) (acc:List T10),Lo (sList item F acc)
 | 0,_=>fun l n=>trivial
 | F+1,acc=>Lo.test (P:=begT) (fun _=>rfl) (A:=fun l n=>(item l n).bind fun x m=>sList item F (snoc acc x) l m) (Lo.bind h fun x=>list_lo h F (snoc acc x)) (Lo.ret acc)
theorem items_lo:∀ F:Nat,Lo (sItems F)
 | 0=>fun l n=>trivial
 | F+1=>list_lo (item_lo F (block_lo (items_lo F))) F []
def sProt0 (F:Nat):Pm T12:=fun l n=>(sWants (str [112,114,111,116,111,99,111,108]) l n).bind fun _ n=>(sWord l n).bind fun nm n=>(sWants (str [40]) l n).bind fun _ n=>(sWords F l n).bind fun rs n =>
 (sWants (str [41]) l n).bind fun _ n=>(sWants (str [123]) l n).bind fun _ n=>(sLoop (str [109,101,115,115,97,103,101]) (sMessage F) snoc F [] l n).bind fun ms n=>(sItems F l n).bind fun b n=>.ok ⟨nm,rs,ms,b⟩ n
theorem prot0_lo (F:Nat):Lo (sProt0 F):=Lo.bind (wants_lo _) fun _=>Lo.bind word_lo fun _=>Lo.bind (wants_lo _) fun _=>Lo.bind (words_lo F) fun _=>Lo.bind (wants_lo _) fun _=>Lo.bind (wants_lo _) fun _ =>
 Lo.bind (loop_lo _ (message_lo F) snoc F []) fun _=>Lo.bind (items_lo F) fun _=>Lo.ret _
theorem sProtocol_eq (F:Nat):sProtocol F=fun l n=>(sProt0 F l n).bind fun p n=>(sWants (str [125]) l n).bind fun _ n=>.ok p n:=by
 funext l n
 unfold sProtocol sProt0
 simp only [rr_assoc]
 rfl
theorem protocol_lo {F:Nat} {l:List Tok} {n:Nat}:match sProtocol F l n with
  | .ok p m=>n < m∧∀ l' d,Agr l l' d n (m-1)→sProtocol F l' (n+d)=.ok p (m+d)
  | .er k c=>n≤k∧∀ l' d,Agr l l' d n k→sProtocol F l' (n+d)=.er (k+d) c
  | .out=>True:=by
 rw [sProtocol_eq]
 have h:=prot0_lo F l n
 simp only []
 cases hs:sProt0 F l n with
 | ok p m =>
  rw [hs] at h
  obtain ⟨h1,h2⟩:=h
  cases hi:isT (str [125]) (tk l m) with
  | true =>
   have e:sWants (str [125]) l m=.ok () (m+1):=by unfold sWants;rw [hi];rfl
   simp only [Rr.bind,e]
   refine ⟨by omega,fun l' d hl=>?_⟩
   rw [Nat.add_sub_cancel] at hl
   have hl':=agr_at (P:=isT (str [125])) (isT_strip _) (hl.sub h1 (Nat.le_refl _)) (Nat.le_refl _)
   have e2:sWants (str [125]) l' (m+d)=.ok () (m+d+1):=by unfold sWants;rw [hl',hi];rfl
   rw [h2 l' d hl]
   simp only [e2]
   rw [show m+d+1=m+1+d by omega]
  | false =>
   have e:sWants (str [125]) l m=.er m 3:=by unfold sWants;rw [hi];rfl
   simp only [Rr.bind,e]
   refine ⟨h1,fun l' d hl=>?_⟩
   have hl':=agr_at (P:=isT (str [125])) (isT_strip _) (hl.sub h1 (Nat.le_refl _)) (Nat.le_refl _)
   have e2:sWants (str [125]) l' (m+d)=.er (m+d) 3:=by unfold sWants;rw [hl',hi];rfl
   rw [h2 l' d hl]
   simp only [e2]
 | er k c =>
  rw [hs] at h
  refine ⟨h.1,fun l' d hl=>?_⟩
  rw [h.2 l' d hl];rfl
 | out=>trivial
end Gp
end
section
namespace Gp
open Go Go.Kx Gx
def AgrA (l l':List Tok) (d n:Nat):Prop:=∀ i,n≤i→strip (tk l' (i+d))=strip (tk l i)
theorem AgrA.agr {l l':List Tok} {d n:Nat} (h:AgrA l l' d n) (m:Nat):Agr l l' d n m:=fun i h1 _=>h i h1
theorem AgrA.sub {l l':List Tok} {d n n':Nat} (h:AgrA l l' d n) (hn:n≤n'):AgrA l l' d n':=fun i h1=>h i (by omega)
theorem parse_shift {F:Nat} {l:List Tok} (hF:l.length+2≤F) {l':List Tok} {d:Nat} (hl:l'.length=l.length+d):∀ (G G':Nat) (acc acc':List T12) (n:Nat),l.length < G+n→l'.length < G'+(n+d)→n≤l.length→AgrA l l' d n →
  match sParse F G acc l n with
  | .ok ps m=>∃ qs,ps=acc++qs∧m=l.length∧sParse F G' acc' l' (n+d)=.ok (acc'++qs) (m+d)
  | .er k c=>sParse F G' acc' l' (n+d)=.er (k+d) c
  | .out=>True:=by
 intro G
 induction G with
 | zero=>intro G' acc acc' n h;omega
 | succ G ih =>
  intro G' acc acc' n h h' hn ha
  obtain ⟨G',rfl⟩:∃ m,G'=m+1:=⟨G'-1,by omega⟩
  simp only [sParse]
  by_cases hlt:n < l.length
  ·rw [dT hlt,dT (by omega:n+d < l'.length)]
   simp only [cT]
   have hp:=protocol_lo (F:=F) (l:=l) (n:=n)
   cases hs:sProtocol F l n with
   | ok p m =>
    rw [hs] at hp
    obtain ⟨_,hm,_⟩:=(protocol_nm hF).ok n (Nat.zero_le _) hn p m hs
    rw [hp.2 l' d (ha.agr _)]
    simp only [Rr.bind]
    have:=ih G' (snoc acc p) (snoc acc' p) m (by have:=hp.1;omega) (by have:=hp.1;omega) hm (ha.sub (by have:=hp.1;omega))
    cases hr:sParse F G (snoc acc p) l m with
    | ok ps k =>
     rw [hr] at this
     obtain ⟨qs,e1,e2,e3⟩:=this
     exact ⟨p::qs,by rw [e1];simp [snoc],e2,by rw [e3];simp [snoc]⟩
    | er k c=>rw [hr] at this;exact this
    | out=>trivial
   | er k c =>
    rw [hs] at hp
    rw [hp.2 l' d (ha.agr _)]
    rfl
   | out=>trivial
  ·rw [dF hlt,dF (by omega:¬ n+d < l'.length)]
   simp only [cF]
   exact ⟨[],by simp,by omega,by simp⟩
theorem parseS_inr {s:ByteArray} {ts:List Tok} (h:toksS s=.inr ts):parseS s=endR ts (s.size:Int) fineR (sParse 8200 8200 [] ts 0):=by
 unfold parseS
 rw [h]
theorem toks_lex {s:ByteArray} (h:s.size≤8000):toksS s=lexA (bs s) 0:=by
 unfold toksS lexA
 rw [dF (by omega),cF,size_bs]
theorem strip_tk {l l':List Tok} (h:l'.map strip=l.map strip) (i:Nat):strip (tk l' i)=strip (tk l i):=by
 have h1:∀ l:List Tok,strip (tk l i)=((l.map strip)[i]?).getD zt:=by
  intro l
  unfold tk
  rw [List.getElem?_map]
  cases l[i]?<;>rfl
 rw [h1,h1,h]
theorem parse_alike {l l':List Tok} (h:l'.map strip=l.map strip) (hl:l.length≤8000) {ps:List T12} {m:Nat} (hp:sParse 8200 8200 [] l 0=.ok ps m):sParse 8200 8200 [] l' 0=.ok ps m:=by
 have hlen:l'.length=l.length:=by have:=congrArg List.length h;simpa using this
 have:=parse_shift (F:=8200) (l:=l) (l':=l') (d:=0) (by omega) (by omega) 8200 8200 [] [] 0 (by omega) (by omega) (Nat.zero_le _) (fun i _=>by rw [Nat.add_zero];exact strip_tk h i)
 rw [hp] at this
 obtain ⟨qs,e1,e2,e3⟩:=this
 simp only [List.nil_append] at e1 e3
 rw [e1];exact e3
variable {N:Nat}
end Gp
end
section
namespace Gp
open Go Go.Kx Gx
variable {N:Nat}
end Gp
end
section
namespace Gp
open Go Go.Kx Gx
def wrL (t:Tok):List UInt8:=bif t.Kind==2 then digN 25 t.Value.toNat else bif t.Kind==3 then [34]++quoL (bs t.Text)++[34] else bs t.Text
def valN (d:List UInt8):Nat:=d.foldl (fun v c=>10 * v+(c.toNat-48)) 0
theorem digB_iff {c:UInt8}:digB c=true↔48≤c.toNat∧c.toNat≤57:=by unfold digB;rw [Bool.and_eq_true,decide_eq_true_eq,decide_eq_true_eq];omega
theorem valD_valN:∀ (d:List UInt8) (v:Nat),(∀ c∈d,digB c=true)→d.foldl (fun (v:Int) c=>10 * v+((c.toNat:Int)-48)) (v:Int)=((d.foldl (fun v c=>10 * v+(c.toNat-48)) v:Nat):Int)
 | [],v,_=>rfl
 | c::d,v,h=>by
  have hc:=digB_iff.1 (h c (List.mem_cons_self ..))
  simp only [List.foldl_cons]
  rw [show (10 * (v:Int)+((c.toNat:Int)-48))=((10 * v+(c.toNat-48):Nat):Int) by omega]
  exact valD_valN d _ fun x hx=>h x (List.mem_cons_of_mem _ hx)
variable {N:Nat}
end Gp
end
section
namespace Gp
open Go Go.Kx Gx
theorem takeWhile_self {α:Type} (p:α→Bool):∀ l:List α,(∀ c∈l,p c=true)→l.takeWhile p=l
 | [],_=>rfl
 | c::l,h=>by
  simp only [List.takeWhile,h c (List.mem_cons_self ..)]
  rw [takeWhile_self p l fun x hx=>h x (List.mem_cons_of_mem _ hx)]
theorem marks2_tok:∀ m∈marks2,tokB m=.ok 4 m 0 2:=by
 intro m hm
 simp only [marks2,List.mem_cons,List.not_mem_nil,or_false] at hm
 rcases hm with h | h | h | h | h | h | h | h<;>subst h<;>rfl
theorem marks1_tok:∀ c∈marks1,tokB [c]=.ok 4 [c] 0 1:=by
 intro c hc
 simp only [marks1,List.mem_cons,List.not_mem_nil,or_false] at hc
 rcases hc with h | h | h | h | h | h | h | h | h | h | h | h | h | h | h | h | h<;>subst h<;>rfl
structure TokW (t:Tok):Prop where
 ex:∃ tx,tokB (wrL t)=.ok t.Kind tx t.Value (wrL t).length∧mkB tx=t.Text
 num:t.Kind=2→0≤t.Value∧t.Value < 1000000
 len:t.Text.size≤40
 wl:(wrL t).length≤90
theorem startAll:((List.range 256).all fun r => !(blankB (UInt8.ofNat r)) || (!(letB (UInt8.ofNat r)) && !(digB (UInt8.ofNat r)) && !(UInt8.ofNat r==34) && !(marks2.any fun m=>m.head? == some (UInt8.ofNat r)) && !(marks1.any fun m=>m==UInt8.ofNat r)))=true:=by kernel_rfl
theorem any2h {c:UInt8} {l:List UInt8} (h:(marks2.any fun m=>m.head? == some c)=false):(marks2.any fun m=>m==(c::l).take 2)=false:=by
 rw [Bool.eq_false_iff] at h ⊢
 intro h3
 apply h
 rw [List.any_eq_true] at h3 ⊢
 obtain ⟨m,hm,he⟩:=h3
 refine ⟨m,hm,?_⟩
 have he:m=(c::l).take 2:=by simpa using he
 subst he
 simp
theorem tok_start {c:UInt8} {l:List UInt8} {k:Int} {tx:List UInt8} {v:Int} {n:Nat} (h:tokB (c::l)=.ok k tx v n):blankB c=false∧(c=47→n=1):=by
 constructor
 ·cases hb:blankB c with
  | false=>rfl
  | true =>
   have:=List.all_eq_true.1 startAll c.toNat (List.mem_range.2 c.toNat_lt)
   rw [UInt8.ofNat_toNat,hb] at this
   simp only [Bool.not_true,Bool.false_or,Bool.and_eq_true,Bool.not_eq_true'] at this
   obtain ⟨⟨⟨⟨a1,a2⟩,a3⟩,a4⟩,a5⟩:=this
   unfold tokB at h
   simp only [a1,a2,a3,any2h (l:=l) a4,a5,Bool.and_false,cF] at h
   cases h
 ·intro hc
  subst hc
  unfold tokB at h
  simp only [show letB 47=false from rfl,show digB 47=false from rfl,show ((47:UInt8)==34)=false from rfl,any2h (c:=47) (l:=l) rfl,show (marks1.any fun m=>m==47)=true from rfl,Bool.and_false,cF,cT] at h
  injection h with _ _ _ h4
  exact h4.symm
structure GapP (g:List UInt8):Prop where
 hd:∃ b g',g=b::g'∧blankB b=true
 sk:∀ w,skW false (g++w)=g.length+skW false w
end Gp
end
section
namespace Gp
open Go Go.Kx Gx
variable {N:Nat}
end Gp
end
section
namespace Gp
open Go Go.Kx Gx
abbrev Wt (x:List UInt8):Tok:=⟨1,mkB x,0,0⟩
abbrev Mt (x:List UInt8):Tok:=⟨4,mkB x,0,0⟩
abbrev Nt (v:Int):Tok:=⟨2,mkB [],v,0⟩
def LX (s:List UInt8) (ts:List Tok) (p:UInt8→Bool):Prop:=∀ (w:List UInt8) (a:Nat) (us:List Tok),(∀ c,w.head? = some c→p c=true)→lexA w (a+s.length)=.inr us→∃ vs,lexA (s++w) a=.inr vs∧vs.map strip=ts++us.map strip
abbrev pT:UInt8→Bool:=fun _=>true
abbrev pI:UInt8→Bool:=fun c => !innB c
theorem LX.nil (p:UInt8→Bool):LX [] [] p:=fun w a us _ h=>⟨us,by simpa using h,by simp⟩
theorem LX.app {s1 s2:List UInt8} {t1 t2:List Tok} {p1 p2:UInt8→Bool} (h1:LX s1 t1 p1) (h2:LX s2 t2 p2) (hp:∀ c,s2.head? = some c→p1 c=true) (h0:s2=[]→∀ c,p2 c=true→p1 c=true):LX (s1++s2) (t1++t2) p2:=by
 intro w a us hw hl
 rw [lA,← Nat.add_assoc] at hl
 obtain ⟨vs,v1,v2⟩:=h2 w (a+s1.length) us hw hl
 obtain ⟨xs,x1,x2⟩:=h1 (s2++w) a vs (fun c hc=>by
  cases s2 with
  | nil=>exact h0 rfl c (hw c (by simpa using hc))
  | cons y ys=>exact hp c (by simpa using hc)) v1
 exact ⟨xs,by rw [aA];exact x1,by rw [x2,v2,aA]⟩
theorem LX.appT {s1 s2:List UInt8} {t1 t2:List Tok} {p2:UInt8→Bool} (h1:LX s1 t1 pT) (h2:LX s2 t2 p2):LX (s1++s2) (t1++t2) p2:=h1.app h2 (fun _ _=>rfl) (fun _ _ _=>rfl)
theorem LX.appC {s1 r:List UInt8} {t1 t2:List Tok} {p1 p2:UInt8→Bool} {c:UInt8} (h1:LX s1 t1 p1) (h2:LX (c::r) t2 p2) (hc:p1 c=true):LX (s1++c::r) (t1++t2) p2 :=
 h1.app h2 (fun x hx=>by simp at hx;subst hx;exact hc) (fun h=>by cases h)
theorem LX.weak {s:List UInt8} {ts:List Tok} {p q:UInt8→Bool} (h:LX s ts p) (hq:∀ c,q c=true→p c=true):LX s ts q:=fun w a us hw hl=>h w a us (fun c hc=>hq c (hw c hc)) hl
theorem LX.toI {s:List UInt8} {ts:List Tok} (h:LX s ts pT):LX s ts pI:=h.weak fun _ _=>rfl
theorem lex_skip (g w:List UInt8) (a:Nat) (h:skW false (g++w)=g.length+skW false w):lexA (g++w) a=lexA w (a+g.length):=by
 have hd:(g++w).drop (skW false (g++w))=w.drop (skW false w):=by
  rw [h,List.drop_append,List.drop_of_length_le (by omega),List.nil_append,Nat.add_sub_cancel_left]
 have ha:a+skW false (g++w)=a+g.length+skW false w:=by omega
 unfold lexA
 simp only [lexL,hd,ha]
 have hw:=skW_le false w
 cases hdr:w.drop (skW false w) with
 | nil=>rfl
 | cons c l =>
  simp only []
  cases ht:tokB (c::l) with
  | er e=>rfl
  | ok k tx v n =>
   have ok:=tokB_ok ht
   have hl:(c::l).length=w.length-skW false w:=by rw [← hdr,List.length_drop]
   have:=ok.pos;have:=ok.le
   simp only []
   rw [lex_fuel (g++w).length w.length ((c::l).drop n) _ (by rw [List.length_drop];simp only [lA,List.length_cons] at hl ⊢;omega) (by rw [List.length_drop];omega)]
theorem LX.blank {b:UInt8} (hb:blankB b=true):LX [b] [] pT:=fun w a us _ h=>⟨us,by
 rw [lex_skip [b] w a (by simp only [List.cons_append,List.nil_append,skW,hb,cT,List.length_cons,List.length_nil];omega)]
 exact h,by simp⟩
theorem LX.tok {s:List UInt8} {k:Int} {tx:List UInt8} {v:Int} {p:UInt8→Bool} (h:tokB s=.ok k tx v s.length) (h47:s.head? ≠ some 47) (ha:∀ c w,p c=true→tokB (s++c::w)=.ok k tx v s.length):LX s [⟨k,mkB tx,v,0⟩] p:=by
 intro w a us hw hl
 obtain ⟨c,l,hs⟩:∃ c l,s=c::l:=by
  cases s with
  | nil=>simp [tokB] at h
  | cons c l=>exact ⟨c,l,rfl⟩
 have hb:=(tok_start (by rw [← hs];exact h)).1
 have hc:(c==47)=false:=by
  rw [beq_eq_false_iff_ne];intro e;apply h47;rw [hs,e];rfl
 have hsk:skW false (s++w)=0:=by
  rw [hs,List.cons_append]
  simp only [skW,hb,hc,cF,Bool.false_and]
 have ht:tokB (s++w)=.ok k tx v s.length:=by
  cases w with
  | nil=>rw [List.append_nil];exact h
  | cons d w=>exact ha d w (hw d rfl)
 have hd:(s++w).drop (skW false (s++w))=c::(l++w):=by rw [hsk,hs];rfl
 have ht':tokB (c::(l++w))=.ok k tx v s.length:=by rw [← ht,hs];rfl
 have hr:(c::(l++w)).drop s.length=w:=by rw [show c::(l++w)=s++w by rw [hs];rfl,List.drop_left]
 refine ⟨_,by rw [lexA_step hd ht',hr,hsk,Nat.add_zero,hl];rfl,?_⟩
 rfl
theorem tokB_appI {s:List UInt8} {k:Int} {tx:List UInt8} {v:Int} {n:Nat} (h:tokB s=.ok k tx v n) (hk:k=1∨k=2) {b:UInt8} (hb:innB b=false) (w:List UInt8):tokB (s++b::w)=.ok k tx v n:=by
 have f2:digB b=false:=by
  cases hd:digB b with
  | false=>rfl
  | true=>rw [dig_inn hd] at hb;cases hb
 cases s with
 | nil=>simp [tokB] at h
 | cons c l =>
  rw [List.cons_append]
  unfold tokB at h ⊢
  simp only [takeWhile_app innB l b w hb] at h ⊢
  cases c1:letB c with
  | true=>simp only [c1,cT] at h ⊢;exact h
  | false =>
   simp only [c1,cF] at h ⊢
   cases c2:digB c with
   | true =>
    simp only [c2,cT] at h ⊢
    unfold numB at h ⊢
    have e:=takeWhile_app digB (c::l) b w f2
    rw [List.cons_append] at e
    rw [e]
    have hle:=takeWhile_len digB (c::l)
    have e2:(c::(l++b::w)).drop ((c::l).takeWhile digB).length=(c::l).drop ((c::l).takeWhile digB).length++b::w:=by
     rw [← List.cons_append,List.drop_append_of_le_length hle]
    rw [e2]
    unfold numK at h ⊢
    have e3:((c::l).drop ((c::l).takeWhile digB).length++b::w).head?.any innB=((c::l).drop ((c::l).takeWhile digB).length).head?.any innB:=by
     cases (c::l).drop ((c::l).takeWhile digB).length with
     | nil=>simp [hb]
     | cons x y=>rfl
    rw [e3]
    exact h
   | false =>
    exfalso
    simp only [c2,cF] at h
    have hk':k=3∨k=4:=by
     cases c3:(c==34) with
     | true =>
      simp only [c3,cT] at h
      cases ht:txtB l with
      | none=>rw [ht] at h;cases h
      | some q =>
       obtain ⟨t',n'⟩:=q
       rw [ht] at h
       simp only [] at h
       cases hd:decide (t'.length > 40) with
       | true=>rw [hd] at h;cases h
       | false=>rw [hd] at h;simp only [cF] at h;injection h with h1;exact .inl h1.symm
     | false =>
      simp only [c3,cF] at h
      cases h4:(decide (l≠[]) && marks2.any fun m=>m==(c::l).take 2) with
      | true=>rw [h4] at h;simp only [cT] at h;injection h with h1;exact .inr h1.symm
      | false =>
       rw [h4] at h
       simp only [cF] at h
       cases h5:(marks1.any fun m=>m==c) with
       | true=>rw [h5] at h;simp only [cT] at h;injection h with h1;exact .inr h1.symm
       | false=>rw [h5] at h;cases h
    omega
def nameL' (x:List UInt8):Prop:=∃ c l,x=c::l∧letB c=true∧(∀ d∈l,innB d=true)∧l.length < 16
theorem name_tok {x:List UInt8} (h:nameL' x):tokB x=.ok 1 x 0 x.length:=by
 obtain ⟨c,l,rfl,h1,h2,h3⟩:=h
 unfold tokB
 simp only [h1,cT]
 rw [takeWhile_self innB l h2,dF (by omega),cF]
 rfl
theorem let47:letB 47=false:=rfl
theorem LX.name {x:List UInt8} (h:nameL' x):LX x [Wt x] pI:=by
 refine LX.tok (name_tok h) (fun e=>?_) (fun c w hc=>tokB_appI (name_tok h) (.inl rfl) (by simpa using hc) w)
 obtain ⟨c,l,rfl,h1,_⟩:=h
 simp at e;subst e
 rw [let47] at h1;cases h1
theorem word_name {s:ByteArray} (h:isWord s=true):nameL' (bs s):=by
 unfold isWord isName at h
 rw [Bool.and_eq_true] at h
 cases hb:bs s with
 | nil=>rw [hb] at h;simp at h
 | cons x l =>
  rw [hb] at h
  have h1:=h.1
  simp only [Bool.and_eq_true,decide_eq_true_eq] at h1
  refine ⟨x,l,rfl,h1.1,fun d hd=>?_,h1.2.1⟩
  obtain ⟨i,hi⟩:=List.mem_iff_getElem?.1 hd
  have:=(allV_iff (fun (c:UInt8) _=>innerV (c.toNat:Int)) (x::l) 0).1 h1.2.2 (i+1) d (by simpa using hi)
  exact this
theorem LX.word {s:ByteArray} (h:isWord s=true):LX (bs s) [Wt (bs s)] pI:=LX.name (word_name h)
theorem LX.mark2 {m:List UInt8} (hm:m∈marks2):LX m [Mt m] pT:=by
 have h2:m.length=2:=by
  have:∀ m∈marks2,m.length=2:=by decide
  exact this m hm
 refine LX.tok (by rw [h2];exact marks2_tok m hm) (fun e=>?_) (fun c w _=>?_)
 ·have:∀ m∈marks2,m.head? ≠ some 47:=by decide
  exact this m hm e
 ·rw [h2]
  simp only [marks2,List.mem_cons,List.not_mem_nil,or_false] at hm
  rcases hm with h | h | h | h | h | h | h | h<;>subst h<;>rfl
theorem LX.mark1 {x:UInt8} (hx:x∈marks1) (h47:x≠47):LX [x] [Mt [x]] (fun c => !(marks2.any fun m=>m==[x,c])):=by
 refine LX.tok (marks1_tok x hx) (fun e=>h47 (by simpa using e)) (fun c w hc=>?_)
 have ht:=marks1_tok x hx
 have hc:(marks2.any fun m=>m==[x,c])=false:=by simpa using hc
 unfold tokB at ht
 have hl:letB x=false∧digB x=false∧(x==34)=false∧(marks1.any fun m=>m==x)=true:=by
  simp only [marks1,List.mem_cons,List.not_mem_nil,or_false] at hx
  rcases hx with h | h | h | h | h | h | h | h | h | h | h | h | h | h | h | h | h<;>subst h<;>exact ⟨rfl,rfl,rfl,rfl⟩
 obtain ⟨a1,a2,a3,a4⟩:=hl
 show tokB (x::c::w)=_
 unfold tokB
 simp only [a1,a2,a3,a4,cT,cF]
 rw [show ([x,c]:List UInt8)=(x::c::w).take 2 from rfl] at hc
 rw [hc,Bool.and_false]
 rfl
theorem LX.sign {x:UInt8} (hx:x∈marks1) (h47:x≠47) (h:(marks2.any fun m=>m.head? == some x)=false):LX [x] [Mt [x]] pT:=(LX.mark1 hx h47).weak fun c _=>by
 have:=any2h (c:=x) (l:=[c]) h
 rw [show (x::[c]).take 2=[x,c] from rfl] at this
 simp [this]
theorem LX.eqT {s s':List UInt8} {ts ts':List Tok} {p:UInt8→Bool} (h:LX s ts p) (hs:s'=s) (ht:ts'=ts):LX s' ts' p:=by subst hs;subst ht;exact h
theorem digN_dig:∀ (f u:Nat),∀ c∈digN f u,digB c=true
 | 0,u,c,h=>by simp [digN] at h
 | f+1,u,c,h=>by
  have hd:∀ x:Nat,x < 10→digB (UInt8.ofNat (48+x))=true:=by
   intro x hx
   rw [digB_iff,UInt8.toNat_ofNat']
   omega
  rw [digN] at h
  cases hb:Nat.blt u 10 with
  | true =>
   rw [hb,cT] at h
   rw [Nat.blt_eq] at hb
   rw [List.mem_singleton] at h;rw [h];exact hd u hb
  | false =>
   rw [hb,cF] at h
   rcases List.mem_append.1 h with h | h
   ·exact digN_dig f _ c h
   ·rw [List.mem_singleton] at h;rw [h];exact hd (u % 10) (Nat.mod_lt _ (by omega))
theorem ldAll:((List.range 256).all fun r => !(letB (UInt8.ofNat r)) || !(digB (UInt8.ofNat r)))=true:=by kernel_rfl
theorem dmAll:((List.range 256).all fun r => !(digB (UInt8.ofNat r)) || !(marks2.any fun m=>m==[45,UInt8.ofNat r]))=true:=by kernel_rfl
theorem digN_ne (f u:Nat):digN (f+1) u≠[]:=by
 rw [digN];cases Nat.blt u 10<;>simp
theorem digN_head:∀ (f u:Nat),0 < u→u < 10 ^ (f+1)→(digN (f+1) u).head? ≠ some 48
 | f,u,h0,hu=>by
  rw [digN]
  cases hb:Nat.blt u 10 with
  | true =>
   rw [Nat.blt_eq] at hb
   simp only [cT,List.head?_cons]
   intro h
   injection h with h
   have:=congrArg UInt8.toNat h
   rw [UInt8.toNat_ofNat'] at this
   simp at this;omega
  | false =>
   have hb':¬ u < 10:=by intro h;rw [show Nat.blt u 10=true by rw [Nat.blt_eq];exact h] at hb;cases hb
   cases f with
   | zero=>omega
   | succ f =>
    simp only [cF]
    have:=digN_head f (u / 10) (by omega) (by rw [Nat.pow_succ] at hu;omega)
    cases hd:digN (f+1) (u / 10) with
    | nil=>exact absurd hd (digN_ne f _)
    | cons x l=>rw [hd] at this;simpa using this
theorem digN_short:∀ (f k u:Nat),u < 10 ^ k→0 < k→(digN f u).length≤k
 | 0,k,u,_,_=>by simp [digN]
 | f+1,k,u,h,hk=>by
  rw [digN]
  cases hb:Nat.blt u 10 with
  | true=>simp;omega
  | false =>
   have hb':¬ u < 10:=by intro h;rw [show Nat.blt u 10=true by rw [Nat.blt_eq];exact h] at hb;cases hb
   obtain ⟨k,rfl⟩:∃ j,k=j+1:=⟨k-1,by omega⟩
   cases k with
   | zero=>omega
   | succ k =>
    have:=digN_short f (k+1) (u / 10) (by rw [Nat.pow_succ] at h;omega) (by omega)
    simp only [cF,lA,List.length_cons,List.length_nil];omega
theorem valN_digN:∀ (f u:Nat),u < 10 ^ f→valN (digN f u)=u
 | 0,u,h=>by
  have:u=0:=by simpa using h
  subst this;rfl
 | f+1,u,h=>by
  rw [digN]
  have hd:∀ x:Nat,x < 10→(UInt8.ofNat (48+x)).toNat-48=x:=by
   intro x hx
   rw [UInt8.toNat_ofNat'];omega
  cases hb:Nat.blt u 10 with
  | true =>
   rw [Nat.blt_eq] at hb
   show 10 * 0+((UInt8.ofNat (48+u)).toNat-48)=u
   rw [hd u hb];omega
  | false =>
   simp only [cF]
   have hv:valN (digN f (u / 10)++[UInt8.ofNat (48+u % 10)])=10 * valN (digN f (u / 10))+((UInt8.ofNat (48+u % 10)).toNat-48):=by unfold valN;rw [List.foldl_append];rfl
   rw [hv,valN_digN f (u / 10) (by rw [Nat.pow_succ] at h;omega),hd (u % 10) (Nat.mod_lt _ (by omega))]
   omega
theorem num_tok {u:Nat} (hu:u < 1000000):tokB (digN 25 u)=.ok 2 [] (u:Int) (digN 25 u).length:=by
 have hall:=digN_dig 25 u
 have hlen:=digN_short 25 6 u (by omega) (by omega)
 have hv:valD (digN 25 u)=(u:Int):=by
  rw [show valD (digN 25 u)=((valN (digN 25 u):Nat):Int) from valD_valN _ 0 hall,valN_digN 25 u (by omega)]
 have hne:=digN_ne 24 u
 have hz:(decide ((digN 25 u).length > 6) || (decide ((digN 25 u).length > 1) && (digN 25 u).head? == some 48))=false:=by
  rw [dF (by omega),Bool.false_or,Bool.and_eq_false_iff]
  by_cases h0:u=0
  ·subst h0;left;decide
  ·right
   rw [beq_eq_false_iff_ne]
   exact digN_head 24 u (by omega) (by omega)
 generalize digN 25 u=d at *
 cases d with
 | nil=>exact absurd rfl hne
 | cons x d =>
  have hx:=hall x (List.mem_cons_self ..)
  have hl:letB x=false:=by
   cases h:letB x with
   | false=>rfl
   | true =>
    exfalso
    have h1:=List.all_eq_true.1 ldAll x.toNat (List.mem_range.2 x.toNat_lt)
    rw [UInt8.ofNat_toNat,h,hx] at h1
    cases h1
  unfold tokB
  simp only [hl,hx,cT,cF]
  unfold numB numK
  rw [takeWhile_self digB (x::d) hall,List.drop_length,hz,hv]
  rfl
theorem LX.num {u:Nat} (hu:u < 1000000):LX (digN 25 u) [Nt (u:Int)] pI:=by
 refine LX.tok (num_tok hu) (fun e=>?_) (fun c w hc=>tokB_appI (num_tok hu) (.inr rfl) (by simpa using hc) w)
 cases h:digN 25 u with
 | nil=>exact digN_ne 24 u h
 | cons x d =>
  rw [h] at e
  have:x=47:=by simpa using e
  have hd:=digN_dig 25 u x (by rw [h];simp)
  rw [this] at hd;cases hd
def tkDig (n:Int):List Tok:=if n < 0 then [Mt [45],Nt (0-n)] else [Nt n]
theorem dig_pos {n:Int} (h:0≤n):dig n=digN 25 n.toNat:=by unfold dig itoaS;rw [dF (by omega)];exact bs_mkB _
theorem dig_neg {n:Int} (h:n < 0):dig n=45::digN 25 n.natAbs:=by unfold dig itoaS;rw [dT h];exact bs_mkB _
theorem LX.digp {n:Int} (h0:0≤n) (h:n≤999999):LX (dig n) [Nt n] pI:=by
 rw [dig_pos h0]
 have:=LX.num (u:=n.toNat) (by omega)
 rw [show ((n.toNat:Nat):Int)=n by omega] at this
 exact this
theorem LX.dig {n:Int} (h:Small n):LX (dig n) (tkDig n) pI:=by
 unfold Small at h
 unfold tkDig
 by_cases hn:n < 0
 ·rw [if_pos hn,dig_neg hn]
  have h2:=LX.num (u:=n.natAbs) (by omega)
  rw [show ((n.natAbs:Nat):Int)=0-n by omega] at h2
  have hall:=digN_dig 25 n.natAbs
  have hne:digN 25 n.natAbs≠[]:=digN_ne 24 _
  generalize digN 25 n.natAbs=d at *
  refine (LX.mark1 (x:=45) (by decide) (by decide)).app h2 (fun c hc=>?_) (fun h=>absurd h hne)
  cases d with
  | nil=>exact absurd rfl hne
  | cons x d =>
   have hx:=hall x (by simp)
   have:x=c:=by simpa using hc
   subst this
   have h1:=List.all_eq_true.1 dmAll x.toNat (List.mem_range.2 x.toNat_lt)
   rw [UInt8.ofNat_toNat,hx] at h1
   simpa using h1
 ·rw [if_neg hn];exact LX.digp (by omega) (by omega)
end Gp
end
section
namespace Gp
open Go Go.Kx Gx
def sepK (st:List Tok):List (List Tok)→List Tok
  | []=>[]
  | x::r=>x++(r.map (st++·)).flatten
theorem LX.flat {α:Type} {g:α→List UInt8} {t:α→List Tok} {sb:List UInt8} {st:List Tok} {c:UInt8} {sb':List UInt8} (hsb:sb=c::sb') (hc:pI c=true):∀ (l:List α),(∀ x∈l,LX (sb++g x) (st++t x) pI)→LX ((l.map fun x=>sb++g x).flatten) ((l.map fun x=>st++t x).flatten) pI
 | [],_=>LX.nil _
 | x::l,h=>by
  simp only [List.map_cons,List.flatten_cons]
  refine (h x (List.mem_cons_self ..)).app (LX.flat hsb hc l fun y hy=>h y (List.mem_cons_of_mem _ hy)) (fun d hd=>?_) (fun _ _ h=>h)
  cases l with
  | nil=>simp at hd
  | cons y l=>rw [hsb] at hd;simp at hd;subst hd;exact hc
theorem LX.sep {α:Type} {g:α→List UInt8} {t:α→List Tok} {sb:List UInt8} {st:List Tok} {c:UInt8} {sb':List UInt8} (hsb:sb=c::sb') (hc:pI c=true) (l:List α) (h1:∀ x∈l,LX (g x) (t x) pI) (h2:∀ x∈l,LX (sb++g x) (st++t x) pI):LX (joinL sb (l.map g)) (sepK st (l.map t)) pI:=by
 cases l with
 | nil=>exact LX.nil _
 | cons x l =>
  have e1:joinL sb ((x::l).map g)=g x++(l.map fun x=>sb++g x).flatten:=by simp only [List.map_cons,joinL,List.map_map];rfl
  have e2:sepK st ((x::l).map t)=t x++(l.map fun x=>st++t x).flatten:=by simp only [List.map_cons,sepK,List.map_map];rfl
  rw [e1,e2]
  refine (h1 x (List.mem_cons_self ..)).app (LX.flat hsb hc l fun y hy=>h2 y (List.mem_cons_of_mem _ hy)) (fun d hd=>?_) (fun _ _ h=>h)
  cases l with
  | nil=>simp at hd
  | cons y l=>rw [hsb] at hd;simp at hd;subst hd;exact hc
theorem LX.kwR {x:List UInt8} (h:nameL' x):LX (x++[32]) [Wt x] pT:=((LX.name h).appC (LX.blank (b:=32) rfl) rfl).eqT rfl (by simp)
theorem LX.kw {x:List UInt8} (h:nameL' x):LX ([32]++(x++[32])) [Wt x] pT:=((LX.blank (b:=32) rfl).appT (LX.kwR h)).eqT rfl (by simp)
theorem kname {x:List UInt8} (c:UInt8) (l:List UInt8) (h:x=c::l) (h1:letB c=true) (h2:(l.all innB)=true) (h3:decide (l.length < 16)=true):nameL' x:=⟨c,l,h,h1,by simpa using h2,by simpa using h3⟩
theorem pAll:((List.range 256).all fun r => !(letB (UInt8.ofNat r)) || !(marks2.any fun m=>m==[46,UInt8.ofNat r]))=true:=by kernel_rfl
theorem let_dot {c:UInt8} (h:letB c=true):(!(marks2.any fun m=>m==[46,c]))=true:=by
 have h1:=List.all_eq_true.1 pAll c.toNat (List.mem_range.2 c.toNat_lt)
 rw [UInt8.ofNat_toNat,h] at h1
 simpa using h1
theorem LX.dot {x:List UInt8} (h:nameL' x):LX ([46]++x) ([Mt [46]]++[Wt x]) pI:=by
 refine (LX.mark1 (x:=46) (by decide) (by decide)).app (LX.name h) (fun c hc=>?_) (fun e=>?_)
 ·obtain ⟨d,l,rfl,h1,_⟩:=h
  simp at hc;subst hc
  exact let_dot h1
 ·obtain ⟨d,l,rfl,h1,_⟩:=h;cases e
def tkPath (s:ByteArray):List Tok:=sepK [Mt [46]] ((splitA [] (bs s)).map fun p=>[Wt p])
theorem splitA_ne:∀ (l acc:List UInt8),splitA acc l≠[]
 | [],acc=>by simp [splitA]
 | c::l,acc=>by
  rw [splitA_cons]
  split
  ·simp
  ·exact splitA_ne l _
theorem joinA:∀ (l acc:List UInt8),joinL [46] (splitA acc l)=acc++l
 | [],acc=>by simp [splitA,joinL]
 | c::l,acc=>by
  rw [splitA_cons]
  by_cases hc:c=46
  ·rw [if_pos hc,hc]
   have ih:=joinA l []
   cases h:splitA [] l with
   | nil=>exact absurd h (splitA_ne l [])
   | cons x r =>
    rw [h] at ih
    simp only [joinL,List.map_cons,List.flatten_cons,List.nil_append] at ih ⊢
    rw [← ih];simp
  ·rw [if_neg hc,joinA l (acc++[c])];simp
theorem path_parts {s:ByteArray} (h:pathV s=true):∀ p∈splitA [] (bs s),nameL' p:=by
 unfold pathV at h
 rw [Bool.and_eq_true,List.all_eq_true] at h
 intro p hp
 have:=word_name (h.2 p hp)
 rw [bs_mkB] at this
 exact this
theorem LX.path {s:ByteArray} (h:pathV s=true):LX (bs s) (tkPath s) pI:=by
 have hp:=path_parts h
 have:=LX.sep (g:=fun p:List UInt8=>p) (t:=fun p=>[Wt p]) (sb:=[46]) (st:=[Mt [46]]) (c:=46) (sb':=[]) rfl rfl (splitA [] (bs s)) (fun p h=>LX.name (hp p h)) (fun p h=>LX.dot (hp p h))
 rw [List.map_id',joinA,List.nil_append] at this
 exact this
theorem LX.comma:LX [44,32] [Mt [44]] pT:=((LX.sign (x:=44) (by decide) (by decide) rfl).appT (LX.blank (b:=32) rfl)).eqT rfl rfl
def tkWords (l:List ByteArray):List Tok:=sepK [Mt [44]] (l.map fun w=>[Wt (bs w)])
theorem LX.words {l:List ByteArray} {k:Nat} (h:WordsP l k):LX (commaT l) (tkWords l) pI :=
 LX.sep (g:=bs) (t:=fun w=>[Wt (bs w)]) (c:=44) (sb':=[32]) rfl rfl l (fun w hw=>LX.word (h.2.2 w hw)) (fun w hw=>LX.comma.appT (LX.word (h.2.2 w hw)))
def tkFld (f:T0):List Tok:=[Wt (bs f.Name)]++(bif f.Sort'.Kind==2 then [Mt [58],Wt [116,101,120,116]] else [Mt [58],Wt [105,110,116]])++tkDig f.Sort'.Lo++[Mt [46,46]]++tkDig f.Sort'.Hi
theorem LX.colonT:LX [58,32,116,101,120,116,32] [Mt [58],Wt [116,101,120,116]] pT:=((LX.sign (x:=58) (by decide) (by decide) rfl).appT (LX.kw (x:=[116,101,120,116]) (kname _ _ rfl rfl rfl rfl))).eqT rfl rfl
theorem LX.colonI:LX [58,32,105,110,116,32] [Mt [58],Wt [105,110,116]] pT:=((LX.sign (x:=58) (by decide) (by decide) rfl).appT (LX.kw (x:=[105,110,116]) (kname _ _ rfl rfl rfl rfl))).eqT rfl rfl
theorem LX.fld {f:T0} (h:FldP f):LX (fldT f) (tkFld f) pI:=by
 unfold fldT tkFld
 have hd:LX (bs f.Name++(bif f.Sort'.Kind==2 then [58,32,116,101,120,116,32] else [58,32,105,110,116,32])) ([Wt (bs f.Name)]++(bif f.Sort'.Kind==2 then [Mt [58],Wt [116,101,120,116]] else [Mt [58],Wt [105,110,116]])) pT:=by
  cases (f.Sort'.Kind==2) with
  | true=>exact (LX.word h.1).appC LX.colonT rfl
  | false=>exact (LX.word h.1).appC LX.colonI rfl
 exact ((hd.appT (LX.dig h.2.2.1)).appC (LX.mark2 (m:=[46,46]) (by decide)) rfl).appT (LX.dig h.2.2.2.1)
def tkBase (t:T13):List Tok:=bif eqStr t.Message (str []) then [Wt (bs t.Field)] else tkPath t.Message++[Mt [46]]++[Wt (bs t.Field)]
def tkTail (t:T13):List Tok:=bif decide (t.N > 0) then [Mt [43],Nt t.N] else bif decide (t.N < 0) then [Mt [45],Nt (0-t.N)] else []
def tkTerm (t:T13):List Tok:=bif t.Kind==1 then tkDig t.N else (bif t.Kind==3 then [Wt [108,101,110],Mt [40]]++tkBase t++[Mt [41]] else tkBase t)++tkTail t
theorem LX.tail {t:T13} (h:Small t.N) {s:List UInt8} {ts:List Tok} (hs:LX s ts pI):LX (s++termN t) (ts++tkTail t) pI:=by
 unfold Small at h
 unfold termN tkTail
 cases h1:decide (t.N > 0) with
 | true =>
  rw [decide_eq_true_eq] at h1
  simp only [cT]
  have e:LX [32,43,32] [Mt [43]] pT:=((LX.blank (b:=32) rfl).appT ((LX.sign (x:=43) (by decide) (by decide) rfl).appT (LX.blank (b:=32) rfl))).eqT rfl rfl
  exact (hs.appC (e.appT (LX.digp (by omega) (by omega))) rfl).eqT rfl rfl
 | false =>
  simp only [cF]
  cases h2:decide (t.N < 0) with
  | true =>
   rw [decide_eq_true_eq] at h2
   simp only [cT]
   have e:LX [32,45,32] [Mt [45]] pT:=((LX.blank (b:=32) rfl).appT ((LX.mark1 (x:=45) (by decide) (by decide)).appC (LX.blank (b:=32) rfl) rfl)).eqT rfl rfl
   exact (hs.appC (e.appT (LX.digp (by omega) (by omega))) rfl).eqT rfl rfl
  | false=>exact hs.eqT (by simp) (by simp)
theorem LX.base {t:T13} (h:TermP t) (h1:t.Kind≠1):LX (termB t) (tkBase t) pI:=by
 rcases h.2 with h | ⟨_,h2,h3⟩
 ·exact absurd h.1 h1
 ·unfold termB tkBase
  cases he:eqStr t.Message (str []) with
  | true=>exact LX.word h2
  | false =>
   simp only [cF]
   have hp:pathV t.Message=true:=h3.resolve_left (fun e=>by rw [(eqStr_iff _ _).2 e] at he;cases he)
   refine ((LX.path hp).appC (LX.mark1 (x:=46) (by decide) (by decide)) rfl).app (LX.word h2) (fun c hc=>?_) (fun e=>?_)
   ·obtain ⟨d,l,e,h1,_⟩:=word_name h2
    rw [e] at hc;simp at hc;subst hc
    exact let_dot h1
   ·obtain ⟨d,l,e',h1,_⟩:=word_name h2
    rw [e] at e';cases e'
theorem LX.term {t:T13} (h:TermP t):LX (termT t) (tkTerm t) pI:=by
 unfold termT tkTerm
 cases h1:(t.Kind==1) with
 | true=>exact LX.dig h.1
 | false =>
  have h1:t.Kind≠1:=by simpa using h1
  simp only [cF]
  refine LX.tail h.1 ?_
  cases (t.Kind==3) with
  | false=>exact LX.base h h1
  | true =>
   simp only [cT]
   have e:LX [108,101,110,40] [Wt [108,101,110],Mt [40]] pT:=((LX.name (x:=[108,101,110]) (kname _ _ rfl rfl rfl rfl)).appC (LX.sign (x:=40) (by decide) (by decide) rfl) rfl).eqT rfl rfl
   exact ((e.appT (LX.base h h1)).appC (LX.sign (x:=41) (by decide) (by decide) rfl) rfl).toI
def tkAtom (a:T9):List Tok:=tkTerm a.Left++[Mt (bs a.Op)]++tkTerm a.Right
theorem LX.op {s:ByteArray} (h:s∈marksL):LX ([32]++bs s++[32]) [Mt (bs s)] pT:=by
 simp only [marksL,List.mem_cons,List.not_mem_nil,or_false] at h
 rcases h with h | h | h | h | h<;>subst h
 ·exact (((LX.blank (b:=32) rfl).appT (LX.mark1 (x:=60) (by decide) (by decide))).appC (LX.blank (b:=32) rfl) rfl).eqT rfl rfl
 ·exact (((LX.blank (b:=32) rfl).appT (LX.mark2 (m:=[60,61]) (by decide))).appT (LX.blank (b:=32) rfl)).eqT rfl rfl
 ·exact (((LX.blank (b:=32) rfl).appT (LX.mark2 (m:=[61,61]) (by decide))).appT (LX.blank (b:=32) rfl)).eqT rfl rfl
 ·exact (((LX.blank (b:=32) rfl).appT (LX.mark2 (m:=[62,61]) (by decide))).appT (LX.blank (b:=32) rfl)).eqT rfl rfl
 ·exact (((LX.blank (b:=32) rfl).appT (LX.mark1 (x:=62) (by decide) (by decide))).appC (LX.blank (b:=32) rfl) rfl).eqT rfl rfl
theorem LX.atom {a:T9} (h:AtomP a):LX (atomT a) (tkAtom a) pI :=
 (((LX.term h.1).appC (LX.op h.2.2) rfl).appT (LX.term h.2.1)).eqT (by simp [atomT]) (by simp [tkAtom])
def tkWhere (l:List T9):List Tok:=match l with
 | []=>[]
 | _::_=>Wt [119,104,101,114,101]::sepK [Wt [97,110,100]] (l.map tkAtom)
def tkMsg (m:T11):List Tok:=[Wt [109,101,115,115,97,103,101]]++tkPath m.Name++[Mt [40]]++sepK [Mt [44]] (m.Fields.map tkFld)++[Mt [41]]++tkWhere m.Where++[Mt [59]]
theorem LX.semi:LX [59] [Mt [59]] pT:=LX.sign (x:=59) (by decide) (by decide) rfl
theorem LX.wh {l:List T9} (h:∀ a∈l,AtomP a) {s:List UInt8} {ts:List Tok} (hs:LX s ts pT):LX (s++whereT l++[59]) (ts++tkWhere l++[Mt [59]]) pT:=by
 cases l with
 | nil=>exact (hs.appT LX.semi).eqT (by simp [whereT]) (by simp [tkWhere])
 | cons a l =>
  have hw:=LX.kw (x:=[119,104,101,114,101]) (kname _ _ rfl rfl rfl rfl)
  have ha:=LX.kw (x:=[97,110,100]) (kname _ _ rfl rfl rfl rfl)
  have hl:=LX.sep (g:=atomT) (t:=tkAtom) (sb:=[32,97,110,100,32]) (st:=[Wt [97,110,100]]) (c:=32) (sb':=[97,110,100,32]) rfl rfl (a::l) (fun x hx=>LX.atom (h x hx)) (fun x hx=>(ha.appT (LX.atom (h x hx))).eqT rfl rfl)
  exact ((hs.appT (hw.appT hl)).appC LX.semi rfl).eqT rfl rfl
theorem LX.msg {m:T11} (h:MsgP m):LX (msgT m) (tkMsg m) pT:=by
 unfold msgT tkMsg
 have hk:LX [109,101,115,115,97,103,101,32] [Wt [109,101,115,115,97,103,101]] pT:=LX.kwR (x:=[109,101,115,115,97,103,101]) (kname _ _ rfl rfl rfl rfl)
 have hf:=LX.sep (g:=fldT) (t:=tkFld) (sb:=[44,32]) (st:=[Mt [44]]) (c:=44) (sb':=[32]) rfl rfl m.Fields (fun f hf=>LX.fld (h.2.2.2.1 f hf)) (fun f hf=>LX.comma.appT (LX.fld (h.2.2.2.1 f hf)))
 refine LX.wh h.2.2.2.2 ?_
 exact (((hk.appT (LX.path h.1)).appC (LX.sign (x:=40) (by decide) (by decide) rfl) rfl).appT hf).appC (LX.sign (x:=41) (by decide) (by decide) rfl) rfl
end Gp
end
section
namespace Gp
open Go Go.Kx Gx
def kwT (w:List UInt8):List Tok:=match w with
 | []=>[]
 | _::_=>[Wt w]
def tkHead (first:Bool) (th:List Tok) (w last:List UInt8) (e:Bool):List Tok:=bif first then th++[Mt [123]] else [Mt [125]]++kwT (bif (e && !last.isEmpty) then last else w)++[Mt [123]]
def tkSend (f:ByteArray) (t:List ByteArray) (n:ByteArray):List Tok:=[Wt (bs f)]++[Mt [45,62]]++tkWords t++[Mt [58]]++tkPath n++[Mt [59]]
def tkAgain (n:ByteArray):List Tok:=[Wt [97,103,97,105,110]]++tkPath n++[Mt [59]]
def tkCall (n:ByteArray) (t:List ByteArray) (a:ByteArray):List Tok:=[Wt [99,97,108,108]]++[Wt (bs n)]++[Mt [40]]++tkWords t++[Mt [41],Wt [97,115]]++[Wt (bs a)]++[Mt [59]]
def tkChoice (f:ByteArray):List Tok:=[Wt [99,104,111,105,99,101],Wt [97,116]]++[Wt (bs f)]
def tkWithin (f:ByteArray) (x:Int):List Tok:=tkChoice f++[Wt [119,105,116,104,105,110]]++[Nt x]
def tkLoop (n:ByteArray):List Tok:=[Wt [108,111,111,112]]++tkPath n
mutual
def tkI:T10→List Tok
 | ⟨kd,f,t,n,a,x,b⟩ =>
  bif kd==1 then tkSend f t n
  else bif kd==2 then (bif decide (x > 0) then tkR true (tkWithin f x) orT elseT b else tkR true (tkChoice f) orT [] b)
  else bif kd==3 then tkR true (tkLoop n) [] [] b
  else bif kd==4 then tkAgain n
  else bif kd==5 then tkR true [Wt parT] andT [] b
  else bif kd==6 then tkCall n t a
  else []
def tkL:List T10→List Tok
 | []=>[]
 | x::l=>tkI x++tkL l
def tkR (first:Bool) (th:List Tok) (w last:List UInt8):List (List T10)→List Tok
 | []=>[Mt [125]]
 | b::l=>tkHead first th w last l.isEmpty++(tkL b++tkR false th w last l)
end
theorem LX.tabs:∀ k,LX (tabs k) [] pT
 | 0=>LX.nil _
 | k+1=>by
  rw [tabs_succ]
  exact ((LX.tabs k).appT (LX.blank (b:=9) rfl)).eqT rfl rfl
theorem LX.line {F:List UInt8} {ts:List Tok} (k:Nat) (h:LX F ts pI):LX (lineT k F) ts pT :=
 ((LX.tabs k).appT (h.appC (LX.blank (b:=10) rfl) rfl)).eqT rfl (by simp)
theorem LX.open':LX [32,123] [Mt [123]] pT:=((LX.blank (b:=32) rfl).appT (LX.sign (x:=123) (by decide) (by decide) rfl)).eqT rfl rfl
theorem LX.close:LX [125] [Mt [125]] pT:=LX.sign (x:=125) (by decide) (by decide) rfl
def kwP (w:List UInt8):Prop:=w=[]∨nameL' w
theorem LX.kwT {w:List UInt8} (h:kwP w):LX w (kwT w) pI:=by
 rcases h with rfl | h
 ·exact LX.nil _
 ·obtain ⟨c,l,rfl,h1,h2⟩:=h
  exact LX.name ⟨c,l,rfl,h1,h2⟩
theorem LX.head {first:Bool} {hd w last:List UInt8} {th:List Tok} {e:Bool} (h1:LX hd th pI) (h2:kwP w) (h3:kwP last):LX (headT first hd w last e) (tkHead first th w last e) pI:=by
 unfold headT tkHead
 cases first with
 | true=>exact (h1.appC LX.open' rfl).toI
 | false =>
  simp only [cF]
  have hx:kwP (bif (e && !last.isEmpty) then last else w):=by cases (e && !last.isEmpty)<;>assumption
  have hc:LX [125,32] [Mt [125]] pT:=(LX.close.appT (LX.blank (b:=32) rfl)).eqT rfl rfl
  exact ((hc.appT (LX.kwT hx)).appC LX.open' rfl).toI
theorem LX.sendL {f:ByteArray} {t:List ByteArray} {n:ByteArray} {k:Nat} (h1:isWord f=true) (h2:WordsP t k) (h3:pathV n=true):LX (sendT f t n) (tkSend f t n) pT:=by
 unfold sendT tkSend
 have e1:LX [32,45,62,32] [Mt [45,62]] pT:=((LX.blank (b:=32) rfl).appT ((LX.mark2 (m:=[45,62]) (by decide)).appT (LX.blank (b:=32) rfl))).eqT rfl rfl
 have e2:LX [58,32] [Mt [58]] pT:=((LX.sign (x:=58) (by decide) (by decide) rfl).appT (LX.blank (b:=32) rfl)).eqT rfl rfl
 exact ((((((LX.word h1).appC e1 rfl).appT (LX.words h2)).appC e2 rfl).appT (LX.path h3)).appC LX.semi rfl)
theorem LX.againL {n:ByteArray} (h:pathV n=true):LX (againT n) (tkAgain n) pT :=
 ((LX.kwR (x:=[97,103,97,105,110]) (kname _ _ rfl rfl rfl rfl)).appT (LX.path h)).appC LX.semi rfl
theorem LX.callL {n:ByteArray} {t:List ByteArray} {a:ByteArray} {k:Nat} (h1:isWord n=true) (h2:WordsP t k) (h3:isWord a=true):LX (callT n t a) (tkCall n t a) pT:=by
 unfold callT tkCall
 have e1:=LX.kwR (x:=[99,97,108,108]) (kname _ _ rfl rfl rfl rfl)
 have e2:LX [40] [Mt [40]] pT:=LX.sign (x:=40) (by decide) (by decide) rfl
 have e3:LX [41,32,97,115,32] [Mt [41],Wt [97,115]] pT:=((LX.sign (x:=41) (by decide) (by decide) rfl).appT (LX.kw (x:=[97,115]) (kname _ _ rfl rfl rfl rfl))).eqT rfl rfl
 exact ((((((e1.appT (LX.word h1)).appC e2 rfl).appT (LX.words h2)).appC e3 rfl).appT (LX.word h3)).appC LX.semi rfl)
theorem LX.choiceL {f:ByteArray} (h:isWord f=true):LX (choiceT f) (tkChoice f) pI:=by
 have e:LX [99,104,111,105,99,101,32,97,116,32] [Wt [99,104,111,105,99,101],Wt [97,116]] pT:=((LX.kwR (x:=[99,104,111,105,99,101]) (kname _ _ rfl rfl rfl rfl)).appT (LX.kwR (x:=[97,116]) (kname _ _ rfl rfl rfl rfl))).eqT rfl rfl
 exact e.appT (LX.word h)
theorem LX.withinL {f:ByteArray} {x:Int} (h:isWord f=true) (h0:0≤x) (h1:x≤1000):LX (withinT f x) (tkWithin f x) pI :=
 ((LX.choiceL h).appC (LX.kw (x:=[119,105,116,104,105,110]) (kname _ _ rfl rfl rfl rfl)) rfl).appT (LX.digp h0 (by omega))
theorem LX.loopL {n:ByteArray} (h:pathV n=true):LX (loopT n) (tkLoop n) pI :=
 (LX.kwR (x:=[108,111,111,112]) (kname _ _ rfl rfl rfl rfl)).appT (LX.path h)
mutual
theorem LX.item:∀ (x:T10) (k:Nat),shI x→LX (xI k x) (tkI x) pT
 | ⟨kd,f,t,n,a,x,b⟩,k,hs=>by
  simp only [shI] at hs
  obtain ⟨hP,hsb⟩:=hs
  unfold ShP at hP
  simp only at hP
  rcases hP with hP | hP | hP | hP | hP | hP
  ·rw [hP.1]
   exact LX.line k (LX.sendL hP.2.1 hP.2.2.1 hP.2.2.2.1).toI
  ·rw [hP.1]
   show LX (bif decide (x > 0) then xR k true (withinT f x) orT elseT b else xR k true (choiceT f) orT [] b) (bif decide (x > 0) then tkR true (tkWithin f x) orT elseT b else tkR true (tkChoice f) orT [] b) pT
   cases decide (x > 0) with
   | true=>exact LX.blocks b k true (withinT f x) (tkWithin f x) orT elseT hsb (LX.withinL hP.2.1 hP.2.2.2.2.2.1 hP.2.2.2.2.2.2.1) (.inr (kname _ _ rfl rfl rfl rfl)) (.inr (kname _ _ rfl rfl rfl rfl))
   | false=>exact LX.blocks b k true (choiceT f) (tkChoice f) orT [] hsb (LX.choiceL hP.2.1) (.inr (kname _ _ rfl rfl rfl rfl)) (.inl rfl)
  ·rw [hP.1]
   exact LX.blocks b k true (loopT n) (tkLoop n) [] [] hsb (LX.loopL hP.2.2.2.1) (.inl rfl) (.inl rfl)
  ·rw [hP.1]
   exact LX.line k (LX.againL hP.2.2.2.1).toI
  ·rw [hP.1]
   exact LX.blocks b k true parT [Wt parT] andT [] hsb (LX.name (kname _ _ rfl rfl rfl rfl)) (.inr (kname _ _ rfl rfl rfl rfl)) (.inl rfl)
  ·rw [hP.1]
   exact LX.line k (LX.callL hP.2.2.2.1 hP.2.2.1 hP.2.2.2.2.1).toI
theorem LX.items:∀ (l:List T10) (k:Nat),shL l→LX (xL k l) (tkL l) pT
 | [],k,_=>by simp only [xL,tkL];exact LX.nil _
 | x::l,k,hs=>by
  simp only [shL] at hs
  simp only [xL,tkL]
  exact (LX.item x k hs.1).appT (LX.items l k hs.2)
theorem LX.blocks:∀ (l:List (List T10)) (k:Nat) (first:Bool) (hd:List UInt8) (th:List Tok) (w last:List UInt8),shLL l→LX hd th pI→kwP w→kwP last→LX (xR k first hd w last l) (tkR first th w last l) pT
 | [],k,first,hd,th,w,last,_,_,_,_=>by simp only [xR,tkR];exact LX.line k LX.close.toI
 | b::l,k,first,hd,th,w,last,hs,h1,h2,h3=>by
  simp only [shLL] at hs
  simp only [xR,tkR]
  exact (LX.line k (LX.head h1 h2 h3)).appT ((LX.items b (k+1) hs.1).appT (LX.blocks l k false hd th w last hs.2 h1 h2 h3))
end
def tkProt (p:T12):List Tok:=[Wt [112,114,111,116,111,99,111,108]]++[Wt (bs p.Name)]++[Mt [40]]++tkWords p.Roles++[Mt [41],Mt [123]]++(p.Messages.map tkMsg).flatten++tkL p.Body++[Mt [125]]
def tkSrc (l:List T12):List Tok:=(l.map tkProt).flatten
theorem LX.msgs:∀ l:List T11,(∀ m∈l,MsgP m)→LX ((l.map msgLine).flatten) ((l.map tkMsg).flatten) pT
 | [],_=>LX.nil _
 | m::l,h=>by
  simp only [List.map_cons,List.flatten_cons]
  exact (LX.line 1 (LX.msg (h m (List.mem_cons_self ..))).toI).appT (LX.msgs l fun x hx=>h x (List.mem_cons_of_mem _ hx))
theorem LX.prot {p:T12} (h:ProtP p):LX (protT p) (tkProt p) pT:=by
 obtain ⟨h1,h2,h3,h4,h5,h6,h7⟩:=h
 have e1:LX [112,114,111,116,111,99,111,108,32] [Wt [112,114,111,116,111,99,111,108]] pT:=LX.kwR (x:=[112,114,111,116,111,99,111,108]) (kname _ _ rfl rfl rfl rfl)
 have e2:LX [40] [Mt [40]] pT:=LX.sign (x:=40) (by decide) (by decide) rfl
 have e3:LX [41,32,123] [Mt [41],Mt [123]] pT:=((LX.sign (x:=41) (by decide) (by decide) rfl).appT LX.open').eqT rfl rfl
 have hh:LX (protHead p) ([Wt [112,114,111,116,111,99,111,108]]++[Wt (bs p.Name)]++[Mt [40]]++tkWords p.Roles++[Mt [41],Mt [123]]) pT:=(((e1.appT (LX.word h1)).appC e2 rfl).appT (LX.words h2)).appC e3 rfl
 exact (((LX.line 0 hh.toI).appT (LX.msgs p.Messages h7)).appT (LX.items p.Body 1 h4)).appT (LX.line 0 LX.close.toI)
theorem LX.src:∀ l:List T12,(∀ p∈l,ProtP p)→LX (srcT l) (tkSrc l) pT
 | [],_=>LX.nil _
 | p::l,h=>by
  show LX (protT p++srcT l) (tkProt p++tkSrc l) pT
  exact (LX.prot (h p (List.mem_cons_self ..))).appT (LX.src l fun x hx=>h x (List.mem_cons_of_mem _ hx))
theorem lex_src {l:List T12} (h:∀ p∈l,ProtP p):∃ us,lexA (srcT l) 0=.inr us∧us.map strip=tkSrc l:=by
 obtain ⟨vs,v1,v2⟩:=LX.src l h [] 0 [] (by simp) (lexA_end rfl _)
 rw [List.append_nil] at v1
 exact ⟨vs,v1,by simpa using v2⟩
end Gp
end
section
namespace Gp
open Go Go.Kx Gx
def hdT (r:List Tok):Tok:=(r.head?).getD zt
theorem tk_drop (l:List Tok) (n:Nat):tk l n=hdT (l.drop n):=by unfold tk hdT;rw [List.head?_drop]
def Re {α:Type} (S:Pm α) (ts:List Tok) (x:α) (nx:Tok→Bool):Prop:=∀ (l:List Tok) (n:Nat) (r:List Tok),l.drop n=ts++r→nx (hdT r)=true→S l n=.ok x (n+ts.length)
abbrev nT:Tok→Bool:=fun _=>true
abbrev nN (s:List UInt8):Tok→Bool:=fun t => !isT (str s) t
theorem drop_more {l:List Tok} {n:Nat} {a b:List Tok} (h:l.drop n=a++b):l.drop (n+a.length)=b:=by rw [← List.drop_drop,h,List.drop_left]
theorem Re.bind {α β:Type} {S:Pm α} {T:α→Pm β} {t1 t2:List Tok} {a:α} {b:β} {n1 n2:Tok→Bool} (h1:Re S t1 a n1) (h2:Re (T a) t2 b n2) (hn:∀ r,n2 (hdT r)=true→n1 (hdT (t2++r))=true):Re (fun l n=>(S l n).bind fun a m=>T a l m) (t1++t2) b n2:=by
 intro l n r hl hr
 rw [aA] at hl
 show (S l n).bind _=_
 rw [h1 l n (t2++r) hl (hn r hr)]
 show T a l (n+t1.length)=_
 rw [h2 l _ r (drop_more hl) hr,lA,Nat.add_assoc]
theorem Re.bindT {α β:Type} {S:Pm α} {T:α→Pm β} {t1 t2:List Tok} {a:α} {b:β} {n2:Tok→Bool} (h1:Re S t1 a nT) (h2:Re (T a) t2 b n2):Re (fun l n=>(S l n).bind fun a m=>T a l m) (t1++t2) b n2:=h1.bind h2 fun _ _=>rfl
theorem Re.bindC {α β:Type} {S:Pm α} {T:α→Pm β} {t1 t2:List Tok} {c:Tok} {a:α} {b:β} {n1 n2:Tok→Bool} (h1:Re S t1 a n1) (h2:Re (T a) (c::t2) b n2) (hc:n1 c=true):Re (fun l n=>(S l n).bind fun a m=>T a l m) (t1++c::t2) b n2:=h1.bind h2 fun _ _=>hc
theorem Re.ret {α:Type} (b:α) (nx:Tok→Bool):Re (fun _ n=>.ok b n) [] b nx:=fun l n r _ _=>rfl
theorem Re.weak {α:Type} {S:Pm α} {ts:List Tok} {x:α} {n1 n2:Tok→Bool} (h:Re S ts x n1) (hn:∀ t,n2 t=true→n1 t=true):Re S ts x n2:=fun l n r hl hr=>h l n r hl (hn _ hr)
theorem Re.eqT {α:Type} {S S':Pm α} {ts ts':List Tok} {x x':α} {nx:Tok→Bool} (h:Re S ts x nx) (hS:S'=S) (ht:ts'=ts) (hx:x'=x):Re S' ts' x' nx:=by subst hS;subst ht;subst hx;exact h
theorem Re.takeT {α:Type} {s:ByteArray} {A C:Pm α} {t:Tok} {ts:List Tok} {x:α} {nx:Tok→Bool} (hi:isT s t=true) (h:Re A ts x nx):Re (fun l n=>bif isT s (tk l n) then A l (n+1) else C l n) (t::ts) x nx:=by
 intro l n r hl hr
 have ht:tk l n=t:=by rw [tk_drop,hl];rfl
 show (bif isT s (tk l n) then A l (n+1) else C l n)=_
 rw [ht,hi,cT,h l (n+1) r (drop_more (a:=[t]) hl) hr,List.length_cons]
 congr 1;omega
theorem Re.takeF {α:Type} {s:ByteArray} {A C:Pm α} {ts:List Tok} {x:α} {nx:Tok→Bool} (h:Re C ts x nx) (hi:∀ r,nx (hdT r)=true→isT s (hdT (ts++r))=false):Re (fun l n=>bif isT s (tk l n) then A l (n+1) else C l n) ts x nx:=by
 intro l n r hl hr
 show (bif isT s (tk l n) then A l (n+1) else C l n)=_
 rw [tk_drop,hl,hi r hr,cF]
 exact h l n r hl hr
theorem Re.takeN {α:Type} {s:ByteArray} {A C:Pm α} {t:Tok} {ts:List Tok} {x:α} {nx:Tok→Bool} (h:Re C (t::ts) x nx) (hi:isT s t=false):Re (fun l n=>bif isT s (tk l n) then A l (n+1) else C l n) (t::ts) x nx:=h.takeF fun _ _=>hi
theorem isT_W (s x:List UInt8):isT (str s) (Wt x)=(x==s):=by
 unfold isT
 show (true && eqStr (mkB x) (mkB s))=_
 rw [eqStr_mk];rfl
theorem isT_M (s x:List UInt8):isT (str s) (Mt x)=(x==s):=by
 unfold isT
 show (true && eqStr (mkB x) (mkB s))=_
 rw [eqStr_mk];rfl
theorem isW (s:List UInt8):isT (str s) (Wt s)=true:=by rw [isT_W];simp
theorem isM (s:List UInt8):isT (str s) (Mt s)=true:=by rw [isT_M];simp
theorem Re.wants {s:ByteArray} {t:Tok} (h:isT s t=true):Re (sWants s) [t] () nT:=by
 intro l n r hl _
 unfold sWants
 rw [tk_drop,hl,show hdT ([t]++r)=t from rfl,h];rfl
theorem Re.word {x:List UInt8} (h:isWord (mkB x)=true):Re sWord [Wt x] (mkB x) nT:=by
 intro l n r hl _
 unfold sWord
 rw [tk_drop,hl,show hdT ([Wt x]++r)=Wt x from rfl,show wordT (Wt x)=true by unfold wordT;simp [h]];rfl
theorem Re.wordB {s:ByteArray} (h:isWord s=true):Re sWord [Wt (bs s)] s nT:=by
 have:=Re.word (x:=bs s) (by rw [mkB_bs];exact h)
 rw [mkB_bs] at this;exact this
theorem Re.num (v:Int):Re sNum [Nt v] v nT:=by
 intro l n r hl _
 unfold sNum
 rw [tk_drop,hl];rfl
theorem Re.signed {v:Int} (h:Small v):Re sSigned (tkDig v) v nT:=by
 unfold Small at h
 unfold tkDig
 by_cases hn:v < 0
 ·rw [if_pos hn]
  have:=Re.takeT (s:=str [45]) (A:=fun l n=>(sNum l n).bind fun v m=>.ok (w64 (0-v)) m) (C:=sNum) (t:=Mt [45]) (isM _) ((Re.num (0-v)).bindT (T:=fun v _ m=>.ok (w64 (0-v)) m) (Re.ret _ nT))
  rw [w64_id (by omega) (by omega),show 0-(0-v)=v by omega] at this
  exact this
 ·rw [if_neg hn]
  exact (Re.num v).takeN (s:=str [45]) (A:=fun l n=>(sNum l n).bind fun v m=>.ok (w64 (0-v)) m) (t:=Nt v) rfl
theorem loop_rd {α β γ:Type} {s:ByteArray} {p:Pm α} {upd:β→α→β} {t:γ→List Tok} {v:γ→α} {np nx:Tok→Bool} {st:Tok} (hst:isT s st=true) (hnp:np st=true) (hx:∀ t,nx t=true→np t=true∧isT s t=false):∀ (xs:List γ) (F:Nat) (acc:β),(∀ x∈xs,Re p (t x) (v x) np)→xs.length < F →
  Re (sLoop s p upd F acc) ((xs.map fun x=>[st]++t x).flatten) (xs.foldl (fun a x=>upd a (v x)) acc) nx
 | [],F,acc,_,hF=>by
  obtain ⟨F,rfl⟩:∃ m,F=m+1:=⟨F-1,by simp at hF;omega⟩
  exact (Re.ret acc nx).takeF (s:=s) (A:=fun l n=>(p l n).bind fun a m=>sLoop s p upd F (upd acc a) l m) (fun r hr=>(hx _ hr).2)
 | x::xs,F,acc,hp,hF=>by
  obtain ⟨F,rfl⟩:∃ m,F=m+1:=⟨F-1,by simp at hF;omega⟩
  have ih:=loop_rd (upd:=upd) hst hnp hx xs F (upd acc (v x)) (fun y hy=>hp y (List.mem_cons_of_mem _ hy)) (by simp at hF;omega)
  have hb:=(hp x (List.mem_cons_self ..)).bind (T:=fun a l m=>sLoop s p upd F (upd acc a) l m) ih (fun r hr=>by
   cases xs with
   | nil=>exact (hx _ hr).1
   | cons y ys=>exact hnp)
  exact (Re.takeT (s:=s) (A:=fun l n=>(p l n).bind fun a m=>sLoop s p upd F (upd acc a) l m) (C:=fun l n=>.ok acc n) hst hb).eqT rfl (by simp) rfl
theorem sepK_map {γ:Type} (st:Tok) (t:γ→List Tok) (x:γ) (xs:List γ):sepK [st] ((x::xs).map t)=t x++(xs.map fun x=>[st]++t x).flatten:=by simp only [List.map_cons,sepK,List.map_map];rfl
theorem foldl_snoc {α γ:Type} (v:γ→α):∀ (xs:List γ) (acc:List α),xs.foldl (fun a x=>snoc a (v x)) acc=acc++xs.map v
 | [],acc=>by simp
 | x::xs,acc=>by simp only [List.foldl_cons,List.map_cons];rw [foldl_snoc v xs];simp [snoc]
theorem sep_rd {α γ:Type} {s:ByteArray} {p:Pm α} {t:γ→List Tok} {v:γ→α} {np nx:Tok→Bool} {st:Tok} (hst:isT s st=true) (hnp:np st=true) (hx:∀ t,nx t=true→np t=true∧isT s t=false) (x:γ) (xs:List γ) {F:Nat} (hp:∀ y∈x::xs,Re p (t y) (v y) np) (hF:xs.length < F) :
  Re (fun l n=>(p l n).bind fun a m=>sLoop s p snoc F [a] l m) (sepK [st] ((x::xs).map t)) ((x::xs).map v) nx:=by
 rw [sepK_map]
 have hl:=loop_rd (upd:=snoc) hst hnp hx xs F [v x] (fun y hy=>hp y (List.mem_cons_of_mem _ hy)) hF
 rw [foldl_snoc] at hl
 exact (hp x (List.mem_cons_self ..)).bind (T:=fun a l m=>sLoop s p snoc F [a] l m) hl (fun r hr=>by
  cases xs with
  | nil=>exact (hx _ hr).1
  | cons y ys=>exact hnp)
theorem words_rd {l:List ByteArray} {k F:Nat} (h:WordsP l k) (hF:l.length≤F):Re (sWords F) (tkWords l) l (nN [44]):=by
 obtain ⟨h1,h2,h3⟩:=h
 cases l with
 | nil=>simp at h1
 | cons w l =>
  have:=sep_rd (s:=str [44]) (p:=sWord) (t:=fun w:ByteArray=>[Wt (bs w)]) (v:=fun w=>w) (np:=nT) (nx:=nN [44]) (st:=Mt [44]) (isM _) rfl (fun t ht=>⟨rfl,by simpa using ht⟩) w l (F:=F) (fun y hy=>Re.wordB (h3 y hy)) (by simp at hF;omega)
  rw [List.map_id'] at this
  exact this
theorem fold_dot:∀ (ps:List (List UInt8)) (x:List UInt8),ps.foldl (fun a p=>dotW a (mkB p)) (mkB x)=mkB (x++(ps.map fun p=>[46]++p).flatten)
 | [],x=>by simp
 | p::ps,x=>by
  simp only [List.foldl_cons,List.map_cons,List.flatten_cons]
  have e:dotW (mkB x) (mkB p)=mkB (x++([46]++p)):=bs_inj (by unfold dotW;rw [bs_app,bs_app,bs_mkB,bs_mkB,bs_mkB,bs_str])
  rw [e,fold_dot ps];simp
theorem parts_rd {ps:List (List UInt8)} (hps:ps≠[]) (hw:∀ p∈ps,isWord (mkB p)=true) {F:Nat} (hF:ps.length≤F):Re (sPath F) (sepK [Mt [46]] (ps.map fun p=>[Wt p])) (mkB (joinL [46] ps)) (nN [46]):=by
 cases ps with
 | nil=>exact absurd rfl hps
 | cons p ps =>
  rw [sepK_map]
  have hl:=loop_rd (s:=str [46]) (p:=sWord) (upd:=dotW) (t:=fun p:List UInt8=>[Wt p]) (v:=fun p=>mkB p) (np:=nT) (nx:=nN [46]) (st:=Mt [46]) (isM _) rfl (fun t ht=>⟨rfl,by simpa using ht⟩) ps F (mkB p) (fun y hy=>Re.word (hw y (List.mem_cons_of_mem _ hy))) (by simp at hF;omega)
  rw [fold_dot] at hl
  exact (Re.word (hw p (List.mem_cons_self ..))).bindT (T:=fun w l m=>sLoop (str [46]) sWord dotW F w l m) hl
theorem pieces_len {s:ByteArray} (h:pathV s=true):(splitA [] (bs s)).length≤51:=by
 have h1:=path_len h
 rw [splitA_len]
 have:(bs s).count 46≤(bs s).length:=List.count_le_length
 omega
theorem pieces_word {s:ByteArray} (h:pathV s=true):∀ p∈splitA [] (bs s),isWord (mkB p)=true:=by
 unfold pathV at h
 rw [Bool.and_eq_true,List.all_eq_true] at h
 exact h.2
theorem path_rd {s:ByteArray} (h:pathV s=true) {F:Nat} (hF:51≤F):Re (sPath F) (tkPath s) s (nN [46]):=by
 have:=parts_rd (splitA_ne (bs s) []) (pieces_word h) (F:=F) (by have:=pieces_len h;omega)
 rw [joinA,List.nil_append,mkB_bs] at this
 exact this
theorem name_not {x:List UInt8} (h:nameL' x) {c:UInt8} {s:List UInt8} (hc:letB c=false):isT (str (c::s)) (Wt x)=false:=by
 obtain ⟨d,l,rfl,h1,_⟩:=h
 rw [isT_W,beq_eq_false_iff_ne]
 intro e
 injection e with e _
 rw [e,hc] at h1;cases h1
theorem word_not {s:ByteArray} (h:isWord s=true) {k:List UInt8} (hk:str k∈keywords):isT (str k) (Wt (bs s))=false:=by
 rw [isT_W,beq_eq_false_iff_ne]
 intro e
 unfold isWord at h
 rw [Bool.and_eq_true,Bool.not_eq_true',List.any_eq_false] at h
 apply h.2 _ hk
 rw [eqStr_iff]
 exact bs_inj (by rw [bs_str,e])
theorem fld_rd {f:T0} (h:FldP f):Re sField (tkFld f) f nT:=by
 obtain ⟨h1,h2,h3,h4,h5⟩:=h
 obtain ⟨nm,⟨kd,lo,hi⟩⟩:=f
 simp only at h1 h2 h3 h4 h5
 unfold tkFld
 simp only
 rcases h2 with rfl | rfl
 ·have hr:Re (fun l n=>(sSigned l n).bind fun lo n=>(sWants (str [46,46]) l n).bind fun _ n=>(sSigned l n).bind fun hi n=>.ok (⟨nm,⟨1,lo,hi⟩⟩:T0) n) (tkDig lo++([Mt [46,46]]++(tkDig hi++[]))) ⟨nm,⟨1,lo,hi⟩⟩ nT :=
   (Re.signed h3).bindT (T:=fun lo l n=>(sWants (str [46,46]) l n).bind fun _ n=>(sSigned l n).bind fun hi n=>.ok (⟨nm,⟨1,lo,hi⟩⟩:T0) n)
    ((Re.wants (isM [46,46])).bindT (T:=fun _ l n=>(sSigned l n).bind fun hi n=>.ok (⟨nm,⟨1,lo,hi⟩⟩:T0) n) ((Re.signed h4).bindT (T:=fun hi _ n=>.ok (⟨nm,⟨1,lo,hi⟩⟩:T0) n) (Re.ret _ nT)))
  have:=(Re.wordB h1).bindT (T:=fun w l n=>(sWants (str [58]) l n).bind fun _ n=>bif isT (str [105,110,116]) (tk l n) then (sSigned l (n+1)).bind fun lo n=>(sWants (str [46,46]) l n).bind fun _ n=>(sSigned l n).bind fun hi n=>.ok (⟨w,⟨1,lo,hi⟩⟩:T0) n
   else (sWants (str [116,101,120,116]) l n).bind fun _ n=>(sNum l n).bind fun lo n=>(sWants (str [46,46]) l n).bind fun _ n=>(sNum l n).bind fun hi n=>.ok (⟨w,⟨2,lo,hi⟩⟩:T0) n)
   ((Re.wants (isM [58])).bindT (T:=fun _ l n=>bif isT (str [105,110,116]) (tk l n) then (sSigned l (n+1)).bind fun lo n=>(sWants (str [46,46]) l n).bind fun _ n=>(sSigned l n).bind fun hi n=>.ok (⟨nm,⟨1,lo,hi⟩⟩:T0) n
   else (sWants (str [116,101,120,116]) l n).bind fun _ n=>(sNum l n).bind fun lo n=>(sWants (str [46,46]) l n).bind fun _ n=>(sNum l n).bind fun hi n=>.ok (⟨nm,⟨2,lo,hi⟩⟩:T0) n)
    (Re.takeT (isW [105,110,116]) hr))
  exact this.eqT rfl (by simp [tkDig]) rfl
 ·obtain ⟨l0,u0⟩:=h5 rfl
  have e1:tkDig lo=[Nt lo]:=by unfold tkDig;rw [if_neg (by omega)]
  have e2:tkDig hi=[Nt hi]:=by unfold tkDig;rw [if_neg (by omega)]
  have hr:Re (fun l n=>(sWants (str [116,101,120,116]) l n).bind fun _ n=>(sNum l n).bind fun lo n=>(sWants (str [46,46]) l n).bind fun _ n=>(sNum l n).bind fun hi n=>.ok (⟨nm,⟨2,lo,hi⟩⟩:T0) n) ([Wt [116,101,120,116]]++([Nt lo]++([Mt [46,46]]++([Nt hi]++[])))) ⟨nm,⟨2,lo,hi⟩⟩ nT :=
   (Re.wants (isW [116,101,120,116])).bindT (T:=fun _ l n=>(sNum l n).bind fun lo n=>(sWants (str [46,46]) l n).bind fun _ n=>(sNum l n).bind fun hi n=>.ok (⟨nm,⟨2,lo,hi⟩⟩:T0) n)
    ((Re.num lo).bindT (T:=fun lo l n=>(sWants (str [46,46]) l n).bind fun _ n=>(sNum l n).bind fun hi n=>.ok (⟨nm,⟨2,lo,hi⟩⟩:T0) n)
    ((Re.wants (isM [46,46])).bindT (T:=fun _ l n=>(sNum l n).bind fun hi n=>.ok (⟨nm,⟨2,lo,hi⟩⟩:T0) n) ((Re.num hi).bindT (T:=fun hi _ n=>.ok (⟨nm,⟨2,lo,hi⟩⟩:T0) n) (Re.ret _ nT))))
  have:=(Re.wordB h1).bindT (T:=fun w l n=>(sWants (str [58]) l n).bind fun _ n=>bif isT (str [105,110,116]) (tk l n) then (sSigned l (n+1)).bind fun lo n=>(sWants (str [46,46]) l n).bind fun _ n=>(sSigned l n).bind fun hi n=>.ok (⟨w,⟨1,lo,hi⟩⟩:T0) n
   else (sWants (str [116,101,120,116]) l n).bind fun _ n=>(sNum l n).bind fun lo n=>(sWants (str [46,46]) l n).bind fun _ n=>(sNum l n).bind fun hi n=>.ok (⟨w,⟨2,lo,hi⟩⟩:T0) n)
   ((Re.wants (isM [58])).bindT (T:=fun _ l n=>bif isT (str [105,110,116]) (tk l n) then (sSigned l (n+1)).bind fun lo n=>(sWants (str [46,46]) l n).bind fun _ n=>(sSigned l n).bind fun hi n=>.ok (⟨nm,⟨1,lo,hi⟩⟩:T0) n
   else (sWants (str [116,101,120,116]) l n).bind fun _ n=>(sNum l n).bind fun lo n=>(sWants (str [46,46]) l n).bind fun _ n=>(sNum l n).bind fun hi n=>.ok (⟨nm,⟨2,lo,hi⟩⟩:T0) n)
    (Re.takeN (A:=fun l n=>(sSigned l n).bind fun lo n=>(sWants (str [46,46]) l n).bind fun _ n=>(sSigned l n).bind fun hi n=>.ok (⟨nm,⟨1,lo,hi⟩⟩:T0) n) (t:=Wt [116,101,120,116]) hr (by rw [isT_W];rfl)))
  exact this.eqT rfl (by rw [e1,e2];simp) rfl
end Gp
end
section
namespace Gp
open Go Go.Kx Gx
theorem lastDot_none:∀ x:List UInt8,(∀ c∈x,c≠46)→lastDot x=none
 | [],_=>rfl
 | c::x,h=>by
  simp only [lastDot]
  rw [lastDot_none x fun d hd=>h d (List.mem_cons_of_mem _ hd)]
  rw [if_neg (h c (List.mem_cons_self ..))]
theorem lastDot_mid:∀ (x y:List UInt8),(∀ c∈y,c≠46)→lastDot (x++46::y)=some x.length
 | [],y,h=>by
  simp only [List.nil_append,lastDot]
  rw [lastDot_none y h];rfl
 | c::x,y,h=>by
  simp only [List.cons_append,lastDot]
  rw [lastDot_mid x y h];rfl
theorem inn46:innB 46=false:=rfl
theorem name_nodot {x:List UInt8} (h:nameL' x):∀ c∈x,c≠46:=by
 obtain ⟨d,l,rfl,h1,h2,_⟩:=h
 intro c hc e
 subst e
 rcases List.mem_cons.1 hc with e | hc
 ·have:=let_inn h1
  rw [← e,inn46] at this;cases this
 ·have:=h2 _ hc
  rw [inn46] at this;cases this
def baseS (t:T13):ByteArray:=mkB (termB t)
theorem split_base {t:T13} (h2:isWord t.Field=true):splitP (baseS t)=(t.Message,t.Field):=by
 have hn:=name_nodot (word_name h2)
 unfold splitP baseS termB
 rw [bs_mkB]
 cases he:eqStr t.Message (str []) with
 | true =>
  simp only [cT]
  rw [lastDot_none _ hn,mkB_bs,(eqStr_iff _ _).1 he]
 | false =>
  simp only [cF]
  rw [aA,show [46]++bs t.Field=46::bs t.Field from rfl,lastDot_mid _ _ hn]
  simp only []
  rw [List.take_left,show bs t.Message++46::bs t.Field=(bs t.Message++[46])++bs t.Field by simp,show (bs t.Message).length+1=(bs t.Message++[46]).length by simp,List.drop_left,mkB_bs,mkB_bs]
theorem sepK_snoc {γ:Type} (st:Tok) (t:γ→List Tok):∀ (xs:List γ) (y:γ),xs≠[]→sepK [st] ((xs++[y]).map t)=sepK [st] (xs.map t)++([st]++t y)
 | [],y,h=>absurd rfl h
 | x::xs,y,_=>by
  rw [List.cons_append,sepK_map,sepK_map,List.map_append,List.flatten_append]
  simp
theorem joinL_snoc (sep:List UInt8):∀ (xs:List (List UInt8)) (y:List UInt8),xs≠[]→joinL sep (xs++[y])=joinL sep xs++(sep++y)
 | [],y,h=>absurd rfl h
 | x::xs,y,_=>by simp [joinL]
theorem base_rd {t:T13} (h2:isWord t.Field=true) (h3:t.Message=str []∨pathV t.Message=true) {F:Nat} (hF:60≤F):Re (sPath F) (tkBase t) (baseS t) (nN [46]):=by
 unfold tkBase baseS termB
 cases he:eqStr t.Message (str []) with
 | true =>
  simp only [cT]
  have:=parts_rd (ps:=[bs t.Field]) (by simp) (fun p hp=>by rw [List.mem_singleton] at hp;rw [hp,mkB_bs];exact h2) (F:=F) (by simp;omega)
  exact this.eqT rfl (by simp [sepK]) (by simp [joinL])
 | false =>
  simp only [cF]
  have hp:pathV t.Message=true:=h3.resolve_left (fun e=>by rw [(eqStr_iff _ _).2 e] at he;cases he)
  have hne:=splitA_ne (bs t.Message) []
  have:=parts_rd (ps:=splitA [] (bs t.Message)++[bs t.Field]) (by simp) (fun p hp'=>by
   rcases List.mem_append.1 hp' with hp' | hp'
   ·exact pieces_word hp p hp'
   ·rw [List.mem_singleton] at hp';rw [hp',mkB_bs];exact h2) (F:=F) (by have:=pieces_len hp;simp;omega)
  rw [sepK_snoc _ _ _ _ hne,joinL_snoc _ _ _ hne,joinA] at this
  exact this.eqT rfl (by unfold tkPath;simp) (by simp)
def nxT:Tok→Bool:=fun t => !isT (str [46]) t && (!isT (str [43]) t && !isT (str [45]) t)
theorem tail_rd {t:T13} (hs:Small t.N) (k:Int) (hk:k=t.Kind) {s:ByteArray} (hsp:splitP s=(t.Message,t.Field)):Re (sTail k s) (tkTail t) t nxT:=by
 unfold Small at hs
 have ht:(⟨k,(splitP s).1,(splitP s).2,t.N⟩:T13)=t:=by rw [hsp,hk]
 unfold tkTail
 cases h1:decide (t.N > 0) with
 | true =>
  simp only [cT]
  have:=Re.takeT (s:=str [43]) (A:=fun l n=>(sNum l n).bind fun v n=>.ok (⟨k,(splitP s).1,(splitP s).2,v⟩:T13) n)
   (C:=fun l n=>bif isT (str [45]) (tk l n) then (sNum l (n+1)).bind fun v n=>.ok ⟨k,(splitP s).1,(splitP s).2,w64 (0-v)⟩ n else .ok ⟨k,(splitP s).1,(splitP s).2,0⟩ n) (isM [43])
   ((Re.num t.N).bindT (T:=fun v _ n=>.ok (⟨k,(splitP s).1,(splitP s).2,v⟩:T13) n) (Re.ret _ nxT))
  exact this.eqT rfl rfl ht.symm
 | false =>
  rw [decide_eq_false_iff_not] at h1
  simp only [cF]
  cases h2:decide (t.N < 0) with
  | true =>
   rw [decide_eq_true_eq] at h2
   simp only [cT]
   have:=Re.takeN (s:=str [43]) (A:=fun l n=>(sNum l n).bind fun v n=>.ok (⟨k,(splitP s).1,(splitP s).2,v⟩:T13) n)
    (Re.takeT (s:=str [45]) (A:=fun l n=>(sNum l n).bind fun v n=>.ok (⟨k,(splitP s).1,(splitP s).2,w64 (0-v)⟩:T13) n) (C:=fun l n=>.ok ⟨k,(splitP s).1,(splitP s).2,0⟩ n) (isM [45])
     ((Re.num (0-t.N)).bindT (T:=fun v _ n=>.ok (⟨k,(splitP s).1,(splitP s).2,w64 (0-v)⟩:T13) n) (Re.ret _ nxT))) (by rw [isT_M];rfl)
   rw [w64_id (by omega) (by omega),show 0-(0-t.N)=t.N by omega] at this
   exact this.eqT rfl rfl ht.symm
  | false =>
   rw [decide_eq_false_iff_not] at h2
   have h0:t.N=0:=by omega
   have hn:∀ r:List Tok,nxT (hdT r)=true→isT (str [43]) (hdT ([]++r))=false∧isT (str [45]) (hdT ([]++r))=false:=by
    intro r hr
    unfold nxT at hr
    simp only [Bool.and_eq_true,Bool.not_eq_true'] at hr
    exact hr.2
   have:=Re.takeF (s:=str [43]) (A:=fun l n=>(sNum l n).bind fun v n=>.ok (⟨k,(splitP s).1,(splitP s).2,v⟩:T13) n)
    (Re.takeF (s:=str [45]) (A:=fun l n=>(sNum l n).bind fun v n=>.ok (⟨k,(splitP s).1,(splitP s).2,w64 (0-v)⟩:T13) n) (Re.ret (⟨k,(splitP s).1,(splitP s).2,0⟩:T13) nxT) (fun r hr=>(hn r hr).2)) (fun r hr=>(hn r hr).1)
   exact this.eqT rfl rfl (by rw [← h0];exact ht.symm)
theorem nxT_dot {t:Tok} (h:nxT t=true):nN [46] t=true:=by
 unfold nxT at h
 rw [Bool.and_eq_true] at h
 exact h.1
theorem base_hd {t:T13} (h2:isWord t.Field=true) (h3:t.Message=str []∨pathV t.Message=true):∃ x r,tkBase t=Wt x::r∧isWord (mkB x)=true:=by
 unfold tkBase
 cases he:eqStr t.Message (str []) with
 | true=>exact ⟨bs t.Field,[],rfl,by rw [mkB_bs];exact h2⟩
 | false =>
  have hp:pathV t.Message=true:=h3.resolve_left (fun e=>by rw [(eqStr_iff _ _).2 e] at he;cases he)
  cases hs:splitA [] (bs t.Message) with
  | nil=>exact absurd hs (splitA_ne _ _)
  | cons x r =>
   refine ⟨x,(r.map fun p=>[Mt [46]]++[Wt p]).flatten++[Mt [46]]++[Wt (bs t.Field)],?_,pieces_word hp x (by rw [hs];exact List.mem_cons_self ..)⟩
   simp only [cF,tkPath,hs,List.map_cons,sepK,List.cons_append,List.nil_append,List.map_map]
   rfl
theorem word_not' {x:List UInt8} (h:isWord (mkB x)=true) {k:List UInt8} (hk:str k∈keywords):isT (str k) (Wt x)=false:=by
 have:=word_not h hk
 rw [bs_mkB] at this;exact this
theorem word_name' {x:List UInt8} (h:isWord (mkB x)=true):nameL' x:=by
 have:=word_name h
 rw [bs_mkB] at this;exact this
theorem Re.test {α:Type} {P:Tok→Bool} {A C:Pm α} {t:Tok} {ts:List Tok} {x:α} {nx:Tok→Bool} (b:Bool) (hi:P t=b) (h:Re (bif b then A else C) (t::ts) x nx):Re (fun l n=>bif P (tk l n) then A l n else C l n) (t::ts) x nx:=by
 intro l n r hl hr
 have ht:tk l n=t:=by rw [tk_drop,hl];rfl
 show (bif P (tk l n) then A l n else C l n)=_
 rw [ht,hi]
 have:=h l n r hl hr
 cases b<;>exact this
theorem kw_len:str [108,101,110]∈keywords:=by unfold keywords;repeat (first | exact List.mem_cons_self .. | apply List.mem_cons_of_mem)
theorem term_rd {t:T13} (h:TermP t) {F:Nat} (hF:60≤F):Re (sTerm F) (tkTerm t) t nxT:=by
 have hs:=h.1
 unfold tkTerm
 rcases h.2 with ⟨k1,k2,k3⟩ | ⟨hk,k2,k3⟩
 ·rw [show (t.Kind==1)=true by simp [k1],cT]
  have ht:(⟨1,str [],str [],t.N⟩:T13)=t:=by
   obtain ⟨a,b,c,d⟩:=t
   simp only at k1 k2 k3 ⊢
   rw [k1,k2,k3]
  obtain ⟨x,r,hx,hp⟩:∃ x r,tkDig t.N=x::r∧(isT (str [45]) x || x.Kind==2)=true:=by
   unfold tkDig
   by_cases hn:t.N < 0
   ·rw [if_pos hn];exact ⟨_,_,rfl,by rw [isM];rfl⟩
   ·rw [if_neg hn];exact ⟨_,_,rfl,by simp⟩
  have hr:=((Re.signed hs).bindT (T:=fun v _ n=>.ok (⟨1,str [],str [],v⟩:T13) n) (Re.ret _ nxT))
  rw [List.append_nil,hx] at hr
  rw [hx]
  exact (Re.test (P:=fun t=>isT (str [45]) t || t.Kind==2) (A:=fun l n=>(sSigned l n).bind fun v n=>.ok (⟨1,str [],str [],v⟩:T13) n)
   (C:=fun l n=>bif isT (str [108,101,110]) (tk l n) then (sWants (str [40]) l (n+1)).bind fun _ n=>(sPath F l n).bind fun s n=>(sWants (str [41]) l n).bind fun _ n=>sTail 3 s l n else (sPath F l n).bind fun s n=>sTail 2 s l n) true hp hr).eqT rfl rfl ht.symm
 ·rw [show (t.Kind==1)=false by rw [beq_eq_false_iff_ne];omega,cF]
  have hb:=base_rd k2 k3 hF
  obtain ⟨x,r,hx,hxw⟩:=base_hd k2 k3
  have hxn:=word_name' hxw
  have hsp:=split_base k2
  -- what stands behind the path
  have htl:∀ k:Int,k=t.Kind→Re (fun l n=>(sPath F l n).bind fun s n=>sTail k s l n) (tkBase t++tkTail t) t nxT:=fun k hk =>
   hb.bind (T:=fun s l n=>sTail k s l n) (tail_rd hs k hk hsp) (fun r hr=>by
    unfold tkTail
    cases decide (t.N > 0) with
    | true=>show (!isT (str [46]) (Mt [43]))=true;rw [isT_M];rfl
    | false =>
     cases decide (t.N < 0) with
     | true=>show (!isT (str [46]) (Mt [45]))=true;rw [isT_M];rfl
     | false=>exact nxT_dot hr)
  rcases hk with hk | hk
  ·rw [show (t.Kind==3)=false by rw [beq_eq_false_iff_ne];omega,cF]
   have h2:=htl 2 hk.symm
   rw [hx,List.cons_append] at h2 ⊢
   have hlen:isT (str [108,101,110]) (Wt x)=false:=word_not' hxw kw_len
   exact Re.test (P:=fun t=>isT (str [45]) t || t.Kind==2) (A:=fun l n=>(sSigned l n).bind fun v n=>.ok (⟨1,str [],str [],v⟩:T13) n) false (by rw [name_not hxn rfl];rfl)
    (Re.takeN (s:=str [108,101,110]) (A:=fun l n=>(sWants (str [40]) l n).bind fun _ n=>(sPath F l n).bind fun s n=>(sWants (str [41]) l n).bind fun _ n=>sTail 3 s l n) h2 hlen)
  ·rw [show (t.Kind==3)=true by simp [hk],cT]
   have h3:Re (fun l n=>(sWants (str [40]) l n).bind fun _ n=>(sPath F l n).bind fun s n=>(sWants (str [41]) l n).bind fun _ n=>sTail 3 s l n) ([Mt [40]]++(tkBase t++([Mt [41]]++tkTail t))) t nxT :=
    (Re.wants (isM [40])).bindT (T:=fun _ l n=>(sPath F l n).bind fun s n=>(sWants (str [41]) l n).bind fun _ n=>sTail 3 s l n)
     (hb.bindC (T:=fun s l n=>(sWants (str [41]) l n).bind fun _ n=>sTail 3 s l n) ((Re.wants (isM [41])).bindT (T:=fun _ l n=>sTail 3 (baseS t) l n) (tail_rd hs 3 hk.symm hsp)) (by show (!isT (str [46]) (Mt [41]))=true;rw [isT_M];rfl))
   have:=Re.test (P:=fun t=>isT (str [45]) t || t.Kind==2) (A:=fun l n=>(sSigned l n).bind fun v n=>.ok (⟨1,str [],str [],v⟩:T13) n) (t:=Wt [108,101,110]) false (by rw [isT_W];rfl)
    (Re.takeT (s:=str [108,101,110]) (C:=fun l n=>(sPath F l n).bind fun s n=>sTail 2 s l n) (isW [108,101,110]) h3)
   exact this.eqT rfl (by simp) rfl
theorem sgn_rd {s:ByteArray} (h:s∈marksL):Re sMark [Mt (bs s)] s nT:=by
 intro l n r hl _
 unfold sMark
 rw [tk_drop,hl,show hdT ([Mt (bs s)]++r)=Mt (bs s) from rfl]
 have:markT (Mt (bs s))=true:=by
  unfold markT
  show (true && marksL.any fun k=>eqStr k (mkB (bs s)))=true
  rw [mkB_bs,Bool.true_and,List.any_eq_true]
  exact ⟨s,h,eqStr_refl s⟩
 rw [this]
 show Rr.ok (mkB (bs s)) (n+1)=_
 rw [mkB_bs];rfl
theorem mark_nx {s:ByteArray} (h:s∈marksL):nxT (Mt (bs s))=true:=by
 simp only [marksL,List.mem_cons,List.not_mem_nil,or_false] at h
 unfold nxT
 rcases h with h | h | h | h | h<;>subst h<;>(rw [bs_str,isT_M,isT_M,isT_M];rfl)
theorem atom_rd {a:T9} (h:AtomP a) {F:Nat} (hF:60≤F):Re (sAtom F) (tkAtom a) a nxT:=by
 rw [sAtom_eq]
 have:=(term_rd h.1 hF).bindC (T:=fun a l n=>(sMark l n).bind fun tx n=>(sTerm F l n).bind fun b m=>.ok (⟨a,tx,b⟩:T9) m)
  ((sgn_rd h.2.2).bindT (T:=fun tx l n=>(sTerm F l n).bind fun b m=>.ok (⟨a.Left,tx,b⟩:T9) m) ((term_rd h.2.1 hF).bind (T:=fun b _ m=>.ok (⟨a.Left,a.Op,b⟩:T9) m) (Re.ret _ nxT) (fun r hr=>hr))) (mark_nx h.2.2)
 exact this.eqT rfl (by simp [tkAtom]) rfl
theorem where_rd {nm:ByteArray} {fs:List T0} {as':List T9} (h:∀ a∈as',AtomP a) {F:Nat} (hF:60≤F) (hl:as'.length≤F):Re (sWhere F nm fs) (tkWhere as'++[Mt [59]]) ⟨nm,fs,as'⟩ nT:=by
 cases as' with
 | nil =>
  have:=Re.takeN (s:=str [119,104,101,114,101]) (A:=fun l n=>(sAtom F l n).bind fun a n=>(sLoop (str [97,110,100]) (sAtom F) snoc F [a] l n).bind fun as' n=>(sWants (str [59]) l n).bind fun _ n=>.ok (⟨nm,fs,as'⟩:T11) n)
   ((Re.wants (isM [59])).bindT (T:=fun _ _ n=>.ok (⟨nm,fs,[]⟩:T11) n) (Re.ret _ nT)) (by rw [isT_M];rfl)
  exact this
 | cons a l =>
  have hw:∀ t,(nN [97,110,100] t && nxT t)=true→nxT t=true∧isT (str [97,110,100]) t=false:=fun t ht=>by
   rw [Bool.and_eq_true] at ht
   exact ⟨ht.2,by simpa using ht.1⟩
  have hsep:=sep_rd (s:=str [97,110,100]) (p:=sAtom F) (t:=tkAtom) (v:=fun a=>a) (np:=nxT) (nx:=fun t=>nN [97,110,100] t && nxT t) (st:=Wt [97,110,100]) (isW _) (by unfold nxT;rw [isT_W,isT_W,isT_W];rfl) hw a l (F:=F) (fun y hy=>atom_rd (h y hy) hF) (by simp at hl;omega)
  rw [List.map_id'] at hsep
  have hb:=hsep.bindC (T:=fun as' l n=>(sWants (str [59]) l n).bind fun _ n=>.ok (⟨nm,fs,as'⟩:T11) n) ((Re.wants (isM [59])).bindT (T:=fun _ _ n=>.ok (⟨nm,fs,a::l⟩:T11) n) (Re.ret _ nT)) (by show ((!isT (str [97,110,100]) (Mt [59])) && nxT (Mt [59]))=true;unfold nxT;rw [isT_M,isT_M,isT_M,isT_M];rfl)
  have:=Re.takeT (s:=str [119,104,101,114,101]) (A:=fun l n=>((sAtom F l n).bind fun a n=>sLoop (str [97,110,100]) (sAtom F) snoc F [a] l n).bind fun as' n=>(sWants (str [59]) l n).bind fun _ n=>.ok (⟨nm,fs,as'⟩:T11) n)
   (C:=fun l n=>(sWants (str [59]) l n).bind fun _ n=>.ok (⟨nm,fs,[]⟩:T11) n) (isW _) hb
  refine this.eqT ?_ (by simp [tkWhere]) rfl
  funext l n
  unfold sWhere
  rw [rr_assoc]
def tkMsg' (m:T11):List Tok:=tkPath m.Name++[Mt [40]]++sepK [Mt [44]] (m.Fields.map tkFld)++[Mt [41]]++(tkWhere m.Where++[Mt [59]])
theorem tkMsg_eq (m:T11):tkMsg m=[Wt [109,101,115,115,97,103,101]]++tkMsg' m:=by simp [tkMsg,tkMsg']
theorem msg_rd {m:T11} (h:MsgP m) {F:Nat} (hF:60≤F):Re (sMessage F) (tkMsg' m) m nT:=by
 obtain ⟨h1,h2,h3,h4,h5⟩:=h
 have hw:∀ fs,Re (sWhere F m.Name fs) (tkWhere m.Where++[Mt [59]]) ⟨m.Name,fs,m.Where⟩ nT:=fun fs=>where_rd h5 hF (by omega)
 have hin:Re (fun l n=>bif isT (str [41]) (tk l n) then sWhere F m.Name [] l (n+1) else ((sField l n).bind fun f n=>sLoop (str [44]) sField snoc F [f] l n).bind fun fs n=>(sWants (str [41]) l n).bind fun _ n=>sWhere F m.Name fs l n) (sepK [Mt [44]] (m.Fields.map tkFld)++([Mt [41]]++(tkWhere m.Where++[Mt [59]]))) m nT:=by
  cases hf:m.Fields with
  | nil =>
   have:=Re.takeT (s:=str [41]) (C:=fun l n=>((sField l n).bind fun f n=>sLoop (str [44]) sField snoc F [f] l n).bind fun fs n=>(sWants (str [41]) l n).bind fun _ n=>sWhere F m.Name fs l n) (isM [41]) (hw [])
   exact this.eqT rfl (by simp [sepK]) (by rw [← hf])
  | cons f fs =>
   have hsep:=sep_rd (s:=str [44]) (p:=sField) (t:=tkFld) (v:=fun f=>f) (np:=nT) (nx:=nN [44]) (st:=Mt [44]) (isM _) rfl (fun t ht=>⟨rfl,by simpa using ht⟩) f fs (F:=F) (fun y hy=>fld_rd (h4 y (by rw [hf];exact hy))) (by rw [hf] at h2;simp at h2;omega)
   rw [List.map_id'] at hsep
   have hb:=hsep.bindC (T:=fun fs l n=>(sWants (str [41]) l n).bind fun _ n=>sWhere F m.Name fs l n) ((Re.wants (isM [41])).bindT (T:=fun _ l n=>sWhere F m.Name (f::fs) l n) (hw (f::fs))) (by show (!isT (str [44]) (Mt [41]))=true;rw [isT_M];rfl)
   have hx:∃ r,sepK [Mt [44]] ((f::fs).map tkFld)++Mt [41]::(tkWhere m.Where++[Mt [59]])=Wt (bs f.Name)::r:=⟨_,by rw [sepK_map];simp only [tkFld,aA,List.cons_append,List.nil_append];rfl⟩
   obtain ⟨r,hr⟩:=hx
   have hb':Re (fun l n=>((sField l n).bind fun f n=>sLoop (str [44]) sField snoc F [f] l n).bind fun fs n=>(sWants (str [41]) l n).bind fun _ n=>sWhere F m.Name fs l n) (Wt (bs f.Name)::r) ⟨m.Name,f::fs,m.Where⟩ nT:=hb.eqT rfl hr.symm rfl
   have:=Re.takeN (s:=str [41]) (A:=sWhere F m.Name []) hb' (name_not (word_name (h4 f (by rw [hf];exact List.mem_cons_self ..)).1) rfl)
   exact this.eqT rfl hr (by rw [← hf])
 have:=(path_rd h1 (F:=F) (by omega)).bindC (T:=fun nm l n=>(sWants (str [40]) l n).bind fun _ n=>bif isT (str [41]) (tk l n) then sWhere F nm [] l (n+1) else ((sField l n).bind fun f n=>sLoop (str [44]) sField snoc F [f] l n).bind fun fs n=>(sWants (str [41]) l n).bind fun _ n=>sWhere F nm fs l n)
  ((Re.wants (isM [40])).bindT (T:=fun _ l n=>bif isT (str [41]) (tk l n) then sWhere F m.Name [] l (n+1) else ((sField l n).bind fun f n=>sLoop (str [44]) sField snoc F [f] l n).bind fun fs n=>(sWants (str [41]) l n).bind fun _ n=>sWhere F m.Name fs l n) hin) (by show (!isT (str [46]) (Mt [40]))=true;rw [isT_M];rfl)
 refine this.eqT ?_ (by simp [tkMsg']) rfl
 funext l n
 unfold sMessage
 simp only [rr_assoc]
end Gp
end
section
namespace Gp
open Go Go.Kx Gx
theorem kws:str [99,104,111,105,99,101]∈keywords∧str [108,111,111,112]∈keywords∧str [97,103,97,105,110]∈keywords∧str [112,97,114]∈keywords∧str [99,97,108,108]∈keywords∧str [111,114]∈keywords∧str [97,110,100]∈keywords∧str [109,101,115,115,97,103,101]∈keywords:=by
 unfold keywords
 refine ⟨?_,?_,?_,?_,?_,?_,?_,?_⟩<;>repeat (first | exact List.mem_cons_self .. | apply List.mem_cons_of_mem)
def tkB (b:List T10):List Tok:=[Mt [123]]++tkL b++[Mt [125]]
def tkZ (w last:List UInt8):List (List T10)→List Tok
 | []=>[]
 | b::l=>kwT (bif (l.isEmpty && !last.isEmpty) then last else w)++tkB b++tkZ w last l
theorem tkR_false (th:List Tok) (w last:List UInt8):∀ l,tkR false th w last l=Mt [125]::tkZ w last l
 | []=>by simp [tkR,tkZ]
 | b::l=>by
  simp only [tkR,tkZ,tkR_false th w last l,tkHead,cF,tkB]
  simp
theorem tkR_true (th:List Tok) (w last:List UInt8) (b:List T10) (l:List (List T10)):tkR true th w last (b::l)=th++tkB b++tkZ w last l:=by
 simp only [tkR,tkR_false,tkHead,cT,tkB]
 simp
def nxI:Tok→Bool:=fun t => !isT (str [111,114]) t && !isT (str [97,110,100]) t
def nxL:Tok→Bool:=fun t => !begT t && nxI t
theorem list_rd {item:Pm T10}:∀ (xs:List T10) (F:Nat) (acc:List T10),(∀ x∈xs,Re item (tkI x) x nxI∧∃ t r,tkI x=t::r∧begT t=true∧nxI t=true)→xs.length < F→Re (sList item F acc) (tkL xs) (acc++xs) nxL
 | [],F,acc,_,hF=>by
  obtain ⟨F,rfl⟩:∃ m,F=m+1:=⟨F-1,by simp at hF;omega⟩
  intro l n r hl hr
  simp only [tkL,List.nil_append,List.append_nil] at hl ⊢
  simp only [sList]
  rw [tk_drop,hl]
  unfold nxL at hr
  rw [Bool.and_eq_true,Bool.not_eq_true'] at hr
  rw [hr.1];rfl
 | x::xs,F,acc,h,hF=>by
  obtain ⟨F,rfl⟩:∃ m,F=m+1:=⟨F-1,by simp at hF;omega⟩
  obtain ⟨hx,t,r,e1,e2,e3⟩:=h x (List.mem_cons_self ..)
  have ih:=list_rd xs F (snoc acc x) (fun y hy=>h y (List.mem_cons_of_mem _ hy)) (by simp at hF;omega)
  have hb:=hx.bind (T:=fun x l m=>sList item F (snoc acc x) l m) ih (fun r hr=>by
   cases xs with
   | nil=>unfold nxL at hr;rw [Bool.and_eq_true] at hr;exact hr.2
   | cons y ys =>
    obtain ⟨_,t',r',f1,f2,f3⟩:=h y (by simp)
    show nxI (hdT (tkL (y::ys)++r))=true
    simp only [tkL,f1];exact f3)
  rw [e1,List.cons_append] at hb
  have:=Re.test (P:=begT) (A:=fun l n=>(item l n).bind fun x m=>sList item F (snoc acc x) l m) (C:=fun l n=>.ok acc n) true e2 hb
  exact this.eqT rfl (by simp only [tkL,e1];rfl) (by simp [snoc])
theorem close_nx:nxL (Mt [125])=true:=by
 unfold nxL nxI begT
 rw [isT_M,isT_M];rfl
theorem block_rd {items:Pm (List T10)} {b:List T10} (h:Re items (tkL b) b nxL):Re (sBlock items) (tkB b) b nT:=by
 have:=(Re.wants (isM [123])).bindT (T:=fun _ l n=>(items l n).bind fun x n=>(sWants (str [125]) l n).bind fun _ n=>.ok x n)
  (h.bindC (T:=fun x l n=>(sWants (str [125]) l n).bind fun _ n=>.ok x n) ((Re.wants (isM [125])).bindT (T:=fun _ _ n=>.ok b n) (Re.ret _ nT)) close_nx)
 exact this.eqT rfl (by simp [tkB]) rfl
theorem tkZ_map {w:List UInt8} (hw:w≠[]):∀ l:List (List T10),tkZ w [] l=(l.map fun b=>[Wt w]++tkB b).flatten
 | []=>rfl
 | b::l=>by
  have hk:kwT w=[Wt w]:=by cases w with | nil=>exact absurd rfl hw | cons c r=>rfl
  simp only [tkZ,List.isEmpty_nil,Bool.not_true,Bool.and_false,cF,hk,tkZ_map hw l,List.map_cons,List.flatten_cons]
theorem tkZ_last {w last:List UInt8} (hw:w≠[]) (hl:last≠[]):∀ (l:List (List T10)) (b:List T10),tkZ w last (l++[b])=(l.map fun b=>[Wt w]++tkB b).flatten++([Wt last]++tkB b)
 | [],b=>by
  have hk:kwT last=[Wt last]:=by cases last with | nil=>exact absurd rfl hl | cons c r=>rfl
  have he:last.isEmpty=false:=by cases last with | nil=>exact absurd rfl hl | cons c r=>rfl
  simp [tkZ,he,hk]
 | x::l,b=>by
  have hk:kwT w=[Wt w]:=by cases w with | nil=>exact absurd rfl hw | cons c r=>rfl
  have he:(l++[b]).isEmpty=false:=by cases l<;>rfl
  simp only [List.cons_append,tkZ,he,Bool.false_and,cF,hk,tkZ_last hw hl l b,List.map_cons,List.flatten_cons,aA]
theorem foldl_snoc' {α:Type} (xs acc:List α):xs.foldl (fun a x=>snoc a x) acc=acc++xs:=by
 have:=foldl_snoc (fun x:α=>x) xs acc
 rw [List.map_id'] at this;exact this
theorem branches_rd {block:Pm (List T10)} {b:List T10} {l:List (List T10)} (hb:∀ y∈b::l,Re block (tkB y) y nT) {who:ByteArray} {t:Int} {F:Nat} (hF:l.length < F) (ht:¬ t > 0) :
  Re (sBranches F block who t) (tkB b++tkZ orT [] l) ⟨2,who,[],str [],str [],t,b::l⟩ nxI:=by
 have hl:=loop_rd (s:=str [111,114]) (p:=block) (upd:=snoc) (t:=tkB) (v:=fun y=>y) (np:=nT) (nx:=nxI) (st:=Wt orT) (isW _) rfl (fun t ht=>⟨rfl,by unfold nxI at ht;rw [Bool.and_eq_true,Bool.not_eq_true'] at ht;exact ht.1⟩) l F [b] (fun y hy=>hb y (List.mem_cons_of_mem _ hy)) hF
 rw [foldl_snoc'] at hl
 have he:Re (sElse block who t ([b]++l)) [] ⟨2,who,[],str [],str [],t,b::l⟩ nxI:=by
  intro l' n r _ _
  unfold sElse
  rw [dF ht];rfl
 have:=(hb b (List.mem_cons_self ..)).bindT (T:=fun b l n=>(sLoop (str [111,114]) block snoc F [b] l n).bind fun bl n=>sElse block who t bl l n)
  (hl.bind (T:=fun bl l n=>sElse block who t bl l n) he (fun r hr=>hr))
 exact this.eqT rfl (by rw [tkZ_map (by simp)];simp) rfl
theorem branches_rd' {block:Pm (List T10)} {b c:List T10} {l:List (List T10)} (hb:∀ y∈b::(l++[c]),Re block (tkB y) y nT) {who:ByteArray} {t:Int} {F:Nat} (hF:l.length < F) (ht:t > 0) :
  Re (sBranches F block who t) (tkB b++tkZ orT elseT (l++[c])) ⟨2,who,[],str [],str [],t,b::(l++[c])⟩ nT:=by
 have hl:=loop_rd (s:=str [111,114]) (p:=block) (upd:=snoc) (t:=tkB) (v:=fun y=>y) (np:=nT) (nx:=nN [111,114]) (st:=Wt orT) (isW _) rfl (fun t ht=>⟨rfl,by simpa using ht⟩) l F [b] (fun y hy=>hb y (by
  rcases List.mem_cons.1 (List.mem_cons_of_mem b hy) with h | h
  ·rw [h];exact List.mem_cons_self ..
  ·exact List.mem_cons_of_mem _ (List.mem_append_left _ h))) hF
 rw [foldl_snoc'] at hl
 have he:Re (sElse block who t ([b]++l)) ([Wt elseT]++(tkB c++[])) ⟨2,who,[],str [],str [],t,b::(l++[c])⟩ nT:=by
  have:=(Re.wants (isW elseT)).bindT (T:=fun _ l' n=>(block l' n).bind fun c n=>.ok (⟨2,who,[],str [],str [],t,snoc ([b]++l) c⟩:T10) n)
   ((hb c (by simp)).bindT (T:=fun c _ n=>.ok (⟨2,who,[],str [],str [],t,snoc ([b]++l) c⟩:T10) n) (Re.ret _ nT))
  refine this.eqT ?_ rfl (by simp [snoc])
  funext l' n
  unfold sElse
  rw [dT ht];rfl
 have:=(hb b (List.mem_cons_self ..)).bindT (T:=fun b l n=>(sLoop (str [111,114]) block snoc F [b] l n).bind fun bl n=>sElse block who t bl l n)
  (hl.bindC (T:=fun bl l n=>sElse block who t bl l n) he (by show (!isT (str [111,114]) (Wt elseT))=true;rw [isT_W];rfl))
 exact this.eqT rfl (by rw [tkZ_last (by simp) (by simp)];simp) rfl
theorem ticks_rd {x:Int} (h0:1≤x) (h1:x≤1000):Re sTicks [Nt x] x nT:=by
 intro l n r hl hr
 unfold sTicks
 have ht:tk l n=Nt x:=by rw [tk_drop,hl];rfl
 have:((tk l n).Kind==2 && (decide ((tk l n).Value < 1) || decide ((tk l n).Value > 1000)))=false:=by
  rw [ht]
  show (true && (decide (x < 1) || decide (x > 1000)))=false
  rw [dF (by omega),dF (by omega)];rfl
 rw [this,cF]
 exact Re.num x l n r hl hr
theorem tkB_hd (b:List T10):∃ r,tkB b=Mt [123]::r:=⟨tkL b++[Mt [125]],by simp [tkB]⟩
theorem item_rd {F:Nat} {block:Pm (List T10)} (x:T10) (hP:ShP x) (hb:∀ y∈x.Blocks,Re block (tkB y) y nT) (hF:60≤F):Re (sItem F block) (tkI x) x nxI∧∃ t r,tkI x=t::r∧begT t=true∧nxI t=true:=by
 obtain ⟨kd,f,t,n,a,z,b⟩:=x
 unfold ShP at hP
 simp only at hP hb
 obtain ⟨k1,k2,k3,k4,k5,k6,k7,k8⟩:=kws
 have kwB:∀ k:List UInt8,(starters.any fun s=>eqStr s (mkB k))=true→nxI (Wt k)=true→begT (Wt k)=true∧nxI (Wt k)=true:=fun k h1 h2=>⟨by unfold begT;simp [h1],h2⟩
 have hst:∀ k:List UInt8,str k∈starters→(starters.any fun s=>eqStr s (mkB k))=true:=fun k h=>List.any_eq_true.2 ⟨str k,h,eqStr_refl _⟩
 have hnx:∀ k:List UInt8,(k==[111,114])=false→(k==[97,110,100])=false→nxI (Wt k)=true:=fun k h1 h2=>by unfold nxI;rw [isT_W,isT_W,h1,h2];rfl
 -- the tests of an item's first word
 have T1:∀ {ts:List Tok} {x:T10} {nx:Tok→Bool},Re (sChoice F block) ts x nx→Re (sItem F block) (Wt [99,104,111,105,99,101]::ts) x nx:=fun h=>Re.takeT (s:=str [99,104,111,105,99,101]) (isW _) h
 rcases hP with hP | hP | hP | hP | hP | hP
 ·-- a message
  obtain ⟨rfl,h1,h2,h3,rfl,rfl,h5⟩:=hP
  have hbn:b=[]:=List.length_eq_zero_iff.1 h5
  subst hbn
  have hw:=word_name h1
  have e:tkI ⟨1,f,t,n,str [],0,[]⟩=Wt (bs f)::([Mt [45,62]]++tkWords t++[Mt [58]]++tkPath n++[Mt [59]]):=by simp [tkI,tkSend]
  have hs:Re (sSend F) (Wt (bs f)::([Mt [45,62]]++tkWords t++[Mt [58]]++tkPath n++[Mt [59]])) ⟨1,f,t,n,str [],0,[]⟩ nT:=by
   have:=(Re.wordB h1).bindT (T:=fun f l n=>(sWants (str [45,62]) l n).bind fun _ n=>(sWords F l n).bind fun t n=>(sWants (str [58]) l n).bind fun _ n=>(sPath F l n).bind fun nm n=>(sWants (str [59]) l n).bind fun _ n=>.ok (⟨1,f,t,nm,str [],0,[]⟩:T10) n)
    ((Re.wants (isM [45,62])).bindT (T:=fun _ l n=>(sWords F l n).bind fun t n=>(sWants (str [58]) l n).bind fun _ n=>(sPath F l n).bind fun nm n=>(sWants (str [59]) l n).bind fun _ n=>.ok (⟨1,f,t,nm,str [],0,[]⟩:T10) n)
    ((words_rd h2 (F:=F) (by have:=h2.2.1;omega)).bindC (T:=fun t l n=>(sWants (str [58]) l n).bind fun _ n=>(sPath F l n).bind fun nm n=>(sWants (str [59]) l n).bind fun _ n=>.ok (⟨1,f,t,nm,str [],0,[]⟩:T10) n)
    ((Re.wants (isM [58])).bindT (T:=fun _ l n=>(sPath F l n).bind fun nm n=>(sWants (str [59]) l n).bind fun _ n=>.ok (⟨1,f,t,nm,str [],0,[]⟩:T10) n)
    ((path_rd h3 (F:=F) (by omega)).bindC (T:=fun nm l n=>(sWants (str [59]) l n).bind fun _ n=>.ok (⟨1,f,t,nm,str [],0,[]⟩:T10) n)
    ((Re.wants (isM [59])).bindT (T:=fun _ _ m=>.ok (⟨1,f,t,n,str [],0,[]⟩:T10) m) (Re.ret _ nT)) (by show (!isT (str [46]) (Mt [59]))=true;rw [isT_M];rfl))) (by show (!isT (str [44]) (Mt [58]))=true;rw [isT_M];rfl)))
   exact this.eqT rfl (by simp) rfl
  refine ⟨?_,Wt (bs f),_,e,?_,?_⟩
  ·rw [e]
   have h0:=Re.takeN (s:=str [99,104,111,105,99,101]) (A:=sChoice F block) (Re.takeN (s:=str [108,111,111,112]) (A:=fun l n=>(sPath F l n).bind fun nm n=>(block l n).bind fun b n=>.ok (⟨3,str [],[],nm,str [],0,[b]⟩:T10) n)
    (Re.takeN (s:=str [97,103,97,105,110]) (A:=fun l n=>(sPath F l n).bind fun nm n=>(sWants (str [59]) l n).bind fun _ n=>.ok (⟨4,str [],[],nm,str [],0,[]⟩:T10) n)
    (Re.takeN (s:=str [112,97,114]) (A:=fun l n=>(block l n).bind fun b n=>(sWants (str [97,110,100]) l n).bind fun _ n=>(block l n).bind fun c n=>(sLoop (str [97,110,100]) block snoc F [b,c] l n).bind fun bl n=>.ok (⟨5,str [],[],str [],str [],0,bl⟩:T10) n)
    (Re.takeN (s:=str [99,97,108,108]) (A:=sCall F) hs (word_not h1 k5)) (word_not h1 k4)) (word_not h1 k3)) (word_not h1 k2)) (word_not h1 k1)
   exact (h0:Re (sItem F block) _ _ nT).weak fun _ _=>rfl
  ·unfold begT
   rw [show isWord (Wt (bs f)).Text=true by show isWord (mkB (bs f))=true;rw [mkB_bs];exact h1];rfl
  ·unfold nxI
   rw [word_not h1 k6,word_not h1 k7];rfl
 ·-- a choice
  obtain ⟨rfl,h1,h2,rfl,rfl,h3,h4,h5,h6⟩:=hP
  have htn:t=[]:=List.length_eq_zero_iff.1 h2
  subst htn
  obtain ⟨b0,l,hbl⟩:∃ b0 l,b=b0::l:=by
   cases b with
   | nil=>simp at h5;omega
   | cons b0 l=>exact ⟨b0,l,rfl⟩
  subst hbl
  have hF':l.length < F:=by simp at h6;omega
  obtain ⟨rb,hrb⟩:=tkB_hd b0
  have hx:nxI (Wt [99,104,111,105,99,101])=true:=hnx _ rfl rfl
  have hbg:=kwB [99,104,111,105,99,101] (hst _ (by unfold starters;exact List.mem_cons_self ..)) hx
  by_cases hz:z > 0
  ·-- with a time limit
   obtain ⟨l',c,rfl⟩:∃ l' c,l=l'++[c]:=by
    rcases List.eq_nil_or_concat l with rfl | ⟨l',c,rfl⟩
    ·simp at h5;omega
    ·exact ⟨l',c,by rw [List.concat_eq_append]⟩
   have e:tkI ⟨2,f,[],str [],str [],z,b0::(l'++[c])⟩=Wt [99,104,111,105,99,101]::([Wt [97,116]]++([Wt (bs f)]++(Wt [119,105,116,104,105,110]::([Nt z]++(tkB b0++tkZ orT elseT (l'++[c])))))):=by
    simp only [tkI]
    show (bif decide (z > 0) then tkR true (tkWithin f z) orT elseT (b0::(l'++[c])) else _)=_
    rw [dT hz,cT,tkR_true]
    simp [tkWithin,tkChoice]
   refine ⟨?_,_,_,e,hbg.1,hbg.2⟩
   rw [e]
   have hbr:=branches_rd' (block:=block) (b:=b0) (c:=c) (l:=l') hb (who:=f) (t:=z) (F:=F) (by simp at hF';omega) hz
   have:=(Re.wants (isW [97,116])).bindT (T:=fun _ l n=>(sWord l n).bind fun who n=>bif isT (str [119,105,116,104,105,110]) (tk l n) then (sTicks l (n+1)).bind fun t n=>sBranches F block who t l n else sBranches F block who 0 l n)
    ((Re.wordB h1).bindT (T:=fun who l n=>bif isT (str [119,105,116,104,105,110]) (tk l n) then (sTicks l (n+1)).bind fun t n=>sBranches F block who t l n else sBranches F block who 0 l n)
    (Re.takeT (s:=str [119,105,116,104,105,110]) (A:=fun l n=>(sTicks l n).bind fun t n=>sBranches F block f t l n) (C:=sBranches F block f 0) (isW _) ((ticks_rd (by omega) h4).bindT (T:=fun t l n=>sBranches F block f t l n) hbr)))
   exact (T1 this).weak fun _ _=>rfl
  ·have hz0:z=0:=by omega
   subst hz0
   have e:tkI ⟨2,f,[],str [],str [],0,b0::l⟩=Wt [99,104,111,105,99,101]::([Wt [97,116]]++([Wt (bs f)]++(Mt [123]::(rb++tkZ orT [] l)))):=by
    simp only [tkI]
    show tkR true (tkChoice f) orT [] (b0::l)=_
    rw [tkR_true,hrb]
    simp [tkChoice]
   refine ⟨?_,_,_,e,hbg.1,hbg.2⟩
   rw [e]
   have hbr:=branches_rd (block:=block) (b:=b0) (l:=l) hb (who:=f) (t:=0) (F:=F) hF' hz
   rw [hrb,List.cons_append] at hbr
   have:=(Re.wants (isW [97,116])).bindT (T:=fun _ l n=>(sWord l n).bind fun who n=>bif isT (str [119,105,116,104,105,110]) (tk l n) then (sTicks l (n+1)).bind fun t n=>sBranches F block who t l n else sBranches F block who 0 l n)
    ((Re.wordB h1).bindT (T:=fun who l n=>bif isT (str [119,105,116,104,105,110]) (tk l n) then (sTicks l (n+1)).bind fun t n=>sBranches F block who t l n else sBranches F block who 0 l n)
    (Re.takeN (s:=str [119,105,116,104,105,110]) (A:=fun l n=>(sTicks l n).bind fun t n=>sBranches F block f t l n) hbr (by rw [isT_M];rfl)))
   exact T1 this
 ·-- a loop
  obtain ⟨rfl,rfl,h2,h3,rfl,rfl,h5⟩:=hP
  have htn:t=[]:=List.length_eq_zero_iff.1 h2
  subst htn
  obtain ⟨b0,hbl⟩:∃ b0,b=[b0]:=List.length_eq_one_iff.1 h5
  subst hbl
  obtain ⟨rb,hrb⟩:=tkB_hd b0
  have hx:nxI (Wt [108,111,111,112])=true:=hnx _ rfl rfl
  have hbg:=kwB [108,111,111,112] (hst _ (by unfold starters;repeat (first | exact List.mem_cons_self .. | apply List.mem_cons_of_mem))) hx
  have e:tkI ⟨3,str [],[],n,str [],0,[b0]⟩=Wt [108,111,111,112]::(tkPath n++(Mt [123]::(rb++[]))):=by
   simp only [tkI]
   show tkR true (tkLoop n) [] [] [b0]=_
   rw [tkR_true,hrb]
   simp [tkLoop,tkZ]
  refine ⟨?_,_,_,e,hbg.1,hbg.2⟩
  rw [e]
  have hbb:=(hb b0 (List.mem_cons_self ..)).bindT (T:=fun b _ m=>.ok (⟨3,str [],[],n,str [],0,[b]⟩:T10) m) (Re.ret _ nT)
  rw [hrb,List.cons_append] at hbb
  have:=Re.takeT (s:=str [108,111,111,112]) (A:=fun l n=>(sPath F l n).bind fun nm n=>(block l n).bind fun b n=>.ok (⟨3,str [],[],nm,str [],0,[b]⟩:T10) n)
   (C:=fun l n=>bif isT (str [97,103,97,105,110]) (tk l n) then (sPath F l (n+1)).bind fun nm n=>(sWants (str [59]) l n).bind fun _ n=>.ok ⟨4,str [],[],nm,str [],0,[]⟩ n
    else bif isT (str [112,97,114]) (tk l n) then (block l (n+1)).bind fun b n=>(sWants (str [97,110,100]) l n).bind fun _ n=>(block l n).bind fun c n=>(sLoop (str [97,110,100]) block snoc F [b,c] l n).bind fun bl n=>.ok ⟨5,str [],[],str [],str [],0,bl⟩ n
    else bif isT (str [99,97,108,108]) (tk l n) then sCall F l (n+1) else sSend F l n) (isW [108,111,111,112])
   ((path_rd h3 (F:=F) (by omega)).bindC (T:=fun nm l n=>(block l n).bind fun b n=>.ok (⟨3,str [],[],nm,str [],0,[b]⟩:T10) n) hbb (by show (!isT (str [46]) (Mt [123]))=true;rw [isT_M];rfl))
  have:=Re.takeN (s:=str [99,104,111,105,99,101]) (A:=sChoice F block) this (by rw [isT_W];rfl)
  exact (this:Re (sItem F block) _ _ nT).weak fun _ _=>rfl
 ·-- again
  obtain ⟨rfl,rfl,h2,h3,rfl,rfl,h5⟩:=hP
  have htn:t=[]:=List.length_eq_zero_iff.1 h2
  subst htn
  have hbn:b=[]:=List.length_eq_zero_iff.1 h5
  subst hbn
  have hx:nxI (Wt [97,103,97,105,110])=true:=hnx _ rfl rfl
  have hbg:=kwB [97,103,97,105,110] (hst _ (by unfold starters;repeat (first | exact List.mem_cons_self .. | apply List.mem_cons_of_mem))) hx
  have e:tkI ⟨4,str [],[],n,str [],0,[]⟩=Wt [97,103,97,105,110]::(tkPath n++([Mt [59]]++[])):=by simp [tkI,tkAgain]
  refine ⟨?_,_,_,e,hbg.1,hbg.2⟩
  rw [e]
  have:=Re.takeT (s:=str [97,103,97,105,110]) (A:=fun l n=>(sPath F l n).bind fun nm n=>(sWants (str [59]) l n).bind fun _ n=>.ok (⟨4,str [],[],nm,str [],0,[]⟩:T10) n)
   (C:=fun l n=>bif isT (str [112,97,114]) (tk l n) then (block l (n+1)).bind fun b n=>(sWants (str [97,110,100]) l n).bind fun _ n=>(block l n).bind fun c n=>(sLoop (str [97,110,100]) block snoc F [b,c] l n).bind fun bl n=>.ok ⟨5,str [],[],str [],str [],0,bl⟩ n
    else bif isT (str [99,97,108,108]) (tk l n) then sCall F l (n+1) else sSend F l n) (isW [97,103,97,105,110])
   ((path_rd h3 (F:=F) (by omega)).bindC (T:=fun nm l n=>(sWants (str [59]) l n).bind fun _ n=>.ok (⟨4,str [],[],nm,str [],0,[]⟩:T10) n) ((Re.wants (isM [59])).bindT (T:=fun _ _ m=>.ok (⟨4,str [],[],n,str [],0,[]⟩:T10) m) (Re.ret _ nT)) (by show (!isT (str [46]) (Mt [59]))=true;rw [isT_M];rfl))
  have:=Re.takeN (s:=str [99,104,111,105,99,101]) (A:=sChoice F block) (Re.takeN (s:=str [108,111,111,112]) (A:=fun l n=>(sPath F l n).bind fun nm n=>(block l n).bind fun b n=>.ok (⟨3,str [],[],nm,str [],0,[b]⟩:T10) n) this (by rw [isT_W];rfl)) (by rw [isT_W];rfl)
  exact (this:Re (sItem F block) _ _ nT).weak fun _ _=>rfl
 ·-- branches side by side
  obtain ⟨rfl,rfl,h2,rfl,rfl,rfl,h5,h6⟩:=hP
  have htn:t=[]:=List.length_eq_zero_iff.1 h2
  subst htn
  obtain ⟨b0,b1,l,hbl⟩:∃ b0 b1 l,b=b0::b1::l:=by
   cases b with
   | nil=>simp at h5
   | cons b0 l=>cases l with
    | nil=>simp at h5
    | cons b1 l=>exact ⟨b0,b1,l,rfl⟩
  subst hbl
  have hx:nxI (Wt parT)=true:=hnx _ rfl rfl
  have hbg:=kwB parT (hst _ (by unfold starters;repeat (first | exact List.mem_cons_self .. | apply List.mem_cons_of_mem))) hx
  have e:tkI ⟨5,str [],[],str [],str [],0,b0::b1::l⟩=Wt parT::(tkB b0++([Wt andT]++(tkB b1++((l.map fun b=>[Wt andT]++tkB b).flatten++[])))):=by
   simp only [tkI]
   show tkR true [Wt parT] andT [] (b0::b1::l)=_
   rw [tkR_true,tkZ_map (by simp)]
   simp
  refine ⟨?_,_,_,e,hbg.1,hbg.2⟩
  rw [e]
  have hl:=loop_rd (s:=str [97,110,100]) (p:=block) (upd:=snoc) (t:=tkB) (v:=fun y=>y) (np:=nT) (nx:=nxI) (st:=Wt andT) (isW _) rfl (fun t ht=>⟨rfl,by unfold nxI at ht;rw [Bool.and_eq_true,Bool.not_eq_true',Bool.not_eq_true'] at ht;exact ht.2⟩) l F [b0,b1] (fun y hy=>hb y (by simp [hy])) (by simp at h6;omega)
  rw [foldl_snoc'] at hl
  have:=Re.takeT (s:=str [112,97,114]) (A:=fun l n=>(block l n).bind fun b n=>(sWants (str [97,110,100]) l n).bind fun _ n=>(block l n).bind fun c n=>(sLoop (str [97,110,100]) block snoc F [b,c] l n).bind fun bl n=>.ok (⟨5,str [],[],str [],str [],0,bl⟩:T10) n)
   (C:=fun l n=>bif isT (str [99,97,108,108]) (tk l n) then sCall F l (n+1) else sSend F l n) (isW [112,97,114])
   ((hb b0 (by simp)).bindT (T:=fun b l n=>(sWants (str [97,110,100]) l n).bind fun _ n=>(block l n).bind fun c n=>(sLoop (str [97,110,100]) block snoc F [b,c] l n).bind fun bl n=>.ok (⟨5,str [],[],str [],str [],0,bl⟩:T10) n)
   ((Re.wants (isW [97,110,100])).bindT (T:=fun _ l n=>(block l n).bind fun c n=>(sLoop (str [97,110,100]) block snoc F [b0,c] l n).bind fun bl n=>.ok (⟨5,str [],[],str [],str [],0,bl⟩:T10) n)
   ((hb b1 (by simp)).bindT (T:=fun c l n=>(sLoop (str [97,110,100]) block snoc F [b0,c] l n).bind fun bl n=>.ok (⟨5,str [],[],str [],str [],0,bl⟩:T10) n)
   (hl.bind (T:=fun bl _ n=>.ok (⟨5,str [],[],str [],str [],0,bl⟩:T10) n) (Re.ret _ nxI) (fun r hr=>hr)))))
  exact Re.takeN (s:=str [99,104,111,105,99,101]) (A:=sChoice F block) (Re.takeN (s:=str [108,111,111,112]) (A:=fun l n=>(sPath F l n).bind fun nm n=>(block l n).bind fun b n=>.ok (⟨3,str [],[],nm,str [],0,[b]⟩:T10) n)
   (Re.takeN (s:=str [97,103,97,105,110]) (A:=fun l n=>(sPath F l n).bind fun nm n=>(sWants (str [59]) l n).bind fun _ n=>.ok (⟨4,str [],[],nm,str [],0,[]⟩:T10) n) this (by rw [isT_W];rfl)) (by rw [isT_W];rfl)) (by rw [isT_W];rfl)
 ·-- a call
  obtain ⟨rfl,rfl,h2,h3,h4,rfl,h5⟩:=hP
  have hbn:b=[]:=List.length_eq_zero_iff.1 h5
  subst hbn
  have hx:nxI (Wt [99,97,108,108])=true:=hnx _ rfl rfl
  have hbg:=kwB [99,97,108,108] (hst _ (by unfold starters;repeat (first | exact List.mem_cons_self .. | apply List.mem_cons_of_mem))) hx
  have e:tkI ⟨6,str [],t,n,a,0,[]⟩=Wt [99,97,108,108]::([Wt (bs n)]++([Mt [40]]++(tkWords t++(Mt [41]::([Wt [97,115]]++([Wt (bs a)]++([Mt [59]]++[]))))))):=by simp [tkI,tkCall]
  refine ⟨?_,_,_,e,hbg.1,hbg.2⟩
  rw [e]
  have hc:=(Re.wordB h3).bindT (T:=fun nm l n=>(sWants (str [40]) l n).bind fun _ n=>(sWords F l n).bind fun t n=>(sWants (str [41]) l n).bind fun _ n=>(sWants (str [97,115]) l n).bind fun _ n=>(sWord l n).bind fun a n=>(sWants (str [59]) l n).bind fun _ n=>.ok (⟨6,str [],t,nm,a,0,[]⟩:T10) n)
   ((Re.wants (isM [40])).bindT (T:=fun _ l m=>(sWords F l m).bind fun t m=>(sWants (str [41]) l m).bind fun _ m=>(sWants (str [97,115]) l m).bind fun _ m=>(sWord l m).bind fun a m=>(sWants (str [59]) l m).bind fun _ m=>.ok (⟨6,str [],t,n,a,0,[]⟩:T10) m)
   ((words_rd h2 (F:=F) (by have:=h2.2.1;omega)).bindC (T:=fun t l m=>(sWants (str [41]) l m).bind fun _ m=>(sWants (str [97,115]) l m).bind fun _ m=>(sWord l m).bind fun a m=>(sWants (str [59]) l m).bind fun _ m=>.ok (⟨6,str [],t,n,a,0,[]⟩:T10) m)
   ((Re.wants (isM [41])).bindT (T:=fun _ l m=>(sWants (str [97,115]) l m).bind fun _ m=>(sWord l m).bind fun a m=>(sWants (str [59]) l m).bind fun _ m=>.ok (⟨6,str [],t,n,a,0,[]⟩:T10) m)
   ((Re.wants (isW [97,115])).bindT (T:=fun _ l m=>(sWord l m).bind fun a m=>(sWants (str [59]) l m).bind fun _ m=>.ok (⟨6,str [],t,n,a,0,[]⟩:T10) m)
   ((Re.wordB h4).bindT (T:=fun a l m=>(sWants (str [59]) l m).bind fun _ m=>.ok (⟨6,str [],t,n,a,0,[]⟩:T10) m)
   ((Re.wants (isM [59])).bindT (T:=fun _ _ m=>.ok (⟨6,str [],t,n,a,0,[]⟩:T10) m) (Re.ret _ nT))))) (by show (!isT (str [44]) (Mt [41]))=true;rw [isT_M];rfl)))
  have:=Re.takeT (s:=str [99,97,108,108]) (A:=sCall F) (C:=sSend F) (isW [99,97,108,108]) hc
  have:=Re.takeN (s:=str [99,104,111,105,99,101]) (A:=sChoice F block) (Re.takeN (s:=str [108,111,111,112]) (A:=fun l n=>(sPath F l n).bind fun nm n=>(block l n).bind fun b n=>.ok (⟨3,str [],[],nm,str [],0,[b]⟩:T10) n)
   (Re.takeN (s:=str [97,103,97,105,110]) (A:=fun l n=>(sPath F l n).bind fun nm n=>(sWants (str [59]) l n).bind fun _ n=>.ok (⟨4,str [],[],nm,str [],0,[]⟩:T10) n)
   (Re.takeN (s:=str [112,97,114]) (A:=fun l n=>(block l n).bind fun b n=>(sWants (str [97,110,100]) l n).bind fun _ n=>(block l n).bind fun c n=>(sLoop (str [97,110,100]) block snoc F [b,c] l n).bind fun bl n=>.ok (⟨5,str [],[],str [],str [],0,bl⟩:T10) n) this (by rw [isT_W];rfl)) (by rw [isT_W];rfl)) (by rw [isT_W];rfl)) (by rw [isT_W];rfl)
  exact (this:Re (sItem F block) _ _ nT).weak fun _ _=>rfl
end Gp
end
section
namespace Gp
open Go Go.Kx Gx
theorem zL_in:∀ {l:List T10} {x},x∈l→zI x≤zL l
 | y::l,x,h=>by
  simp only [zL]
  rcases List.mem_cons.1 h with rfl | h
  ·omega
  ·have:=zL_in h;omega
theorem zLL_in:∀ {l:List (List T10)} {x},x∈l→zL x+1≤zLL l
 | y::l,x,h=>by
  simp only [zLL]
  rcases List.mem_cons.1 h with rfl | h
  ·omega
  ·have:=zLL_in h;omega
theorem zI_eq (x:T10):zI x=x.To.length+pz x.Name+zLL x.Blocks+1:=by cases x;simp only [zI]
mutual
theorem zb_I:∀ x,shI x→zI x≤17 * cI x
 | ⟨kd,f,t,n,a,x,b⟩,hs=>by
  simp only [shI] at hs
  obtain ⟨hP,hsb⟩:=hs
  have h1:=zb_LL b hsb
  have h2:t.length≤6∧n.size≤50∧b.length≤8:=by
   unfold ShP at hP
   simp only at hP
   rcases hP with hP | hP | hP | hP | hP | hP
   ·have:=path_len hP.2.2.2.1;have:=hP.2.2.1.2.1;rw [size_bs];omega
   ·rw [hP.2.2.2.1];exact ⟨by omega,by decide,by omega⟩
   ·have:=path_len hP.2.2.2.1;rw [size_bs];omega
   ·have:=path_len hP.2.2.2.1;rw [size_bs];omega
   ·rw [hP.2.2.2.1];exact ⟨by omega,by decide,by omega⟩
   ·have:=word_len hP.2.2.2.1;have:=hP.2.2.1.2.1;rw [size_bs];omega
  simp only [zI,cI,pz]
  omega
theorem zb_L:∀ l,shL l→zL l≤17 * cL l
 | [],_=>by simp [zL,cL]
 | x::l,hs=>by
  simp only [shL] at hs
  have:=zb_I x hs.1;have:=zb_L l hs.2
  simp only [zL,cL];omega
theorem zb_LL:∀ l,shLL l→zLL l≤l.length+17 * cLL l
 | [],_=>by simp [zLL,cLL]
 | x::l,hs=>by
  simp only [shLL] at hs
  have:=zb_L x hs.1;have:=zb_LL l hs.2
  simp only [zLL,cLL,List.length_cons];omega
end
theorem items_rd:∀ (F:Nat) (xs:List T10),shL xs→zL xs+102≤F→Re (sItems F) (tkL xs) xs nxL
 | 0,xs,_,h=>by omega
 | F+1,xs,hs,h=>by
  have hl:=zL_len xs
  have:=list_rd (item:=sItem F (sBlock (sItems F))) xs F [] (fun x hx=>by
   have hsx:=shL_mem hs hx
   rw [shI_eq] at hsx
   have hz:=zL_in hx
   rw [zI_eq] at hz
   exact item_rd x hsx.1 (fun y hy=>block_rd (items_rd F y (shLL_mem hsx.2 hy) (by have:=zLL_in hy;omega))) (by omega)) (by omega)
  exact this.eqT rfl rfl rfl
theorem beg_msg {t:Tok} (h:begT t=true):isT (str [109,101,115,115,97,103,101]) t=false:=by
 cases hi:isT (str [109,101,115,115,97,103,101]) t with
 | false=>rfl
 | true =>
  exfalso
  unfold isT at hi
  rw [Bool.and_eq_true] at hi
  have ht:=(eqStr_iff _ _).1 hi.2
  unfold begT at h
  rw [ht,Bool.and_eq_true,Bool.or_eq_true] at h
  rcases h.2 with h | h
  ·have h1:=word_not (s:=str [109,101,115,115,97,103,101]) h kws.2.2.2.2.2.2.2
   rw [bs_str,isW] at h1;cases h1
  ·rw [starters_map] at h
   have:=any_mk [[99,104,111,105,99,101],[108,111,111,112],[97,103,97,105,110],[112,97,114],[99,97,108,108]] [109,101,115,115,97,103,101]
   rw [show (([[99,104,111,105,99,101],[108,111,111,112],[97,103,97,105,110],[112,97,114],[99,97,108,108]]:List (List UInt8)).map mkB).any (fun k=>eqStr k (str [109,101,115,115,97,103,101]))=_ from this] at h
   exact absurd h (by decide)
theorem items_hd (F:Nat) (xs:List T10) (hs:shL xs) (hz:zL xs+102≤F) (r:List Tok):isT (str [109,101,115,115,97,103,101]) (hdT (tkL xs++Mt [125]::r))=false:=by
 cases xs with
 | nil=>show isT _ (Mt [125])=false;rw [isT_M];rfl
 | cons x l =>
  have hsx:=shL_mem hs (List.mem_cons_self ..)
  rw [shI_eq] at hsx
  have hz':=zL_in (l:=x::l) (List.mem_cons_self ..)
  rw [zI_eq] at hz'
  obtain ⟨_,t,r',e1,e2,_⟩:=item_rd (F:=F) (block:=sBlock (sItems F)) x hsx.1 (fun y hy=>block_rd (items_rd F y (shLL_mem hsx.2 hy) (by have:=zLL_in hy;omega))) (by omega)
  simp only [tkL]
  rw [e1]
  exact beg_msg e2
theorem msgs_map (l:List T11):(l.map tkMsg).flatten=(l.map fun m=>[Wt [109,101,115,115,97,103,101]]++tkMsg' m).flatten:=by
 congr 1
 exact List.map_congr_left fun m _=>tkMsg_eq m
theorem prot_rd {p:T12} (h:ProtP p):Re (sProtocol 8200) (tkProt p) p nT:=by
 obtain ⟨h1,h2,h3,h4,h5,h6,h7⟩:=h
 have hz:=zb_L p.Body h4
 have hit:=items_rd 8200 p.Body h4 (by omega)
 have hms:=loop_rd (s:=str [109,101,115,115,97,103,101]) (p:=sMessage 8200) (upd:=snoc) (t:=tkMsg') (v:=fun m=>m) (np:=nT) (nx:=nN [109,101,115,115,97,103,101]) (st:=Wt [109,101,115,115,97,103,101]) (isW _) rfl (fun t ht=>⟨rfl,by simpa using ht⟩) p.Messages 8200 [] (fun m hm=>msg_rd (h7 m hm) (by omega)) (by omega)
 rw [foldl_snoc',List.nil_append] at hms
 have:=(Re.wants (isW [112,114,111,116,111,99,111,108])).bindT (T:=fun _ l n=>(sWord l n).bind fun nm n=>(sWants (str [40]) l n).bind fun _ n=>(sWords 8200 l n).bind fun rs n=>(sWants (str [41]) l n).bind fun _ n=>(sWants (str [123]) l n).bind fun _ n=>(sLoop (str [109,101,115,115,97,103,101]) (sMessage 8200) snoc 8200 [] l n).bind fun ms n=>(sItems 8200 l n).bind fun b n=>(sWants (str [125]) l n).bind fun _ n=>.ok (⟨nm,rs,ms,b⟩:T12) n)
  ((Re.wordB h1).bindT (T:=fun nm l n=>(sWants (str [40]) l n).bind fun _ n=>(sWords 8200 l n).bind fun rs n=>(sWants (str [41]) l n).bind fun _ n=>(sWants (str [123]) l n).bind fun _ n=>(sLoop (str [109,101,115,115,97,103,101]) (sMessage 8200) snoc 8200 [] l n).bind fun ms n=>(sItems 8200 l n).bind fun b n=>(sWants (str [125]) l n).bind fun _ n=>.ok (⟨nm,rs,ms,b⟩:T12) n)
  ((Re.wants (isM [40])).bindT (T:=fun _ l n=>(sWords 8200 l n).bind fun rs n=>(sWants (str [41]) l n).bind fun _ n=>(sWants (str [123]) l n).bind fun _ n=>(sLoop (str [109,101,115,115,97,103,101]) (sMessage 8200) snoc 8200 [] l n).bind fun ms n=>(sItems 8200 l n).bind fun b n=>(sWants (str [125]) l n).bind fun _ n=>.ok (⟨p.Name,rs,ms,b⟩:T12) n)
  ((words_rd h2 (F:=8200) (by have:=h2.2.1;omega)).bindC (T:=fun rs l n=>(sWants (str [41]) l n).bind fun _ n=>(sWants (str [123]) l n).bind fun _ n=>(sLoop (str [109,101,115,115,97,103,101]) (sMessage 8200) snoc 8200 [] l n).bind fun ms n=>(sItems 8200 l n).bind fun b n=>(sWants (str [125]) l n).bind fun _ n=>.ok (⟨p.Name,rs,ms,b⟩:T12) n)
  ((Re.wants (isM [41])).bindT (T:=fun _ l n=>(sWants (str [123]) l n).bind fun _ n=>(sLoop (str [109,101,115,115,97,103,101]) (sMessage 8200) snoc 8200 [] l n).bind fun ms n=>(sItems 8200 l n).bind fun b n=>(sWants (str [125]) l n).bind fun _ n=>.ok (⟨p.Name,p.Roles,ms,b⟩:T12) n)
  ((Re.wants (isM [123])).bindT (T:=fun _ l n=>(sLoop (str [109,101,115,115,97,103,101]) (sMessage 8200) snoc 8200 [] l n).bind fun ms n=>(sItems 8200 l n).bind fun b n=>(sWants (str [125]) l n).bind fun _ n=>.ok (⟨p.Name,p.Roles,ms,b⟩:T12) n)
  (hms.bind (T:=fun ms l n=>(sItems 8200 l n).bind fun b n=>(sWants (str [125]) l n).bind fun _ n=>.ok (⟨p.Name,p.Roles,ms,b⟩:T12) n)
   (hit.bindC (T:=fun b l n=>(sWants (str [125]) l n).bind fun _ n=>.ok (⟨p.Name,p.Roles,p.Messages,b⟩:T12) n)
    ((Re.wants (isM [125])).bindT (T:=fun _ _ n=>.ok (⟨p.Name,p.Roles,p.Messages,p.Body⟩:T12) n) (Re.ret _ nT)) close_nx)
   (fun r hr=>by
    show (!isT (str [109,101,115,115,97,103,101]) _)=true
    rw [aA]
    show (!isT (str [109,101,115,115,97,103,101]) (hdT (tkL p.Body++Mt [125]::r)))=true
    rw [items_hd 8200 p.Body h4 (by omega) r];rfl)))) (by show (!isT (str [44]) (Mt [41]))=true;rw [isT_M];rfl))))
 refine this.eqT rfl ?_ rfl
 unfold tkProt
 rw [msgs_map]
 simp
theorem parse_rd:∀ (ps:List T12) (l:List Tok) (G n:Nat) (acc:List T12),(∀ p∈ps,ProtP p)→l.drop n=tkSrc ps→ps.length < G→sParse 8200 G acc l n=.ok (acc++ps) (n+(tkSrc ps).length)
 | [],l,G,n,acc,_,hl,hG=>by
  obtain ⟨G,rfl⟩:∃ m,G=m+1:=⟨G-1,by simp at hG;omega⟩
  have:l.length≤n:=by simpa [tkSrc] using hl
  simp only [sParse]
  rw [dF (by omega)]
  simp [tkSrc]
 | p::ps,l,G,n,acc,h,hl,hG=>by
  obtain ⟨G,rfl⟩:∃ m,G=m+1:=⟨G-1,by simp at hG;omega⟩
  have e:tkSrc (p::ps)=tkProt p++tkSrc ps:=rfl
  rw [e] at hl
  have hlt:n < l.length:=by
   rcases Nat.lt_or_ge n l.length with h | h
   ·exact h
   ·rw [List.drop_of_length_le h] at hl
    have:=congrArg List.length hl
    unfold tkProt at this
    simp at this
  simp only [sParse]
  rw [dT hlt,cT,prot_rd (h p (List.mem_cons_self ..)) l n (tkSrc ps) hl rfl]
  show sParse 8200 G (snoc acc p) l (n+(tkProt p).length)=_
  rw [parse_rd ps l G _ (snoc acc p) (fun q hq=>h q (List.mem_cons_of_mem _ hq)) (drop_more hl) (by simp at hG;omega),e,lA,Nat.add_assoc]
  simp [snoc]
theorem print_parse {ps:List T12} (hv:ValidP ps):parseS (mkB (srcT ps))=(ps,0,0):=by
 obtain ⟨us,u1,u2⟩:=lex_src hv.2.1
 have hz:(mkB (srcT ps)).size≤8000:=by rw [size_bs,bs_mkB];exact hv.2.2
 have ht:toksS (mkB (srcT ps))=.inr us:=by rw [toks_lex hz,bs_mkB,u1]
 obtain ⟨q1,_⟩:=toksS_ok ht
 have hss:∀ l:List Tok,(l.map strip).map strip=l.map strip:=fun l=>by rw [List.map_map];rfl
 have hlen:(tkSrc ps).length≤8000:=by rw [← u2,List.length_map];exact q1
 have hl10:=hv.1
 have h1:=parse_rd ps (tkSrc ps) 8200 0 [] hv.2.1 (by simp) (by omega)
 rw [List.nil_append] at h1
 have h2:=parse_alike (l:=tkSrc ps) (l':=us) (by rw [← u2,hss]) hlen h1
 rw [parseS_inr ht,h2]
 exact fineR_pos hv
variable {N:Nat}
theorem print_law (hN:4210000 < N) (l:List T7) (hw:z9 N=some true) (hl:l.length≤4194304) (hA:∀ p∈l,RP p∧4194306+dL (oL p.Body)≤N) (hc:cPs l≤1099511627776)
  (hn:∀ p∈l,cL (oL p.Body)≤1099511627776∧nL (oL p.Body)∧∀ m∈p.Messages,nM (oM m)):law10_SyntaxPrint N l=some true:=by
 obtain ⟨f,e1,_⟩:=few_dq (N:=N) (by omega) l hl hA hc
 have o1:=own_eq (N:=N) (by omega) l hl hA
 have hlo:(l.map oP).length≤4194304:=by rw [List.length_map];exact hl
 have hbo:∀ p∈l.map oP,bP p∧4194306+dL p.Body≤N:=fun p hp=>by
  obtain ⟨q,hq,rfl⟩:=List.mem_map.1 hp
  exact hA q hq
 have v1:=valid_dq (N:=N) (by omega) (l.map oP) hlo (fun p hp=>(hbo p hp).1)
 have v2:=rvalid_dq (N:=N) (by omega) l hl (fun p hp=>⟨(hA p hp).1,(hA p hp).2,(hn p hp).1,(hn p hp).2.1,(hn p hp).2.2⟩)
 have t1:=their_eq (N:=N) (by omega) (l.map oP) hlo hbo
 rw [map_id' to_P] at t1
 have t2:=(requal_dq (N:=N) (by omega) l l hl hA).get rfl
 unfold law10_SyntaxPrint
 rw [hw,e1,o1]
 simp only [bS,Bool.not_true,cF]
 cases f with
 | false=>rfl
 | true =>
  simp only [Bool.not_true,cF]
  unfold z16 z18
  by_cases hv:ValidP (l.map oP)
  ·have h10:l.length≤10:=by have:=hv.1;rw [List.length_map] at this;exact this
   rw [v1.get hv,v2.get hv]
   simp only [bS,Bool.not_true,cF]
   have hk:∀ p∈l,Pk N (oP p):=fun p hp=>⟨hv.2.1 _ (List.mem_map.2 ⟨p,hp,rfl⟩),(hA p hp).1.l,(hA p hp).1.b⟩
   rw [source_eq (by omega) (l.map oP) hv.1 (fun p hp=>by obtain ⟨q,hq,rfl⟩:=List.mem_map.1 hp;exact hk q hq),rtext_eq (by omega) l h10 hk]
   simp only [bS]
   rw [(parse_both hN _).1,print_parse hv,show ((mkB (srcT (l.map oP))).toList==(mkB (srcT (l.map oP))).toList)=true by simp]
   simp only [bS,Bool.not_true,cF]
   rw [t1]
   simp only [bS,t2]
   rfl
  ·rw [v1.getN hv,v2.getN hv]
   simp only [bS,Bool.not_false,cT]
   rw [(parse_both hN _).1,show ((str []).toList==(str []).toList)=true by simp]
   rfl
end Gp
end
section
namespace Gx
open Go Go.Kx
def k_api_Sort (x:T1):Prop:=((Lit.int .i64 x.Kind).wf=true)∧((Lit.int .i64 x.Lo).wf=true)∧((Lit.int .i64 x.Hi).wf=true)
def k_api_Field (x:T0):Prop:=(x.Name.size≤bd)∧(k_api_Sort x.Sort')
def k_ref10_Term (x:T13):Prop:=((Lit.int .i64 x.Kind).wf=true)∧(x.Message.size≤bd)∧(x.Field.size≤bd)∧((Lit.int .i64 x.N).wf=true)
def k_ref10_Atom (x:T4):Prop:=(k_ref10_Term x.Left)∧(x.Op.size≤bd)∧(k_ref10_Term x.Right)
def k_ref10_Message (x:T6):Prop:=(x.Name.size≤bd)∧(x.Fields.length≤bd∧∀ y∈x.Fields,k_api_Field y)∧(x.Where.length≤bd∧∀ y∈x.Where,k_ref10_Atom y)
mutual
def k_ref10_Item:T5→Prop
 | ⟨a0,a1,a2,a3,a4,a5,a6⟩=>((Lit.int .i64 a0).wf=true)∧(a1.size≤bd)∧(a2.length≤bd∧∀ y∈a2,y.size≤bd)∧(a3.size≤bd)∧(a4.size≤bd)∧((Lit.int .i64 a5).wf=true)∧(a6.length≤bd∧kLL_ref10_Item a6)
def kL_ref10_Item:List T5→Prop
 | []=>True
 | x::l=>k_ref10_Item x∧kL_ref10_Item l
def kLL_ref10_Item:List (List T5)→Prop
 | []=>True
 | x::l=>(x.length≤bd∧kL_ref10_Item x)∧kLL_ref10_Item l
end
mutual
def w_ref10_Item:T5→Nat
 | ⟨_,_,_,_,_,_,a6⟩=>wLL_ref10_Item a6+1
def wL_ref10_Item:List T5→Nat
 | []=>0
 | x::l=>w_ref10_Item x+wL_ref10_Item l
def wLL_ref10_Item:List (List T5)→Nat
 | []=>0
 | x::l=>wL_ref10_Item x+wLL_ref10_Item l
end
theorem wL_ref10_Item_eq:∀ l,wL_ref10_Item l=wsum w_ref10_Item l
 | []=>by simp only [wL_ref10_Item,wsum]
 | x::l=>by simp only [wL_ref10_Item,wsum];rw [wL_ref10_Item_eq l]
theorem kL_ref10_Item_of:∀ l,(∀ x∈l,k_ref10_Item x)→kL_ref10_Item l
 | [],_=>by simp only [kL_ref10_Item]
 | x::l,h=>by simp only [kL_ref10_Item];exact ⟨h x (List.mem_cons_self ..),kL_ref10_Item_of l fun y hy=>h y (List.mem_cons_of_mem _ hy)⟩
theorem wLL_ref10_Item_eq:∀ l,wLL_ref10_Item l=wsum (wsum w_ref10_Item) l
 | []=>by simp only [wLL_ref10_Item,wsum]
 | x::l=>by simp only [wLL_ref10_Item,wsum];rw [wLL_ref10_Item_eq l,wL_ref10_Item_eq]
theorem kLL_ref10_Item_of:∀ l,(∀ x∈l,x.length≤bd∧∀ y∈x,k_ref10_Item y)→kLL_ref10_Item l
 | [],_=>by simp only [kLL_ref10_Item]
 | x::l,h=>by simp only [kLL_ref10_Item];exact ⟨⟨(h x (List.mem_cons_self ..)).1,kL_ref10_Item_of x (h x (List.mem_cons_self ..)).2⟩,kLL_ref10_Item_of l fun y hy=>h y (List.mem_cons_of_mem _ hy)⟩
def k_ref10_Protocol (x:T7):Prop:=(x.Name.size≤bd)∧(x.Roles.length≤bd∧∀ y∈x.Roles,y.size≤bd)∧(x.Messages.length≤bd∧∀ y∈x.Messages,k_ref10_Message y)∧(x.Body.length≤bd∧∀ y∈x.Body,k_ref10_Item y)
def w_ref10_Protocol (x:T7):Nat:=wsum w_ref10_Item x.Body
end Gx
end
section
namespace Gp
open Go Go.Kx Gx
set_option maxRecDepth 100000
theorem awake_some (k:Nat):z9 (k+300)=some true:=by kernel_rfl
mutual
theorem cw_I:∀ x,cI (oI x)=w_ref10_Item x
 | ⟨k,f,t,n,a,x,b⟩=>by simp only [oI,cI,w_ref10_Item,cw_LL b]
theorem cw_L:∀ l,cL (oL l)=wL_ref10_Item l
 | []=>by simp only [oL,cL,wL_ref10_Item]
 | x::l=>by simp only [oL,cL,wL_ref10_Item,cw_I x,cw_L l]
theorem cw_LL:∀ l,cLL (oLL l)=wLL_ref10_Item l
 | []=>by simp only [oLL,cLL,wLL_ref10_Item]
 | x::l=>by simp only [oLL,cLL,wLL_ref10_Item,cw_L x,cw_LL l]
end
mutual
theorem bk_I:∀ x,k_ref10_Item x→bI (oI x)
 | ⟨k,f,t,n,a,x,b⟩,h=>by
  simp only [k_ref10_Item] at h
  simp only [oI,bI]
  rw [oLL_len]
  have h1:=h.2.2.1.1;have h2:=h.2.2.2.2.2.2.1
  unfold bd at h1 h2
  exact ⟨by omega,by omega,bk_LL b h.2.2.2.2.2.2.2⟩
theorem bk_L:∀ l,kL_ref10_Item l→bL (oL l)
 | [],_=>by simp only [oL,bL]
 | x::l,h=>by
  simp only [kL_ref10_Item] at h
  simp only [oL,bL]
  exact ⟨bk_I x h.1,bk_L l h.2⟩
theorem bk_LL:∀ l,kLL_ref10_Item l→bLL (oLL l)
 | [],_=>by simp only [oLL,bLL]
 | x::l,h=>by
  simp only [kLL_ref10_Item] at h
  simp only [oLL,bLL]
  have h1:=h.1.1
  unfold bd at h1
  exact ⟨by rw [oL_len];omega,bk_L x h.1.2,bk_LL l h.2⟩
end
theorem RP_of {p:T7} (h:k_ref10_Protocol p):RP p:=by
 obtain ⟨_,h1,h2,h3⟩:=h
 refine ⟨?_,?_,fun x hx=>?_,?_,?_⟩
 ·have:=h1.1;unfold bd at this;show p.Roles.length≤_;omega
 ·have:=h2.1;unfold bd at this;show (p.Messages.map oM).length≤_;rw [List.length_map];omega
 ·obtain ⟨m,hm,rfl⟩:=List.mem_map.1 hx
  obtain ⟨_,q1,q2⟩:=h2.2 m hm
  have q1:=q1.1;have q2:=q2.1
  unfold bd at q1 q2
  exact ⟨by show m.Fields.length≤_;omega,by show (m.Where.map oA).length≤_;rw [List.length_map];omega⟩
 ·have:=h3.1;unfold bd at this;show (oL p.Body).length≤_;rw [oL_len];omega
 ·exact bk_L _ (kL_ref10_Item_of _ h3.2)
theorem cw_P (p:T7):cL (oL p.Body)=w_ref10_Protocol p:=by
 rw [cw_L,wL_ref10_Item_eq];rfl
theorem cPs_w:∀ l,cPs l=wsum w_ref10_Protocol l
 | []=>rfl
 | p::l=>by
  have:=cPs_w l
  unfold cPs at this ⊢
  simp only [List.map_cons,List.sum_cons,wsum]
  rw [this,cw_P]
theorem le_wsum {α:Type} {f:α→Nat}:∀ {l:List α} {x},x∈l→f x≤wsum f l
 | y::l,x,h=>by
  rcases List.mem_cons.1 h with rfl | h
  ·show _≤f x+_;omega
  ·have:=le_wsum (f:=f) h
   show _≤f y+_;omega
theorem sizes_of {l:List T7} (h:(l.length≤bd∧∀ y∈l,k_ref10_Protocol y)∧wsum w_ref10_Protocol l≤bd) :
  l.length≤4194304∧(∀ p∈l,RP p∧4194306+dL (oL p.Body)≤10000000+300)∧cPs l≤1099511627776:=by
 obtain ⟨⟨h1,h2⟩,h3⟩:=h
 unfold bd at h1 h3
 refine ⟨by omega,fun p hp=>⟨RP_of (h2 p hp),?_⟩,by rw [cPs_w];omega⟩
 have:=dc_L (oL p.Body)
 have:=le_wsum (f:=w_ref10_Protocol) hp
 rw [← cw_P] at this
 omega
mutual
theorem nk_I:∀ x,k_ref10_Item x→nI (oI x)
 | ⟨k,f,t,n,a,x,b⟩,h=>by
  simp only [k_ref10_Item] at h
  simp only [oI,nI]
  have h1:=h.2.2.2.1
  unfold bd at h1
  exact ⟨by omega,nk_LL b h.2.2.2.2.2.2.2⟩
theorem nk_L:∀ l,kL_ref10_Item l→nL (oL l)
 | [],_=>by simp only [oL,nL]
 | x::l,h=>by
  simp only [kL_ref10_Item] at h
  simp only [oL,nL]
  exact ⟨nk_I x h.1,nk_L l h.2⟩
theorem nk_LL:∀ l,kLL_ref10_Item l→nLL (oLL l)
 | [],_=>by simp only [oLL,nLL]
 | x::l,h=>by
  simp only [kLL_ref10_Item] at h
  simp only [oLL,nLL]
  exact ⟨nk_L x h.1.2,nk_LL l h.2⟩
end
theorem nM_of {m:T6} (h:k_ref10_Message m):nM (oM m):=by
 obtain ⟨h1,_,_,h3⟩:=h
 unfold bd at h1
 refine ⟨by show m.Name.size≤_;omega,fun a ha=>?_⟩
 obtain ⟨b,hb,rfl⟩:=List.mem_map.1 ha
 obtain ⟨q1,_,q2⟩:=h3 b hb
 have r1:=q1.2.1;have r2:=q2.2.1
 unfold bd at r1 r2
 exact ⟨by show b.Left.Message.size≤_;omega,by show b.Right.Message.size≤_;omega⟩
theorem plain:∀ (x0:(List T7)),((x0.length≤bd∧∀ y∈x0,k_ref10_Protocol y)∧wsum w_ref10_Protocol x0≤bd)→∃ N,law10_SyntaxPrint N x0=some true:=by
 intro a ha
 obtain ⟨a1,a2,a3⟩:=sizes_of ha
 obtain ⟨⟨_,h2⟩,h3⟩:=ha
 refine ⟨10000000+300,print_law (by omega) a (awake_some _) a1 a2 a3 (fun p hp=>⟨?_,nk_L _ (kL_ref10_Item_of _ (h2 p hp).2.2.2.2),fun m hm=>nM_of ((h2 p hp).2.2.1.2 m hm)⟩)⟩
 have:=le_wsum (f:=w_ref10_Protocol) hp
 unfold bd at h3
 rw [cw_P];omega
end Gp
end
