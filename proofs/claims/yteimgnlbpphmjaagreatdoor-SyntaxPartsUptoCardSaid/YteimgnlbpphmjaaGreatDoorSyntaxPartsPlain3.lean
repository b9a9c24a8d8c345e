/- The plain law, part 3: what the functions compute answers as the statement says. -/
import Derived.Test.YteimgnlbpphmjaaGreatDoorSyntaxPartsPlain2
set_option linter.all false
section
namespace Gp
open Go Go.Kx Gx
variable {N:Nat}
theorem lines_0 {α γ:Type} (xs:List α) (F:Nat→ByteArray→Int→γ) (fin:ByteArray→γ) (g:α→List UInt8) (L:Nat) (hs:xs.length≤4194304)
  (h1:∀ (n k:Nat) x A,k < 4194304→xs[k]? = some x→A.length+(g x).length≤L→F (n+1) (mkB A) (k:Int)=F n (mkB (A++g x)) ((k+1:Nat):Int))
  (h2:∀ (n k:Nat) A,xs.length≤k→A.length≤L→F (n+1) (mkB A) (k:Int)=fin (mkB A)) {n:Nat} {A:List UInt8} (hn:xs.length < n) (hA:A.length+((xs.map g).flatten).length≤L):F n (mkB A) (0:Int)=fin (mkB (A++(xs.map g).flatten)) :=
 lines_at xs F fin g L hs h1 (fun n k A a _ b=>h2 n k A a b) xs 0 n A (Nat.zero_le _) rfl hn hA
theorem rtext_eq (hN:4194320 < N) (l:List T7) (hl:l.length≤10) (h:∀ p∈l,Pk N (oP p)):ref10_text N l=some (mkB (srcT (l.map oP))):=by
 have hs:=srcT_len (l:=l.map oP) (by simp;omega) (fun p hp=>by obtain ⟨q,hq,rfl⟩:=List.mem_map.1 hp;exact (h q hq).v) (by simp;omega)
 have e:srcT (l.map oP)=(l.map fun p=>protT (oP p)).flatten:=by unfold srcT;rw [List.map_map];rfl
 rw [e] at hs ⊢
 unfold ref10_text
 have:=lines_at l (ref10_text_l2 N l) ref10_text_k1 (fun p=>protT (oP p)) 10000000 (by omega) (fun n k p A hk hp hA=>?_) (fun n k A hk _ hA=>?_) l 0 N [] (by omega) rfl (by omega) (by simp only [List.length_nil];omega)
 ·exact this
 ·have hp':=h p (List.mem_of_getElem? hp)
  have hpr:p.Roles.length≤6:=hp'.r
  have hw:=word_len hp'.v.1
  have hc:(joinT [44,32] p.Roles).length≤108:=comma_len hp'.v.2.1 (Nat.le_refl _)
  have hm:=msgs_len hp'.v
  have hq4:=xL_len (oP p).Body 1 hp'.v.2.2.2.1 (by have:=hp'.v.2.2.2.2.1;omega)
  have hc6:=hp'.v.2.2.2.2.2.1
  have e1:(oP p).Name=p.Name:=rfl
  have e2:(oP p).Roles=p.Roles:=rfl
  have e3:(oP p).Messages=p.Messages.map oM:=rfl
  have e4:(oP p).Body=oL p.Body:=rfl
  rw [e1] at hw
  rw [e3] at hm
  have hh:lineT 0 (protHead (oP p))=[112,114,111,116,111,99,111,108,32]++bs p.Name++[40]++joinT [44,32] p.Roles++[41,32,123,10]:=by
   simp [lineT,tabs,protHead,commaT,e1,e2]
  simp only [ref10_text_l2,lt_t (get_lt hp),cT,idx_nat,hp,bS]
  rw [list_eq (by omega) p.Roles (by omega) (by omega)]
  simp (disch:=(simp only [bs_mkB,bs_str,lA,List.length_cons,List.length_nil,tabs_len];omega)) only [cat_eq,bS,bs_mkB,bs_str]
  rw [← hh]
  have hhl:(lineT 0 (protHead (oP p))).length≤200:=by rw [hh];simp only [lA,List.length_cons,List.length_nil];omega
  have hml:p.Messages.length≤40:=by have:=hp'.v.2.2.1;rw [e3,List.length_map] at this;exact this
  have hbl:p.Body.length≤4194304:=by have:=hp'.l;rw [e4,oL_len] at this;exact this
  have hmm:(p.Messages.map oM).map msgLine=p.Messages.map (fun m=>msgLine (oM m)):=by rw [List.map_map];rfl
  rw [hmm] at hm
  rw [lines_0 p.Messages (ref10_text_l6 N l (k:Int) (ref10_text_l2 N l n)) (ref10_text_k5 N l (k:Int) (ref10_text_l2 N l n)) (fun m=>msgLine (oM m)) 50000000 (by omega) (fun n' j m A hj hmj hA=>?_) (fun n' j A hj hA=>?_) (by omega) (by simp only [lA];omega)]
  ·unfold ref10_text_k5
   have hx:∀ l:List T5,(l.map fun x=>xI 1 (oI x)).flatten=xL 1 (oL l):=by
    intro l
    induction l with
    | nil=>simp [oL,xL]
    | cons x l ih=>simp only [List.map_cons,List.flatten_cons,oL,xL,ih]
   rw [lines_0 p.Body (ref10_text_l4 N l (k:Int) (ref10_text_l2 N l n)) (ref10_text_k3 (k:Int) (ref10_text_l2 N l n)) (fun x=>xI 1 (oI x)) 100000000 hbl (fun n' j x A hj hxj hA=>?_) (fun n' j A hj hA=>?_) (by omega) (by rw [hx];rw [e4] at hq4 hc6;simp only [lA];omega),hx]
   ·unfold ref10_text_k3
    rw [e4] at hq4 hc6
    simp (disch:=(simp only [bs_mkB,bs_str,lA,List.length_cons,List.length_nil,tabs_len];omega)) only [cat_eq,bS,bs_mkB,bs_str]
    rw [w64_succ (by omega)]
    have:A++lineT 0 (protHead (oP p))++(p.Messages.map fun m=>msgLine (oM m)).flatten++xL 1 (oL p.Body)++[125,10]=A++protT (oP p):=by
     unfold protT
     rw [e3,hmm,e4]
     simp [lineT,tabs]
    rw [this]
   ·have hxm:=List.mem_of_getElem? hxj
    have hb:=bL_mem hp'.b (by rw [e4];exact oL_in hxm)
    have hs:=shL_mem hp'.v.2.2.2.1 (by rw [e4];exact oL_in hxm)
    have hd:=dL_mem (l:=(oP p).Body) (by rw [e4];exact oL_in hxm)
    have hd10:=hp'.v.2.2.2.2.1
    obtain ⟨y,y1,y2⟩:=ritem_eq N x 1 (by omega) hb hs (by omega) (by omega)
    have hyl:y.length+2=(xI 1 (oI x)).length:=by rw [← y2,lineT_len];omega
    simp only [ref10_text_l4,idx_nat,hp,bS,lt_t (get_lt hxj),cT,hxj,w64_succ (show j < 4611686018427387904 by omega)]
    rw [show str [9]=mkB (tabs 1) from rfl,y1]
    simp only [bS]
    simp (disch:=(simp only [bs_mkB,bs_str,lA,List.length_cons,List.length_nil,tabs_len];omega)) only [cat_eq,bS,bs_mkB,bs_str]
    rw [← y2]
    simp [lineT]
   ·simp only [ref10_text_l4,idx_nat,hp,bS,lt_f hj,cF]
  ·have hv:MsgP (oM m):=hp'.v.2.2.2.2.2.2 _ (by rw [e3];exact List.mem_map.2 ⟨m,List.mem_of_getElem? hmj,rfl⟩)
   have hvl:=msgT_len hv
   simp only [ref10_text_l6,idx_nat,hp,bS,lt_t (get_lt hmj),cT,hmj,rmessage_eq (show 4194304 < N by omega) m hv,w64_succ (show j < 4611686018427387904 by omega)]
   simp (disch:=(simp only [bs_mkB,bs_str,lA,List.length_cons,List.length_nil,tabs_len];omega)) only [cat_eq,bS,bs_mkB,bs_str]
   rfl
  ·simp only [ref10_text_l6,idx_nat,hp,bS,lt_f hj,cF]
 ·simp only [ref10_text_l2,lt_f hk,cF]
def ValidP (l:List T12):Prop:=l.length≤10∧(∀ p∈l,ProtP p)∧(srcT l).length≤8000
theorem prot_iff (p:T12) (Q:Prop):(isWord p.Name=true∧WordsP p.Roles 6∧p.Messages.length≤40∧(shL p.Body∧dL p.Body≤10∧cL p.Body≤300)∧(∀ m∈p.Messages,MsgP m)∧Q)↔ProtP p∧Q:=by
 unfold ProtP
 constructor
 ·rintro ⟨a,b,c,⟨d,e,f⟩,g,h⟩;exact ⟨⟨a,b,c,d,e,f,g⟩,h⟩
 ·rintro ⟨⟨a,b,c,d,e,f,g⟩,h⟩;exact ⟨a,b,c,⟨d,e,f⟩,g,h⟩
theorem valid_dq (hN:4194320 < N) (l:List T12) (hl:l.length≤4194304) (hb:∀ p∈l,bP p):Dq (z14 N l) (ValidP l):=by
 unfold z14
 refine Dq.cN (C:=l.length≤10) gt_lem fun h10=>?_
 refine dq_all (P:=ProtP) (E:=(srcT l).length≤8000) (by omega) _ (fun n k p Q hk hp hq=>?_) (fun hall n k hk=>?_) (by omega)
 ·have hbp:=hb p (List.mem_of_getElem? hp)
  simp only [z14_l2,lt_t (get_lt hp),cT,idx_nat,hp,bS]
  refine (Dq.bN (word_dq (by omega) _) fun h1=>Dq.bN (words_dq (by omega) _ hbp.r 6) fun h2=>Dq.cN (C:=p.Messages.length≤40) gt_lem fun h3=>?_).iff (prot_iff p Q)
  obtain ⟨r,m,v1,v2,v3⟩:=valid_items N p.Body 1 0 (by omega) hbp.l hbp.b (by omega) (by omega)
  rw [show z34 N p.Body (1:Int) (0:Int)=some (r,m) from v1,bS]
  refine Dq.cN (C:=shL p.Body∧dL p.Body≤10∧cL p.Body≤300) ?_ fun h4=>?_
  ·have:r=true↔shL p.Body∧dL p.Body≤10∧cL p.Body≤300:=v2.trans ⟨fun q=>⟨q.1,by omega,by omega⟩,fun q=>⟨q.1,by omega,by omega⟩⟩
   rw [← this];cases r<;>simp
  ·refine dq_all (P:=MsgP) (E:=Q) (by omega) (z14_l4 N (k:Int) (z14_l2 N l n) p) (fun n' j m Q' hj hm hq'=>?_) (fun hall n' j hj=>?_) (by omega)
   ·simp only [z14_l4,lt_t (get_lt hm),cT,idx_nat,hm,bS,w64_succ (show j < 4611686018427387904 by omega)]
    exact Dq.bN (mval_dq (by omega) m) hq'
   ·simp only [z14_l4,lt_f hj,cF,z14_k3,w64_succ (show k < 4611686018427387904 by omega)]
    exact hq ⟨h1,h2,h3,h4.1,h4.2.1,h4.2.2,hall⟩
 ·simp only [z14_l2,lt_f hk,cF,z14_k1]
  rw [source_eq hN l h10 fun p hp=>⟨hall p hp,(hb p hp).l,(hb p hp).b⟩,bS]
  exact Dq.dec (by rw [size_bs,bs_mkB];omega)
theorem rvalid_dq (hN:4194320 < N) (l:List T7) (hl:l.length≤4194304) (hb:∀ p∈l,RP p∧4194306+dL (oL p.Body)≤N∧cL (oL p.Body)≤1099511627776∧nL (oL p.Body)∧∀ m∈p.Messages,nM (oM m)):Dq (ref10_Valid N l) (ValidP (l.map oP)):=by
 unfold ref10_Valid
 refine (Dq.cN (C:=l.length≤10) gt_lem fun h10=>dq_all (P:=fun p=>ProtP (oP p)) (E:=(srcT (l.map oP)).length≤8000) (by omega) _ (fun n k p Q hk hp hq=>?_) (fun hall n k hk=>?_) (by omega)).iff (by unfold ValidP;rw [List.length_map,List.forall_mem_map])
 ·obtain ⟨hbp,hd,hc,hn,hnm⟩:=hb p (List.mem_of_getElem? hp)
  have hlb:=RP_l hbp
  have e1:(oP p).Name=p.Name:=rfl
  have e2:(oP p).Roles=p.Roles:=rfl
  have e3:(oP p).Messages=p.Messages.map oM:=rfl
  have e4:(oP p).Body=oL p.Body:=rfl
  have hdc:dL (oL p.Body)≤cL (oL p.Body):=dc_L _
  simp only [ref10_Valid_l2,lt_t (get_lt hp),cT,idx_nat,hp,bS]
  have hi:=prot_iff (oP p) Q
  rw [e1,e2,e3,e4,List.length_map,List.forall_mem_map] at hi
  refine (Dq.bN (rword_dq (by omega) _) fun h1=>Dq.bN (rwords_dq (by omega) _ hbp.r 6) fun h2=>Dq.cN (C:=p.Messages.length≤40) gt_lem fun h3=>(?_:Dq _ ((dL (oL p.Body)≤10∧cL (oL p.Body)≤300∧shL (oL p.Body)∧∀ m∈p.Messages,MsgP (oM m))∧Q))).iff ?_
  ·rw [depth_eq N p.Body hd hlb hbp.b (by omega),count_eq' N p.Body hd hlb hbp.b hc]
   simp only [bS]
   refine (Dq.cN (C:=dL (oL p.Body)≤10) (gt_lem (b:=10)) fun h4=>Dq.cN (C:=cL (oL p.Body)≤300) (gt_lem (b:=300)) fun h5=>Dq.bN (goods_dq N p.Body hd hlb hbp.b hn) fun h6=>(?_:Dq _ ((∀ m∈p.Messages,MsgP (oM m))∧Q))).iff ⟨fun q=>⟨⟨q.1,q.2.1,q.2.2.1,q.2.2.2.1⟩,q.2.2.2.2⟩,fun q=>⟨q.1.1,q.1.2.1,q.1.2.2.1,q.1.2.2.2,q.2⟩⟩
   refine dq_all (P:=fun m=>MsgP (oM m)) (E:=Q) (by omega) (ref10_Valid_l4 N (k:Int) (ref10_Valid_l2 N l n) p) (fun n' j m Q' hj hm hq'=>?_) (fun hall n' j hj=>?_) (by omega)
   ·have hmm:=List.mem_of_getElem? hm
    have hms:=RP_ms hbp hmm
    simp only [ref10_Valid_l4,lt_t (get_lt hm),cT,idx_nat,hm,bS,w64_succ (show j < 4611686018427387904 by omega)]
    exact Dq.bN (rmval_dq (by omega) m hms.1 hms.2 (hnm m hmm)) hq'
   ·simp only [ref10_Valid_l4,lt_f hj,cF,ref10_Valid_k3,w64_succ (show k < 4611686018427387904 by omega)]
    refine hq ?_
    unfold ProtP
    rw [e1,e2,e3,e4,List.length_map,List.forall_mem_map]
    exact ⟨h1,h2,h3,h6,h4,h5,hall⟩
  ·rw [← hi]
   constructor
   ·rintro ⟨a,b,c,⟨d,e,f,g⟩,h⟩;exact ⟨a,b,c,⟨f,d,e⟩,g,h⟩
   ·rintro ⟨a,b,c,⟨f,d,e⟩,g,h⟩;exact ⟨a,b,c,⟨d,e,f,g⟩,h⟩
 ·simp only [ref10_Valid_l2,lt_f hk,cF,ref10_Valid_k1]
  rw [rtext_eq hN l h10 fun p hp=>⟨hall p hp,(hb p hp).1.l,(hb p hp).1.b⟩,bS]
  exact Dq.dec (by rw [size_bs,bs_mkB];omega)
end Gp
end
section
namespace Gp
open Go Go.Kx Gx
open Classical in
noncomputable def fineR (ps:List T12):List T12 × Int × Int:=if ValidP ps then (ps,0,0) else ([],0,6)
theorem fineR_pos {ps:List T12} (h:ValidP ps):fineR ps=(ps,0,0):=by unfold fineR;rw [if_pos h]
theorem fineR_neg {ps:List T12} (h:¬ ValidP ps):fineR ps=([],0,6):=by unfold fineR;rw [if_neg h]
def endR (ts:List Tok) (e:Int) (o:List T12→List T12 × Int × Int):Rr (List T12)→List T12 × Int × Int
 | .ok ps _=>o ps
 | .er k c=>([],off ts e k,c)
 | .out=>([],0,6)
noncomputable def parseS (s:ByteArray):List T12 × Int × Int :=
 match toksS s with
 | .inl (p,e)=>([],(p:Int),e)
 | .inr ts=>endR ts (s.size:Int) fineR (sParse 8200 8200 [] ts 0)
theorem zM_le (m:T11) (ms:List T11) (h:m∈ms):zM m≤zMs ms:=by
 induction ms with
 | nil=>cases h
 | cons x l ih =>
  simp only [zMs]
  rcases List.mem_cons.1 h with rfl | h
  ·omega
  ·have:=ih h;omega
theorem zMs_len (ms:List T11):ms.length≤zMs ms:=by
 induction ms with
 | nil=>exact Nat.le_refl _
 | cons x l ih=>simp only [zMs,List.length_cons];omega
theorem zA_le (a:T9) (l:List T9) (h:a∈l):zA a≤zAs l:=by
 induction l with
 | nil=>cases h
 | cons x l ih =>
  simp only [zAs]
  rcases List.mem_cons.1 h with rfl | h
  ·omega
  ·have:=ih h;omega
theorem zAs_len (l:List T9):l.length≤zAs l:=by
 induction l with
 | nil=>exact Nat.le_refl _
 | cons x l ih=>simp only [zAs,List.length_cons];omega
structure Zf (p:T12):Prop where
 b:bP p
 d:dL p.Body≤8000
 c:cL p.Body≤8000
 n:nL p.Body
 m:∀ m∈p.Messages,nM m
theorem Zf.of {p:T12} (h:zP p≤8000):Zf p:=by
 unfold zP at h
 obtain ⟨h1,h2⟩:=z_L p.Body (by omega)
 have h3:=zc_L p.Body
 have h4:=zL_len p.Body
 have h5:=zMs_len p.Messages
 refine ⟨⟨by omega,by omega,fun m hm=>?_,by omega,h1⟩,by omega,by omega,zn_L _ (by omega),fun m hm=>?_⟩
 ·have:=zM_le m _ hm
  unfold zM at this
  have:=zAs_len m.Where
  exact ⟨by omega,by omega⟩
 ·have hz:=zM_le m _ hm
  unfold zM pz at hz
  refine ⟨by omega,fun a ha=>?_⟩
  have:=zA_le a _ ha
  unfold zA pz at this
  exact ⟨by omega,by omega⟩
theorem Dq.get {o:Option Bool} {P:Prop} (h:Dq o P) (hp:P):o=some true:=by
 obtain ⟨r,h1,h2⟩:=h
 rw [h1,h2.2 hp]
theorem Dq.getN {o:Option Bool} {P:Prop} (h:Dq o P) (hp:¬P):o=some false:=by
 obtain ⟨r,h1,h2⟩:=h
 cases r with
 | false=>exact h1
 | true=>exact absurd (h2.1 rfl) hp
variable {N:Nat}
theorem parse_small {s:ByteArray} {ts:List Tok} (ht:toksS s=.inr ts) {ps:List T12} {m:Nat} (h:sParse 8200 8200 [] ts 0=.ok ps m):ps.length≤8000∧∀ p∈ps,zP p≤8000:=by
 obtain ⟨h1,_⟩:=toksS_ok ht
 obtain ⟨qs,e1,e2,e3,e4⟩:=(parse_nm (F:=8200) (by omega) 8200 [] 0 (by omega) (Nat.zero_le _)).2 ps m h
 simp only [List.nil_append] at e1
 subst e1
 exact ⟨by omega,fun p hp=>by have:=e4 p hp;omega⟩
theorem parse_both (hN:4210000 < N) (s:ByteArray):z10 N s=some (parseS s)∧ref10_Parse N s=some ((parseS s).1.map tP,(parseS s).2):=by
 have t1:=tokens_eq (N:=N) (by omega) s
 have t2:=rtokens_eq (N:=N) (by omega) s
 unfold z10 ref10_Parse parseS
 cases ht:toksS s with
 | inl q =>
  obtain ⟨p,e⟩:=q
  rw [ht] at t1 t2
  obtain ⟨h1,h2⟩:=t1
  obtain ⟨_,h3⟩:=t2
  have he:(e != 0)=true:=by simp [h1]
  rw [h2,h3]
  simp only [bS,he,cT]
  exact ⟨by first | rfl | trivial,by first | rfl | trivial⟩
 | inr ts =>
  rw [ht] at t1 t2
  obtain ⟨h1,h2,h3,h4⟩:=toksS_ok ht
  have t1:z23 N s=some (ts,0,0):=t1
  have t2:ref09_Tokens N s=some (ts,0,0):=t2
  rw [t1,t2]
  simp only [bS]
  rw [show ((0:Int) != 0)=false from rfl]
  simp only [cF]
  have p1:=parse_loop (l:=ts) (e:=(s.size:Int)) (N:=N) (by omega) h2 (F:=8200) (by omega) (by omega) (ts,0,0) rfl 8200 N [] 0 (by omega) (by simp) (Nat.zero_le _)
  have p2:=rparse_loop (l:=ts) (N:=N) (by omega) h2 h3 s (F:=8200) (by omega) (by omega) (ts,0,0) rfl 8200 N [] 0 (by omega) (by simp) (Nat.zero_le _)
  cases hp:sParse 8200 8200 [] ts 0 with
  | ok ps m =>
   rw [hp] at p1 p2
   have p1:z10_l2 N (ts,0,0) N [] ts 0 (s.size:Int) 0 0=_:=p1
   have p2:ref10_Parse_l2 N (ts,0,0) N s ts 0 0 0 []=_:=p2
   rw [p1,p2]
   obtain ⟨q1,q2⟩:=parse_small ht hp
   have v1:=valid_dq (N:=N) (by omega) ps (by omega) (fun p hp=>(Zf.of (q2 p hp)).b)
   have v2:=rvalid_dq (N:=N) (by omega) (ps.map tP) (by simp;omega) (fun p hp=>by
    obtain ⟨q,hq,rfl⟩:=List.mem_map.1 hp
    have z:=Zf.of (q2 q hq)
    have e:oL (tP q).Body=q.Body:=ot_L _
    rw [e]
    refine ⟨by show bP (oP (tP q));rw [ot_P];exact z.b,by have:=z.d;omega,by have:=z.c;omega,z.n,fun m hm=>?_⟩
    obtain ⟨m',hm',rfl⟩:=List.mem_map.1 hm
    rw [ot_M]
    exact z.m m' hm')
   rw [map_id' ot_P] at v2
   unfold z10_k1 ref10_Parse_k1
   rw [show ((0:Int) != 0)=false from rfl]
   simp only [cF]
   by_cases hv:ValidP ps
   ·rw [v1.get hv,v2.get hv,endR,fineR_pos hv];exact ⟨rfl,rfl⟩
   ·rw [v1.getN hv,v2.getN hv,endR,fineR_neg hv];exact ⟨rfl,rfl⟩
  | er k c =>
   rw [hp] at p1 p2
   obtain ⟨hc,a1,p1⟩:=p1
   obtain ⟨_,a2,p2⟩:=p2
   have p1:z10_l2 N (ts,0,0) N [] ts 0 (s.size:Int) 0 0=_:=p1
   have p2:ref10_Parse_l2 N (ts,0,0) N s ts 0 0 0 []=_:=p2
   rw [p1,p2]
   unfold z10_k1 ref10_Parse_k1
   have hc:(c != 0)=true:=by simp [hc]
   rw [hc]
   exact ⟨rfl,rfl⟩
  | out=>exact absurd hp (parse_nm (F:=8200) (by omega) 8200 [] 0 (by omega) (Nat.zero_le _)).1
theorem parse_fine {s:ByteArray} (h:(parseS s).2.2=0):ValidP (parseS s).1∧∀ p∈(parseS s).1,zP p≤8000:=by
 have t1:=tokens_eq (N:=4210001) (by omega) s
 unfold parseS at h ⊢
 cases ht:toksS s with
 | inl q =>
  obtain ⟨p,e⟩:=q
  rw [ht] at t1 h
  exact absurd h t1.1
 | inr ts =>
  rw [ht] at h
  have h:(endR ts (s.size:Int) fineR (sParse 8200 8200 [] ts 0)).2.2=0:=h
  show ValidP (endR ts (s.size:Int) fineR (sParse 8200 8200 [] ts 0)).1∧∀ p∈(endR ts (s.size:Int) fineR (sParse 8200 8200 [] ts 0)).1,zP p≤8000
  cases hp:sParse 8200 8200 [] ts 0 with
  | ok ps m =>
   rw [hp] at h
   have h:(fineR ps).2.2=0:=h
   show ValidP (fineR ps).1∧∀ p∈(fineR ps).1,zP p≤8000
   by_cases hv:ValidP ps
   ·rw [fineR_pos hv]
    exact ⟨hv,(parse_small ht hp).2⟩
   ·rw [fineR_neg hv] at h
    exact absurd h (by decide)
  | er k c =>
   rw [hp] at h
   obtain ⟨h1,h2,h3,h4⟩:=toksS_ok ht
   have p1:=parse_loop (l:=ts) (e:=(s.size:Int)) (N:=4210001) (by omega) h2 (F:=8200) (by omega) (by omega) (ts,0,0) rfl 8200 4210001 [] 0 (by omega) (by simp) (Nat.zero_le _)
   rw [hp] at p1
   exact absurd h p1.1
  | out =>
   rw [hp] at h
   have h:(6:Int)=0:=h
   exact absurd h (by decide)
end Gp
end
section
namespace Gp
open Go Go.Kx Gx
theorem blankAll:((List.range 256).all fun r => !(blankB (UInt8.ofNat r)) || (!(innB (UInt8.ofNat r)) && !(digB (UInt8.ofNat r)) && !(UInt8.ofNat r==47) && !(marks2.any fun m=>m.drop 1==[UInt8.ofNat r])))=true:=by kernel_rfl
theorem blank_f {b:UInt8} (h:blankB b=true):innB b=false∧digB b=false∧(b==47)=false∧(marks2.any fun m=>m.drop 1==[b])=false:=by
 have:=List.all_eq_true.1 blankAll b.toNat (List.mem_range.2 b.toNat_lt)
 rw [UInt8.ofNat_toNat,h] at this
 simp only [Bool.not_true,Bool.false_or,Bool.and_eq_true,Bool.not_eq_true'] at this
 exact ⟨this.1.1.1,this.1.1.2,this.1.2,this.2⟩
theorem takeWhile_app {α:Type} (p:α→Bool) (l:List α) (b:α) (w:List α) (h:p b=false):(l++b::w).takeWhile p=l.takeWhile p:=by
 induction l with
 | nil=>simp [List.takeWhile,h]
 | cons c l ih =>
  rw [List.cons_append]
  simp only [List.takeWhile]
  cases p c with
  | true=>simp only [ih]
  | false=>rfl
theorem txtB_app:∀ (l:List UInt8) (w:List UInt8) {t n},txtB l=some (t,n)→txtB (l++w)=some (t,n)
 | [],w,t,n,h=>by simp [txtB] at h
 | [c],w,t,n,h=>by
  simp only [txtB] at h
  cases hc:(c==34) with
  | false=>rw [hc] at h;cases h
  | true =>
   rw [hc] at h
   have:c=34:=by simpa using hc
   subst this
   rw [List.cons_append,txt34];exact h
 | c::d::l,w,t,n,h=>by
  cases h1:(c==34) with
  | true =>
   have:c=34:=by simpa using h1
   subst this
   rw [txt34] at h
   rw [List.cons_append,txt34];exact h
  | false =>
   cases h2:(c==92) with
   | true =>
    have:c=92:=by simpa using h2
    subst this
    cases h3:(d==34 || d==92) with
    | false=>rw [txt_esc0 d l h3] at h;cases h
    | true =>
     rw [txt_esc d l h3] at h
     rw [List.cons_append,List.cons_append,txt_esc d _ h3]
     cases ht:txtB l with
     | none=>rw [ht] at h;cases h
     | some q =>
      obtain ⟨t',n'⟩:=q
      rw [txtB_app l w ht]
      rw [ht] at h
      exact h
   | false =>
    cases h3:badB c with
    | true=>rw [txt_bad c _ h1 h2 h3] at h;cases h
    | false =>
     rw [txt_one c _ h1 h2 h3] at h
     rw [List.cons_append,txt_one c _ h1 h2 h3]
     cases ht:txtB (d::l) with
     | none=>rw [ht] at h;cases h
     | some q =>
      obtain ⟨t',n'⟩:=q
      rw [txtB_app (d::l) w ht]
      rw [ht] at h
      exact h
theorem any2 {c b:UInt8} {w:List UInt8} (h:blankB b=true):(marks2.any fun m=>m==(c::b::w).take 2)=false:=by
 have h2:=(blank_f h).2.2.2
 rw [Bool.eq_false_iff] at h2 ⊢
 intro h3
 apply h2
 rw [List.any_eq_true] at h3 ⊢
 obtain ⟨m,hm,he⟩:=h3
 refine ⟨m,hm,?_⟩
 have he:m=[c,b]:=by simpa using he
 subst he
 simp
theorem tokB_app {s:List UInt8} {k:Int} {tx:List UInt8} {v:Int} {n:Nat} (h:tokB s=.ok k tx v n) {b:UInt8} (hb:blankB b=true) (w:List UInt8):tokB (s++b::w)=.ok k tx v n:=by
 obtain ⟨f1,f2,f3,f4⟩:=blank_f hb
 cases s with
 | nil=>simp [tokB] at h
 | cons c l =>
  rw [List.cons_append]
  unfold tokB at h ⊢
  simp only [takeWhile_app innB l b w f1] at h ⊢
  cases c1:letB c with
  | true=>simp only [c1,cT] at h ⊢;exact h
  | false =>
   simp only [c1,cF] at h ⊢
   cases c2:digB c with
   | true =>
    simp only [c2,cT] at h ⊢
    unfold numB at h ⊢
    have e:=takeWhile_app digB (c::l) b w f2
    rw [List.cons_append] at e
    rw [e]
    have hle:=takeWhile_len digB (c::l)
    have e2:(c::(l++b::w)).drop ((c::l).takeWhile digB).length=(c::l).drop ((c::l).takeWhile digB).length++b::w:=by
     rw [← List.cons_append,List.drop_append_of_le_length hle]
    rw [e2]
    unfold numK at h ⊢
    have e3:((c::l).drop ((c::l).takeWhile digB).length++b::w).head?.any innB=((c::l).drop ((c::l).takeWhile digB).length).head?.any innB:=by
     cases (c::l).drop ((c::l).takeWhile digB).length with
     | nil=>simp [f1]
     | cons x y=>rfl
    rw [e3]
    exact h
   | false =>
    simp only [c2,cF] at h ⊢
    cases c3:(c==34) with
    | true =>
     simp only [c3,cT] at h ⊢
     cases ht:txtB l with
     | none=>rw [ht] at h;cases h
     | some q =>
      obtain ⟨t',n'⟩:=q
      rw [txtB_app l (b::w) ht]
      rw [ht] at h
      exact h
    | false =>
     simp only [c3,cF] at h ⊢
     cases l with
     | nil =>
      have e:(marks2.any fun m=>m==(c::([]++b::w)).take 2)=false:=any2 hb
      rw [e]
      simpa using h
     | cons d l=>exact h
theorem skW_all:∀ (m:Bool) (u w:List UInt8),skW m u=u.length→skW m (u++10::w)=u.length+1+skW false w
 | true,[],w,_=>by simp only [List.nil_append,skW];rw [show ((10:UInt8)==10)=true from rfl,cT];simp only [List.length_nil];omega
 | false,[],w,_=>by simp only [List.nil_append,skW];rw [show blankB 10=true from rfl,cT];simp only [List.length_nil];omega
 | false,c::l,w,h=>by
  simp only [List.cons_append,skW,List.length_cons] at h ⊢
  cases hb:blankB c with
  | true =>
   simp only [hb,cT] at h ⊢
   rw [skW_all false l w (by omega)];omega
  | false =>
   simp only [hb,cF] at h ⊢
   cases hc:(c==47 && l.head? == some 47) with
   | false=>rw [hc] at h;simp at h
   | true =>
    rw [hc] at h
    have e:(c==47 && (l++10::w).head? == some 47)=true:=by
     cases l with
     | nil=>simp at hc
     | cons d l=>exact hc
    rw [e]
    simp only [cT] at h ⊢
    rw [skW_all true l w (by omega)];omega
 | true,c::l,w,h=>by
  simp only [List.cons_append,skW,List.length_cons] at h ⊢
  cases hb:(c==10) with
  | true =>
   simp only [hb,cT] at h ⊢
   rw [skW_all false l w (by omega)];omega
  | false =>
   simp only [hb,cF] at h ⊢
   rw [skW_all true l w (by omega)];omega
theorem skW_part:∀ (m:Bool) (u w:List UInt8) {b:UInt8},blankB b=true→skW m u < u.length→skW m (u++b::w)=skW m u
 | _,[],w,b,_,h=>by simp at h
 | false,c::l,w,b,hbl,h=>by
  simp only [List.cons_append,skW,List.length_cons] at h ⊢
  cases hb:blankB c with
  | true =>
   simp only [hb,cT] at h ⊢
   rw [skW_part false l w hbl (by omega)]
  | false =>
   simp only [hb,cF] at h ⊢
   have e:(c==47 && (l++b::w).head? == some 47)=(c==47 && l.head? == some 47):=by
    cases l with
    | nil=>simp [(blank_f hbl).2.2.1]
    | cons d l=>rfl
   rw [e]
   cases hc:(c==47 && l.head? == some 47) with
   | false=>rfl
   | true =>
    rw [hc] at h
    simp only [cT] at h ⊢
    rw [skW_part true l w hbl (by omega)]
 | true,c::l,w,b,hbl,h=>by
  simp only [List.cons_append,skW,List.length_cons] at h ⊢
  cases hb:(c==10) with
  | true =>
   simp only [hb,cT] at h ⊢
   rw [skW_part false l w hbl (by omega)]
  | false =>
   simp only [hb,cF] at h ⊢
   rw [skW_part true l w hbl (by omega)]
abbrev Ls:=Sum (Nat × Int) (List Tok)
def prepL (ts:List Tok):Ls→Ls
 | .inl x=>.inl x
 | .inr us=>.inr (ts++us)
def lexA (s:List UInt8) (a:Nat):Ls:=lexL (s.length+1) s a
theorem lex_fuel:∀ (F F':Nat) (s:List UInt8) (a:Nat),s.length < F→s.length < F'→lexL F s a=lexL F' s a
 | 0,_,s,a,h,_=>by omega
 | _,0,s,a,_,h=>by omega
 | F+1,F'+1,s,a,h1,h2=>by
  simp only [lexL]
  cases hd:s.drop (skW false s) with
  | nil=>rfl
  | cons c l =>
   simp only []
   cases ht:tokB (c::l) with
   | er e=>rfl
   | ok k tx v n =>
    have ok:=tokB_ok ht
    have hl:(c::l).length≤s.length:=by rw [← hd,List.length_drop];omega
    have:=ok.pos;have:=ok.le
    simp only []
    rw [lex_fuel F F' ((c::l).drop n) _ (by rw [List.length_drop];omega) (by rw [List.length_drop];omega)]
theorem lexA_end {s:List UInt8} (h:skW false s=s.length) (a:Nat):lexA s a=.inr []:=by
 unfold lexA lexL
 rw [List.drop_of_length_le (by omega)]
theorem lexA_step {s:List UInt8} {c:UInt8} {l:List UInt8} (h:s.drop (skW false s)=c::l) {k:Int} {tx:List UInt8} {v:Int} {n:Nat} (ht:tokB (c::l)=.ok k tx v n) (a:Nat) :
  lexA s a=prepL [⟨k,mkB tx,v,((a+skW false s:Nat):Int)⟩] (lexA ((c::l).drop n) (a+skW false s+n)):=by
 have ok:=tokB_ok ht
 have hl:(c::l).length≤s.length:=by rw [← h,List.length_drop];omega
 have:=ok.pos;have:=ok.le
 have key:lexL (s.length+1) s a=prepL [⟨k,mkB tx,v,((a+skW false s:Nat):Int)⟩] (lexL s.length ((c::l).drop n) (a+skW false s+n)):=by
  rw [lexL]
  simp only [h,ht]
  cases lexL s.length ((c::l).drop n) (a+skW false s+n)<;>rfl
 unfold lexA
 rw [key,lex_fuel s.length (((c::l).drop n).length+1) ((c::l).drop n) _ (by rw [List.length_drop];omega) (by omega)]
theorem prep_prep (x y:List Tok) (o:Ls):prepL x (prepL y o)=prepL (x++y) o:=by
 cases o<;>simp [prepL]
theorem prep_inr {x:List Tok} {o:Ls} {ts:List Tok} (h:prepL x o=.inr ts):∃ us,o=.inr us∧ts=x++us:=by
 cases o with
 | inl q=>cases h
 | inr us=>cases h;exact ⟨us,rfl,rfl⟩
theorem lexA_inv {s:List UInt8} {a:Nat} {ts:List Tok} (h:lexA s a=.inr ts):(skW false s=s.length∧ts=[]) ∨
  ∃ c l k tx v n us,skW false s < s.length∧s.drop (skW false s)=c::l∧tokB (c::l)=.ok k tx v n∧lexA ((c::l).drop n) (a+skW false s+n)=.inr us∧ts=⟨k,mkB tx,v,((a+skW false s:Nat):Int)⟩::us:=by
 rcases Nat.lt_or_ge (skW false s) s.length with hs | hs
 ·obtain ⟨c,l,hd⟩:∃ c l,s.drop (skW false s)=c::l:=by
   cases hd:s.drop (skW false s) with
   | nil=>have:=congrArg List.length hd;rw [List.length_drop] at this;simp at this;omega
   | cons c l=>exact ⟨c,l,rfl⟩
  cases ht:tokB (c::l) with
  | er e =>
   unfold lexA at h
   simp only [lexL,hd,ht] at h
   cases h
  | ok k tx v n =>
   rw [lexA_step hd ht] at h
   obtain ⟨us,h1,h2⟩:=prep_inr h
   exact .inr ⟨c,l,k,tx,v,n,us,hs,hd,ht,h1,h2⟩
 ·have:=skW_le false s
  have e:skW false s=s.length:=by omega
  rw [lexA_end e] at h
  cases h
  exact .inl ⟨e,rfl⟩
theorem drop_app {α:Type} (u w:List α) {n:Nat} (h:n≤u.length):(u++w).drop n=u.drop n++w:=List.drop_append_of_le_length h
theorem prep_nil (o:Ls):prepL [] o=o:=by cases o<;>rfl
theorem skip_lex' (u w:List UInt8) (a:Nat) (h:skW false (u++10::w)=u.length+1+skW false w):lexA (u++10::w) a=prepL [] (lexA w (a+u.length+1)):=by
 rw [prep_nil]
 have hd:(u++10::w).drop (skW false (u++10::w))=w.drop (skW false w):=by
  rw [h,show u++10::w=(u++[10])++w by simp,show u.length+1+skW false w=(u++[10]).length+skW false w by simp,List.drop_append,List.drop_of_length_le (by omega),List.nil_append,Nat.add_sub_cancel_left]
 have ha:a+skW false (u++10::w)=a+u.length+1+skW false w:=by omega
 unfold lexA
 simp only [lexL,hd,ha]
 have hw:=skW_le false w
 cases hdr:w.drop (skW false w) with
 | nil=>rfl
 | cons c l =>
  simp only []
  cases ht:tokB (c::l) with
  | er e=>rfl
  | ok k tx v n =>
   have ok:=tokB_ok ht
   have hl:(c::l).length=w.length-skW false w:=by rw [← hdr,List.length_drop]
   have:=ok.pos;have:=ok.le
   simp only []
   rw [lex_fuel (u++10::w).length w.length ((c::l).drop n) _ (by rw [List.length_drop];simp only [lA,List.length_cons] at hl ⊢;omega) (by rw [List.length_drop];omega)]
theorem lex_app:∀ (m:Nat) (u:List UInt8) (a:Nat) (ts:List Tok),u.length≤m→lexA u a=.inr ts→∀ w,lexA (u++10::w) a=prepL ts (lexA w (a+u.length+1)):=by
 intro m
 induction m with
 | zero =>
  intro u a ts hm h w
  have hu:u=[]:=List.length_eq_zero_iff.1 (by omega)
  subst hu
  rw [lexA_end rfl] at h
  cases h
  have hsk:skW false ([]++10::w)=0+1+skW false w:=skW_all false [] w rfl
  exact skip_lex' [] w a hsk
 | succ m ih =>
  intro u a ts hm h w
  rcases lexA_inv h with ⟨h1,h2⟩ | ⟨c,l,k,tx,v,n,us,h0,h1,h2,h3,h4⟩
  ·subst h2
   exact skip_lex' u w a (skW_all false u w h1)
  ·have hsk:=skW_part false u w (b:=10) rfl h0
   have hdr:(u++10::w).drop (skW false (u++10::w))=c::(l++10::w):=by rw [hsk,drop_app u _ (by omega),h1];rfl
   have ht:=tokB_app h2 (b:=10) rfl w
   have ok:=tokB_ok h2
   rw [lexA_step hdr ht,hsk]
   have hl:(c::l).length=u.length-skW false u:=by rw [← h1,List.length_drop]
   have hle:=ok.le
   have hpos:=ok.pos
   rw [show (c::(l++10::w)).drop n=(c::l).drop n++10::w from drop_app (c::l) _ ok.le]
   rw [ih ((c::l).drop n) _ us (by rw [List.length_drop];omega) h3 w,prep_prep,h4]
   congr 2
   rw [List.length_drop];omega
def strip (t:Tok):Tok:=⟨t.Kind,t.Text,t.Value,0⟩
theorem lex_pos:∀ (m:Nat) (s:List UInt8) (a a':Nat) (ts:List Tok),s.length≤m→lexA s a=.inr ts→∃ ts',lexA s a'=.inr ts'∧ts'.map strip=ts.map strip:=by
 intro m
 induction m with
 | zero =>
  intro s a a' ts hm h
  have hs:s=[]:=List.length_eq_zero_iff.1 (by omega)
  subst hs
  rw [lexA_end rfl] at h
  cases h
  exact ⟨[],lexA_end rfl a',rfl⟩
 | succ m ih =>
  intro s a a' ts hm h
  rcases lexA_inv h with ⟨h1,h2⟩ | ⟨c,l,k,tx,v,n,us,h0,h1,h2,h3,h4⟩
  ·subst h2
   exact ⟨[],lexA_end h1 a',rfl⟩
  ·have ok:=tokB_ok h2
   have hl:(c::l).length=s.length-skW false s:=by rw [← h1,List.length_drop]
   have:=ok.pos
   obtain ⟨us',u1,u2⟩:=ih ((c::l).drop n) _ (a'+skW false s+n) us (by rw [List.length_drop];omega) h3
   refine ⟨⟨k,mkB tx,v,((a'+skW false s:Nat):Int)⟩::us',?_,?_⟩
   ·rw [lexA_step h1 h2,u1];rfl
   ·rw [h4,List.map_cons,List.map_cons,u2];rfl
end Gp
end
section
namespace Gp
open Go Go.Kx Gx
def Agr (l l':List Tok) (d n m:Nat):Prop:=∀ i,n≤i→i≤m→strip (tk l' (i+d))=strip (tk l i)
theorem Agr.sub {l l':List Tok} {d n m n' m':Nat} (h:Agr l l' d n m) (hn:n≤n') (hm:m'≤m):Agr l l' d n' m':=fun i h1 h2=>h i (by omega) (by omega)
def LoR {α:Type} (S:Pm α) (l:List Tok) (n:Nat):Rr α→Prop
 | .ok a m=>n≤m∧∀ l' d,Agr l l' d n m→S l' (n+d)=.ok a (m+d)
 | .er k c=>n≤k∧∀ l' d,Agr l l' d n k→S l' (n+d)=.er (k+d) c
 | .out=>True
def Lo {α:Type} (S:Pm α):Prop:=∀ l n,LoR S l n (S l n)
theorem Lo.ret {α:Type} (b:α):Lo (fun _ n=>.ok b n):=fun l n=>⟨Nat.le_refl _,fun _ _ _=>rfl⟩
theorem Lo.fail {α:Type} (e:Int):Lo (α:=α) (fun _ n=>.er n e):=fun l n=>⟨Nat.le_refl _,fun _ _ _=>rfl⟩
theorem lorOk {α:Type} {S:Pm α} {l:List Tok} {n:Nat} {a:α} {m:Nat} (e:S l n=.ok a m) (h1:n≤m) (h2:∀ l' d,Agr l l' d n m→S l' (n+d)=.ok a (m+d)):LoR S l n (S l n):=by rw [e];exact ⟨h1,h2⟩
theorem lorEr {α:Type} {S:Pm α} {l:List Tok} {n:Nat} {k:Nat} {c:Int} (e:S l n=.er k c) (h1:n≤k) (h2:∀ l' d,Agr l l' d n k→S l' (n+d)=.er (k+d) c):LoR S l n (S l n):=by rw [e];exact ⟨h1,h2⟩
theorem lorOut {α:Type} {S:Pm α} {l:List Tok} {n:Nat} (e:S l n=.out):LoR S l n (S l n):=by rw [e];trivial
theorem Lo.bind {α β:Type} {S:Pm α} {T:α→Pm β} (hS:Lo S) (hT:∀ a,Lo (T a)):Lo (fun l n=>(S l n).bind fun a m=>T a l m):=by
 intro l n
 have h:=hS l n
 have st:∀ {l':List Tok} {a:α} {n m:Nat},S l' n=.ok a m→(fun l n=>(S l n).bind fun a m=>T a l m) l' n=T a l' m:=fun e=>by
  show (S _ _).bind _=_
  rw [e];rfl
 have st2:∀ {l':List Tok} {n k:Nat} {c:Int},S l' n=.er k c→(fun l n=>(S l n).bind fun a m=>T a l m) l' n=.er k c:=fun e=>by
  show (S _ _).bind _=_
  rw [e];rfl
 cases hs:S l n with
 | ok a m =>
  rw [hs] at h
  obtain ⟨h1,h2⟩:=h
  have h':=hT a l m
  cases ht:T a l m with
  | ok b k =>
   rw [ht] at h'
   exact lorOk ((st hs).trans ht) (Nat.le_trans h1 h'.1) fun l' d hl=>(st (h2 l' d (hl.sub (Nat.le_refl _) h'.1))).trans (h'.2 l' d (hl.sub h1 (Nat.le_refl _)))
  | er k c =>
   rw [ht] at h'
   exact lorEr ((st hs).trans ht) (Nat.le_trans h1 h'.1) fun l' d hl=>(st (h2 l' d (hl.sub (Nat.le_refl _) h'.1))).trans (h'.2 l' d (hl.sub h1 (Nat.le_refl _)))
  | out=>exact lorOut ((st hs).trans ht)
 | er k c =>
  rw [hs] at h
  exact lorEr (st2 hs) h.1 fun l' d hl=>st2 (h.2 l' d hl)
 | out=>exact lorOut (by show (S l n).bind _=_;rw [hs];rfl)
theorem Lo.succ {α:Type} {S:Pm α} (h:Lo S):Lo (fun l n=>S l (n+1)):=by
 intro l n
 have h:=h l (n+1)
 have e:∀ d,n+d+1=n+1+d:=fun d=>by omega
 cases hs:S l (n+1) with
 | ok a m=>rw [hs] at h;exact lorOk (S:=fun l n=>S l (n+1)) hs (by have:=h.1;omega) fun l' d hl=>by show S l' (n+d+1)=_;rw [e];exact h.2 l' d (hl.sub (Nat.le_succ _) (Nat.le_refl _))
 | er k c=>rw [hs] at h;exact lorEr (S:=fun l n=>S l (n+1)) hs (by have:=h.1;omega) fun l' d hl=>by show S l' (n+d+1)=_;rw [e];exact h.2 l' d (hl.sub (Nat.le_succ _) (Nat.le_refl _))
 | out=>exact lorOut (S:=fun l n=>S l (n+1)) hs
theorem agr_at {P:Tok→Bool} (hP:∀ t,P (strip t)=P t) {l l':List Tok} {d n m:Nat} (h:Agr l l' d n m) (hn:n≤m):P (tk l' (n+d))=P (tk l n):=by
 rw [← hP,h n (Nat.le_refl _) hn,hP]
theorem Lo.test {α:Type} {P:Tok→Bool} (hP:∀ t,P (strip t)=P t) {A C:Pm α} (hA:Lo A) (hC:Lo C):Lo (fun l n=>bif P (tk l n) then A l n else C l n):=by
 intro l n
 have h1:=hA l n
 have h2:=hC l n
 have st:∀ {l':List Tok} {n:Nat},P (tk l' n)=true→(fun l n=>bif P (tk l n) then A l n else C l n) l' n=A l' n:=fun e=>by
  show (bif P (tk _ _) then _ else _)=_
  rw [e];rfl
 have sf:∀ {l':List Tok} {n:Nat},P (tk l' n)=false→(fun l n=>bif P (tk l n) then A l n else C l n) l' n=C l' n:=fun e=>by
  show (bif P (tk _ _) then _ else _)=_
  rw [e];rfl
 cases hp:P (tk l n) with
 | true =>
  cases hs:A l n with
  | ok a m=>rw [hs] at h1;exact lorOk ((st hp).trans hs) h1.1 fun l' d hl=>(st (by rw [agr_at hP hl h1.1,hp])).trans (h1.2 l' d hl)
  | er k c=>rw [hs] at h1;exact lorEr ((st hp).trans hs) h1.1 fun l' d hl=>(st (by rw [agr_at hP hl h1.1,hp])).trans (h1.2 l' d hl)
  | out=>exact lorOut ((st hp).trans hs)
 | false =>
  cases hs:C l n with
  | ok a m=>rw [hs] at h2;exact lorOk ((sf hp).trans hs) h2.1 fun l' d hl=>(sf (by rw [agr_at hP hl h2.1,hp])).trans (h2.2 l' d hl)
  | er k c=>rw [hs] at h2;exact lorEr ((sf hp).trans hs) h2.1 fun l' d hl=>(sf (by rw [agr_at hP hl h2.1,hp])).trans (h2.2 l' d hl)
  | out=>exact lorOut ((sf hp).trans hs)
theorem Lo.val {α:Type} {f:Tok→α} (hf:∀ t,f (strip t)=f t):Lo (fun l n=>.ok (f (tk l n)) (n+1)) :=
 fun l n=>⟨Nat.le_succ _,fun l' d hl=>by
  show Rr.ok (f (tk l' (n+d))) (n+d+1)=_
  rw [← hf,hl n (Nat.le_refl _) (Nat.le_succ _),hf,show n+d+1=n+1+d by omega]⟩
theorem Lo.cond {α:Type} (b:Bool) {A C:Pm α} (hA:Lo A) (hC:Lo C):Lo (fun l n=>bif b then A l n else C l n):=by
 cases b
 ·exact hC
 ·exact hA
theorem isT_strip (s:ByteArray) (t:Tok):isT s (strip t)=isT s t:=rfl
theorem Lo.takes {α:Type} (s:ByteArray) {A C:Pm α} (hA:Lo A) (hC:Lo C):Lo (fun l n=>bif isT s (tk l n) then A l (n+1) else C l n):=Lo.test (P:=isT s) (isT_strip s) hA.succ hC
theorem wants_lo (s:ByteArray):Lo (sWants s):=Lo.test (P:=isT s) (isT_strip s) (Lo.ret ()).succ (Lo.fail 3)
theorem word_lo:Lo sWord:=Lo.test (P:=wordT) (fun _=>rfl) (Lo.val (f:=fun t=>t.Text) fun _=>rfl) (Lo.fail 3)
theorem num_lo:Lo sNum:=Lo.test (P:=fun t=>t.Kind==2) (fun _=>rfl) (Lo.val (f:=fun t=>t.Value) fun _=>rfl) (Lo.fail 3)
theorem signed_lo:Lo sSigned:=Lo.takes (str [45]) (A:=fun l n=>(sNum l n).bind fun v m=>.ok (w64 (0-v)) m) (Lo.bind num_lo fun v=>Lo.ret _) num_lo
theorem loop_lo {α β:Type} (s:ByteArray) {p:Pm α} (hp:Lo p) (upd:β→α→β):∀ (F:Nat) (acc:β),Lo (sLoop s p upd F acc)
 | 0,_=>fun l n=>trivial
 | F+1,acc=>Lo.takes s (A:=fun l n=>(p l n).bind fun a m=>sLoop s p upd F (upd acc a) l m) (Lo.bind hp fun a=>loop_lo s hp upd F (upd acc a)) (Lo.ret acc)
theorem words_lo (F:Nat):Lo (sWords F):=Lo.bind word_lo fun w=>loop_lo _ word_lo snoc F [w]
theorem path_lo (F:Nat):Lo (sPath F):=Lo.bind word_lo fun w=>loop_lo _ word_lo dotW F w
theorem field_lo:Lo sField:=Lo.bind word_lo fun w=>Lo.bind (wants_lo _) fun _=>Lo.takes (str [105,110,116])
 (A:=fun l n=>(sSigned l n).bind fun lo n=>(sWants (str [46,46]) l n).bind fun _ n=>(sSigned l n).bind fun hi n=>.ok (⟨w,⟨1,lo,hi⟩⟩:T0) n)
 (Lo.bind signed_lo fun _=>Lo.bind (wants_lo _) fun _=>Lo.bind signed_lo fun _=>Lo.ret _)
 (Lo.bind (wants_lo _) fun _=>Lo.bind num_lo fun _=>Lo.bind (wants_lo _) fun _=>Lo.bind num_lo fun _=>Lo.ret _)
theorem tail_lo (k:Int) (s:ByteArray):Lo (sTail k s) :=
 Lo.takes (str [43]) (A:=fun l n=>(sNum l n).bind fun v n=>.ok (⟨k,(splitP s).1,(splitP s).2,v⟩:T13) n) (Lo.bind num_lo fun _=>Lo.ret _)
  (Lo.takes (str [45]) (A:=fun l n=>(sNum l n).bind fun v n=>.ok (⟨k,(splitP s).1,(splitP s).2,w64 (0-v)⟩:T13) n) (Lo.bind num_lo fun _=>Lo.ret _) (Lo.ret _))
theorem term_lo (F:Nat):Lo (sTerm F) :=
 Lo.test (P:=fun t=>isT (str [45]) t || t.Kind==2) (fun _=>rfl) (Lo.bind signed_lo fun _=>Lo.ret _)
  (Lo.takes (str [108,101,110]) (A:=fun l n=>(sWants (str [40]) l n).bind fun _ n=>(sPath F l n).bind fun s n=>(sWants (str [41]) l n).bind fun _ n=>sTail 3 s l n)
   (Lo.bind (wants_lo _) fun _=>Lo.bind (path_lo F) fun s=>Lo.bind (wants_lo _) fun _=>tail_lo 3 s) (Lo.bind (path_lo F) fun s=>tail_lo 2 s))
def sMark:Pm ByteArray:=fun l n=>bif markT (tk l n) then .ok (tk l n).Text (n+1) else .er n 3
theorem mark_lo:Lo sMark:=Lo.test (P:=markT) (fun _=>rfl) (Lo.val (f:=fun t=>t.Text) fun _=>rfl) (Lo.fail 3)
theorem sAtom_eq (F:Nat):sAtom F=fun l n=>(sTerm F l n).bind fun a n=>(sMark l n).bind fun tx n=>(sTerm F l n).bind fun b m=>.ok ⟨a,tx,b⟩ m:=by
 funext l n
 unfold sAtom sMark
 congr 1;funext a m
 cases markT (tk l m)<;>rfl
theorem atom_lo (F:Nat):Lo (sAtom F):=by
 rw [sAtom_eq]
 exact Lo.bind (term_lo F) fun a=>Lo.bind mark_lo fun tx=>Lo.bind (term_lo F) fun b=>Lo.ret _
theorem where_lo (F:Nat) (nm:ByteArray) (fs:List T0):Lo (sWhere F nm fs) :=
 Lo.takes (str [119,104,101,114,101]) (A:=fun l n=>(sAtom F l n).bind fun a n=>(sLoop (str [97,110,100]) (sAtom F) snoc F [a] l n).bind fun as' n=>(sWants (str [59]) l n).bind fun _ n=>.ok (⟨nm,fs,as'⟩:T11) n)
  (Lo.bind (atom_lo F) fun a=>Lo.bind (loop_lo _ (atom_lo F) snoc F [a]) fun _=>Lo.bind (wants_lo _) fun _=>Lo.ret _) (Lo.bind (wants_lo _) fun _=>Lo.ret _)
theorem message_lo (F:Nat):Lo (sMessage F) :=
 Lo.bind (path_lo F) fun nm=>Lo.bind (wants_lo _) fun _=>Lo.takes (str [41]) (where_lo F nm [])
  (Lo.bind field_lo fun f=>Lo.bind (loop_lo _ field_lo snoc F [f]) fun fs=>Lo.bind (wants_lo _) fun _=>where_lo F nm fs)
theorem block_lo {items:Pm (List T10)} (h:Lo items):Lo (sBlock items):=Lo.bind (wants_lo _) fun _=>Lo.bind h fun _=>Lo.bind (wants_lo _) fun _=>Lo.ret _
theorem else_lo {block:Pm (List T10)} (h:Lo block) (who:ByteArray) (t:Int) (bl:List (List T10)):Lo (sElse block who t bl) :=
 Lo.cond _ (Lo.bind (wants_lo _) fun _=>Lo.bind h fun _=>Lo.ret _) (Lo.ret _)
theorem branches_lo (F:Nat) {block:Pm (List T10)} (h:Lo block) (who:ByteArray) (t:Int):Lo (sBranches F block who t) :=
 Lo.bind h fun b=>Lo.bind (loop_lo _ h snoc F [b]) fun bl=>else_lo h who t bl
theorem ticks_lo:Lo sTicks:=Lo.test (P:=fun t=>t.Kind==2 && (decide (t.Value < 1) || decide (t.Value > 1000))) (fun _=>rfl) (Lo.fail 2) num_lo
theorem choice_lo (F:Nat) {block:Pm (List T10)} (h:Lo block):Lo (sChoice F block) :=
 Lo.bind (wants_lo _) fun _=>Lo.bind word_lo fun who=>Lo.takes (str [119,105,116,104,105,110]) (A:=fun l n=>(sTicks l n).bind fun t n=>sBranches F block who t l n)
  (Lo.bind ticks_lo fun t=>branches_lo F h who t) (branches_lo F h who 0)
theorem send_lo (F:Nat):Lo (sSend F):=Lo.bind word_lo fun _=>Lo.bind (wants_lo _) fun _=>Lo.bind (words_lo F) fun _=>Lo.bind (wants_lo _) fun _=>Lo.bind (path_lo F) fun _=>Lo.bind (wants_lo _) fun _=>Lo.ret _
theorem call_lo (F:Nat):Lo (sCall F):=Lo.bind word_lo fun _=>Lo.bind (wants_lo _) fun _=>Lo.bind (words_lo F) fun _=>Lo.bind (wants_lo _) fun _=>Lo.bind (wants_lo _) fun _=>Lo.bind word_lo fun _=>Lo.bind (wants_lo _) fun _=>Lo.ret _
theorem item_lo (F:Nat) {block:Pm (List T10)} (h:Lo block):Lo (sItem F block) :=
 Lo.takes (str [99,104,111,105,99,101]) (choice_lo F h)
  (Lo.takes (str [108,111,111,112]) (A:=fun l n=>(sPath F l n).bind fun nm n=>(block l n).bind fun b n=>.ok (⟨3,str [],[],nm,str [],0,[b]⟩:T10) n) (Lo.bind (path_lo F) fun _=>Lo.bind h fun _=>Lo.ret _)
  (Lo.takes (str [97,103,97,105,110]) (A:=fun l n=>(sPath F l n).bind fun nm n=>(sWants (str [59]) l n).bind fun _ n=>.ok (⟨4,str [],[],nm,str [],0,[]⟩:T10) n) (Lo.bind (path_lo F) fun _=>Lo.bind (wants_lo _) fun _=>Lo.ret _)
  (Lo.takes (str [112,97,114]) (A:=fun l n=>(block l n).bind fun b n=>(sWants (str [97,110,100]) l n).bind fun _ n=>(block l n).bind fun c n=>(sLoop (str [97,110,100]) block snoc F [b,c] l n).bind fun bl n=>.ok (⟨5,str [],[],str [],str [],0,bl⟩:T10) n)
   (Lo.bind h fun b=>Lo.bind (wants_lo _) fun _=>Lo.bind h fun c=>Lo.bind (loop_lo _ h snoc F [b,c]) fun _=>Lo.ret _)
  (Lo.takes (str [99,97,108,108]) (call_lo F) (send_lo F)))))
theorem list_lo {item:Pm T10} (h:Lo item):∀ (F:Nat) (acc:List T10),Lo (sList item F acc)
 | 0,_=>fun l n=>trivial
 | F+1,acc=>Lo.test (P:=begT) (fun _=>rfl) (A:=fun l n=>(item l n).bind fun x m=>sList item F (snoc acc x) l m) (Lo.bind h fun x=>list_lo h F (snoc acc x)) (Lo.ret acc)
theorem items_lo:∀ F:Nat,Lo (sItems F)
 | 0=>fun l n=>trivial
 | F+1=>list_lo (item_lo F (block_lo (items_lo F))) F []
def sProt0 (F:Nat):Pm T12:=fun l n=>(sWants (str [112,114,111,116,111,99,111,108]) l n).bind fun _ n=>(sWord l n).bind fun nm n=>(sWants (str [40]) l n).bind fun _ n=>(sWords F l n).bind fun rs n =>
 (sWants (str [41]) l n).bind fun _ n=>(sWants (str [123]) l n).bind fun _ n=>(sLoop (str [109,101,115,115,97,103,101]) (sMessage F) snoc F [] l n).bind fun ms n=>(sItems F l n).bind fun b n=>.ok ⟨nm,rs,ms,b⟩ n
theorem prot0_lo (F:Nat):Lo (sProt0 F):=Lo.bind (wants_lo _) fun _=>Lo.bind word_lo fun _=>Lo.bind (wants_lo _) fun _=>Lo.bind (words_lo F) fun _=>Lo.bind (wants_lo _) fun _=>Lo.bind (wants_lo _) fun _ =>
 Lo.bind (loop_lo _ (message_lo F) snoc F []) fun _=>Lo.bind (items_lo F) fun _=>Lo.ret _
theorem sProtocol_eq (F:Nat):sProtocol F=fun l n=>(sProt0 F l n).bind fun p n=>(sWants (str [125]) l n).bind fun _ n=>.ok p n:=by
 funext l n
 unfold sProtocol sProt0
 simp only [rr_assoc]
 rfl
theorem protocol_lo {F:Nat} {l:List Tok} {n:Nat}:match sProtocol F l n with
  | .ok p m=>n < m∧∀ l' d,Agr l l' d n (m-1)→sProtocol F l' (n+d)=.ok p (m+d)
  | .er k c=>n≤k∧∀ l' d,Agr l l' d n k→sProtocol F l' (n+d)=.er (k+d) c
  | .out=>True:=by
 rw [sProtocol_eq]
 have h:=prot0_lo F l n
 simp only []
 cases hs:sProt0 F l n with
 | ok p m =>
  rw [hs] at h
  obtain ⟨h1,h2⟩:=h
  cases hi:isT (str [125]) (tk l m) with
  | true =>
   have e:sWants (str [125]) l m=.ok () (m+1):=by unfold sWants;rw [hi];rfl
   simp only [Rr.bind,e]
   refine ⟨by omega,fun l' d hl=>?_⟩
   rw [Nat.add_sub_cancel] at hl
   have hl':=agr_at (P:=isT (str [125])) (isT_strip _) (hl.sub h1 (Nat.le_refl _)) (Nat.le_refl _)
   have e2:sWants (str [125]) l' (m+d)=.ok () (m+d+1):=by unfold sWants;rw [hl',hi];rfl
   rw [h2 l' d hl]
   simp only [e2]
   rw [show m+d+1=m+1+d by omega]
  | false =>
   have e:sWants (str [125]) l m=.er m 3:=by unfold sWants;rw [hi];rfl
   simp only [Rr.bind,e]
   refine ⟨h1,fun l' d hl=>?_⟩
   have hl':=agr_at (P:=isT (str [125])) (isT_strip _) (hl.sub h1 (Nat.le_refl _)) (Nat.le_refl _)
   have e2:sWants (str [125]) l' (m+d)=.er (m+d) 3:=by unfold sWants;rw [hl',hi];rfl
   rw [h2 l' d hl]
   simp only [e2]
 | er k c =>
  rw [hs] at h
  refine ⟨h.1,fun l' d hl=>?_⟩
  rw [h.2 l' d hl];rfl
 | out=>trivial
end Gp
end
section
namespace Gp
open Go Go.Kx Gx
def AgrA (l l':List Tok) (d n:Nat):Prop:=∀ i,n≤i→strip (tk l' (i+d))=strip (tk l i)
theorem AgrA.agr {l l':List Tok} {d n:Nat} (h:AgrA l l' d n) (m:Nat):Agr l l' d n m:=fun i h1 _=>h i h1
theorem AgrA.sub {l l':List Tok} {d n n':Nat} (h:AgrA l l' d n) (hn:n≤n'):AgrA l l' d n':=fun i h1=>h i (by omega)
theorem parse_shift {F:Nat} {l:List Tok} (hF:l.length+2≤F) {l':List Tok} {d:Nat} (hl:l'.length=l.length+d):∀ (G G':Nat) (acc acc':List T12) (n:Nat),l.length < G+n→l'.length < G'+(n+d)→n≤l.length→AgrA l l' d n →
  match sParse F G acc l n with
  | .ok ps m=>∃ qs,ps=acc++qs∧m=l.length∧sParse F G' acc' l' (n+d)=.ok (acc'++qs) (m+d)
  | .er k c=>sParse F G' acc' l' (n+d)=.er (k+d) c
  | .out=>True:=by
 intro G
 induction G with
 | zero=>intro G' acc acc' n h;omega
 | succ G ih =>
  intro G' acc acc' n h h' hn ha
  obtain ⟨G',rfl⟩:∃ m,G'=m+1:=⟨G'-1,by omega⟩
  simp only [sParse]
  by_cases hlt:n < l.length
  ·rw [dT hlt,dT (by omega:n+d < l'.length)]
   simp only [cT]
   have hp:=protocol_lo (F:=F) (l:=l) (n:=n)
   cases hs:sProtocol F l n with
   | ok p m =>
    rw [hs] at hp
    obtain ⟨_,hm,_⟩:=(protocol_nm hF).ok n (Nat.zero_le _) hn p m hs
    rw [hp.2 l' d (ha.agr _)]
    simp only [Rr.bind]
    have:=ih G' (snoc acc p) (snoc acc' p) m (by have:=hp.1;omega) (by have:=hp.1;omega) hm (ha.sub (by have:=hp.1;omega))
    cases hr:sParse F G (snoc acc p) l m with
    | ok ps k =>
     rw [hr] at this
     obtain ⟨qs,e1,e2,e3⟩:=this
     exact ⟨p::qs,by rw [e1];simp [snoc],e2,by rw [e3];simp [snoc]⟩
    | er k c=>rw [hr] at this;exact this
    | out=>trivial
   | er k c =>
    rw [hs] at hp
    rw [hp.2 l' d (ha.agr _)]
    rfl
   | out=>trivial
  ·rw [dF hlt,dF (by omega:¬ n+d < l'.length)]
   simp only [cF]
   exact ⟨[],by simp,by omega,by simp⟩
theorem parse_cat {F:Nat} {l1 l2:List Tok} (hF:l1.length+2≤F):∀ (G G':Nat) (acc:List T12) (n:Nat),l1.length < G+n→(l1++l2).length < G'+n→n≤l1.length→∀ ps m,sParse F G acc l1 n=.ok ps m →
  ∃ G'',(l1++l2).length < G''+l1.length∧sParse F G' acc (l1++l2) n=sParse F G'' ps (l1++l2) l1.length:=by
 intro G
 induction G with
 | zero=>intro G' acc n h;omega
 | succ G ih =>
  intro G' acc n h h' hn ps m hps
  rcases Nat.lt_or_ge n l1.length with hlt | hge
  ·obtain ⟨G',rfl⟩:∃ m,G'=m+1:=⟨G'-1,by simp at h';omega⟩
   simp only [sParse] at hps ⊢
   rw [dT hlt] at hps
   rw [dT (by simp;omega:n < (l1++l2).length)]
   simp only [cT] at hps ⊢
   have hp:=protocol_lo (F:=F) (l:=l1) (n:=n)
   cases hs:sProtocol F l1 n with
   | ok p k =>
    rw [hs] at hp hps
    obtain ⟨_,hm,_⟩:=(protocol_nm hF).ok n (Nat.zero_le _) hn p k hs
    have hag:Agr l1 (l1++l2) 0 n (k-1):=fun i _ h2=>by
     have:i < l1.length:=by have:=hp.1;omega
     unfold tk
     rw [Nat.add_zero,List.getElem?_append_left this]
    have e:=hp.2 (l1++l2) 0 hag
    simp only [Nat.add_zero] at e
    rw [e]
    simp only [Rr.bind] at hps ⊢
    exact ih G' (snoc acc p) k (by have:=hp.1;omega) (by have:=hp.1;omega) hm ps m hps
   | er k c=>rw [hs] at hps;cases hps
   | out=>rw [hs] at hps;cases hps
  ·have:n=l1.length:=by omega
   subst this
   simp only [sParse] at hps
   rw [dF (Nat.lt_irrefl _)] at hps
   cases hps
   exact ⟨G',h',rfl⟩
theorem parseS_inr {s:ByteArray} {ts:List Tok} (h:toksS s=.inr ts):parseS s=endR ts (s.size:Int) fineR (sParse 8200 8200 [] ts 0):=by
 unfold parseS
 rw [h]
theorem toks_lex {s:ByteArray} (h:s.size≤8000):toksS s=lexA (bs s) 0:=by
 unfold toksS lexA
 rw [dF (by omega),cF,size_bs]
theorem parse_inv {s:ByteArray} (h:(parseS s).2.2=0):∃ ts ps m,s.size≤8000∧lexA (bs s) 0=.inr ts∧toksS s=.inr ts∧sParse 8200 8200 [] ts 0=.ok ps m∧ValidP ps∧parseS s=(ps,0,0):=by
 have t1:=tokens_eq (N:=4210001) (by omega) s
 unfold parseS at h ⊢
 cases ht:toksS s with
 | inl q =>
  obtain ⟨p,e⟩:=q
  rw [ht] at t1 h
  exact absurd h t1.1
 | inr ts =>
  rw [ht] at h
  obtain ⟨q1,q2,q3,q4⟩:=toksS_ok ht
  have h:(endR ts (s.size:Int) fineR (sParse 8200 8200 [] ts 0)).2.2=0:=h
  cases hp:sParse 8200 8200 [] ts 0 with
  | ok ps m =>
   rw [hp] at h
   have h:(fineR ps).2.2=0:=h
   by_cases hv:ValidP ps
   ·refine ⟨ts,ps,m,q4,by rw [← toks_lex q4,ht],rfl,hp,hv,?_⟩
    show endR ts (s.size:Int) fineR (sParse 8200 8200 [] ts 0)=_
    rw [hp];exact fineR_pos hv
   ·rw [fineR_neg hv] at h
    exact absurd h (by decide)
  | er k c =>
   rw [hp] at h
   have p1:=parse_loop (l:=ts) (e:=(s.size:Int)) (N:=4210001) (by omega) q2 (F:=8200) (by omega) (by omega) (ts,0,0) rfl 8200 4210001 [] 0 (by omega) (by simp) (Nat.zero_le _)
   rw [hp] at p1
   exact absurd h p1.1
  | out =>
   rw [hp] at h
   have h:(6:Int)=0:=h
   exact absurd h (by decide)
theorem strip_tk {l l':List Tok} (h:l'.map strip=l.map strip) (i:Nat):strip (tk l' i)=strip (tk l i):=by
 have h1:∀ l:List Tok,strip (tk l i)=((l.map strip)[i]?).getD zt:=by
  intro l
  unfold tk
  rw [List.getElem?_map]
  cases l[i]?<;>rfl
 rw [h1,h1,h]
theorem srcT_app (a b:List T12):srcT (a++b)=srcT a++srcT b:=by unfold srcT;rw [List.map_append,List.flatten_append]
theorem parse_two {a b:ByteArray} (ha:(parseS a).2.2=0) (hb:(parseS b).2.2=0) {c:ByteArray} (hc:bs c=bs a++10::bs b) (h8:c.size≤8000):parseS c=fineR ((parseS a).1++(parseS b).1):=by
 obtain ⟨ta,pa,ma,a1,a2,a3,a4,a5,a6⟩:=parse_inv ha
 obtain ⟨tb,pb,mb,b1,b2,b3,b4,b5,b6⟩:=parse_inv hb
 obtain ⟨tb',b7,b8⟩:=lex_pos _ (bs b) 0 (0+(bs a).length+1) tb (Nat.le_refl _) b2
 have ht:toksS c=.inr (ta++tb'):=by
  rw [toks_lex h8,hc,lex_app _ (bs a) 0 ta (Nat.le_refl _) a2 (bs b),b7];rfl
 obtain ⟨q1,q2,q3,q4⟩:=toksS_ok ht
 obtain ⟨r1,_⟩:=toksS_ok a3
 obtain ⟨r2,_⟩:=toksS_ok b3
 have hlen:tb'.length=tb.length:=by have:=congrArg List.length b8;simpa using this
 obtain ⟨G,g1,g2⟩:=parse_cat (F:=8200) (l1:=ta) (l2:=tb') (by omega) 8200 8200 [] 0 (by omega) (by omega) (Nat.zero_le _) pa ma a4
 have hsh:=parse_shift (F:=8200) (l:=tb) (l':=ta++tb') (d:=ta.length) (by omega) (by simp;omega) 8200 G [] pa 0 (by omega) (by simp at g1 ⊢;omega) (Nat.zero_le _) (fun i _=>by
  rw [← strip_tk b8 i]
  unfold tk
  rw [List.getElem?_append_right (by omega),Nat.add_sub_cancel])
 rw [b4] at hsh
 obtain ⟨qs,e1,e2,e3⟩:=hsh
 simp only [List.nil_append,Nat.zero_add] at e1 e3
 rw [e3] at g2
 rw [parseS_inr ht,g2,a6,b6,← e1]
 rfl
variable {N:Nat}
theorem print_eq (hN:4210000 < N) {ps:List T12} (hv:ValidP ps) (hz:∀ p∈ps,zP p≤8000):z16 N ps=some (mkB (srcT ps),0):=by
 have hl:=hv.1
 unfold z16
 rw [(valid_dq (N:=N) (by omega) ps (by omega) fun p hp=>(Zf.of (hz p hp)).b).get hv]
 simp only [bS,Bool.not_true,cF]
 rw [source_eq (by omega) ps hl fun p hp=>⟨hv.2.1 p hp,(Zf.of (hz p hp)).b.l,(Zf.of (hz p hp)).b.b⟩]
 rfl
theorem parts_law (hN:4210000 < N) (a b:ByteArray) (hw:z9 N=some true):law10_SyntaxParts N a b=some true:=by
 unfold law10_SyntaxParts
 rw [hw,(parse_both hN a).1,(parse_both hN b).1]
 simp only [bS,Bool.not_true,cF]
 by_cases s1:a.size > 1500
 ·rw [dT (by omega:(a.size:Int) > 1500)];rfl
 by_cases s2:b.size > 1500
 ·rw [dF (by omega:¬ (a.size:Int) > 1500),dT (by omega:(b.size:Int) > 1500)];rfl
 rw [dF (by omega:¬ (a.size:Int) > 1500),dF (by omega:¬ (b.size:Int) > 1500)]
 simp only [cF]
 by_cases ha:(parseS a).2.2=0
 ·by_cases hb:(parseS b).2.2=0
  ·rw [show ((parseS a).2.2 != 0)=false by simp [ha],show ((parseS b).2.2 != 0)=false by simp [hb]]
   simp only [cF]
   have fa:=parse_fine ha
   have fb:=parse_fine hb
   rw [size_bs] at s1 s2
   simp (disch:=(simp only [bs_mkB,bs_str,lA,List.length_cons,List.length_nil];omega)) only [cat_eq,bS,bs_mkB,bs_str]
   have hc:bs (mkB (bs a++[10]++bs b))=bs a++10::bs b:=by rw [bs_mkB];simp
   have hcs:(mkB (bs a++[10]++bs b)).size≤8000:=by rw [size_bs,bs_mkB];simp only [lA,List.length_cons,List.length_nil];omega
   rw [(parse_both hN _).1,parse_two ha hb hc hcs,print_eq hN fa.1 fa.2,print_eq hN fb.1 fb.2]
   simp only [bS]
   have l1:=fa.1.1
   have l2:=fb.1.1
   have l3:=fa.1.2.2
   have l4:=fb.1.2.2
   rw [w64_id (by omega) (by omega),size_bs,size_bs,bs_mkB,bs_mkB,w64_id (by omega) (by omega)]
   by_cases h10:(parseS a).1.length+(parseS b).1.length > 10
   ·rw [dT (by omega),cT,fineR_neg (by intro hv;have:=hv.1;simp at this;omega)];rfl
   ·rw [dF (by omega),cF]
    by_cases h8:(srcT (parseS a).1).length+(srcT (parseS b).1).length > 8000
    ·rw [dT (by omega),cT,fineR_neg (by intro hv;have:=hv.2.2;rw [srcT_app] at this;simp at this;omega)];rfl
    ·rw [dF (by omega),cF]
     have hv:ValidP ((parseS a).1++(parseS b).1):=⟨by simp;omega,fun p hp=>by
      rcases List.mem_append.1 hp with hp | hp
      ·exact fa.1.2.1 p hp
      ·exact fb.1.2.1 p hp,by rw [srcT_app];simp;omega⟩
     rw [fineR_pos hv,appL_some (by simp;omega)]
     simp only [List.nil_append,bS]
     rw [appL_some (by omega)]
     simp only [bS]
     rw [(equal_dq (N:=N) (by omega) ((parseS a).1++(parseS b).1) ((parseS a).1++(parseS b).1) (by simp;omega) (fun p hp=>by
      have hz:zP p≤8000:=by
       rcases List.mem_append.1 hp with hp | hp
       ·exact fa.2 p hp
       ·exact fb.2 p hp
      exact ⟨(Zf.of hz).b,by have:=(Zf.of hz).d;omega⟩)).get rfl]
     rfl
  ·rw [show ((parseS b).2.2 != 0)=true by simp [hb]]
   cases ((parseS a).2.2 != 0)<;>rfl
 ·rw [show ((parseS a).2.2 != 0)=true by simp [ha]]
  rfl
end Gp
end
section
namespace Gx
open Go Go.Kx
end Gx
end
section
namespace Gp
open Go Go.Kx Gx
set_option maxRecDepth 100000
theorem awake_some (k:Nat):z9 (k+300)=some true:=by kernel_rfl
theorem plain:∀ (x0:ByteArray) (x1:ByteArray),(x0.size≤bd)→(x1.size≤bd)→∃ N,law10_SyntaxParts N x0 x1=some true:=by
 intro a b _ _
 exact ⟨10000000+300,parts_law (by omega) a b (awake_some _)⟩
end Gp
end
