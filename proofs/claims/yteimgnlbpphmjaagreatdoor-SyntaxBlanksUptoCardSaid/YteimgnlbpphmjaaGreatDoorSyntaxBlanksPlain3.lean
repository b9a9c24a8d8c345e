/- The plain law, part 3: what the functions compute answers as the statement says. -/
import Derived.Test.YteimgnlbpphmjaaGreatDoorSyntaxBlanksPlain2
set_option linter.all false
section
namespace Gp
open Go Go.Kx Gx
variable {N:Nat}
theorem lines_0 {α γ:Type} (xs:List α) (F:Nat→ByteArray→Int→γ) (fin:ByteArray→γ) (g:α→List UInt8) (L:Nat) (hs:xs.length≤4194304)
  (h1:∀ (n k:Nat) x A,k < 4194304→xs[k]? = some x→A.length+(g x).length≤L→F (n+1) (mkB A) (k:Int)=F n (mkB (A++g x)) ((k+1:Nat):Int))
  (h2:∀ (n k:Nat) A,xs.length≤k→A.length≤L→F (n+1) (mkB A) (k:Int)=fin (mkB A)) {n:Nat} {A:List UInt8} (hn:xs.length < n) (hA:A.length+((xs.map g).flatten).length≤L):F n (mkB A) (0:Int)=fin (mkB (A++(xs.map g).flatten)) :=
 lines_at xs F fin g L hs h1 (fun n k A a _ b=>h2 n k A a b) xs 0 n A (Nat.zero_le _) rfl hn hA
theorem rtext_eq (hN:4194320 < N) (l:List T7) (hl:l.length≤10) (h:∀ p∈l,Pk N (oP p)):ref10_text N l=some (mkB (srcT (l.map oP))):=by
 have hs:=srcT_len (l:=l.map oP) (by simp;omega) (fun p hp=>by obtain ⟨q,hq,rfl⟩:=List.mem_map.1 hp;exact (h q hq).v) (by simp;omega)
 have e:srcT (l.map oP)=(l.map fun p=>protT (oP p)).flatten:=by unfold srcT;rw [List.map_map];rfl
 rw [e] at hs ⊢
 unfold ref10_text
 have:=lines_at l (ref10_text_l2 N l) ref10_text_k1 (fun p=>protT (oP p)) 10000000 (by omega) (fun n k p A hk hp hA=>?_) (fun n k A hk _ hA=>?_) l 0 N [] (by omega) rfl (by omega) (by simp only [List.length_nil];omega)
 ·exact this
 ·have hp':=h p (List.mem_of_getElem? hp)
  have hpr:p.Roles.length≤6:=hp'.r
  have hw:=word_len hp'.v.1
  have hc:(joinT [44,32] p.Roles).length≤108:=comma_len hp'.v.2.1 (Nat.le_refl _)
  have hm:=msgs_len hp'.v
  have hq4:=xL_len (oP p).Body 1 hp'.v.2.2.2.1 (by have:=hp'.v.2.2.2.2.1;omega)
  have hc6:=hp'.v.2.2.2.2.2.1
  have e1:(oP p).Name=p.Name:=rfl
  have e2:(oP p).Roles=p.Roles:=rfl
  have e3:(oP p).Messages=p.Messages.map oM:=rfl
  have e4:(oP p).Body=oL p.Body:=rfl
  rw [e1] at hw
  rw [e3] at hm
  have hh:lineT 0 (protHead (oP p))=[112,114,111,116,111,99,111,108,32]++bs p.Name++[40]++joinT [44,32] p.Roles++[41,32,123,10]:=by
   simp [lineT,tabs,protHead,commaT,e1,e2]
  simp only [ref10_text_l2,lt_t (get_lt hp),cT,idx_nat,hp,bS]
  rw [list_eq (by omega) p.Roles (by omega) (by omega)]
  simp (disch:=(simp only [bs_mkB,bs_str,lA,List.length_cons,List.length_nil,tabs_len];omega)) only [cat_eq,bS,bs_mkB,bs_str]
  rw [← hh]
  have hhl:(lineT 0 (protHead (oP p))).length≤200:=by rw [hh];simp only [lA,List.length_cons,List.length_nil];omega
  have hml:p.Messages.length≤40:=by have:=hp'.v.2.2.1;rw [e3,List.length_map] at this;exact this
  have hbl:p.Body.length≤4194304:=by have:=hp'.l;rw [e4,oL_len] at this;exact this
  have hmm:(p.Messages.map oM).map msgLine=p.Messages.map (fun m=>msgLine (oM m)):=by rw [List.map_map];rfl
  rw [hmm] at hm
  rw [lines_0 p.Messages (ref10_text_l6 N l (k:Int) (ref10_text_l2 N l n)) (ref10_text_k5 N l (k:Int) (ref10_text_l2 N l n)) (fun m=>msgLine (oM m)) 50000000 (by omega) (fun n' j m A hj hmj hA=>?_) (fun n' j A hj hA=>?_) (by omega) (by simp only [lA];omega)]
  ·unfold ref10_text_k5
   have hx:∀ l:List T5,(l.map fun x=>xI 1 (oI x)).flatten=xL 1 (oL l):=by
    intro l
    induction l with
    | nil=>simp [oL,xL]
    | cons x l ih=>simp only [List.map_cons,List.flatten_cons,oL,xL,ih]
   rw [lines_0 p.Body (ref10_text_l4 N l (k:Int) (ref10_text_l2 N l n)) (ref10_text_k3 (k:Int) (ref10_text_l2 N l n)) (fun x=>xI 1 (oI x)) 100000000 hbl (fun n' j x A hj hxj hA=>?_) (fun n' j A hj hA=>?_) (by omega) (by rw [hx];rw [e4] at hq4 hc6;simp only [lA];omega),hx]
   ·unfold ref10_text_k3
    rw [e4] at hq4 hc6
    simp (disch:=(simp only [bs_mkB,bs_str,lA,List.length_cons,List.length_nil,tabs_len];omega)) only [cat_eq,bS,bs_mkB,bs_str]
    rw [w64_succ (by omega)]
    have:A++lineT 0 (protHead (oP p))++(p.Messages.map fun m=>msgLine (oM m)).flatten++xL 1 (oL p.Body)++[125,10]=A++protT (oP p):=by
     unfold protT
     rw [e3,hmm,e4]
     simp [lineT,tabs]
    rw [this]
   ·have hxm:=List.mem_of_getElem? hxj
    have hb:=bL_mem hp'.b (by rw [e4];exact oL_in hxm)
    have hs:=shL_mem hp'.v.2.2.2.1 (by rw [e4];exact oL_in hxm)
    have hd:=dL_mem (l:=(oP p).Body) (by rw [e4];exact oL_in hxm)
    have hd10:=hp'.v.2.2.2.2.1
    obtain ⟨y,y1,y2⟩:=ritem_eq N x 1 (by omega) hb hs (by omega) (by omega)
    have hyl:y.length+2=(xI 1 (oI x)).length:=by rw [← y2,lineT_len];omega
    simp only [ref10_text_l4,idx_nat,hp,bS,lt_t (get_lt hxj),cT,hxj,w64_succ (show j < 4611686018427387904 by omega)]
    rw [show str [9]=mkB (tabs 1) from rfl,y1]
    simp only [bS]
    simp (disch:=(simp only [bs_mkB,bs_str,lA,List.length_cons,List.length_nil,tabs_len];omega)) only [cat_eq,bS,bs_mkB,bs_str]
    rw [← y2]
    simp [lineT]
   ·simp only [ref10_text_l4,idx_nat,hp,bS,lt_f hj,cF]
  ·have hv:MsgP (oM m):=hp'.v.2.2.2.2.2.2 _ (by rw [e3];exact List.mem_map.2 ⟨m,List.mem_of_getElem? hmj,rfl⟩)
   have hvl:=msgT_len hv
   simp only [ref10_text_l6,idx_nat,hp,bS,lt_t (get_lt hmj),cT,hmj,rmessage_eq (show 4194304 < N by omega) m hv,w64_succ (show j < 4611686018427387904 by omega)]
   simp (disch:=(simp only [bs_mkB,bs_str,lA,List.length_cons,List.length_nil,tabs_len];omega)) only [cat_eq,bS,bs_mkB,bs_str]
   rfl
  ·simp only [ref10_text_l6,idx_nat,hp,bS,lt_f hj,cF]
 ·simp only [ref10_text_l2,lt_f hk,cF]
def ValidP (l:List T12):Prop:=l.length≤10∧(∀ p∈l,ProtP p)∧(srcT l).length≤8000
theorem prot_iff (p:T12) (Q:Prop):(isWord p.Name=true∧WordsP p.Roles 6∧p.Messages.length≤40∧(shL p.Body∧dL p.Body≤10∧cL p.Body≤300)∧(∀ m∈p.Messages,MsgP m)∧Q)↔ProtP p∧Q:=by
 unfold ProtP
 constructor
 ·rintro ⟨a,b,c,⟨d,e,f⟩,g,h⟩;exact ⟨⟨a,b,c,d,e,f,g⟩,h⟩
 ·rintro ⟨⟨a,b,c,d,e,f,g⟩,h⟩;exact ⟨a,b,c,⟨d,e,f⟩,g,h⟩
theorem valid_dq (hN:4194320 < N) (l:List T12) (hl:l.length≤4194304) (hb:∀ p∈l,bP p):Dq (z14 N l) (ValidP l):=by
 unfold z14
 refine Dq.cN (C:=l.length≤10) gt_lem fun h10=>?_
 refine dq_all (P:=ProtP) (E:=(srcT l).length≤8000) (by omega) _ (fun n k p Q hk hp hq=>?_) (fun hall n k hk=>?_) (by omega)
 ·have hbp:=hb p (List.mem_of_getElem? hp)
  simp only [z14_l2,lt_t (get_lt hp),cT,idx_nat,hp,bS]
  refine (Dq.bN (word_dq (by omega) _) fun h1=>Dq.bN (words_dq (by omega) _ hbp.r 6) fun h2=>Dq.cN (C:=p.Messages.length≤40) gt_lem fun h3=>?_).iff (prot_iff p Q)
  obtain ⟨r,m,v1,v2,v3⟩:=valid_items N p.Body 1 0 (by omega) hbp.l hbp.b (by omega) (by omega)
  rw [show z34 N p.Body (1:Int) (0:Int)=some (r,m) from v1,bS]
  refine Dq.cN (C:=shL p.Body∧dL p.Body≤10∧cL p.Body≤300) ?_ fun h4=>?_
  ·have:r=true↔shL p.Body∧dL p.Body≤10∧cL p.Body≤300:=v2.trans ⟨fun q=>⟨q.1,by omega,by omega⟩,fun q=>⟨q.1,by omega,by omega⟩⟩
   rw [← this];cases r<;>simp
  ·refine dq_all (P:=MsgP) (E:=Q) (by omega) (z14_l4 N (k:Int) (z14_l2 N l n) p) (fun n' j m Q' hj hm hq'=>?_) (fun hall n' j hj=>?_) (by omega)
   ·simp only [z14_l4,lt_t (get_lt hm),cT,idx_nat,hm,bS,w64_succ (show j < 4611686018427387904 by omega)]
    exact Dq.bN (mval_dq (by omega) m) hq'
   ·simp only [z14_l4,lt_f hj,cF,z14_k3,w64_succ (show k < 4611686018427387904 by omega)]
    exact hq ⟨h1,h2,h3,h4.1,h4.2.1,h4.2.2,hall⟩
 ·simp only [z14_l2,lt_f hk,cF,z14_k1]
  rw [source_eq hN l h10 fun p hp=>⟨hall p hp,(hb p hp).l,(hb p hp).b⟩,bS]
  exact Dq.dec (by rw [size_bs,bs_mkB];omega)
theorem rvalid_dq (hN:4194320 < N) (l:List T7) (hl:l.length≤4194304) (hb:∀ p∈l,RP p∧4194306+dL (oL p.Body)≤N∧cL (oL p.Body)≤1099511627776∧nL (oL p.Body)∧∀ m∈p.Messages,nM (oM m)):Dq (ref10_Valid N l) (ValidP (l.map oP)):=by
 unfold ref10_Valid
 refine (Dq.cN (C:=l.length≤10) gt_lem fun h10=>dq_all (P:=fun p=>ProtP (oP p)) (E:=(srcT (l.map oP)).length≤8000) (by omega) _ (fun n k p Q hk hp hq=>?_) (fun hall n k hk=>?_) (by omega)).iff (by unfold ValidP;rw [List.length_map,List.forall_mem_map])
 ·obtain ⟨hbp,hd,hc,hn,hnm⟩:=hb p (List.mem_of_getElem? hp)
  have hlb:=RP_l hbp
  have e1:(oP p).Name=p.Name:=rfl
  have e2:(oP p).Roles=p.Roles:=rfl
  have e3:(oP p).Messages=p.Messages.map oM:=rfl
  have e4:(oP p).Body=oL p.Body:=rfl
  have hdc:dL (oL p.Body)≤cL (oL p.Body):=dc_L _
  simp only [ref10_Valid_l2,lt_t (get_lt hp),cT,idx_nat,hp,bS]
  have hi:=prot_iff (oP p) Q
  rw [e1,e2,e3,e4,List.length_map,List.forall_mem_map] at hi
  refine (Dq.bN (rword_dq (by omega) _) fun h1=>Dq.bN (rwords_dq (by omega) _ hbp.r 6) fun h2=>Dq.cN (C:=p.Messages.length≤40) gt_lem fun h3=>(?_:Dq _ ((dL (oL p.Body)≤10∧cL (oL p.Body)≤300∧shL (oL p.Body)∧∀ m∈p.Messages,MsgP (oM m))∧Q))).iff ?_
  ·rw [depth_eq N p.Body hd hlb hbp.b (by omega),count_eq' N p.Body hd hlb hbp.b hc]
   simp only [bS]
   refine (Dq.cN (C:=dL (oL p.Body)≤10) (gt_lem (b:=10)) fun h4=>Dq.cN (C:=cL (oL p.Body)≤300) (gt_lem (b:=300)) fun h5=>Dq.bN (goods_dq N p.Body hd hlb hbp.b hn) fun h6=>(?_:Dq _ ((∀ m∈p.Messages,MsgP (oM m))∧Q))).iff ⟨fun q=>⟨⟨q.1,q.2.1,q.2.2.1,q.2.2.2.1⟩,q.2.2.2.2⟩,fun q=>⟨q.1.1,q.1.2.1,q.1.2.2.1,q.1.2.2.2,q.2⟩⟩
   refine dq_all (P:=fun m=>MsgP (oM m)) (E:=Q) (by omega) (ref10_Valid_l4 N (k:Int) (ref10_Valid_l2 N l n) p) (fun n' j m Q' hj hm hq'=>?_) (fun hall n' j hj=>?_) (by omega)
   ·have hmm:=List.mem_of_getElem? hm
    have hms:=RP_ms hbp hmm
    simp only [ref10_Valid_l4,lt_t (get_lt hm),cT,idx_nat,hm,bS,w64_succ (show j < 4611686018427387904 by omega)]
    exact Dq.bN (rmval_dq (by omega) m hms.1 hms.2 (hnm m hmm)) hq'
   ·simp only [ref10_Valid_l4,lt_f hj,cF,ref10_Valid_k3,w64_succ (show k < 4611686018427387904 by omega)]
    refine hq ?_
    unfold ProtP
    rw [e1,e2,e3,e4,List.length_map,List.forall_mem_map]
    exact ⟨h1,h2,h3,h6,h4,h5,hall⟩
  ·rw [← hi]
   constructor
   ·rintro ⟨a,b,c,⟨d,e,f,g⟩,h⟩;exact ⟨a,b,c,⟨f,d,e⟩,g,h⟩
   ·rintro ⟨a,b,c,⟨f,d,e⟩,g,h⟩;exact ⟨a,b,c,⟨d,e,f,g⟩,h⟩
 ·simp only [ref10_Valid_l2,lt_f hk,cF,ref10_Valid_k1]
  rw [rtext_eq hN l h10 fun p hp=>⟨hall p hp,(hb p hp).1.l,(hb p hp).1.b⟩,bS]
  exact Dq.dec (by rw [size_bs,bs_mkB];omega)
end Gp
end
section
namespace Gp
open Go Go.Kx Gx
open Classical in
noncomputable def fineR (ps:List T12):List T12 × Int × Int:=if ValidP ps then (ps,0,0) else ([],0,6)
theorem fineR_pos {ps:List T12} (h:ValidP ps):fineR ps=(ps,0,0):=by unfold fineR;rw [if_pos h]
theorem fineR_neg {ps:List T12} (h:¬ ValidP ps):fineR ps=([],0,6):=by unfold fineR;rw [if_neg h]
def endR (ts:List Tok) (e:Int) (o:List T12→List T12 × Int × Int):Rr (List T12)→List T12 × Int × Int
 | .ok ps _=>o ps
 | .er k c=>([],off ts e k,c)
 | .out=>([],0,6)
noncomputable def parseS (s:ByteArray):List T12 × Int × Int :=
 match toksS s with
 | .inl (p,e)=>([],(p:Int),e)
 | .inr ts=>endR ts (s.size:Int) fineR (sParse 8200 8200 [] ts 0)
theorem zM_le (m:T11) (ms:List T11) (h:m∈ms):zM m≤zMs ms:=by
 induction ms with
 | nil=>cases h
 | cons x l ih =>
  simp only [zMs]
  rcases List.mem_cons.1 h with rfl | h
  ·omega
  ·have:=ih h;omega
theorem zMs_len (ms:List T11):ms.length≤zMs ms:=by
 induction ms with
 | nil=>exact Nat.le_refl _
 | cons x l ih=>simp only [zMs,List.length_cons];omega
theorem zA_le (a:T9) (l:List T9) (h:a∈l):zA a≤zAs l:=by
 induction l with
 | nil=>cases h
 | cons x l ih =>
  simp only [zAs]
  rcases List.mem_cons.1 h with rfl | h
  ·omega
  ·have:=ih h;omega
theorem zAs_len (l:List T9):l.length≤zAs l:=by
 induction l with
 | nil=>exact Nat.le_refl _
 | cons x l ih=>simp only [zAs,List.length_cons];omega
structure Zf (p:T12):Prop where
 b:bP p
 d:dL p.Body≤8000
 c:cL p.Body≤8000
 n:nL p.Body
 m:∀ m∈p.Messages,nM m
theorem Zf.of {p:T12} (h:zP p≤8000):Zf p:=by
 unfold zP at h
 obtain ⟨h1,h2⟩:=z_L p.Body (by omega)
 have h3:=zc_L p.Body
 have h4:=zL_len p.Body
 have h5:=zMs_len p.Messages
 refine ⟨⟨by omega,by omega,fun m hm=>?_,by omega,h1⟩,by omega,by omega,zn_L _ (by omega),fun m hm=>?_⟩
 ·have:=zM_le m _ hm
  unfold zM at this
  have:=zAs_len m.Where
  exact ⟨by omega,by omega⟩
 ·have hz:=zM_le m _ hm
  unfold zM pz at hz
  refine ⟨by omega,fun a ha=>?_⟩
  have:=zA_le a _ ha
  unfold zA pz at this
  exact ⟨by omega,by omega⟩
theorem Dq.get {o:Option Bool} {P:Prop} (h:Dq o P) (hp:P):o=some true:=by
 obtain ⟨r,h1,h2⟩:=h
 rw [h1,h2.2 hp]
theorem Dq.getN {o:Option Bool} {P:Prop} (h:Dq o P) (hp:¬P):o=some false:=by
 obtain ⟨r,h1,h2⟩:=h
 cases r with
 | false=>exact h1
 | true=>exact absurd (h2.1 rfl) hp
variable {N:Nat}
theorem parse_small {s:ByteArray} {ts:List Tok} (ht:toksS s=.inr ts) {ps:List T12} {m:Nat} (h:sParse 8200 8200 [] ts 0=.ok ps m):ps.length≤8000∧∀ p∈ps,zP p≤8000:=by
 obtain ⟨h1,_⟩:=toksS_ok ht
 obtain ⟨qs,e1,e2,e3,e4⟩:=(parse_nm (F:=8200) (by omega) 8200 [] 0 (by omega) (Nat.zero_le _)).2 ps m h
 simp only [List.nil_append] at e1
 subst e1
 exact ⟨by omega,fun p hp=>by have:=e4 p hp;omega⟩
theorem parse_both (hN:4210000 < N) (s:ByteArray):z10 N s=some (parseS s)∧ref10_Parse N s=some ((parseS s).1.map tP,(parseS s).2):=by
 have t1:=tokens_eq (N:=N) (by omega) s
 have t2:=rtokens_eq (N:=N) (by omega) s
 unfold z10 ref10_Parse parseS
 cases ht:toksS s with
 | inl q =>
  obtain ⟨p,e⟩:=q
  rw [ht] at t1 t2
  obtain ⟨h1,h2⟩:=t1
  obtain ⟨_,h3⟩:=t2
  have he:(e != 0)=true:=by simp [h1]
  rw [h2,h3]
  simp only [bS,he,cT]
  exact ⟨by first | rfl | trivial,by first | rfl | trivial⟩
 | inr ts =>
  rw [ht] at t1 t2
  obtain ⟨h1,h2,h3,h4⟩:=toksS_ok ht
  have t1:z23 N s=some (ts,0,0):=t1
  have t2:ref09_Tokens N s=some (ts,0,0):=t2
  rw [t1,t2]
  simp only [bS]
  rw [show ((0:Int) != 0)=false from rfl]
  simp only [cF]
  have p1:=parse_loop (l:=ts) (e:=(s.size:Int)) (N:=N) (by omega) h2 (F:=8200) (by omega) (by omega) (ts,0,0) rfl 8200 N [] 0 (by omega) (by simp) (Nat.zero_le _)
  have p2:=rparse_loop (l:=ts) (N:=N) (by omega) h2 h3 s (F:=8200) (by omega) (by omega) (ts,0,0) rfl 8200 N [] 0 (by omega) (by simp) (Nat.zero_le _)
  cases hp:sParse 8200 8200 [] ts 0 with
  | ok ps m =>
   rw [hp] at p1 p2
   have p1:z10_l2 N (ts,0,0) N [] ts 0 (s.size:Int) 0 0=_:=p1
   have p2:ref10_Parse_l2 N (ts,0,0) N s ts 0 0 0 []=_:=p2
   rw [p1,p2]
   obtain ⟨q1,q2⟩:=parse_small ht hp
   have v1:=valid_dq (N:=N) (by omega) ps (by omega) (fun p hp=>(Zf.of (q2 p hp)).b)
   have v2:=rvalid_dq (N:=N) (by omega) (ps.map tP) (by simp;omega) (fun p hp=>by
    obtain ⟨q,hq,rfl⟩:=List.mem_map.1 hp
    have z:=Zf.of (q2 q hq)
    have e:oL (tP q).Body=q.Body:=ot_L _
    rw [e]
    refine ⟨by show bP (oP (tP q));rw [ot_P];exact z.b,by have:=z.d;omega,by have:=z.c;omega,z.n,fun m hm=>?_⟩
    obtain ⟨m',hm',rfl⟩:=List.mem_map.1 hm
    rw [ot_M]
    exact z.m m' hm')
   rw [map_id' ot_P] at v2
   unfold z10_k1 ref10_Parse_k1
   rw [show ((0:Int) != 0)=false from rfl]
   simp only [cF]
   by_cases hv:ValidP ps
   ·rw [v1.get hv,v2.get hv,endR,fineR_pos hv];exact ⟨rfl,rfl⟩
   ·rw [v1.getN hv,v2.getN hv,endR,fineR_neg hv];exact ⟨rfl,rfl⟩
  | er k c =>
   rw [hp] at p1 p2
   obtain ⟨hc,a1,p1⟩:=p1
   obtain ⟨_,a2,p2⟩:=p2
   have p1:z10_l2 N (ts,0,0) N [] ts 0 (s.size:Int) 0 0=_:=p1
   have p2:ref10_Parse_l2 N (ts,0,0) N s ts 0 0 0 []=_:=p2
   rw [p1,p2]
   unfold z10_k1 ref10_Parse_k1
   have hc:(c != 0)=true:=by simp [hc]
   rw [hc]
   exact ⟨rfl,rfl⟩
  | out=>exact absurd hp (parse_nm (F:=8200) (by omega) 8200 [] 0 (by omega) (Nat.zero_le _)).1
end Gp
end
section
namespace Gp
open Go Go.Kx Gx
theorem blankAll:((List.range 256).all fun r => !(blankB (UInt8.ofNat r)) || (!(innB (UInt8.ofNat r)) && !(digB (UInt8.ofNat r)) && !(UInt8.ofNat r==47) && !(marks2.any fun m=>m.drop 1==[UInt8.ofNat r])))=true:=by kernel_rfl
theorem blank_f {b:UInt8} (h:blankB b=true):innB b=false∧digB b=false∧(b==47)=false∧(marks2.any fun m=>m.drop 1==[b])=false:=by
 have:=List.all_eq_true.1 blankAll b.toNat (List.mem_range.2 b.toNat_lt)
 rw [UInt8.ofNat_toNat,h] at this
 simp only [Bool.not_true,Bool.false_or,Bool.and_eq_true,Bool.not_eq_true'] at this
 exact ⟨this.1.1.1,this.1.1.2,this.1.2,this.2⟩
theorem takeWhile_app {α:Type} (p:α→Bool) (l:List α) (b:α) (w:List α) (h:p b=false):(l++b::w).takeWhile p=l.takeWhile p:=by
 induction l with
 | nil=>simp [List.takeWhile,h]
 | cons c l ih =>
  rw [List.cons_append]
  simp only [List.takeWhile]
  cases p c with
  | true=>simp only [ih]
  | false=>rfl
theorem txtB_app:∀ (l:List UInt8) (w:List UInt8) {t n},txtB l=some (t,n)→txtB (l++w)=some (t,n)
 | [],w,t,n,h=>by simp [txtB] at h
 | [c],w,t,n,h=>by
  simp only [txtB] at h
  cases hc:(c==34) with
  | false=>rw [hc] at h;cases h
  | true =>
   rw [hc] at h
   have:c=34:=by simpa using hc
   subst this
   rw [List.cons_append,txt34];exact h
 | c::d::l,w,t,n,h=>by
  cases h1:(c==34) with
  | true =>
   have:c=34:=by simpa using h1
   subst this
   rw [txt34] at h
   rw [List.cons_append,txt34];exact h
  | false =>
   cases h2:(c==92) with
   | true =>
    have:c=92:=by simpa using h2
    subst this
    cases h3:(d==34 || d==92) with
    | false=>rw [txt_esc0 d l h3] at h;cases h
    | true =>
     rw [txt_esc d l h3] at h
     rw [List.cons_append,List.cons_append,txt_esc d _ h3]
     cases ht:txtB l with
     | none=>rw [ht] at h;cases h
     | some q =>
      obtain ⟨t',n'⟩:=q
      rw [txtB_app l w ht]
      rw [ht] at h
      exact h
   | false =>
    cases h3:badB c with
    | true=>rw [txt_bad c _ h1 h2 h3] at h;cases h
    | false =>
     rw [txt_one c _ h1 h2 h3] at h
     rw [List.cons_append,txt_one c _ h1 h2 h3]
     cases ht:txtB (d::l) with
     | none=>rw [ht] at h;cases h
     | some q =>
      obtain ⟨t',n'⟩:=q
      rw [txtB_app (d::l) w ht]
      rw [ht] at h
      exact h
theorem any2 {c b:UInt8} {w:List UInt8} (h:blankB b=true):(marks2.any fun m=>m==(c::b::w).take 2)=false:=by
 have h2:=(blank_f h).2.2.2
 rw [Bool.eq_false_iff] at h2 ⊢
 intro h3
 apply h2
 rw [List.any_eq_true] at h3 ⊢
 obtain ⟨m,hm,he⟩:=h3
 refine ⟨m,hm,?_⟩
 have he:m=[c,b]:=by simpa using he
 subst he
 simp
theorem tokB_app {s:List UInt8} {k:Int} {tx:List UInt8} {v:Int} {n:Nat} (h:tokB s=.ok k tx v n) {b:UInt8} (hb:blankB b=true) (w:List UInt8):tokB (s++b::w)=.ok k tx v n:=by
 obtain ⟨f1,f2,f3,f4⟩:=blank_f hb
 cases s with
 | nil=>simp [tokB] at h
 | cons c l =>
  rw [List.cons_append]
  unfold tokB at h ⊢
  simp only [takeWhile_app innB l b w f1] at h ⊢
  cases c1:letB c with
  | true=>simp only [c1,cT] at h ⊢;exact h
  | false =>
   simp only [c1,cF] at h ⊢
   cases c2:digB c with
   | true =>
    simp only [c2,cT] at h ⊢
    unfold numB at h ⊢
    have e:=takeWhile_app digB (c::l) b w f2
    rw [List.cons_append] at e
    rw [e]
    have hle:=takeWhile_len digB (c::l)
    have e2:(c::(l++b::w)).drop ((c::l).takeWhile digB).length=(c::l).drop ((c::l).takeWhile digB).length++b::w:=by
     rw [← List.cons_append,List.drop_append_of_le_length hle]
    rw [e2]
    unfold numK at h ⊢
    have e3:((c::l).drop ((c::l).takeWhile digB).length++b::w).head?.any innB=((c::l).drop ((c::l).takeWhile digB).length).head?.any innB:=by
     cases (c::l).drop ((c::l).takeWhile digB).length with
     | nil=>simp [f1]
     | cons x y=>rfl
    rw [e3]
    exact h
   | false =>
    simp only [c2,cF] at h ⊢
    cases c3:(c==34) with
    | true =>
     simp only [c3,cT] at h ⊢
     cases ht:txtB l with
     | none=>rw [ht] at h;cases h
     | some q =>
      obtain ⟨t',n'⟩:=q
      rw [txtB_app l (b::w) ht]
      rw [ht] at h
      exact h
    | false =>
     simp only [c3,cF] at h ⊢
     cases l with
     | nil =>
      have e:(marks2.any fun m=>m==(c::([]++b::w)).take 2)=false:=any2 hb
      rw [e]
      simpa using h
     | cons d l=>exact h
abbrev Ls:=Sum (Nat × Int) (List Tok)
def prepL (ts:List Tok):Ls→Ls
 | .inl x=>.inl x
 | .inr us=>.inr (ts++us)
def lexA (s:List UInt8) (a:Nat):Ls:=lexL (s.length+1) s a
theorem lex_fuel:∀ (F F':Nat) (s:List UInt8) (a:Nat),s.length < F→s.length < F'→lexL F s a=lexL F' s a
 | 0,_,s,a,h,_=>by omega
 | _,0,s,a,_,h=>by omega
 | F+1,F'+1,s,a,h1,h2=>by
  simp only [lexL]
  cases hd:s.drop (skW false s) with
  | nil=>rfl
  | cons c l =>
   simp only []
   cases ht:tokB (c::l) with
   | er e=>rfl
   | ok k tx v n =>
    have ok:=tokB_ok ht
    have hl:(c::l).length≤s.length:=by rw [← hd,List.length_drop];omega
    have:=ok.pos;have:=ok.le
    simp only []
    rw [lex_fuel F F' ((c::l).drop n) _ (by rw [List.length_drop];omega) (by rw [List.length_drop];omega)]
theorem lexA_end {s:List UInt8} (h:skW false s=s.length) (a:Nat):lexA s a=.inr []:=by
 unfold lexA lexL
 rw [List.drop_of_length_le (by omega)]
theorem lexA_step {s:List UInt8} {c:UInt8} {l:List UInt8} (h:s.drop (skW false s)=c::l) {k:Int} {tx:List UInt8} {v:Int} {n:Nat} (ht:tokB (c::l)=.ok k tx v n) (a:Nat) :
  lexA s a=prepL [⟨k,mkB tx,v,((a+skW false s:Nat):Int)⟩] (lexA ((c::l).drop n) (a+skW false s+n)):=by
 have ok:=tokB_ok ht
 have hl:(c::l).length≤s.length:=by rw [← h,List.length_drop];omega
 have:=ok.pos;have:=ok.le
 have key:lexL (s.length+1) s a=prepL [⟨k,mkB tx,v,((a+skW false s:Nat):Int)⟩] (lexL s.length ((c::l).drop n) (a+skW false s+n)):=by
  rw [lexL]
  simp only [h,ht]
  cases lexL s.length ((c::l).drop n) (a+skW false s+n)<;>rfl
 unfold lexA
 rw [key,lex_fuel s.length (((c::l).drop n).length+1) ((c::l).drop n) _ (by rw [List.length_drop];omega) (by omega)]
theorem prep_inr {x:List Tok} {o:Ls} {ts:List Tok} (h:prepL x o=.inr ts):∃ us,o=.inr us∧ts=x++us:=by
 cases o with
 | inl q=>cases h
 | inr us=>cases h;exact ⟨us,rfl,rfl⟩
theorem lexA_inv {s:List UInt8} {a:Nat} {ts:List Tok} (h:lexA s a=.inr ts):(skW false s=s.length∧ts=[]) ∨
  ∃ c l k tx v n us,skW false s < s.length∧s.drop (skW false s)=c::l∧tokB (c::l)=.ok k tx v n∧lexA ((c::l).drop n) (a+skW false s+n)=.inr us∧ts=⟨k,mkB tx,v,((a+skW false s:Nat):Int)⟩::us:=by
 rcases Nat.lt_or_ge (skW false s) s.length with hs | hs
 ·obtain ⟨c,l,hd⟩:∃ c l,s.drop (skW false s)=c::l:=by
   cases hd:s.drop (skW false s) with
   | nil=>have:=congrArg List.length hd;rw [List.length_drop] at this;simp at this;omega
   | cons c l=>exact ⟨c,l,rfl⟩
  cases ht:tokB (c::l) with
  | er e =>
   unfold lexA at h
   simp only [lexL,hd,ht] at h
   cases h
  | ok k tx v n =>
   rw [lexA_step hd ht] at h
   obtain ⟨us,h1,h2⟩:=prep_inr h
   exact .inr ⟨c,l,k,tx,v,n,us,hs,hd,ht,h1,h2⟩
 ·have:=skW_le false s
  have e:skW false s=s.length:=by omega
  rw [lexA_end e] at h
  cases h
  exact .inl ⟨e,rfl⟩
def strip (t:Tok):Tok:=⟨t.Kind,t.Text,t.Value,0⟩
end Gp
end
section
namespace Gp
open Go Go.Kx Gx
def Agr (l l':List Tok) (d n m:Nat):Prop:=∀ i,n≤i→i≤m→strip (tk l' (i+d))=strip (tk l i)
theorem Agr.sub {l l':List Tok} {d n m n' m':Nat} (h:Agr l l' d n m) (hn:n≤n') (hm:m'≤m):Agr l l' d n' m':=fun i h1 h2=>h i (by omega) (by omega)
def LoR {α:Type} (S:Pm α) (l:List Tok) (n:Nat):Rr α→Prop
 | .ok a m=>n≤m∧∀ l' d,Agr l l' d n m→S l' (n+d)=.ok a (m+d)
 | .er k c=>n≤k∧∀ l' d,Agr l l' d n k→S l' (n+d)=.er (k+d) c
 | .out=>True
def Lo {α:Type} (S:Pm α):Prop:=∀ l n,LoR S l n (S l n)
theorem Lo.ret {α:Type} (b:α):Lo (fun _ n=>.ok b n):=fun l n=>⟨Nat.le_refl _,fun _ _ _=>rfl⟩
theorem Lo.fail {α:Type} (e:Int):Lo (α:=α) (fun _ n=>.er n e):=fun l n=>⟨Nat.le_refl _,fun _ _ _=>rfl⟩
theorem lorOk {α:Type} {S:Pm α} {l:List Tok} {n:Nat} {a:α} {m:Nat} (e:S l n=.ok a m) (h1:n≤m) (h2:∀ l' d,Agr l l' d n m→S l' (n+d)=.ok a (m+d)):LoR S l n (S l n):=by rw [e];exact ⟨h1,h2⟩
theorem lorEr {α:Type} {S:Pm α} {l:List Tok} {n:Nat} {k:Nat} {c:Int} (e:S l n=.er k c) (h1:n≤k) (h2:∀ l' d,Agr l l' d n k→S l' (n+d)=.er (k+d) c):LoR S l n (S l n):=by rw [e];exact ⟨h1,h2⟩
theorem lorOut {α:Type} {S:Pm α} {l:List Tok} {n:Nat} (e:S l n=.out):LoR S l n (S l n):=by rw [e];trivial
theorem Lo.bind {α β:Type} {S:Pm α} {T:α→Pm β} (hS:Lo S) (hT:∀ a,Lo (T a)):Lo (fun l n=>(S l n).bind fun a m=>T a l m):=by
 intro l n
 have h:=hS l n
 have st:∀ {l':List Tok} {a:α} {n m:Nat},S l' n=.ok a m→(fun l n=>(S l n).bind fun a m=>T a l m) l' n=T a l' m:=fun e=>by
  show (S _ _).bind _=_
  rw [e];rfl
 have st2:∀ {l':List Tok} {n k:Nat} {c:Int},S l' n=.er k c→(fun l n=>(S l n).bind fun a m=>T a l m) l' n=.er k c:=fun e=>by
  show (S _ _).bind _=_
  rw [e];rfl
 cases hs:S l n with
 | ok a m =>
  rw [hs] at h
  obtain ⟨h1,h2⟩:=h
  have h':=hT a l m
  cases ht:T a l m with
  | ok b k =>
   rw [ht] at h'
   exact lorOk ((st hs).trans ht) (Nat.le_trans h1 h'.1) fun l' d hl=>(st (h2 l' d (hl.sub (Nat.le_refl _) h'.1))).trans (h'.2 l' d (hl.sub h1 (Nat.le_refl _)))
  | er k c =>
   rw [ht] at h'
   exact lorEr ((st hs).trans ht) (Nat.le_trans h1 h'.1) fun l' d hl=>(st (h2 l' d (hl.sub (Nat.le_refl _) h'.1))).trans (h'.2 l' d (hl.sub h1 (Nat.le_refl _)))
  | out=>exact lorOut ((st hs).trans ht)
 | er k c =>
  rw [hs] at h
  exact lorEr (st2 hs) h.1 fun l' d hl=>st2 (h.2 l' d hl)
 | out=>exact lorOut (by show (S l n).bind _=_;rw [hs];rfl)
theorem Lo.succ {α:Type} {S:Pm α} (h:Lo S):Lo (fun l n=>S l (n+1)):=by
 intro l n
 have h:=h l (n+1)
 have e:∀ d,n+d+1=n+1+d:=fun d=>by omega
 cases hs:S l (n+1) with
 | ok a m=>rw [hs] at h;exact lorOk (S:=fun l n=>S l (n+1)) hs (by have:=h.1;omega) fun l' d hl=>by show S l' (n+d+1)=_;rw [e];exact h.2 l' d (hl.sub (Nat.le_succ _) (Nat.le_refl _))
 | er k c=>rw [hs] at h;exact lorEr (S:=fun l n=>S l (n+1)) hs (by have:=h.1;omega) fun l' d hl=>by show S l' (n+d+1)=_;rw [e];exact h.2 l' d (hl.sub (Nat.le_succ _) (Nat.le_refl _))
 | out=>exact lorOut (S:=fun l n=>S l (n+1)) hs
theorem agr_at {P:Tok→Bool} (hP:∀ t,P (strip t)=P t) {l l':List Tok} {d n m:Nat} (h:Agr l l' d n m) (hn:n≤m):P (tk l' (n+d))=P (tk l n):=by
 rw [← hP,h n (Nat.le_refl _) hn,hP]
theorem Lo.test {α:Type} {P:Tok→Bool} (hP:∀ t,P (strip t)=P t) {A C:Pm α} (hA:Lo A) (hC:Lo C):Lo (fun l n=>bif P (tk l n) then A l n else C l n):=by
 intro l n
 have h1:=hA l n
 have h2:=hC l n
 have st:∀ {l':List Tok} {n:Nat},P (tk l' n)=true→(fun l n=>bif P (tk l n) then A l n else C l n) l' n=A l' n:=fun e=>by
  show (bif P (tk _ _) then _ else _)=_
  rw [e];rfl
 have sf:∀ {l':List Tok} {n:Nat},P (tk l' n)=false→(fun l n=>bif P (tk l n) then A l n else C l n) l' n=C l' n:=fun e=>by
  show (bif P (tk _ _) then _ else _)=_
  rw [e];rfl
 cases hp:P (tk l n) with
 | true =>
  cases hs:A l n with
  | ok a m=>rw [hs] at h1;exact lorOk ((st hp).trans hs) h1.1 fun l' d hl=>(st (by rw [agr_at hP hl h1.1,hp])).trans (h1.2 l' d hl)
  | er k c=>rw [hs] at h1;exact lorEr ((st hp).trans hs) h1.1 fun l' d hl=>(st (by rw [agr_at hP hl h1.1,hp])).trans (h1.2 l' d hl)
  | out=>exact lorOut ((st hp).trans hs)
 | false =>
  cases hs:C l n with
  | ok a m=>rw [hs] at h2;exact lorOk ((sf hp).trans hs) h2.1 fun l' d hl=>(sf (by rw [agr_at hP hl h2.1,hp])).trans (h2.2 l' d hl)
  | er k c=>rw [hs] at h2;exact lorEr ((sf hp).trans hs) h2.1 fun l' d hl=>(sf (by rw [agr_at hP hl h2.1,hp])).trans (h2.2 l' d hl)
  | out=>exact lorOut ((sf hp).trans hs)
theorem Lo.val {α:Type} {f:Tok→α} (hf:∀ t,f (strip t)=f t):Lo (fun l n=>.ok (f (tk l n)) (n+1)) :=
 fun l n=>⟨Nat.le_succ _,fun l' d hl=>by
  show Rr.ok (f (tk l' (n+d))) (n+d+1)=_
  rw [← hf,hl n (Nat.le_refl _) (Nat.le_succ _),hf,show n+d+1=n+1+d by omega]⟩
theorem Lo.cond {α:Type} (b:Bool) {A C:Pm α} (hA:Lo A) (hC:Lo C):Lo (fun l n=>bif b then A l n else C l n):=by
 cases b
 ·exact hC
 ·exact hA
theorem isT_strip (s:ByteArray) (t:Tok):isT s (strip t)=isT s t:=rfl
theorem Lo.takes {α:Type} (s:ByteArray) {A C:Pm α} (hA:Lo A) (hC:Lo C):Lo (fun l n=>bif isT s (tk l n) then A l (n+1) else C l n):=Lo.test (P:=isT s) (isT_strip s) hA.succ hC
theorem wants_lo (s:ByteArray):Lo (sWants s):=Lo.test (P:=isT s) (isT_strip s) (Lo.ret ()).succ (Lo.fail 3)
theorem word_lo:Lo sWord:=Lo.test (P:=wordT) (fun _=>rfl) (Lo.val (f:=fun t=>t.Text) fun _=>rfl) (Lo.fail 3)
theorem num_lo:Lo sNum:=Lo.test (P:=fun t=>t.Kind==2) (fun _=>rfl) (Lo.val (f:=fun t=>t.Value) fun _=>rfl) (Lo.fail 3)
theorem signed_lo:Lo sSigned:=Lo.takes (str [45]) (A:=fun l n=>(sNum l n).bind fun v m=>.ok (w64 (0-v)) m) (Lo.bind num_lo fun v=>Lo.ret _) num_lo
theorem loop_lo {α β:Type} (s:ByteArray) {p:Pm α} (hp:Lo p) (upd:β→α→β):∀ (F:Nat) (acc:β),Lo (sLoop s p upd F acc)
 | 0,_=>fun l n=>trivial
 | F+1,acc=>Lo.takes s (A:=fun l n=>(p l n).bind fun a m=>sLoop s p upd F (upd acc a) l m) (Lo.bind hp fun a=>loop_lo s hp upd F (upd acc a)) (Lo.ret acc)
theorem words_lo (F:Nat):Lo (sWords F):=Lo.bind word_lo fun w=>loop_lo _ word_lo snoc F [w]
theorem path_lo (F:Nat):Lo (sPath F):=Lo.bind word_lo fun w=>loop_lo _ word_lo dotW F w
theorem field_lo:Lo sField:=Lo.bind word_lo fun w=>Lo.bind (wants_lo _) fun _=>Lo.takes (str [105,110,116])
 (A:=fun l n=>(sSigned l n).bind fun lo n=>(sWants (str [46,46]) l n).bind fun _ n=>(sSigned l n).bind fun hi n=>.ok (⟨w,⟨1,lo,hi⟩⟩:T0) n)
 (Lo.bind signed_lo fun _=>Lo.bind (wants_lo _) fun _=>Lo.bind signed_lo fun _=>Lo.ret _)
 (Lo.bind (wants_lo _) fun _=>Lo.bind num_lo fun _=>Lo.bind (wants_lo _) fun _=>Lo.bind num_lo fun _=>Lo.ret _)
theorem tail_lo (k:Int) (s:ByteArray):Lo (sTail k s) :=
 Lo.takes (str [43]) (A:=fun l n=>(sNum l n).bind fun v n=>.ok (⟨k,(splitP s).1,(splitP s).2,v⟩:T13) n) (Lo.bind num_lo fun _=>Lo.ret _)
  (Lo.takes (str [45]) (A:=fun l n=>(sNum l n).bind fun v n=>.ok (⟨k,(splitP s).1,(splitP s).2,w64 (0-v)⟩:T13) n) (Lo.bind num_lo fun _=>Lo.ret _) (Lo.ret _))
theorem term_lo (F:Nat):Lo (sTerm F) :=
 Lo.test (P:=fun t=>isT (str [45]) t || t.Kind==2) (fun _=>rfl) (Lo.bind signed_lo fun _=>Lo.ret _)
  (Lo.takes (str [108,101,110]) (A:=fun l n=>(sWants (str [40]) l n).bind fun _ n=>(sPath F l n).bind fun s n=>(sWants (str [41]) l n).bind fun _ n=>sTail 3 s l n)
   (Lo.bind (wants_lo _) fun _=>Lo.bind (path_lo F) fun s=>Lo.bind (wants_lo _) fun _=>tail_lo 3 s) (Lo.bind (path_lo F) fun s=>tail_lo 2 s))
def sMark:Pm ByteArray:=fun l n=>bif markT (tk l n) then .ok (tk l n).Text (n+1) else .er n 3
theorem mark_lo:Lo sMark:=Lo.test (P:=markT) (fun _=>rfl) (Lo.val (f:=fun t=>t.Text) fun _=>rfl) (Lo.fail 3)
theorem sAtom_eq (F:Nat):sAtom F=fun l n=>(sTerm F l n).bind fun a n=>(sMark l n).bind fun tx n=>(sTerm F l n).bind fun b m=>.ok ⟨a,tx,b⟩ m:=by
 funext l n
 unfold sAtom sMark
 congr 1;funext a m
 cases markT (tk l m)<;>rfl
theorem atom_lo (F:Nat):Lo (sAtom F):=by
 rw [sAtom_eq]
 exact Lo.bind (term_lo F) fun a=>Lo.bind mark_lo fun tx=>Lo.bind (term_lo F) fun b=>Lo.ret _
theorem where_lo (F:Nat) (nm:ByteArray) (fs:List T0):Lo (sWhere F nm fs) :=
 Lo.takes (str [119,104,101,114,101]) (A:=fun l n=>(sAtom F l n).bind fun a n=>(sLoop (str [97,110,100]) (sAtom F) snoc F [a] l n).bind fun as' n=>(sWants (str [59]) l n).bind fun _ n=>.ok (⟨nm,fs,as'⟩:T11) n)
  (Lo.bind (atom_lo F) fun a=>Lo.bind (loop_lo _ (atom_lo F) snoc F [a]) fun _=>Lo.bind (wants_lo _) fun _=>Lo.ret _) (Lo.bind (wants_lo _) fun _=>Lo.ret _)
theorem message_lo (F:Nat):Lo (sMessage F) :=
 Lo.bind (path_lo F) fun nm=>Lo.bind (wants_lo _) fun _=>Lo.takes (str [41]) (where_lo F nm [])
  (Lo.bind field_lo fun f=>Lo.bind (loop_lo _ field_lo snoc F [f]) fun fs=>Lo.bind (wants_lo _) fun _=>where_lo F nm fs)
theorem block_lo {items:Pm (List T10)} (h:Lo items):Lo (sBlock items):=Lo.bind (wants_lo _) fun _=>Lo.bind h fun _=>Lo.bind (wants_lo _) fun _=>Lo.ret _
theorem else_lo {block:Pm (List T10)} (h:Lo block) (who:ByteArray) (t:Int) (bl:List (List T10)):Lo (sElse block who t bl) :=
 Lo.cond _ (Lo.bind (wants_lo _) fun _=>Lo.bind h fun _=>Lo.ret _) (Lo.ret _)
theorem branches_lo (F:Nat) {block:Pm (List T10)} (h:Lo block) (who:ByteArray) (t:Int):Lo (sBranches F block who t) :=
 Lo.bind h fun b=>Lo.bind (loop_lo _ h snoc F [b]) fun bl=>else_lo h who t bl
theorem ticks_lo:Lo sTicks:=Lo.test (P:=fun t=>t.Kind==2 && (decide (t.Value < 1) || decide (t.Value > 1000))) (fun _=>rfl) (Lo.fail 2) num_lo
theorem choice_lo (F:Nat) {block:Pm (List T10)} (h:Lo block):Lo (sChoice F block) :=
 Lo.bind (wants_lo _) fun _=>Lo.bind word_lo fun who=>Lo.takes (str [119,105,116,104,105,110]) (A:=fun l n=>(sTicks l n).bind fun t n=>sBranches F block who t l n)
  (Lo.bind ticks_lo fun t=>branches_lo F h who t) (branches_lo F h who 0)
theorem send_lo (F:Nat):Lo (sSend F):=Lo.bind word_lo fun _=>Lo.bind (wants_lo _) fun _=>Lo.bind (words_lo F) fun _=>Lo.bind (wants_lo _) fun _=>Lo.bind (path_lo F) fun _=>Lo.bind (wants_lo _) fun _=>Lo.ret _
theorem call_lo (F:Nat):Lo (sCall F):=Lo.bind word_lo fun _=>Lo.bind (wants_lo _) fun _=>Lo.bind (words_lo F) fun _=>Lo.bind (wants_lo _) fun _=>Lo.bind (wants_lo _) fun _=>Lo.bind word_lo fun _=>Lo.bind (wants_lo _) fun _=>Lo.ret _
theorem item_lo (F:Nat) {block:Pm (List T10)} (h:Lo block):Lo (sItem F block) :=
 Lo.takes (str [99,104,111,105,99,101]) (choice_lo F h)
  (Lo.takes (str [108,111,111,112]) (A:=fun l n=>(sPath F l n).bind fun nm n=>(block l n).bind fun b n=>.ok (⟨3,str [],[],nm,str [],0,[b]⟩:T10) n) (Lo.bind (path_lo F) fun _=>Lo.bind h fun _=>Lo.ret _)
  (Lo.takes (str [97,103,97,105,110]) (A:=fun l n=>(sPath F l n).bind fun nm n=>(sWants (str [59]) l n).bind fun _ n=>.ok (⟨4,str [],[],nm,str [],0,[]⟩:T10) n) (Lo.bind (path_lo F) fun _=>Lo.bind (wants_lo _) fun _=>Lo.ret _)
  (Lo.takes (str [112,97,114]) (A:=fun l n=>(block l n).bind fun b n=>(sWants (str [97,110,100]) l n).bind fun _ n=>(block l n).bind fun c n=>(sLoop (str [97,110,100]) block snoc F [b,c] l n).bind fun bl n=>.ok (⟨5,str [],[],str [],str [],0,bl⟩:T10) n)
   (Lo.bind h fun b=>Lo.bind (wants_lo _) fun _=>Lo.bind h fun c=>Lo.bind (loop_lo _ h snoc F [b,c]) fun _=>Lo.ret _)
  (Lo.takes (str [99,97,108,108]) (call_lo F) (send_lo F)))))
theorem list_lo {item:Pm T10} (h:Lo item):∀ (F:Nat) (acc:List T10),Lo (sList item F acc)
 | 0,_=>fun l n=>trivial
 | F+1,acc=>Lo.test (P:=begT) (fun _=>rfl) (A:=fun l n=>(item l n).bind fun x m=>sList item F (snoc acc x) l m) (Lo.bind h fun x=>list_lo h F (snoc acc x)) (Lo.ret acc)
theorem items_lo:∀ F:Nat,Lo (sItems F)
 | 0=>fun l n=>trivial
 | F+1=>list_lo (item_lo F (block_lo (items_lo F))) F []
def sProt0 (F:Nat):Pm T12:=fun l n=>(sWants (str [112,114,111,116,111,99,111,108]) l n).bind fun _ n=>(sWord l n).bind fun nm n=>(sWants (str [40]) l n).bind fun _ n=>(sWords F l n).bind fun rs n =>
 (sWants (str [41]) l n).bind fun _ n=>(sWants (str [123]) l n).bind fun _ n=>(sLoop (str [109,101,115,115,97,103,101]) (sMessage F) snoc F [] l n).bind fun ms n=>(sItems F l n).bind fun b n=>.ok ⟨nm,rs,ms,b⟩ n
theorem prot0_lo (F:Nat):Lo (sProt0 F):=Lo.bind (wants_lo _) fun _=>Lo.bind word_lo fun _=>Lo.bind (wants_lo _) fun _=>Lo.bind (words_lo F) fun _=>Lo.bind (wants_lo _) fun _=>Lo.bind (wants_lo _) fun _ =>
 Lo.bind (loop_lo _ (message_lo F) snoc F []) fun _=>Lo.bind (items_lo F) fun _=>Lo.ret _
theorem sProtocol_eq (F:Nat):sProtocol F=fun l n=>(sProt0 F l n).bind fun p n=>(sWants (str [125]) l n).bind fun _ n=>.ok p n:=by
 funext l n
 unfold sProtocol sProt0
 simp only [rr_assoc]
 rfl
theorem protocol_lo {F:Nat} {l:List Tok} {n:Nat}:match sProtocol F l n with
  | .ok p m=>n < m∧∀ l' d,Agr l l' d n (m-1)→sProtocol F l' (n+d)=.ok p (m+d)
  | .er k c=>n≤k∧∀ l' d,Agr l l' d n k→sProtocol F l' (n+d)=.er (k+d) c
  | .out=>True:=by
 rw [sProtocol_eq]
 have h:=prot0_lo F l n
 simp only []
 cases hs:sProt0 F l n with
 | ok p m =>
  rw [hs] at h
  obtain ⟨h1,h2⟩:=h
  cases hi:isT (str [125]) (tk l m) with
  | true =>
   have e:sWants (str [125]) l m=.ok () (m+1):=by unfold sWants;rw [hi];rfl
   simp only [Rr.bind,e]
   refine ⟨by omega,fun l' d hl=>?_⟩
   rw [Nat.add_sub_cancel] at hl
   have hl':=agr_at (P:=isT (str [125])) (isT_strip _) (hl.sub h1 (Nat.le_refl _)) (Nat.le_refl _)
   have e2:sWants (str [125]) l' (m+d)=.ok () (m+d+1):=by unfold sWants;rw [hl',hi];rfl
   rw [h2 l' d hl]
   simp only [e2]
   rw [show m+d+1=m+1+d by omega]
  | false =>
   have e:sWants (str [125]) l m=.er m 3:=by unfold sWants;rw [hi];rfl
   simp only [Rr.bind,e]
   refine ⟨h1,fun l' d hl=>?_⟩
   have hl':=agr_at (P:=isT (str [125])) (isT_strip _) (hl.sub h1 (Nat.le_refl _)) (Nat.le_refl _)
   have e2:sWants (str [125]) l' (m+d)=.er (m+d) 3:=by unfold sWants;rw [hl',hi];rfl
   rw [h2 l' d hl]
   simp only [e2]
 | er k c =>
  rw [hs] at h
  refine ⟨h.1,fun l' d hl=>?_⟩
  rw [h.2 l' d hl];rfl
 | out=>trivial
end Gp
end
section
namespace Gp
open Go Go.Kx Gx
def AgrA (l l':List Tok) (d n:Nat):Prop:=∀ i,n≤i→strip (tk l' (i+d))=strip (tk l i)
theorem AgrA.agr {l l':List Tok} {d n:Nat} (h:AgrA l l' d n) (m:Nat):Agr l l' d n m:=fun i h1 _=>h i h1
theorem AgrA.sub {l l':List Tok} {d n n':Nat} (h:AgrA l l' d n) (hn:n≤n'):AgrA l l' d n':=fun i h1=>h i (by omega)
theorem parse_shift {F:Nat} {l:List Tok} (hF:l.length+2≤F) {l':List Tok} {d:Nat} (hl:l'.length=l.length+d):∀ (G G':Nat) (acc acc':List T12) (n:Nat),l.length < G+n→l'.length < G'+(n+d)→n≤l.length→AgrA l l' d n →
  match sParse F G acc l n with
  | .ok ps m=>∃ qs,ps=acc++qs∧m=l.length∧sParse F G' acc' l' (n+d)=.ok (acc'++qs) (m+d)
  | .er k c=>sParse F G' acc' l' (n+d)=.er (k+d) c
  | .out=>True:=by
 intro G
 induction G with
 | zero=>intro G' acc acc' n h;omega
 | succ G ih =>
  intro G' acc acc' n h h' hn ha
  obtain ⟨G',rfl⟩:∃ m,G'=m+1:=⟨G'-1,by omega⟩
  simp only [sParse]
  by_cases hlt:n < l.length
  ·rw [dT hlt,dT (by omega:n+d < l'.length)]
   simp only [cT]
   have hp:=protocol_lo (F:=F) (l:=l) (n:=n)
   cases hs:sProtocol F l n with
   | ok p m =>
    rw [hs] at hp
    obtain ⟨_,hm,_⟩:=(protocol_nm hF).ok n (Nat.zero_le _) hn p m hs
    rw [hp.2 l' d (ha.agr _)]
    simp only [Rr.bind]
    have:=ih G' (snoc acc p) (snoc acc' p) m (by have:=hp.1;omega) (by have:=hp.1;omega) hm (ha.sub (by have:=hp.1;omega))
    cases hr:sParse F G (snoc acc p) l m with
    | ok ps k =>
     rw [hr] at this
     obtain ⟨qs,e1,e2,e3⟩:=this
     exact ⟨p::qs,by rw [e1];simp [snoc],e2,by rw [e3];simp [snoc]⟩
    | er k c=>rw [hr] at this;exact this
    | out=>trivial
   | er k c =>
    rw [hs] at hp
    rw [hp.2 l' d (ha.agr _)]
    rfl
   | out=>trivial
  ·rw [dF hlt,dF (by omega:¬ n+d < l'.length)]
   simp only [cF]
   exact ⟨[],by simp,by omega,by simp⟩
theorem parseS_inr {s:ByteArray} {ts:List Tok} (h:toksS s=.inr ts):parseS s=endR ts (s.size:Int) fineR (sParse 8200 8200 [] ts 0):=by
 unfold parseS
 rw [h]
theorem toks_lex {s:ByteArray} (h:s.size≤8000):toksS s=lexA (bs s) 0:=by
 unfold toksS lexA
 rw [dF (by omega),cF,size_bs]
theorem parse_inv {s:ByteArray} (h:(parseS s).2.2=0):∃ ts ps m,s.size≤8000∧lexA (bs s) 0=.inr ts∧toksS s=.inr ts∧sParse 8200 8200 [] ts 0=.ok ps m∧ValidP ps∧parseS s=(ps,0,0):=by
 have t1:=tokens_eq (N:=4210001) (by omega) s
 unfold parseS at h ⊢
 cases ht:toksS s with
 | inl q =>
  obtain ⟨p,e⟩:=q
  rw [ht] at t1 h
  exact absurd h t1.1
 | inr ts =>
  rw [ht] at h
  obtain ⟨q1,q2,q3,q4⟩:=toksS_ok ht
  have h:(endR ts (s.size:Int) fineR (sParse 8200 8200 [] ts 0)).2.2=0:=h
  cases hp:sParse 8200 8200 [] ts 0 with
  | ok ps m =>
   rw [hp] at h
   have h:(fineR ps).2.2=0:=h
   by_cases hv:ValidP ps
   ·refine ⟨ts,ps,m,q4,by rw [← toks_lex q4,ht],rfl,hp,hv,?_⟩
    show endR ts (s.size:Int) fineR (sParse 8200 8200 [] ts 0)=_
    rw [hp];exact fineR_pos hv
   ·rw [fineR_neg hv] at h
    exact absurd h (by decide)
  | er k c =>
   rw [hp] at h
   have p1:=parse_loop (l:=ts) (e:=(s.size:Int)) (N:=4210001) (by omega) q2 (F:=8200) (by omega) (by omega) (ts,0,0) rfl 8200 4210001 [] 0 (by omega) (by simp) (Nat.zero_le _)
   rw [hp] at p1
   exact absurd h p1.1
  | out =>
   rw [hp] at h
   have h:(6:Int)=0:=h
   exact absurd h (by decide)
theorem strip_tk {l l':List Tok} (h:l'.map strip=l.map strip) (i:Nat):strip (tk l' i)=strip (tk l i):=by
 have h1:∀ l:List Tok,strip (tk l i)=((l.map strip)[i]?).getD zt:=by
  intro l
  unfold tk
  rw [List.getElem?_map]
  cases l[i]?<;>rfl
 rw [h1,h1,h]
theorem parse_alike {l l':List Tok} (h:l'.map strip=l.map strip) (hl:l.length≤8000) {ps:List T12} {m:Nat} (hp:sParse 8200 8200 [] l 0=.ok ps m):sParse 8200 8200 [] l' 0=.ok ps m:=by
 have hlen:l'.length=l.length:=by have:=congrArg List.length h;simpa using this
 have:=parse_shift (F:=8200) (l:=l) (l':=l') (d:=0) (by omega) (by omega) 8200 8200 [] [] 0 (by omega) (by omega) (Nat.zero_le _) (fun i _=>by rw [Nat.add_zero];exact strip_tk h i)
 rw [hp] at this
 obtain ⟨qs,e1,e2,e3⟩:=this
 simp only [List.nil_append] at e1 e3
 rw [e1];exact e3
variable {N:Nat}
end Gp
end
section
namespace Gp
open Go Go.Kx Gx
variable {N:Nat}
end Gp
end
section
namespace Gp
open Go Go.Kx Gx
def wrL (t:Tok):List UInt8:=bif t.Kind==2 then digN 25 t.Value.toNat else bif t.Kind==3 then [34]++quoL (bs t.Text)++[34] else bs t.Text
def valN (d:List UInt8):Nat:=d.foldl (fun v c=>10 * v+(c.toNat-48)) 0
theorem digB_iff {c:UInt8}:digB c=true↔48≤c.toNat∧c.toNat≤57:=by unfold digB;rw [Bool.and_eq_true,decide_eq_true_eq,decide_eq_true_eq];omega
theorem valD_valN:∀ (d:List UInt8) (v:Nat),(∀ c∈d,digB c=true)→d.foldl (fun (v:Int) c=>10 * v+((c.toNat:Int)-48)) (v:Int)=((d.foldl (fun v c=>10 * v+(c.toNat-48)) v:Nat):Int)
 | [],v,_=>rfl
 | c::d,v,h=>by
  have hc:=digB_iff.1 (h c (List.mem_cons_self ..))
  simp only [List.foldl_cons]
  rw [show (10 * (v:Int)+((c.toNat:Int)-48))=((10 * v+(c.toNat-48):Nat):Int) by omega]
  exact valD_valN d _ fun x hx=>h x (List.mem_cons_of_mem _ hx)
theorem fold_pos:∀ (d:List UInt8) (v:Nat),1≤v→1≤d.foldl (fun v c=>10 * v+(c.toNat-48)) v
 | [],v,h=>h
 | c::d,v,h=>by simp only [List.foldl_cons];exact fold_pos d _ (by omega)
theorem valN_pos {c:UInt8} {d:List UInt8} (hc:digB c=true) (h:c≠48):1≤valN (c::d):=by
 unfold valN
 simp only [List.foldl_cons]
 have:=digB_iff.1 hc
 have hn:c.toNat≠48:=fun e=>h (UInt8.toNat_inj.mp (by rw [e];rfl))
 exact fold_pos d _ (by omega)
theorem ofNat_dig {c:UInt8} (hc:digB c=true):UInt8.ofNat (48+(c.toNat-48))=c:=by
 have:=digB_iff.1 hc
 rw [show 48+(c.toNat-48)=c.toNat by omega,UInt8.ofNat_toNat]
theorem digN_val:∀ (m:Nat) (d:List UInt8) (f:Nat),d.length≤m→(∀ c∈d,digB c=true)→d≠[]→d.length≤f→(1 < d.length→d.head? ≠ some 48)→digN f (valN d)=d:=by
 intro m
 induction m with
 | zero=>intro d f hm h hd;exact absurd (List.length_eq_zero_iff.1 (by omega)) hd
 | succ m ih =>
  intro d f hm h hd hf h0
  rcases List.eq_nil_or_concat d with rfl | ⟨e,c,rfl⟩
  ·exact absurd rfl hd
  ·rw [List.concat_eq_append] at *
   have hc:=h c (by simp)
   have hcd:=digB_iff.1 hc
   have hv:valN (e++[c])=10 * valN e+(c.toNat-48):=by unfold valN;rw [List.foldl_append];rfl
   simp only [lA,List.length_cons,List.length_nil] at hm hf h0
   obtain ⟨f,rfl⟩:∃ j,f=j+1:=⟨f-1,by omega⟩
   rw [hv,digN]
   cases e with
   | nil =>
    have e0:valN []=0:=rfl
    rw [e0]
    have hb:Nat.blt (10 * 0+(c.toNat-48)) 10=true:=by rw [Nat.blt_eq];omega
    rw [hb,cT]
    simp only [Nat.mul_zero,Nat.zero_add,List.nil_append]
    rw [ofNat_dig hc]
   | cons x e =>
    have hx:x≠48:=fun e'=>h0 (by simp) (by simp [e'])
    have hp:=valN_pos (d:=e) (h x (by simp)) hx
    have hb:Nat.blt (10 * valN (x::e)+(c.toNat-48)) 10=false:=by
     rw [Bool.eq_false_iff];intro h'
     rw [Nat.blt_eq] at h'
     omega
    rw [hb,cF,show (10 * valN (x::e)+(c.toNat-48)) / 10=valN (x::e) by omega,show (10 * valN (x::e)+(c.toNat-48)) % 10=c.toNat-48 by omega,ofNat_dig hc]
    rw [ih (x::e) f (by simp only [List.length_cons] at hm ⊢;omega) (fun y hy=>h y (List.mem_append_left _ hy)) (by simp) (by omega) (fun h1=>by
     have:=h0 (by simp)
     simpa using this)]
variable {N:Nat}
theorem write_num:∀ (f n u:Nat) (acc:List UInt8),f < n→u < 10 ^ (f+1)→u < 4611686018427387904→acc.length≤1000000-f→f≤1000→z24_l2 n (u:Int) (mkB acc)=some (mkB (digN (f+1) u++acc))
 | f,0,u,acc,h,_,_,_,_=>by omega
 | f,n+1,u,acc,h,hu,hb,ha,hf=>by
  simp only [z24_l2,digN]
  by_cases h10:u < 10
  ·rw [dF (by omega:¬ (u:Int)≥10),cF]
   have hbl:Nat.blt u 10=true:=by rw [Nat.blt_eq];omega
   rw [hbl,cT]
   unfold z24_k1
   rw [enc_digit' h10 rfl,cat_mk (by simp;omega)]
   rfl
  ·rw [dT (by omega:(u:Int)≥10),cT]
   have hbl:Nat.blt u 10=false:=by
    rw [Bool.eq_false_iff];intro h'
    rw [Nat.blt_eq] at h'
    omega
   have ht:w64 ((u:Int).tdiv 10)=((u / 10:Nat):Int):=by
    rw [show ((u:Int).tdiv 10)=((u / 10:Nat):Int) from by rw [Int.tdiv_eq_ediv_of_nonneg (by omega)];omega,w64_id (by omega) (by omega)]
   have hm:((48:Int)+(u:Int).tmod 10)=(48:Int)+((u % 10:Nat):Int):=by
    rw [Int.tmod_eq_emod_of_nonneg (by omega)];omega
   rw [hbl,cF,ht,hm,enc_digit (⟨u % 10,Nat.mod_lt _ (by omega)⟩),cat_mk (by simp;omega)]
   simp only [bS]
   cases f with
   | zero=>omega
   | succ f =>
    rw [write_num f n (u / 10) _ (by omega) (by rw [Nat.pow_succ] at hu;omega) (by omega) (by simp;omega) (by omega)]
    simp only [aA]
theorem apI_one {A:List UInt8} (b:UInt8) (h:A.length+1≤4294967296):apI (mkB A) [(b.toNat:Int)]=some (mkB (A++[b])):=by
 unfold apI
 have hb:=b.toNat_lt
 rw [show ([(b.toNat:Int)].all fun c=>decide (0≤c) && decide (c < 256))=true by simp;omega,cT]
 have e:mkBytes [(b.toNat:Int)]=mkB [b]:=by
  unfold mkBytes mkB
  simp
 rw [e]
 exact apB_eq h
theorem quoL_len:∀ l:List UInt8,(quoL l).length≤2 * l.length
 | []=>Nat.le_refl _
 | c::l=>by
  have:=quoL_len l
  unfold quoL at this ⊢
  rw [List.map_cons,List.flatten_cons,lA,List.length_cons]
  have:(quoB c).length≤2:=by unfold quoB;split<;>simp
  omega
theorem gdB_eq {A:List UInt8} (h0:0 < A.length) (hA:A.length≤4294967296):gdB (mkB A)=some ():=by
 have e:(mkB A).size=A.length:=by rw [size_bs,bs_mkB]
 unfold gdB
 rw [e,show Nat.beq A.length 0=false by cases h:A.length with | zero=>omega | succ n=>rfl,Nat.ble_eq_true_of_le (show A.length≤lim by show A.length≤4294967296;omega)]
 rfl
theorem quote_eq (hN:4194304 < N) (s:ByteArray) (hs:s.size≤1000):z57 N s=some (mkB ([34]++quoL (bs s)++[34])):=by
 unfold z57 z104_22 z149_21
 simp only [bS]
 rw [show ByteArray.empty=mkB [] from rfl,show (34:Int)=((34:UInt8).toNat:Int) from rfl,apI_one 34 (by simp)]
 simp only [bS,List.nil_append]
 have hq:=quoL_len (bs s)
 rw [size_bs] at hs
 rw [lines_0 (bs s) (z57_l2 N s) (z57_k1 N) quoB 1000000 (by omega) (fun n k b A hk hb hA=>?_) (fun n k A hk hA=>?_) (by omega) (by
  show ([34]:List UInt8).length+(quoL (bs s)).length≤1000000
  simp only [List.length_cons,List.length_nil];omega)]
 ·unfold z57_k1 z104_24 z149_23
  simp only [bS]
  have e:((bs s).map quoB).flatten=quoL (bs s):=rfl
  rw [e,show (34:Int)=((34:UInt8).toNat:Int) from rfl,apI_one 34 (by simp;omega)]
  simp only [bS]
  unfold z83_25
  rw [gdB_eq (by simp) (by simp;omega)]
  rfl
 ·simp only [z57_l2]
  rw [slt_t (get_lt hb),cT,sidx_bs,hb]
  simp only [Option.map_some,bS]
  unfold z104_24 z149_23
  simp only [bS,w64_succ (show k < 4611686018427387904 by omega)]
  have h34:((b.toNat:Int)==34)=(b==34):=u8i (c:=b) 34 (by omega) 34 rfl
  have h92:((b.toNat:Int)==92)=(b==92):=u8i (c:=b) 92 (by omega) 92 rfl
  rw [h34,h92,show (92:Int)=((92:UInt8).toNat:Int) from rfl]
  have hA2:A.length+2≤4294967296:=by omega
  cases c1:(b==34) with
  | true =>
   have:quoB b=[92,b]:=by unfold quoB;rw [if_pos (by simp at c1;exact .inl c1)]
   rw [this]
   simp only [cT]
   rw [apI_one 92 (by omega)]
   simp only [bS]
   rw [apI_one b (by simp;omega)]
   simp
  | false =>
   cases c2:(b==92) with
   | true =>
    have:quoB b=[92,b]:=by unfold quoB;rw [if_pos (by simp at c2;exact .inr c2)]
    rw [this]
    simp only [cT,cF]
    rw [apI_one 92 (by omega)]
    simp only [bS]
    rw [apI_one b (by simp;omega)]
    simp
   | false =>
    have:quoB b=[b]:=by unfold quoB;rw [if_neg (by simp at c1 c2;simp [c1,c2])]
    rw [this]
    simp only [cF]
    rw [apI_one b (by omega)]
    simp
 ·simp only [z57_l2]
  rw [slt_f hk,cF]
theorem txtB_good:∀ (l:List UInt8) {t n},txtB l=some (t,n)→∀ c∈t,badB c=false
 | [],t,n,h=>by simp [txtB] at h
 | [c],t,n,h=>by
  simp only [txtB] at h
  cases hc:(c==34) with
  | false=>rw [hc] at h;cases h
  | true=>rw [hc] at h;cases h;simp
 | c::d::l,t,n,h=>by
  cases h1:(c==34) with
  | true =>
   have:c=34:=by simpa using h1
   subst this
   rw [txt34] at h;cases h;simp
  | false =>
   cases h2:(c==92) with
   | true =>
    have:c=92:=by simpa using h2
    subst this
    cases h3:(d==34 || d==92) with
    | false=>rw [txt_esc0 d l h3] at h;cases h
    | true =>
     rw [txt_esc d l h3] at h
     cases ht:txtB l with
     | none=>rw [ht] at h;cases h
     | some q =>
      obtain ⟨t',n'⟩:=q
      rw [ht] at h
      simp only [Option.map_some,Option.some.injEq,Prod.mk.injEq] at h
      rw [← h.1]
      intro x hx
      rcases List.mem_cons.1 hx with rfl | hx
      ·rw [Bool.or_eq_true,beq_iff_eq,beq_iff_eq] at h3
       rcases h3 with rfl | rfl<;>rfl
      ·exact txtB_good l ht x hx
   | false =>
    cases h3:badB c with
    | true=>rw [txt_bad c _ h1 h2 h3] at h;cases h
    | false =>
     rw [txt_one c _ h1 h2 h3] at h
     cases ht:txtB (d::l) with
     | none=>rw [ht] at h;cases h
     | some q =>
      obtain ⟨t',n'⟩:=q
      rw [ht] at h
      simp only [Option.map_some,Option.some.injEq,Prod.mk.injEq] at h
      rw [← h.1]
      intro x hx
      rcases List.mem_cons.1 hx with rfl | hx
      ·exact h3
      ·exact txtB_good (d::l) ht x hx
theorem txt_quo (w:List UInt8):∀ t:List UInt8,(∀ c∈t,badB c=false)→txtB (quoL t++34::w)=some (t,(quoL t).length+1)
 | [],_=>txt34 w
 | c::t,h=>by
  have ih:=txt_quo w t fun x hx=>h x (List.mem_cons_of_mem _ hx)
  have e:quoL (c::t)=quoB c++quoL t:=rfl
  rw [e,aA]
  by_cases hc:c=34∨c=92
  ·have:quoB c=[92,c]:=by unfold quoB;rw [if_pos hc]
   rw [this]
   rw [show [92,c]++(quoL t++34::w)=92::c::(quoL t++34::w) from rfl,txt_esc c _ (by rw [Bool.or_eq_true,beq_iff_eq,beq_iff_eq];exact hc),ih]
   simp [lA]
  ·have:quoB c=[c]:=by unfold quoB;rw [if_neg hc]
   rw [this]
   rw [show [c]++(quoL t++34::w)=c::(quoL t++34::w) from rfl,txt_one c _ (by simp;exact fun e=>hc (.inl e)) (by simp;exact fun e=>hc (.inr e)) (h c (List.mem_cons_self ..)),ih]
   simp [lA]
end Gp
end
section
namespace Gp
open Go Go.Kx Gx
theorem takeWhile_self {α:Type} (p:α→Bool):∀ l:List α,(∀ c∈l,p c=true)→l.takeWhile p=l
 | [],_=>rfl
 | c::l,h=>by
  simp only [List.takeWhile,h c (List.mem_cons_self ..)]
  rw [takeWhile_self p l fun x hx=>h x (List.mem_cons_of_mem _ hx)]
theorem marks2_tok:∀ m∈marks2,tokB m=.ok 4 m 0 2:=by
 intro m hm
 simp only [marks2,List.mem_cons,List.not_mem_nil,or_false] at hm
 rcases hm with h | h | h | h | h | h | h | h<;>subst h<;>rfl
theorem marks1_tok:∀ c∈marks1,tokB [c]=.ok 4 [c] 0 1:=by
 intro c hc
 simp only [marks1,List.mem_cons,List.not_mem_nil,or_false] at hc
 rcases hc with h | h | h | h | h | h | h | h | h | h | h | h | h | h | h | h | h<;>subst h<;>rfl
structure TokW (t:Tok):Prop where
 ex:∃ tx,tokB (wrL t)=.ok t.Kind tx t.Value (wrL t).length∧mkB tx=t.Text
 num:t.Kind=2→0≤t.Value∧t.Value < 1000000
 len:t.Text.size≤40
 wl:(wrL t).length≤90
theorem tokB_write {s:List UInt8} {k:Int} {tx:List UInt8} {v:Int} {n:Nat} (h:tokB s=.ok k tx v n) (F:Int):TokW ⟨k,mkB tx,v,F⟩:=by
 have hsz:∀ x:List UInt8,(mkB x).size=x.length:=fun x=>by rw [size_bs,bs_mkB]
 cases s with
 | nil=>simp [tokB] at h
 | cons c l =>
  have h0:=h
  unfold tokB at h
  cases c1:letB c with
  | true =>
   simp only [c1,cT] at h
   cases hd:decide ((l.takeWhile innB).length+1 > 16) with
   | true=>rw [hd] at h;cases h
   | false =>
    rw [hd] at h
    simp only [cF] at h
    injection h with h1 h2 h3 h4
    subst h1 h2 h3
    rw [decide_eq_false_iff_not] at hd
    have hw:wrL (⟨1,mkB (c::l.takeWhile innB),0,F⟩:Tok)=c::l.takeWhile innB:=by unfold wrL;exact bs_mkB _
    refine ⟨⟨c::l.takeWhile innB,?_,rfl⟩,fun h=>(by cases h),by rw [hsz];simp only [List.length_cons];omega,by rw [hw];simp only [List.length_cons];omega⟩
    rw [hw]
    unfold tokB
    simp only [c1,cT]
    rw [takeWhile_self innB _ (takeWhile_all innB l),dF (by omega),cF]
    rfl
  | false =>
   simp only [c1,cF] at h
   cases c2:digB c with
   | true =>
    simp only [c2,cT] at h
    unfold numB numK at h
    have hall:=takeWhile_all digB (c::l)
    have hhd:((c::l).takeWhile digB).head? = some c:=by simp only [List.takeWhile,c2];rfl
    have hne:(c::l).takeWhile digB≠[]:=fun e=>by rw [e] at hhd;cases hhd
    generalize (c::l).takeWhile digB=d at *
    cases h3:((c::l).drop d.length).head?.any innB with
    | true=>rw [h3] at h;cases h
    | false =>
     rw [h3] at h
     simp only [cF] at h
     cases h4:(decide (d.length > 6) || (decide (d.length > 1) && (c::l).head? == some 48)) with
     | true=>rw [h4] at h;cases h
     | false =>
      rw [h4] at h
      simp only [cF] at h
      injection h with h1 h2 h5 h6
      subst h1 h2 h5
      have h7:d.length≤6∧(d.length > 1→c≠48):=by
       rw [Bool.or_eq_false_iff,Bool.and_eq_false_iff,decide_eq_false_iff_not,decide_eq_false_iff_not] at h4
       refine ⟨by omega,fun h1 hc=>?_⟩
       rcases h4.2 with h8 | h8
       ·omega
       ·rw [hc] at h8;simp at h8
      have hv:valD d=((valN d:Nat):Int):=valD_valN d 0 hall
      have hbnd:valN d < 1000000:=by
       have:=val_bound d 0 0 hall (by omega) (by simp)
       have hp:(10:Nat) ^ (0+d.length)≤10 ^ 6:=Nat.pow_le_pow_right (by omega) (by omega)
       have h9:valD d < ((10 ^ (0+d.length):Nat):Int):=by
        first | exact this.2 | exact this
       omega
      have hw:wrL (⟨2,mkB [],valD d,F⟩:Tok)=d:=by
       unfold wrL
       show digN 25 (valD d).toNat=d
       rw [hv,Int.toNat_natCast]
       exact digN_val d.length d 25 (Nat.le_refl _) hall hne (by omega) (fun h1 h2=>h7.2 h1 (by rw [hhd] at h2;injection h2))
      refine ⟨⟨[],?_,rfl⟩,fun _=>⟨by show 0≤valD d;omega,by show valD d < 1000000;omega⟩,by rw [hsz];simp,by rw [hw];omega⟩
      rw [hw]
      cases d with
      | nil=>exact absurd rfl hne
      | cons x d =>
       have hx:x=c:=by simpa using hhd
       subst hx
       unfold tokB
       simp only [c1,c2,cT,cF]
       unfold numB numK
       rw [takeWhile_self digB (x::d) hall,List.drop_length]
       have h48:(decide ((x::d).length > 6) || (decide ((x::d).length > 1) && (x::d).head? == some 48))=false:=h4
       rw [h48]
       rfl
   | false =>
    simp only [c2,cF] at h
    cases c3:(c==34) with
    | true =>
     simp only [c3,cT] at h
     cases ht:txtB l with
     | none=>rw [ht] at h;cases h
     | some q =>
      obtain ⟨t',n'⟩:=q
      rw [ht] at h
      simp only [] at h
      cases hd:decide (t'.length > 40) with
      | true=>rw [hd] at h;cases h
      | false =>
       rw [hd] at h
       simp only [cF] at h
       injection h with h1 h2 h3 h4
       subst h1 h2 h3
       rw [decide_eq_false_iff_not] at hd
       have hw:wrL (⟨3,mkB t',0,F⟩:Tok)=34::(quoL t'++34::[]):=by unfold wrL;show [34]++quoL (bs (mkB t'))++[34]=_;rw [bs_mkB];simp
       have hq:=quoL_len t'
       refine ⟨⟨t',?_,rfl⟩,fun h=>(by cases h),by rw [hsz];omega,by rw [hw];simp;omega⟩
       rw [hw]
       unfold tokB
       simp only [show letB 34=false from rfl,show digB 34=false from rfl,show ((34:UInt8)==34)=true from rfl,cT,cF]
       rw [txt_quo [] t' (txtB_good l ht)]
       simp only []
       rw [dF (by omega),cF]
       congr 1
       simp
    | false =>
     have hok:=tokB_ok h0
     have hk:k=4:=by
      simp only [c3,cF] at h
      cases h4:(decide (l≠[]) && marks2.any fun m=>m==(c::l).take 2) with
      | true=>rw [h4] at h;simp only [cT] at h;injection h with h1;exact h1.symm
      | false =>
       rw [h4] at h
       simp only [cF] at h
       cases h5:(marks1.any fun m=>m==c) with
       | true=>rw [h5] at h;simp only [cT] at h;injection h with h1;exact h1.symm
       | false=>rw [h5] at h;cases h
     have hv0:v=0:=by
      simp only [c3,cF] at h
      cases h4:(decide (l≠[]) && marks2.any fun m=>m==(c::l).take 2) with
      | true=>rw [h4] at h;simp only [cT] at h;injection h with _ _ h1;exact h1.symm
      | false =>
       rw [h4] at h
       simp only [cF] at h
       cases h5:(marks1.any fun m=>m==c) with
       | true=>rw [h5] at h;simp only [cT] at h;injection h with _ _ h1;exact h1.symm
       | false=>rw [h5] at h;cases h
     subst hk hv0
     have hw:wrL (⟨4,mkB tx,0,F⟩:Tok)=tx:=by unfold wrL;exact bs_mkB _
     rcases hok.mark rfl with hm | ⟨x,hx,rfl⟩
     ·have e:=marks2_tok tx hm
      have hl:tx.length=2:=by
       have:∀ m∈marks2,m.length=2:=by decide
       exact this tx hm
      exact ⟨⟨tx,by rw [hw,hl];exact e,rfl⟩,fun h=>(by cases h),by rw [hsz];omega,by rw [hw];omega⟩
     ·have e:=marks1_tok x hx
      exact ⟨⟨[x],by rw [hw];exact e,rfl⟩,fun h=>(by cases h),by rw [hsz];simp,by rw [hw];simp⟩
theorem lex_write:∀ (m:Nat) (s:List UInt8) (a:Nat) (ts:List Tok),s.length≤m→lexA s a=.inr ts→∀ t∈ts,TokW t:=by
 intro m
 induction m with
 | zero =>
  intro s a ts hm h
  have hs:s=[]:=List.length_eq_zero_iff.1 (by omega)
  subst hs
  rw [lexA_end rfl] at h
  cases h
  simp
 | succ m ih =>
  intro s a ts hm h
  rcases lexA_inv h with ⟨h1,h2⟩ | ⟨c,l,k,tx,v,n,us,h0,h1,h2,h3,h4⟩
  ·subst h2;simp
  ·have ok:=tokB_ok h2
   have hl:(c::l).length=s.length-skW false s:=by rw [← h1,List.length_drop]
   have:=ok.pos
   subst h4
   intro t ht
   rcases List.mem_cons.1 ht with rfl | ht
   ·exact tokB_write h2 _
   ·exact ih ((c::l).drop n) _ us (by rw [List.length_drop];omega) h3 t ht
theorem startAll:((List.range 256).all fun r => !(blankB (UInt8.ofNat r)) || (!(letB (UInt8.ofNat r)) && !(digB (UInt8.ofNat r)) && !(UInt8.ofNat r==34) && !(marks2.any fun m=>m.head? == some (UInt8.ofNat r)) && !(marks1.any fun m=>m==UInt8.ofNat r)))=true:=by kernel_rfl
theorem any2h {c:UInt8} {l:List UInt8} (h:(marks2.any fun m=>m.head? == some c)=false):(marks2.any fun m=>m==(c::l).take 2)=false:=by
 rw [Bool.eq_false_iff] at h ⊢
 intro h3
 apply h
 rw [List.any_eq_true] at h3 ⊢
 obtain ⟨m,hm,he⟩:=h3
 refine ⟨m,hm,?_⟩
 have he:m=(c::l).take 2:=by simpa using he
 subst he
 simp
theorem tok_start {c:UInt8} {l:List UInt8} {k:Int} {tx:List UInt8} {v:Int} {n:Nat} (h:tokB (c::l)=.ok k tx v n):blankB c=false∧(c=47→n=1):=by
 constructor
 ·cases hb:blankB c with
  | false=>rfl
  | true =>
   have:=List.all_eq_true.1 startAll c.toNat (List.mem_range.2 c.toNat_lt)
   rw [UInt8.ofNat_toNat,hb] at this
   simp only [Bool.not_true,Bool.false_or,Bool.and_eq_true,Bool.not_eq_true'] at this
   obtain ⟨⟨⟨⟨a1,a2⟩,a3⟩,a4⟩,a5⟩:=this
   unfold tokB at h
   simp only [a1,a2,a3,any2h (l:=l) a4,a5,Bool.and_false,cF] at h
   cases h
 ·intro hc
  subst hc
  unfold tokB at h
  simp only [show letB 47=false from rfl,show digB 47=false from rfl,show ((47:UInt8)==34)=false from rfl,any2h (c:=47) (l:=l) rfl,show (marks1.any fun m=>m==47)=true from rfl,Bool.and_false,cF,cT] at h
  injection h with _ _ _ h4
  exact h4.symm
structure GapP (g:List UInt8):Prop where
 hd:∃ b g',g=b::g'∧blankB b=true
 sk:∀ w,skW false (g++w)=g.length+skW false w
def txtOf (gs:Nat→List UInt8):List Tok→Nat→List UInt8
 | [],_=>[]
 | t::ts,i=>gs i++(wrL t++txtOf gs ts (i+1))
theorem lex_txt {gs:Nat→List UInt8} (hg:∀ i,GapP (gs i)):∀ (ts:List Tok) (i a:Nat),(∀ t∈ts,TokW t)→∃ us,lexA (txtOf gs ts i++[10]) a=.inr us∧us.map strip=ts.map strip
 | [],i,a,_=>⟨[],lexA_end (by rfl) a,rfl⟩
 | t::ts,i,a,h=>by
  obtain ⟨tx,e1,e2⟩:=(h t (List.mem_cons_self ..)).ex
  -- what follows the token begins with a blank
  obtain ⟨b,R,hR,hb⟩:∃ b R,txtOf gs ts (i+1)++[10]=b::R∧blankB b=true:=by
   cases ts with
   | nil=>exact ⟨10,[],rfl,rfl⟩
   | cons t' ts' =>
    obtain ⟨b,g',h1,h2⟩:=(hg (i+1)).hd
    exact ⟨b,_,by simp only [txtOf,h1,List.cons_append];rfl,h2⟩
  have hs:txtOf gs (t::ts) i++[10]=gs i++(wrL t++b::R):=by
   rw [← hR];simp only [txtOf,aA]
  obtain ⟨c,l,hw⟩:∃ c l,wrL t=c::l:=by
   cases hw:wrL t with
   | nil=>rw [hw] at e1;simp [tokB] at e1
   | cons c l=>exact ⟨c,l,rfl⟩
  have hst:=e1
  rw [hw] at hst
  obtain ⟨hbl,h47⟩:=tok_start hst
  have hsk0:skW false (wrL t++b::R)=0:=by
   rw [hw,List.cons_append]
   simp only [skW,hbl,cF]
   have:(c==47 && (l++b::R).head? == some 47)=false:=by
    cases hc:(c==47) with
    | false=>rfl
    | true =>
     have hl:=h47 (by simpa using hc)
     simp only [List.length_cons] at hl
     have:l=[]:=List.length_eq_zero_iff.1 (by omega)
     subst this
     simp [(blank_f hb).2.2.1]
   rw [this];rfl
  have hsk:skW false (gs i++(wrL t++b::R))=(gs i).length:=by rw [(hg i).sk,hsk0];omega
  have htk:=tokB_app e1 hb R
  have hdr:(gs i++(wrL t++b::R)).drop (skW false (gs i++(wrL t++b::R)))=c::(l++b::R):=by
   rw [hsk,List.drop_left,hw];rfl
  have htk':tokB (c::(l++b::R))=.ok t.Kind tx t.Value (wrL t).length:=by
   rw [← htk,hw];rfl
  obtain ⟨us,u1,u2⟩:=lex_txt hg ts (i+1) (a+skW false (gs i++(wrL t++b::R))+(wrL t).length) fun x hx=>h x (List.mem_cons_of_mem _ hx)
  have hrest:(c::(l++b::R)).drop (wrL t).length=txtOf gs ts (i+1)++[10]:=by
   rw [hR,show c::(l++b::R)=wrL t++b::R by rw [hw];rfl,List.drop_left]
  refine ⟨_,by rw [hs,lexA_step hdr htk',hrest,u1];rfl,?_⟩
  rw [List.map_append,List.map_cons,u2,e2]
  rfl
end Gp
end
section
namespace Gp
open Go Go.Kx Gx
def G5:List (List UInt8):=[[32],[10],[9],[32,47,47,32,97,32,45,62,32,125,32,40,10],[13,10]]
theorem g5_gap:∀ g∈G5,GapP g:=by
 intro g hg
 simp only [G5,List.mem_cons,List.not_mem_nil,or_false] at hg
 rcases hg with h | h | h | h | h<;>subst h
 all_goals exact ⟨⟨_,_,rfl,rfl⟩,fun w=>by simp [skW,blankB];omega⟩
def gapOf (gaps:List Int) (i:Nat):List UInt8:=match gaps[i % gaps.length]? with
 | none=>[32]
 | some y=>(G5[y.toNat % 5]?).getD [32]
theorem gapOf_in (gaps:List Int) (i:Nat):gapOf gaps i∈G5:=by
 unfold gapOf
 cases gaps[i % gaps.length]? with
 | none=>simp [G5]
 | some y =>
  simp only []
  have h:y.toNat % 5 < G5.length:=by show _ < 5;omega
  rw [List.getElem?_eq_getElem h]
  exact List.getElem_mem h
theorem g5_len:∀ g∈G5,g.length≤13:=by decide
variable {N:Nat}
theorem write_eq (hN:4194304 < N) {t:Tok} (h:TokW t):z24 N t=some (mkB (wrL t)):=by
 unfold z24 wrL
 cases h2:(t.Kind==2) with
 | true =>
  obtain ⟨a,b⟩:=h.num (by simpa using h2)
  simp only [cT]
  have:=write_num 24 N t.Value.toNat [] (by omega) (by omega) (by omega) (by simp) (by omega)
  rw [show ((t.Value.toNat:Nat):Int)=t.Value by omega,List.append_nil] at this
  exact this
 | false =>
  simp only [cF]
  cases h3:(t.Kind==3) with
  | true =>
   simp only [cT]
   rw [quote_eq hN t.Text (by have:=h.len;omega)];rfl
  | false=>simp only [cF,mkB_bs]
theorem blanks_loop (hN:4194304 < N) (gaps:List Int) (hg:gaps.length≤40) (hy:∀ y∈gaps,0≤y∧y < 256) (ts:List Tok) (hl:ts.length≤8000) (hw:∀ t∈ts,TokW t) (x6:List T12 × Int × Int):∀ (l:List Tok) (k n:Nat) (A:List UInt8),ts.drop k=l→l.length < n→k≤ts.length→A.length+l.length * 103≤1000000 →
  law10_SyntaxBlanks_l2 N gaps (ts,0,0) x6 n (mkB A) (k:Int)=law10_SyntaxBlanks_k1 N x6 (mkB (A++txtOf (gapOf gaps) l k)):=by
 intro l
 induction l with
 | nil =>
  intro k n A h hn hk hA
  obtain ⟨n,rfl⟩:∃ m,n=m+1:=⟨n-1,by simp at hn;omega⟩
  simp only [law10_SyntaxBlanks_l2]
  rw [show decide ((k:Int) < (((ts,0,0):List Tok × Int × Int).1.length:Int))=false from lt_f (drop_nil h),cF]
  simp only [txtOf,List.append_nil]
 | cons t l ih =>
  intro k n A h hn hk hA
  obtain ⟨n,rfl⟩:∃ m,n=m+1:=⟨n-1,by simp at hn;omega⟩
  obtain ⟨a,c,d⟩:=drop_cons h
  have ht:=hw t (List.mem_of_getElem? c)
  have hwl:=ht.wl
  have hgl:=g5_len _ (gapOf_in gaps k)
  simp only [List.length_cons] at hA hn
  simp only [law10_SyntaxBlanks_l2]
  rw [show decide ((k:Int) < (((ts,0,0):List Tok × Int × Int).1.length:Int))=true from lt_t a,cT]
  have step:∀ g:List UInt8,g=gapOf gaps k→(catS (str g) (mkB (wrL t))).bind (fun x=>(catS (mkB A) x).bind fun y=>law10_SyntaxBlanks_l2 N gaps (ts,0,0) x6 n y (w64 ((k:Int)+1)))=law10_SyntaxBlanks_k1 N x6 (mkB (A++txtOf (gapOf gaps) (t::l) k)):=by
   intro g hg
   subst hg
   rw [show str (gapOf gaps k)=mkB (gapOf gaps k) from rfl,cat_mk (by omega),bS,cat_mk (by simp only [lA];omega),bS,w64_succ (by omega)]
   rw [ih (k+1) n _ d (by omega) (by omega) (by simp only [lA];omega)]
   simp only [txtOf,aA]
  by_cases h0:gaps.length > 0
  ·rw [dT (by omega:(gaps.length:Int) > 0),cT]
   have hmod:k % gaps.length < gaps.length:=Nat.mod_lt _ h0
   obtain ⟨y,hyy⟩:∃ y,gaps[k % gaps.length]? = some y:=⟨_,List.getElem?_eq_getElem hmod⟩
   have hyr:=hy y (List.mem_of_getElem? hyy)
   have e1:binO .rem .i64 (k:Int) (gaps.length:Int)=some ((k % gaps.length:Nat):Int):=by
    unfold binO
    rw [show ((gaps.length:Int)==0)=false by rw [beq_eq_false_iff_ne];omega]
    show some ((k:Int).tmod (gaps.length:Int))=_
    rw [Int.tmod_eq_emod_of_nonneg (Int.natCast_nonneg k)];rfl
   have e2:binO .rem .i64 (w64 y) (((([(str [32]),(str [10]),(str [9]),(str [32,47,47,32,97,32,45,62,32,125,32,40,10]),(str [13,10])]:List ByteArray).length:Nat)):Int)=some ((y.toNat % 5:Nat):Int):=by
    unfold binO
    rw [w64_id (by omega) (by omega)]
    show (bif ((5:Int)==0) then none else some (y.tmod 5))=_
    rw [show ((5:Int)==0)=false from rfl,Int.tmod_eq_emod_of_nonneg (by omega)]
    show some (y % 5)=_
    congr 1;omega
   have hj:y.toNat % 5 < 5:=Nat.mod_lt _ (by omega)
   have hgap:gapOf gaps k=(G5[y.toNat % 5]?).getD [32]:=by unfold gapOf;rw [hyy]
   rw [e1]
   simp only [bS,idx_nat,hyy,e2,c,write_eq hN ht]
   generalize y.toNat % 5=j at *
   have hj':j=0∨j=1∨j=2∨j=3∨j=4:=by omega
   rcases hj' with rfl | rfl | rfl | rfl | rfl
   ·exact step [32] (by rw [hgap];rfl)
   ·exact step [10] (by rw [hgap];rfl)
   ·exact step [9] (by rw [hgap];rfl)
   ·exact step [32,47,47,32,97,32,45,62,32,125,32,40,10] (by rw [hgap];rfl)
   ·exact step [13,10] (by rw [hgap];rfl)
  ·rw [dF (by omega:¬ (gaps.length:Int) > 0),cF]
   simp only [idx_nat,c,bS,write_eq hN ht]
   have hnil:gaps=[]:=List.length_eq_zero_iff.1 (by omega)
   exact step [32] (by rw [hnil];rfl)
theorem blanks_law (hN:4210000 < N) (s:ByteArray) (gaps:List Int) (hy:∀ y∈gaps,0≤y∧y < 256) (hw:z9 N=some true):law10_SyntaxBlanks N s gaps=some true:=by
 unfold law10_SyntaxBlanks
 rw [hw]
 simp only [bS,Bool.not_true,cF]
 by_cases s1:s.size > 1500
 ·rw [dT (by omega:(s.size:Int) > 1500)];rfl
 by_cases s2:gaps.length > 40
 ·rw [dF (by omega:¬ (s.size:Int) > 1500),dT (by omega:(gaps.length:Int) > 40)];rfl
 rw [dF (by omega:¬ (s.size:Int) > 1500),dF (by omega:¬ (gaps.length:Int) > 40)]
 simp only [cF]
 rw [(parse_both hN s).1]
 have t1:=tokens_eq (N:=N) (by omega) s
 cases ht:toksS s with
 | inl q =>
  obtain ⟨p,e⟩:=q
  rw [ht] at t1
  rw [t1.2]
  simp only [bS]
  have hp:(parseS s).2.2=e:=by unfold parseS;rw [ht]
  rw [hp,show (e != 0)=true by simp [t1.1]];rfl
 | inr ts =>
  rw [ht] at t1
  have t1:z23 N s=some (ts,0,0):=t1
  rw [t1]
  simp only [bS]
  rw [show ((0:Int) != 0)=false from rfl]
  simp only [cF]
  by_cases he:(parseS s).2.2=0
  ·rw [show ((parseS s).2.2 != 0)=false by simp [he],cF]
   obtain ⟨ts',ps,m,a1,a2,a3,a4,a5,a6⟩:=parse_inv he
   have hts:ts'=ts:=by rw [ht] at a3;injection a3 with a3;exact a3.symm
   subst hts
   obtain ⟨q1,_⟩:=toksS_ok ht
   have hW:=lex_write _ (bs s) 0 ts' (Nat.le_refl _) a2
   have hfin:=blanks_loop (N:=N) (by omega) gaps (by omega) hy ts' q1 hW (parseS s) ts' 0 N [] rfl (by omega) (Nat.zero_le _) (by simp;omega)
   rw [show law10_SyntaxBlanks_l2 N gaps (ts',0,0) (parseS s) N (str []) (0:Int)=_ from hfin,List.nil_append]
   obtain ⟨us,u1,u2⟩:=lex_txt (gs:=gapOf gaps) (fun i=>g5_gap _ (gapOf_in gaps i)) ts' 0 0 hW
   have hlen:∀ (l:List Tok) (i:Nat),(∀ t∈l,TokW t)→(txtOf (gapOf gaps) l i).length≤l.length * 103:=by
    intro l
    induction l with
    | nil=>intro i _;simp [txtOf]
    | cons t l ih =>
     intro i h
     have h1:=ih (i+1) fun x hx=>h x (List.mem_cons_of_mem _ hx)
     have h2:=(h t (List.mem_cons_self ..)).wl
     have h3:=g5_len _ (gapOf_in gaps i)
     simp only [txtOf,lA,List.length_cons,Nat.add_mul,Nat.one_mul]
     omega
   have hA:=hlen ts' 0 hW
   generalize txtOf (gapOf gaps) ts' 0=A at *
   unfold law10_SyntaxBlanks_k1
   rw [show str [10]=mkB [10] from rfl,cat_mk (by simp;omega)]
   simp only [bS]
   rw [(parse_both hN _).1]
   simp only [bS]
   by_cases h8:A.length≥8000
   ·rw [size_bs,bs_mkB,dT (by omega)];rfl
   ·rw [size_bs,bs_mkB,dF (by omega),cF]
    have hz:(mkB (A++[10])).size≤8000:=by rw [size_bs,bs_mkB];simp;omega
    have htu:toksS (mkB (A++[10]))=.inr us:=by rw [toks_lex hz,bs_mkB,u1]
    have hps:=parse_alike u2 q1 a4
    have hres:parseS (mkB (A++[10]))=(ps,0,0):=by
     rw [parseS_inr htu,hps]
     exact fineR_pos a5
    rw [hres,a6]
    have hsm:=parse_small a3 a4
    simp only []
    rw [(equal_dq (N:=N) (by omega) ps ps (by omega) (fun p hp=>by
     have z:=Zf.of (hsm.2 p hp)
     exact ⟨z.b,by have:=z.d;omega⟩)).get rfl]
    rfl
  ·rw [show ((parseS s).2.2 != 0)=true by simp [he]];rfl
end Gp
end
section
namespace Gx
open Go Go.Kx
end Gx
end
section
namespace Gp
open Go Go.Kx Gx
set_option maxRecDepth 100000
theorem awake_some (k:Nat):z9 (k+300)=some true:=by kernel_rfl
theorem u8_of {n:Int} (h:(Lit.int .u8 n).wf=true):0≤n∧n≤255:=by
 simp [Lit.wf,IntKind.min,IntKind.max,IntKind.signed,IntKind.bits] at h
 constructor<;>omega
theorem plain:∀ (x0:ByteArray) (x1:(List Int)),(x0.size≤bd)→(x1.length≤bd∧∀ y∈x1,(Lit.int .u8 y).wf=true)→∃ N,law10_SyntaxBlanks N x0 x1=some true:=by
 intro s g _ h
 exact ⟨10000000+300,blanks_law (by omega) s g (fun y hy=>by have:=u8_of (h.2 y hy);omega) (awake_some _)⟩
end Gp
end
