/- The plain law, part 3: what the functions compute answers as the statement says. -/
import Derived.Test.YteimgnlbpphmjaaGreatDoorSyntaxSourcePlain2
set_option linter.all false
section
namespace Gp
open Go Go.Kx Gx
variable {N:Nat}
theorem lines_0 {α γ:Type} (xs:List α) (F:Nat→ByteArray→Int→γ) (fin:ByteArray→γ) (g:α→List UInt8) (L:Nat) (hs:xs.length≤4194304)
  (h1:∀ (n k:Nat) x A,k < 4194304→xs[k]? = some x→A.length+(g x).length≤L→F (n+1) (mkB A) (k:Int)=F n (mkB (A++g x)) ((k+1:Nat):Int))
  (h2:∀ (n k:Nat) A,xs.length≤k→A.length≤L→F (n+1) (mkB A) (k:Int)=fin (mkB A)) {n:Nat} {A:List UInt8} (hn:xs.length < n) (hA:A.length+((xs.map g).flatten).length≤L):F n (mkB A) (0:Int)=fin (mkB (A++(xs.map g).flatten)) :=
 lines_at xs F fin g L hs h1 (fun n k A a _ b=>h2 n k A a b) xs 0 n A (Nat.zero_le _) rfl hn hA
theorem rtext_eq (hN:4194320 < N) (l:List T7) (hl:l.length≤10) (h:∀ p∈l,Pk N (oP p)):z39 N l=some (mkB (srcT (l.map oP))):=by
 have hs:=srcT_len (l:=l.map oP) (by simp;omega) (fun p hp=>by obtain ⟨q,hq,rfl⟩:=List.mem_map.1 hp;exact (h q hq).v) (by simp;omega)
 have e:srcT (l.map oP)=(l.map fun p=>protT (oP p)).flatten:=by unfold srcT;rw [List.map_map];rfl
 rw [e] at hs ⊢
 unfold z39
 have:=lines_at l (z39_l2 N l) z39_k1 (fun p=>protT (oP p)) 10000000 (by omega) (fun n k p A hk hp hA=>?_) (fun n k A hk _ hA=>?_) l 0 N [] (by omega) rfl (by omega) (by simp only [List.length_nil];omega)
 ·exact this
 ·have hp':=h p (List.mem_of_getElem? hp)
  have hpr:p.Roles.length≤6:=hp'.r
  have hw:=word_len hp'.v.1
  have hc:(joinT [44,32] p.Roles).length≤108:=comma_len hp'.v.2.1 (Nat.le_refl _)
  have hm:=msgs_len hp'.v
  have hq4:=xL_len (oP p).Body 1 hp'.v.2.2.2.1 (by have:=hp'.v.2.2.2.2.1;omega)
  have hc6:=hp'.v.2.2.2.2.2.1
  have e1:(oP p).Name=p.Name:=rfl
  have e2:(oP p).Roles=p.Roles:=rfl
  have e3:(oP p).Messages=p.Messages.map oM:=rfl
  have e4:(oP p).Body=oL p.Body:=rfl
  rw [e1] at hw
  rw [e3] at hm
  have hh:lineT 0 (protHead (oP p))=[112,114,111,116,111,99,111,108,32]++bs p.Name++[40]++joinT [44,32] p.Roles++[41,32,123,10]:=by
   simp [lineT,tabs,protHead,commaT,e1,e2]
  simp only [z39_l2,lt_t (get_lt hp),cT,idx_nat,hp,bS]
  rw [list_eq (by omega) p.Roles (by omega) (by omega)]
  simp (disch:=(simp only [bs_mkB,bs_str,lA,List.length_cons,List.length_nil,tabs_len];omega)) only [cat_eq,bS,bs_mkB,bs_str]
  rw [← hh]
  have hhl:(lineT 0 (protHead (oP p))).length≤200:=by rw [hh];simp only [lA,List.length_cons,List.length_nil];omega
  have hml:p.Messages.length≤40:=by have:=hp'.v.2.2.1;rw [e3,List.length_map] at this;exact this
  have hbl:p.Body.length≤4194304:=by have:=hp'.l;rw [e4,oL_len] at this;exact this
  have hmm:(p.Messages.map oM).map msgLine=p.Messages.map (fun m=>msgLine (oM m)):=by rw [List.map_map];rfl
  rw [hmm] at hm
  rw [lines_0 p.Messages (z39_l6 N l (k:Int) (z39_l2 N l n)) (z39_k5 N l (k:Int) (z39_l2 N l n)) (fun m=>msgLine (oM m)) 50000000 (by omega) (fun n' j m A hj hmj hA=>?_) (fun n' j A hj hA=>?_) (by omega) (by simp only [lA];omega)]
  ·unfold z39_k5
   have hx:∀ l:List T5,(l.map fun x=>xI 1 (oI x)).flatten=xL 1 (oL l):=by
    intro l
    induction l with
    | nil=>simp [oL,xL]
    | cons x l ih=>simp only [List.map_cons,List.flatten_cons,oL,xL,ih]
   rw [lines_0 p.Body (z39_l4 N l (k:Int) (z39_l2 N l n)) (z39_k3 (k:Int) (z39_l2 N l n)) (fun x=>xI 1 (oI x)) 100000000 hbl (fun n' j x A hj hxj hA=>?_) (fun n' j A hj hA=>?_) (by omega) (by rw [hx];rw [e4] at hq4 hc6;simp only [lA];omega),hx]
   ·unfold z39_k3
    rw [e4] at hq4 hc6
    simp (disch:=(simp only [bs_mkB,bs_str,lA,List.length_cons,List.length_nil,tabs_len];omega)) only [cat_eq,bS,bs_mkB,bs_str]
    rw [w64_succ (by omega)]
    have:A++lineT 0 (protHead (oP p))++(p.Messages.map fun m=>msgLine (oM m)).flatten++xL 1 (oL p.Body)++[125,10]=A++protT (oP p):=by
     unfold protT
     rw [e3,hmm,e4]
     simp [lineT,tabs]
    rw [this]
   ·have hxm:=List.mem_of_getElem? hxj
    have hb:=bL_mem hp'.b (by rw [e4];exact oL_in hxm)
    have hs:=shL_mem hp'.v.2.2.2.1 (by rw [e4];exact oL_in hxm)
    have hd:=dL_mem (l:=(oP p).Body) (by rw [e4];exact oL_in hxm)
    have hd10:=hp'.v.2.2.2.2.1
    obtain ⟨y,y1,y2⟩:=ritem_eq N x 1 (by omega) hb hs (by omega) (by omega)
    have hyl:y.length+2=(xI 1 (oI x)).length:=by rw [← y2,lineT_len];omega
    simp only [z39_l4,idx_nat,hp,bS,lt_t (get_lt hxj),cT,hxj,w64_succ (show j < 4611686018427387904 by omega)]
    rw [show str [9]=mkB (tabs 1) from rfl,y1]
    simp only [bS]
    simp (disch:=(simp only [bs_mkB,bs_str,lA,List.length_cons,List.length_nil,tabs_len];omega)) only [cat_eq,bS,bs_mkB,bs_str]
    rw [← y2]
    simp [lineT]
   ·simp only [z39_l4,idx_nat,hp,bS,lt_f hj,cF]
  ·have hv:MsgP (oM m):=hp'.v.2.2.2.2.2.2 _ (by rw [e3];exact List.mem_map.2 ⟨m,List.mem_of_getElem? hmj,rfl⟩)
   have hvl:=msgT_len hv
   simp only [z39_l6,idx_nat,hp,bS,lt_t (get_lt hmj),cT,hmj,rmessage_eq (show 4194304 < N by omega) m hv,w64_succ (show j < 4611686018427387904 by omega)]
   simp (disch:=(simp only [bs_mkB,bs_str,lA,List.length_cons,List.length_nil,tabs_len];omega)) only [cat_eq,bS,bs_mkB,bs_str]
   rfl
  ·simp only [z39_l6,idx_nat,hp,bS,lt_f hj,cF]
 ·simp only [z39_l2,lt_f hk,cF]
def ValidP (l:List T12):Prop:=l.length≤10∧(∀ p∈l,ProtP p)∧(srcT l).length≤8000
theorem prot_iff (p:T12) (Q:Prop):(isWord p.Name=true∧WordsP p.Roles 6∧p.Messages.length≤40∧(shL p.Body∧dL p.Body≤10∧cL p.Body≤300)∧(∀ m∈p.Messages,MsgP m)∧Q)↔ProtP p∧Q:=by
 unfold ProtP
 constructor
 ·rintro ⟨a,b,c,⟨d,e,f⟩,g,h⟩;exact ⟨⟨a,b,c,d,e,f,g⟩,h⟩
 ·rintro ⟨⟨a,b,c,d,e,f,g⟩,h⟩;exact ⟨a,b,c,⟨d,e,f⟩,g,h⟩
theorem valid_dq (hN:4194320 < N) (l:List T12) (hl:l.length≤4194304) (hb:∀ p∈l,bP p):Dq (z14 N l) (ValidP l):=by
 unfold z14
 refine Dq.cN (C:=l.length≤10) gt_lem fun h10=>?_
 refine dq_all (P:=ProtP) (E:=(srcT l).length≤8000) (by omega) _ (fun n k p Q hk hp hq=>?_) (fun hall n k hk=>?_) (by omega)
 ·have hbp:=hb p (List.mem_of_getElem? hp)
  simp only [z14_l2,lt_t (get_lt hp),cT,idx_nat,hp,bS]
  refine (Dq.bN (word_dq (by omega) _) fun h1=>Dq.bN (words_dq (by omega) _ hbp.r 6) fun h2=>Dq.cN (C:=p.Messages.length≤40) gt_lem fun h3=>?_).iff (prot_iff p Q)
  obtain ⟨r,m,v1,v2,v3⟩:=valid_items N p.Body 1 0 (by omega) hbp.l hbp.b (by omega) (by omega)
  rw [show z34 N p.Body (1:Int) (0:Int)=some (r,m) from v1,bS]
  refine Dq.cN (C:=shL p.Body∧dL p.Body≤10∧cL p.Body≤300) ?_ fun h4=>?_
  ·have:r=true↔shL p.Body∧dL p.Body≤10∧cL p.Body≤300:=v2.trans ⟨fun q=>⟨q.1,by omega,by omega⟩,fun q=>⟨q.1,by omega,by omega⟩⟩
   rw [← this];cases r<;>simp
  ·refine dq_all (P:=MsgP) (E:=Q) (by omega) (z14_l4 N (k:Int) (z14_l2 N l n) p) (fun n' j m Q' hj hm hq'=>?_) (fun hall n' j hj=>?_) (by omega)
   ·simp only [z14_l4,lt_t (get_lt hm),cT,idx_nat,hm,bS,w64_succ (show j < 4611686018427387904 by omega)]
    exact Dq.bN (mval_dq (by omega) m) hq'
   ·simp only [z14_l4,lt_f hj,cF,z14_k3,w64_succ (show k < 4611686018427387904 by omega)]
    exact hq ⟨h1,h2,h3,h4.1,h4.2.1,h4.2.2,hall⟩
 ·simp only [z14_l2,lt_f hk,cF,z14_k1]
  rw [source_eq hN l h10 fun p hp=>⟨hall p hp,(hb p hp).l,(hb p hp).b⟩,bS]
  exact Dq.dec (by rw [size_bs,bs_mkB];omega)
theorem rvalid_dq (hN:4194320 < N) (l:List T7) (hl:l.length≤4194304) (hb:∀ p∈l,RP p∧4194306+dL (oL p.Body)≤N∧cL (oL p.Body)≤1099511627776∧nL (oL p.Body)∧∀ m∈p.Messages,nM (oM m)):Dq (z19 N l) (ValidP (l.map oP)):=by
 unfold z19
 refine (Dq.cN (C:=l.length≤10) gt_lem fun h10=>dq_all (P:=fun p=>ProtP (oP p)) (E:=(srcT (l.map oP)).length≤8000) (by omega) _ (fun n k p Q hk hp hq=>?_) (fun hall n k hk=>?_) (by omega)).iff (by unfold ValidP;rw [List.length_map,List.forall_mem_map])
 ·obtain ⟨hbp,hd,hc,hn,hnm⟩:=hb p (List.mem_of_getElem? hp)
  have hlb:=RP_l hbp
  have e1:(oP p).Name=p.Name:=rfl
  have e2:(oP p).Roles=p.Roles:=rfl
  have e3:(oP p).Messages=p.Messages.map oM:=rfl
  have e4:(oP p).Body=oL p.Body:=rfl
  have hdc:dL (oL p.Body)≤cL (oL p.Body):=dc_L _
  simp only [z19_l2,lt_t (get_lt hp),cT,idx_nat,hp,bS]
  have hi:=prot_iff (oP p) Q
  rw [e1,e2,e3,e4,List.length_map,List.forall_mem_map] at hi
  refine (Dq.bN (rword_dq (by omega) _) fun h1=>Dq.bN (rwords_dq (by omega) _ hbp.r 6) fun h2=>Dq.cN (C:=p.Messages.length≤40) gt_lem fun h3=>(?_:Dq _ ((dL (oL p.Body)≤10∧cL (oL p.Body)≤300∧shL (oL p.Body)∧∀ m∈p.Messages,MsgP (oM m))∧Q))).iff ?_
  ·rw [depth_eq N p.Body hd hlb hbp.b (by omega),count_eq' N p.Body hd hlb hbp.b hc]
   simp only [bS]
   refine (Dq.cN (C:=dL (oL p.Body)≤10) (gt_lem (b:=10)) fun h4=>Dq.cN (C:=cL (oL p.Body)≤300) (gt_lem (b:=300)) fun h5=>Dq.bN (goods_dq N p.Body hd hlb hbp.b hn) fun h6=>(?_:Dq _ ((∀ m∈p.Messages,MsgP (oM m))∧Q))).iff ⟨fun q=>⟨⟨q.1,q.2.1,q.2.2.1,q.2.2.2.1⟩,q.2.2.2.2⟩,fun q=>⟨q.1.1,q.1.2.1,q.1.2.2.1,q.1.2.2.2,q.2⟩⟩
   refine dq_all (P:=fun m=>MsgP (oM m)) (E:=Q) (by omega) (z19_l4 N (k:Int) (z19_l2 N l n) p) (fun n' j m Q' hj hm hq'=>?_) (fun hall n' j hj=>?_) (by omega)
   ·have hmm:=List.mem_of_getElem? hm
    have hms:=RP_ms hbp hmm
    simp only [z19_l4,lt_t (get_lt hm),cT,idx_nat,hm,bS,w64_succ (show j < 4611686018427387904 by omega)]
    exact Dq.bN (rmval_dq (by omega) m hms.1 hms.2 (hnm m hmm)) hq'
   ·simp only [z19_l4,lt_f hj,cF,z19_k3,w64_succ (show k < 4611686018427387904 by omega)]
    refine hq ?_
    unfold ProtP
    rw [e1,e2,e3,e4,List.length_map,List.forall_mem_map]
    exact ⟨h1,h2,h3,h6,h4,h5,hall⟩
  ·rw [← hi]
   constructor
   ·rintro ⟨a,b,c,⟨d,e,f,g⟩,h⟩;exact ⟨a,b,c,⟨f,d,e⟩,g,h⟩
   ·rintro ⟨a,b,c,⟨f,d,e⟩,g,h⟩;exact ⟨a,b,c,⟨d,e,f,g⟩,h⟩
 ·simp only [z19_l2,lt_f hk,cF,z19_k1]
  rw [rtext_eq hN l h10 fun p hp=>⟨hall p hp,(hb p hp).1.l,(hb p hp).1.b⟩,bS]
  exact Dq.dec (by rw [size_bs,bs_mkB];omega)
end Gp
end
section
namespace Gp
open Go Go.Kx Gx
open Classical in
noncomputable def fineR (ps:List T12):List T12 × Int × Int:=if ValidP ps then (ps,0,0) else ([],0,6)
theorem fineR_pos {ps:List T12} (h:ValidP ps):fineR ps=(ps,0,0):=by unfold fineR;rw [if_pos h]
theorem fineR_neg {ps:List T12} (h:¬ ValidP ps):fineR ps=([],0,6):=by unfold fineR;rw [if_neg h]
def endR (ts:List Tok) (e:Int) (o:List T12→List T12 × Int × Int):Rr (List T12)→List T12 × Int × Int
 | .ok ps _=>o ps
 | .er k c=>([],off ts e k,c)
 | .out=>([],0,6)
noncomputable def parseS (s:ByteArray):List T12 × Int × Int :=
 match toksS s with
 | .inl (p,e)=>([],(p:Int),e)
 | .inr ts=>endR ts (s.size:Int) fineR (sParse 8200 8200 [] ts 0)
theorem zM_le (m:T11) (ms:List T11) (h:m∈ms):zM m≤zMs ms:=by
 induction ms with
 | nil=>cases h
 | cons x l ih =>
  simp only [zMs]
  rcases List.mem_cons.1 h with rfl | h
  ·omega
  ·have:=ih h;omega
theorem zMs_len (ms:List T11):ms.length≤zMs ms:=by
 induction ms with
 | nil=>exact Nat.le_refl _
 | cons x l ih=>simp only [zMs,List.length_cons];omega
theorem zA_le (a:T9) (l:List T9) (h:a∈l):zA a≤zAs l:=by
 induction l with
 | nil=>cases h
 | cons x l ih =>
  simp only [zAs]
  rcases List.mem_cons.1 h with rfl | h
  ·omega
  ·have:=ih h;omega
theorem zAs_len (l:List T9):l.length≤zAs l:=by
 induction l with
 | nil=>exact Nat.le_refl _
 | cons x l ih=>simp only [zAs,List.length_cons];omega
structure Zf (p:T12):Prop where
 b:bP p
 d:dL p.Body≤8000
 c:cL p.Body≤8000
 n:nL p.Body
 m:∀ m∈p.Messages,nM m
theorem Zf.of {p:T12} (h:zP p≤8000):Zf p:=by
 unfold zP at h
 obtain ⟨h1,h2⟩:=z_L p.Body (by omega)
 have h3:=zc_L p.Body
 have h4:=zL_len p.Body
 have h5:=zMs_len p.Messages
 refine ⟨⟨by omega,by omega,fun m hm=>?_,by omega,h1⟩,by omega,by omega,zn_L _ (by omega),fun m hm=>?_⟩
 ·have:=zM_le m _ hm
  unfold zM at this
  have:=zAs_len m.Where
  exact ⟨by omega,by omega⟩
 ·have hz:=zM_le m _ hm
  unfold zM pz at hz
  refine ⟨by omega,fun a ha=>?_⟩
  have:=zA_le a _ ha
  unfold zA pz at this
  exact ⟨by omega,by omega⟩
theorem Dq.get {o:Option Bool} {P:Prop} (h:Dq o P) (hp:P):o=some true:=by
 obtain ⟨r,h1,h2⟩:=h
 rw [h1,h2.2 hp]
theorem Dq.getN {o:Option Bool} {P:Prop} (h:Dq o P) (hp:¬P):o=some false:=by
 obtain ⟨r,h1,h2⟩:=h
 cases r with
 | false=>exact h1
 | true=>exact absurd (h2.1 rfl) hp
variable {N:Nat}
theorem parse_small {s:ByteArray} {ts:List Tok} (ht:toksS s=.inr ts) {ps:List T12} {m:Nat} (h:sParse 8200 8200 [] ts 0=.ok ps m):ps.length≤8000∧∀ p∈ps,zP p≤8000:=by
 obtain ⟨h1,_⟩:=toksS_ok ht
 obtain ⟨qs,e1,e2,e3,e4⟩:=(parse_nm (F:=8200) (by omega) 8200 [] 0 (by omega) (Nat.zero_le _)).2 ps m h
 simp only [List.nil_append] at e1
 subst e1
 exact ⟨by omega,fun p hp=>by have:=e4 p hp;omega⟩
theorem parse_both (hN:4210000 < N) (s:ByteArray):z10 N s=some (parseS s)∧z11 N s=some ((parseS s).1.map tP,(parseS s).2):=by
 have t1:=tokens_eq (N:=N) (by omega) s
 have t2:=rtokens_eq (N:=N) (by omega) s
 unfold z10 z11 parseS
 cases ht:toksS s with
 | inl q =>
  obtain ⟨p,e⟩:=q
  rw [ht] at t1 t2
  obtain ⟨h1,h2⟩:=t1
  obtain ⟨_,h3⟩:=t2
  have he:(e != 0)=true:=by simp [h1]
  rw [h2,h3]
  simp only [bS,he,cT]
  exact ⟨by first | rfl | trivial,by first | rfl | trivial⟩
 | inr ts =>
  rw [ht] at t1 t2
  obtain ⟨h1,h2,h3,h4⟩:=toksS_ok ht
  have t1:z23 N s=some (ts,0,0):=t1
  have t2:z26 N s=some (ts,0,0):=t2
  rw [t1,t2]
  simp only [bS]
  rw [show ((0:Int) != 0)=false from rfl]
  simp only [cF]
  have p1:=parse_loop (l:=ts) (e:=(s.size:Int)) (N:=N) (by omega) h2 (F:=8200) (by omega) (by omega) (ts,0,0) rfl 8200 N [] 0 (by omega) (by simp) (Nat.zero_le _)
  have p2:=rparse_loop (l:=ts) (N:=N) (by omega) h2 h3 s (F:=8200) (by omega) (by omega) (ts,0,0) rfl 8200 N [] 0 (by omega) (by simp) (Nat.zero_le _)
  cases hp:sParse 8200 8200 [] ts 0 with
  | ok ps m =>
   rw [hp] at p1 p2
   have p1:z10_l2 N (ts,0,0) N [] ts 0 (s.size:Int) 0 0=_:=p1
   have p2:z11_l2 N (ts,0,0) N s ts 0 0 0 []=_:=p2
   rw [p1,p2]
   obtain ⟨q1,q2⟩:=parse_small ht hp
   have v1:=valid_dq (N:=N) (by omega) ps (by omega) (fun p hp=>(Zf.of (q2 p hp)).b)
   have v2:=rvalid_dq (N:=N) (by omega) (ps.map tP) (by simp;omega) (fun p hp=>by
    obtain ⟨q,hq,rfl⟩:=List.mem_map.1 hp
    have z:=Zf.of (q2 q hq)
    have e:oL (tP q).Body=q.Body:=ot_L _
    rw [e]
    refine ⟨by show bP (oP (tP q));rw [ot_P];exact z.b,by have:=z.d;omega,by have:=z.c;omega,z.n,fun m hm=>?_⟩
    obtain ⟨m',hm',rfl⟩:=List.mem_map.1 hm
    rw [ot_M]
    exact z.m m' hm')
   rw [map_id' ot_P] at v2
   unfold z10_k1 z11_k1
   rw [show ((0:Int) != 0)=false from rfl]
   simp only [cF]
   by_cases hv:ValidP ps
   ·rw [v1.get hv,v2.get hv,endR,fineR_pos hv];exact ⟨rfl,rfl⟩
   ·rw [v1.getN hv,v2.getN hv,endR,fineR_neg hv];exact ⟨rfl,rfl⟩
  | er k c =>
   rw [hp] at p1 p2
   obtain ⟨hc,a1,p1⟩:=p1
   obtain ⟨_,a2,p2⟩:=p2
   have p1:z10_l2 N (ts,0,0) N [] ts 0 (s.size:Int) 0 0=_:=p1
   have p2:z11_l2 N (ts,0,0) N s ts 0 0 0 []=_:=p2
   rw [p1,p2]
   unfold z10_k1 z11_k1
   have hc:(c != 0)=true:=by simp [hc]
   rw [hc]
   exact ⟨rfl,rfl⟩
  | out=>exact absurd hp (parse_nm (F:=8200) (by omega) 8200 [] 0 (by omega) (Nat.zero_le _)).1
theorem parse_fine {s:ByteArray} (h:(parseS s).2.2=0):ValidP (parseS s).1∧∀ p∈(parseS s).1,zP p≤8000:=by
 have t1:=tokens_eq (N:=4210001) (by omega) s
 unfold parseS at h ⊢
 cases ht:toksS s with
 | inl q =>
  obtain ⟨p,e⟩:=q
  rw [ht] at t1 h
  exact absurd h t1.1
 | inr ts =>
  rw [ht] at h
  have h:(endR ts (s.size:Int) fineR (sParse 8200 8200 [] ts 0)).2.2=0:=h
  show ValidP (endR ts (s.size:Int) fineR (sParse 8200 8200 [] ts 0)).1∧∀ p∈(endR ts (s.size:Int) fineR (sParse 8200 8200 [] ts 0)).1,zP p≤8000
  cases hp:sParse 8200 8200 [] ts 0 with
  | ok ps m =>
   rw [hp] at h
   have h:(fineR ps).2.2=0:=h
   show ValidP (fineR ps).1∧∀ p∈(fineR ps).1,zP p≤8000
   by_cases hv:ValidP ps
   ·rw [fineR_pos hv]
    exact ⟨hv,(parse_small ht hp).2⟩
   ·rw [fineR_neg hv] at h
    exact absurd h (by decide)
  | er k c =>
   rw [hp] at h
   obtain ⟨h1,h2,h3,h4⟩:=toksS_ok ht
   have p1:=parse_loop (l:=ts) (e:=(s.size:Int)) (N:=4210001) (by omega) h2 (F:=8200) (by omega) (by omega) (ts,0,0) rfl 8200 4210001 [] 0 (by omega) (by simp) (Nat.zero_le _)
   rw [hp] at p1
   exact absurd h p1.1
  | out =>
   rw [hp] at h
   have h:(6:Int)=0:=h
   exact absurd h (by decide)
theorem parse_nil {s:ByteArray} (h:¬ (parseS s).2.2=0):(parseS s).1=[]:=by
 unfold parseS at h ⊢
 cases ht:toksS s with
 | inl q=>rfl
 | inr ts =>
  rw [ht] at h
  have h:¬ (endR ts (s.size:Int) fineR (sParse 8200 8200 [] ts 0)).2.2=0:=h
  show (endR ts (s.size:Int) fineR (sParse 8200 8200 [] ts 0)).1=[]
  cases hp:sParse 8200 8200 [] ts 0 with
  | ok ps m =>
   rw [hp] at h
   have h:¬ (fineR ps).2.2=0:=h
   show (fineR ps).1=[]
   by_cases hv:ValidP ps
   ·rw [fineR_pos hv] at h;exact absurd rfl h
   ·rw [fineR_neg hv]
  | er k c=>rfl
  | out=>rfl
theorem source_law (hN:4210000 < N) (s:ByteArray) (hw:z9 N=some true):law10_SyntaxSource N s=some true:=by
 obtain ⟨h1,h2⟩:=parse_both hN s
 unfold law10_SyntaxSource
 rw [hw,h1,h2]
 simp only [bS,Bool.not_true,cF]
 have e0:((parseS s).2.2==(parseS s).2.2)=true:=by simp
 have e1:((parseS s).2.1==(parseS s).2.1)=true:=by simp
 have hz:(parseS s).1.length≤4194304∧∀ p∈(parseS s).1,zP p≤8000:=by
  by_cases h:(parseS s).2.2=0
  ·obtain ⟨a,b⟩:=parse_fine h
   exact ⟨by have:=a.1;omega,b⟩
  ·rw [parse_nil h];exact ⟨by simp,by simp⟩
 have e2:=their_eq (N:=N) (by omega) (parseS s).1 hz.1 (fun p hp=>⟨(Zf.of (hz.2 p hp)).b,by have:=(Zf.of (hz.2 p hp)).d;omega⟩)
 have e3:=(requal_dq (N:=N) (by omega) ((parseS s).1.map tP) ((parseS s).1.map tP) (by simp;exact hz.1) (fun p hp=>by
  obtain ⟨q,hq,rfl⟩:=List.mem_map.1 hp
  have z:=Zf.of (hz.2 q hq)
  have e:oL (tP q).Body=q.Body:=ot_L _
  rw [e]
  exact ⟨by show bP (oP (tP q));rw [ot_P];exact z.b,by have:=z.d;omega⟩)).get rfl
 rw [e0,e1,e2]
 simp only [bS,cT,e3]
 cases decide ((s.size:Int) > 8100) with
 | true=>rfl
 | false =>
  simp only [cF]
  by_cases h:(parseS s).2.2=0
  ·rw [show ((parseS s).2.2 != 0)=false by simp [h],cF]
   have hf:=parse_fine h
   rw [(valid_dq (N:=N) (by omega) _ hz.1 fun p hp=>(Zf.of (hz.2 p hp)).b).get hf.1]
   rfl
  ·rw [show ((parseS s).2.2 != 0)=true by simp [h],cT]
end Gp
end
section
namespace Gx
open Go Go.Kx
end Gx
end
section
namespace Gp
open Go Go.Kx Gx
set_option maxRecDepth 100000
theorem awake_some (k:Nat):z9 (k+300)=some true:=by kernel_rfl
theorem plain:∀ (x0:ByteArray),(x0.size≤bd)→∃ N,law10_SyntaxSource N x0=some true:=by
 intro s _
 exact ⟨10000000+300,source_law (by omega) s (awake_some _)⟩
end Gp
end
