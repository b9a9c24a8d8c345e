/- The plain law, part 2: what the functions compute answers as the statement says. -/
import Derived.Test.YtnlleampnlmdlaaGreatDoorExpandSamePlain1
set_option linter.all false
section
namespace Gp
open Go Go.Kx Gx
def RangeOk (f:T0):Prop:=f.Sort'.Lo≤f.Sort'.Hi∧(bif f.Sort'.Kind==2 then 0 else -1000)≤f.Sort'.Lo∧f.Sort'.Hi≤(bif f.Sort'.Kind==2 then 40 else 1000)
def FieldsOk (m:T16):Prop:=∀ (j:Nat) f,m.Fields[j]? = some f→(∀ g∈m.Fields.take j,g.Name≠f.Name)∧RangeOk f
def SortsOk (p:T17):Prop:=∀ (k:Nat) m,p.Messages[k]? = some m→(∀ q∈p.Messages.take k,q.Name≠m.Name)∧FieldsOk m
theorem any_name {α:Type} (l:List α) (f:α→ByteArray) (n:ByteArray):(l.any fun x=>(f x).toList==n.toList)=false↔∀ x∈l,f x≠n:=by
 rw [List.any_eq_false]
 exact ⟨fun h x hx e=>h x hx (seq'.2 e),fun h x hx e=>h x hx (seq'.1 e)⟩
set_option maxHeartbeats 1000000 in
theorem sorts_ck {N:Nat} (c:T7) (hs:Sz N c) (hf:∀ m∈c.p'.Messages,m.Fields.length≤4194304):Ck (z26 N c) c (SortsOk c.p') [] 0:=by
 have hN:=hs.n
 have hm:=hs.m
 unfold z26
 -- the range of one field
 have k6:∀ (j:Nat) (f:T0) (c1:T7) (ag),j < 4194304→∃ o,z26_k6 N (j:Int) ag f c1.all' c1.p'.Name c1.p'.Roles c1.p'.Messages c1.p'.Body c1.calls' c1.out'.Protocol c1.out'.Name c1.out'.Err =
   o.bind (fun c2:T7=>ag c2.all' c2.p'.Name c2.p'.Roles c2.p'.Messages c2.p'.Body c2.calls' c2.out'.Protocol c2.out'.Name c2.out'.Err ((j+1:Nat):Int))∧Ck o c1 (RangeOk f) [] 0:=by
  intro j f c1 ag hj
  have k5:∀ lo hi:Int,∃ o,z26_k5 N (j:Int) ag f c1.all' c1.p'.Name c1.p'.Roles c1.p'.Messages c1.p'.Body c1.calls' c1.out'.Protocol c1.out'.Name c1.out'.Err lo hi =
   o.bind (fun c2:T7=>ag c2.all' c2.p'.Name c2.p'.Roles c2.p'.Messages c2.p'.Body c2.calls' c2.out'.Protocol c2.out'.Name c2.out'.Err ((j+1:Nat):Int))∧Ck o c1 (f.Sort'.Lo≤f.Sort'.Hi∧lo≤f.Sort'.Lo∧f.Sort'.Hi≤hi) [] 0:=by
   intro lo hi
   refine ⟨bif decide (f.Sort'.Lo > f.Sort'.Hi) || (decide (f.Sort'.Lo < lo) || decide (f.Sort'.Hi > hi)) then z24 N c1 f.Name 2 else some c1,?_,(Ck.test (by decide)).iff ?_⟩
   ·unfold z26_k5
    rw [w64_suc (by omega)]
    cases decide (f.Sort'.Lo > f.Sort'.Hi)<;>cases decide (f.Sort'.Lo < lo)<;>cases decide (f.Sort'.Hi > hi)<;>rfl
   ·simp only [Bool.or_eq_false_iff,decide_eq_false_iff_not];omega
  unfold z26_k6 RangeOk
  cases (f.Sort'.Kind==2) with
  | true=>exact k5 0 40
  | false=>exact k5 (-1000) 1000
 -- the fields of one message
 have k7:∀ (k:Nat) (m:T16) (c1:T7) (ag),k < 4194304→m.Fields.length≤4194304→∃ o,z26_k7 N (k:Int) ag m c1.all' c1.p'.Name c1.p'.Roles c1.p'.Messages c1.p'.Body c1.calls' c1.out'.Protocol c1.out'.Name c1.out'.Err =
   o.bind (fun c2:T7=>ag c2.all' c2.p'.Name c2.p'.Roles c2.p'.Messages c2.p'.Body c2.calls' c2.out'.Protocol c2.out'.Name c2.out'.Err ((k+1:Nat):Int))∧Ck o c1 (FieldsOk m) [] 0:=by
  intro k m c1 ag hk hfl
  unfold z26_k7
  obtain ⟨o,e,g⟩:=ck_loop m.Fields (fun n c i=>z26_l4 N (k:Int) ag m n c.all' c.p'.Name c.p'.Roles c.p'.Messages c.p'.Body c.calls' c.out'.Protocol c.out'.Name c.out'.Err i)
   (fun c=>z26_k3 (k:Int) ag c.all' c.p'.Name c.p'.Roles c.p'.Messages c.p'.Body c.calls' c.out'.Protocol c.out'.Name c.out'.Err) Option.bind (fun _ _=>rfl)
   (fun j f=>(∀ g∈m.Fields.take j,g.Name≠f.Name)∧RangeOk f) (fun _=>[]) (fun _=>0) c1.all' c1.p' c1.calls'.length
   (fun n j f c2 hj ha hp _=>by
    have hjl:=get_lt hj
    simp only [z26_l4,lt_t hjl,cT,idx_nat,hj,bS,lsl_tk (Nat.le_of_lt hjl)]
    rw [cf_sorts_2 _ f (by rw [List.length_take];omega) (by rw [List.length_take];omega),bS]
    obtain ⟨c3,e3,g3⟩:=Ck.test (N:=N) (b:=(m.Fields.take j).any fun x=>x.Name.toList==f.Name.toList) (c:=c2) (nm:=f.Name) (e:=9) (by decide)
    obtain ⟨o,e4,c4,e5,g4⟩:=k6 j f c3 (fun a b c d e f g h i j=>z26_l4 N (k:Int) ag m n a b c d e f g h i j) (by omega)
    refine ⟨o,?_,c4,e5,(g3.seq g4).iff (and_congr_left' (any_name _ _ _))⟩
    rw [← e4]
    cases hb:(m.Fields.take j).any fun x=>x.Name.toList==f.Name.toList with
    | true=>rw [hb,cT] at e3;rw [cT,e3];rfl
    | false=>rw [hb,cF] at e3;cases e3;rfl)
   (fun n j c2 hj=>by simp only [z26_l4,lt_f hj,cF]) (N:=N) (by omega) c1 rfl rfl (by rw [sum_zero];omega)
  rw [sum_zero,flat_nil] at g
  refine ⟨o,e.trans ?_,g⟩
  congr 1
  funext c2
  unfold z26_k3
  rw [w64_suc (by omega)]
 obtain ⟨o,e,g⟩:=ck_loop c.p'.Messages (fun n c1 i=>z26_l2 N c n c1.all' c1.p'.Name c1.p'.Roles c1.p'.Messages c1.p'.Body c1.calls' c1.out'.Protocol c1.out'.Name c1.out'.Err i)
  (fun c=>z26_k1 c.all' c.p'.Name c.p'.Roles c.p'.Messages c.p'.Body c.calls' c.out'.Protocol c.out'.Name c.out'.Err) Option.bind (fun _ _=>rfl)
  (fun k m=>(∀ q∈c.p'.Messages.take k,q.Name≠m.Name)∧FieldsOk m) (fun _=>[]) (fun _=>0) c.all' c.p' c.calls'.length
  (fun n k m c1 hk ha hp _=>by
   have hkl:=get_lt hk
   simp only [z26_l2,lt_t hkl,cT,idx_nat,hk,bS,hp,lsl_tk (Nat.le_of_lt hkl)]
   rw [cf_sorts_1 _ m (by rw [List.length_take];omega) (by rw [List.length_take];omega),bS]
   obtain ⟨c3,e3,g3⟩:=Ck.test (N:=N) (b:=(c.p'.Messages.take k).any fun x=>x.Name.toList==m.Name.toList) (c:=c1) (nm:=m.Name) (e:=9) (by decide)
   obtain ⟨o,e4,c4,e5,g4⟩:=k7 k m c3 (fun a b c' d e f g h i j=>z26_l2 N c n a b c' d e f g h i j) (by omega) (hf m (List.mem_of_getElem? hk))
   refine ⟨o,?_,c4,e5,(g3.seq g4).iff (and_congr_left' (any_name _ _ _))⟩
   rw [← e4]
   cases hb:(c.p'.Messages.take k).any fun x=>x.Name.toList==m.Name.toList with
   | true =>
    rw [hb,cT] at e3;rw [cT,← hp]
    rw [show (⟨c1.all',⟨c1.p'.Name,c1.p'.Roles,c1.p'.Messages,c1.p'.Body⟩,c1.calls',⟨c1.out'.Protocol,c1.out'.Name,c1.out'.Err⟩⟩:T7)=c1 from rfl,e3];rfl
   | false=>rw [hb,cF] at e3;cases e3;rw [cF,← hp])
  (fun n k c1 hk=>by simp only [z26_l2,lt_f hk,cF]) (N:=N) (by omega) c rfl rfl (by rw [sum_zero];omega)
 rw [sum_zero,flat_nil] at g
 have e':=e.trans (show (o.bind fun c=>z26_k1 c.all' c.p'.Name c.p'.Roles c.p'.Messages c.p'.Body c.calls' c.out'.Protocol c.out'.Name c.out'.Err)=o from bind_id o)
 exact Eq.mp (congrArg (fun o=>Ck o c _ _ _) e'.symm) g
def kdIn (fs:List T0) (t:T18):Int:=match fs.find? (fun f=>f.Name.toList==t.Field.toList) with
 | some f=>f.Sort'.Kind
 | none=>0
def kd (p:T17) (m:T16) (t:T18):Int:=bif !(t.Message.toList==(str []).toList) then (match p.Messages.find? (fun q=>q.Name.toList==t.Message.toList) with
 | some q=>kdIn q.Fields t
 | none=>0) else kdIn m.Fields t
theorem find_eq {N:Nat} (c:T7) (m:T16) (t:T18) (hs:Sz N c) (hf:∀ m∈c.p'.Messages,m.Fields.length≤4194304) (hm:m.Fields.length≤4194304):z59 N c m t=some (kd c.p' m t):=by
 have hN:=hs.n
 have hml:=hs.m
 have k1:∀ (a:ByteArray) (fs:List T0) (w),fs.length≤4194304→z59_k1 N t a fs w=some (kdIn fs t):=by
  intro a fs w h
  unfold z59_k1 kdIn
  rw [ix_find_2 fs t (by omega) (by omega),bS]
  rcases atI_find (fun f:T0=>f.Name.toList==t.Field.toList) fs with ⟨q1,q2⟩ | ⟨i,q,q1,q2,q3⟩
  ·rw [q1,q2];rfl
  ·rw [q1,q3,show decide ((i:Int) < 0)=false by simp,cF,idx_nat,q2];rfl
 unfold z59 kd
 cases (!(t.Message.toList==(str []).toList)) with
 | false=>rw [cF,cF,k1 _ _ _ hm]
 | true =>
  rw [cT,cT,ix_find_1 _ t (by omega) (by omega),bS]
  rcases atI_find (fun q:T16=>q.Name.toList==t.Message.toList) c.p'.Messages with ⟨q1,q2⟩ | ⟨i,q,q1,q2,q3⟩
  ·rw [q1,q2];rfl
  ·rw [q1,q3,show decide ((i:Int) < 0)=false by simp,cF,idx_nat,q2,bS,k1 _ _ _ (hf q (List.mem_of_getElem? q2))]
def kdC (p:T17) (m:T16) (t:T18):Int:=bif t.Kind==1 then 0 else kd p m t
def txC (p:T17) (m:T16) (t:T18):Nat:=bif t.Kind==2 then (bif kdC p m t==2 then 1 else 0) else 0
def AtomOk (p:T17) (m:T16) (a:T14):Prop :=
 (a.Left.Kind=1∨kd p m a.Left≠0)∧(a.Right.Kind=1∨kd p m a.Right≠0)∧(a.Left.Kind=3→kdC p m a.Left=2)∧(a.Right.Kind=3→kdC p m a.Right=2) ∧
 (txC p m a.Left+txC p m a.Right≠1)∧(txC p m a.Left+txC p m a.Right=2→a.Op=str [61,61]∧a.Left.N=0∧a.Right.N=0)
def AtomsOk (p:T17):Prop:=∀ m∈p.Messages,∀ a∈m.Where,AtomOk p m a
set_option maxHeartbeats 2000000 in
theorem atoms_ck {N:Nat} (c:T7) (hs:Sz N c) (hf:∀ m∈c.p'.Messages,m.Fields.length≤4194304∧m.Where.length≤4194304):Ck (z27 N c) c (AtomsOk c.p') [] 0:=by
 have hN:=hs.n
 have hm:=hs.m
 have hff:∀ c1:T7,c1.p'=c.p'→∀ m∈c1.p'.Messages,m.Fields.length≤4194304:=fun c1 hp m hq=>(hf m (by rw [← hp];exact hq)).1
 unfold z27
 -- what is counted at the end
 have k5:∀ (j:Nat) (m:T16) (a:T14) (c1:T7) (t:Nat) (ag),j < 4194304→t≤2→∃ o,z27_k5 N m (j:Int) ag a c1.all' c1.p'.Name c1.p'.Roles c1.p'.Messages c1.p'.Body c1.calls' c1.out'.Protocol c1.out'.Name c1.out'.Err (t:Int) =
   o.bind (fun c2:T7=>ag c2.all' c2.p'.Name c2.p'.Roles c2.p'.Messages c2.p'.Body c2.calls' c2.out'.Protocol c2.out'.Name c2.out'.Err ((j+1:Nat):Int)) ∧
   Ck o c1 (t≠1∧(t=2→a.Op=str [61,61]∧a.Left.N=0∧a.Right.N=0)) [] 0:=by
  intro j m a c1 t ag hj ht
  refine ⟨bif ((t:Int)==1) || (((t:Int)==2) && (!(a.Op.toList==(str [61,61]).toList) || (a.Left.N != 0 || a.Right.N != 0))) then z24 N c1 m.Name 11 else some c1,?_,(Ck.test (by decide)).iff ?_⟩
  ·unfold z27_k5
   rw [w64_suc (by omega)]
   cases ((t:Int)==1)<;>cases ((t:Int)==2)<;>cases (a.Op.toList==(str [61,61]).toList)<;>cases (a.Left.N != 0)<;>cases (a.Right.N != 0)<;>rfl
  ·simp only [Bool.or_eq_false_iff,Bool.and_eq_false_iff,beq_eq_false_iff_ne,nseq,bne_eq_false_iff_eq,ne_eq]
   constructor
   ·rintro ⟨q1,q2⟩
    refine ⟨fun e=>q1 (by rw [e];rfl),fun e=>?_⟩
    rcases q2 with q2 | q2
    ·exact absurd (by rw [e];rfl) q2
    ·exact ⟨q2.1,q2.2.1,q2.2.2⟩
   ·rintro ⟨q1,q2⟩
    refine ⟨fun e=>q1 (by omega),?_⟩
    by_cases e:t=2
    ·obtain ⟨r1,r2,r3⟩:=q2 e;exact .inr ⟨r1,r2,r3⟩
    ·exact .inl (by omega)
 -- kinds, on one side
 have side2:∀ (m:T16) (t:T18) (c1:T7) (k:Int),∃ o:Option T7,o=(bif (t.Kind==3) && (k != 2) then z24 N c1 m.Name 11 else some c1)∧Ck o c1 (t.Kind=3→k=2) [] 0:=by
  intro m t c1 k
  refine ⟨_,rfl,(Ck.test (by decide)).iff ?_⟩
  simp only [Bool.and_eq_false_iff,beq_eq_false_iff_ne,bne_eq_false_iff_eq]
  by_cases h:t.Kind=3<;>simp [h]
 have k9:∀ (m:T16) (k0 k1:Int) (c1:T7) (tx i:Nat) (ag) (t:T18),(i=0∨i=1)→tx≤1 →
   z27_k9 N m k0 k1 c1.all' c1.p'.Name c1.p'.Roles c1.p'.Messages c1.p'.Body c1.calls' c1.out'.Protocol c1.out'.Name c1.out'.Err (tx:Int) (i:Int) ag t.Kind t.Message t.Field t.N =
   (bif (t.Kind==3) && ((if i=0 then k0 else k1) != 2) then z24 N c1 m.Name 11 else some c1).bind fun c2:T7 =>
    ag c2.all' c2.p'.Name c2.p'.Roles c2.p'.Messages c2.p'.Body c2.calls' c2.out'.Protocol c2.out'.Name c2.out'.Err ((tx+(bif t.Kind==2 then (bif (if i=0 then k0 else k1)==2 then 1 else 0) else 0):Nat):Int) ((i+1:Nat):Int):=by
  intro m k0 k1 c1 tx i ag t hi htx
  have k7:∀ c1:T7,z27_k7 k0 k1 (tx:Int) (i:Int) ag t.Kind c1.all' c1.p'.Name c1.p'.Roles c1.p'.Messages c1.p'.Body c1.calls' c1.out'.Protocol c1.out'.Name c1.out'.Err =
    ag c1.all' c1.p'.Name c1.p'.Roles c1.p'.Messages c1.p'.Body c1.calls' c1.out'.Protocol c1.out'.Name c1.out'.Err ((tx+(bif t.Kind==2 then (bif (if i=0 then k0 else k1)==2 then 1 else 0) else 0):Nat):Int) ((i+1:Nat):Int):=by
   intro c1
   unfold z27_k7
   rw [w64_suc (n:=tx) (by omega),w64_suc (n:=i) (by omega)]
   rcases hi with rfl | rfl
   ·rw [if_pos rfl];cases (t.Kind==2)<;>cases (k0==2)<;>rfl
   ·rw [if_neg (by omega)];cases (t.Kind==2)<;>cases (k1==2)<;>rfl
  unfold z27_k9 z27_k8
  simp only [k7]
  rcases hi with rfl | rfl
  ·rw [if_pos rfl];cases (t.Kind==3)<;>cases (k0 != 2)<;>rfl
  ·rw [if_neg (by omega)];cases (t.Kind==3)<;>cases (k1 != 2)<;>rfl
 have k12:∀ (m:T16) (k0 k1:Int) (c1:T7) (i:Nat) (ag) (t:T18),(i=0∨i=1)→c1.all'=c.all'→c1.p'=c.p'→m.Fields.length≤4194304 →
   z27_k12 N m c1.all' c1.p'.Name c1.p'.Roles c1.p'.Messages c1.p'.Body c1.calls' c1.out'.Protocol c1.out'.Name c1.out'.Err k0 k1 (i:Int) ag t.Kind t.Message t.Field t.N =
   (bif !(t.Kind==1) && (kd c.p' m t==0) then z24 N c1 m.Name 10 else some c1).bind fun c2:T7 =>
    ag c2.all' c2.p'.Name c2.p'.Roles c2.p'.Messages c2.p'.Body c2.calls' c2.out'.Protocol c2.out'.Name c2.out'.Err (if i=0 then (bif t.Kind==1 then k0 else kd c.p' m t) else k0) (if i=0 then k1 else (bif t.Kind==1 then k1 else kd c.p' m t)) ((i+1:Nat):Int):=by
  intro m k0 k1 c1 i ag t hi ha hp hmf
  have hfd:=find_eq (N:=N) c1 m t (hs.of ha hp) (hff c1 hp) hmf
  rw [hp] at hfd
  unfold z27_k12
  rw [show (⟨c1.all',⟨c1.p'.Name,c1.p'.Roles,c1.p'.Messages,c1.p'.Body⟩,c1.calls',⟨c1.out'.Protocol,c1.out'.Name,c1.out'.Err⟩⟩:T7)=c1 from rfl,
   show (⟨t.Kind,t.Message,t.Field,t.N⟩:T18)=t from rfl,hfd,bS,w64_suc (n:=i) (by omega)]
  rcases hi with rfl | rfl
  ·cases (t.Kind==1)<;>cases (kd c.p' m t==0)<;>rfl
  ·cases (t.Kind==1)<;>cases (kd c.p' m t==0)<;>rfl
 -- one atom
 have one:∀ (j:Nat) (m:T16) (a:T14) (c1:T7) (ag),j < 4194304→m.Fields.length≤4194304→c1.all'=c.all'→c1.p'=c.p'→∃ o,z27_l11 N m (j:Int) ag a N c1.all' c1.p'.Name c1.p'.Roles c1.p'.Messages c1.p'.Body c1.calls' c1.out'.Protocol c1.out'.Name c1.out'.Err (0:Int) (0:Int) (0:Int) =
   o.bind (fun c2:T7=>ag c2.all' c2.p'.Name c2.p'.Roles c2.p'.Messages c2.p'.Body c2.calls' c2.out'.Protocol c2.out'.Name c2.out'.Err ((j+1:Nat):Int))∧Ck o c1 (AtomOk c.p' m a) [] 0:=by
  intro j m a c1 ag hj hmf ha hp
  obtain ⟨M,rfl⟩:∃ M,N=M+3:=⟨N-3,by omega⟩
  have t1:=fun (t:T18) (c1:T7)=>Ck.test (N:=M+3) (b := !(t.Kind==1) && (kd c.p' m t==0)) (c:=c1) (nm:=m.Name) (e:=10) (by decide)
  obtain ⟨c2,e2,g2⟩:=t1 a.Left c1
  obtain ⟨c3,e3,g3⟩:=t1 a.Right c2
  obtain ⟨_,rfl,c4,e4,g4⟩:=side2 m a.Left c3 (kdC c.p' m a.Left)
  obtain ⟨_,rfl,c5,e5,g5⟩:=side2 m a.Right c4 (kdC c.p' m a.Right)
  have htx:txC c.p' m a.Left≤1∧txC c.p' m a.Right≤1:=by
   unfold txC
   constructor
   ·cases (a.Left.Kind==2)<;>cases (kdC c.p' m a.Left==2)<;>simp
   ·cases (a.Right.Kind==2)<;>cases (kdC c.p' m a.Right==2)<;>simp
  obtain ⟨o,e6,c6,e7,g6⟩:=k5 j m a c5 (txC c.p' m a.Left+txC c.p' m a.Right) ag hj (by omega)
  refine ⟨o,?_,c6,e7,?_⟩
  ·have a1:c2.all'=c.all':=by rw [g2.all,ha]
   have p1:c2.p'=c.p':=by rw [g2.p,hp]
   rw [z27_l11,show decide ((0:Int) < 2)=true from rfl,cT,show ((0:Int)==0)=true from rfl,cT]
   rw [show (0:Int)=((0:Nat):Int) from rfl,k12 m _ _ c1 0 _ a.Left (.inl rfl) ha hp hmf,e2,bS,if_pos rfl,if_pos rfl]
   rw [z27_l11,show decide (((0+1:Nat):Int) < 2)=true from rfl,cT,show (((0+1:Nat):Int)==0)=false from rfl,cF,show (((0+1:Nat):Int)==1)=true from rfl,cT]
   rw [k12 m _ _ c2 (0+1) _ a.Right (.inr rfl) a1 p1 hmf,e3,bS,if_neg (by omega),if_neg (by omega)]
   rw [z27_l11,show decide (((0+1+1:Nat):Int) < 2)=false from rfl,cF]
   unfold z27_k10
   rw [z27_l6,show decide ((0:Int) < 2)=true from rfl,cT,show ((0:Int)==0)=true from rfl,cT]
   rw [show (0:Int)=((0:Nat):Int) from rfl,k9 m _ _ c3 0 0 _ a.Left (.inl rfl) (by omega),if_pos rfl]
   rw [show (bif a.Left.Kind==1 then ((0:Nat):Int) else kd c.p' m a.Left)=kdC c.p' m a.Left from rfl,e4,bS]
   rw [z27_l6,show decide (((0+1:Nat):Int) < 2)=true from rfl,cT,show (((0+1:Nat):Int)==0)=false from rfl,cF,show (((0+1:Nat):Int)==1)=true from rfl,cT]
   rw [show (0+(bif a.Left.Kind==2 then (bif kdC c.p' m a.Left==2 then 1 else 0) else 0))=txC c.p' m a.Left by unfold txC;simp]
   rw [k9 m _ _ c4 (txC c.p' m a.Left) (0+1) _ a.Right (.inr rfl) (by omega),if_neg (by omega)]
   rw [show (bif a.Right.Kind==1 then ((0:Nat):Int) else kd c.p' m a.Right)=kdC c.p' m a.Right from rfl,e5,bS]
   rw [z27_l6,show decide (((0+1+1:Nat):Int) < 2)=false from rfl,cF]
   exact e6
  ·refine ((((g2.seq g3).seq g4).seq g5).seq g6).iff ?_
   have hn:∀ t:T18,(!(t.Kind==1) && (kd c.p' m t==0))=false↔(t.Kind=1∨kd c.p' m t≠0):=by
    intro t
    simp only [Bool.and_eq_false_iff,Bool.not_eq_false',beq_iff_eq,beq_eq_false_iff_ne,ne_eq]
   unfold AtomOk
   rw [hn,hn]
   constructor
   ·rintro ⟨⟨⟨⟨q1,q2⟩,q3⟩,q4⟩,q5,q6⟩;exact ⟨q1,q2,q3,q4,q5,q6⟩
   ·rintro ⟨q1,q2,q3,q4,q5,q6⟩;exact ⟨⟨⟨⟨q1,q2⟩,q3⟩,q4⟩,q5,q6⟩
 obtain ⟨o,e,g⟩:=ck_loop c.p'.Messages (fun n c1 i=>z27_l2 N c n c1.all' c1.p'.Name c1.p'.Roles c1.p'.Messages c1.p'.Body c1.calls' c1.out'.Protocol c1.out'.Name c1.out'.Err i)
  (fun c=>z27_k1 c.all' c.p'.Name c.p'.Roles c.p'.Messages c.p'.Body c.calls' c.out'.Protocol c.out'.Name c.out'.Err) Option.bind (fun _ _=>rfl)
  (fun k m=>∀ (j:Nat) a,m.Where[j]? = some a→AtomOk c.p' m a) (fun _=>[]) (fun _=>0) c.all' c.p' c.calls'.length
  (fun n k m c1 hk ha hp _=>by
   have hkl:=get_lt hk
   obtain ⟨hf1,hf2⟩:=hf m (List.mem_of_getElem? hk)
   simp only [z27_l2,lt_t hkl,cT,idx_nat,hk,bS]
   obtain ⟨o,e,g⟩:=ck_loop m.Where (fun n' c1 i=>z27_l4 N (k:Int) (fun a b c' d e f g h i j=>z27_l2 N c n a b c' d e f g h i j) m n' c1.all' c1.p'.Name c1.p'.Roles c1.p'.Messages c1.p'.Body c1.calls' c1.out'.Protocol c1.out'.Name c1.out'.Err i)
    (fun c1=>z27_k3 (k:Int) (fun a b c' d e f g h i j=>z27_l2 N c n a b c' d e f g h i j) c1.all' c1.p'.Name c1.p'.Roles c1.p'.Messages c1.p'.Body c1.calls' c1.out'.Protocol c1.out'.Name c1.out'.Err) Option.bind (fun _ _=>rfl)
    (fun _ a=>AtomOk c.p' m a) (fun _=>[]) (fun _=>0) c.all' c.p' c1.calls'.length
    (fun n' j a c2 hj ha2 hp2 _=>by
     have hjl:=get_lt hj
     simp only [z27_l4,lt_t hjl,cT,idx_nat,hj,bS]
     exact one j m a c2 _ (by omega) hf1 ha2 hp2)
    (fun n' j c2 hj=>by simp only [z27_l4,lt_f hj,cF]) (N:=N) (by omega) c1 ha hp (by rw [sum_zero];omega)
   rw [sum_zero,flat_nil] at g
   refine ⟨o,e.trans ?_,g⟩
   congr 1
   funext c2
   unfold z27_k3
   rw [w64_suc (by omega)])
  (fun n k c1 hk=>by simp only [z27_l2,lt_f hk,cF]) (N:=N) (by omega) c rfl rfl (by rw [sum_zero];omega)
 rw [sum_zero,flat_nil] at g
 have e':=e.trans (show (o.bind fun c=>z27_k1 c.all' c.p'.Name c.p'.Roles c.p'.Messages c.p'.Body c.calls' c.out'.Protocol c.out'.Name c.out'.Err)=o from bind_id o)
 refine Eq.mp (congrArg (fun o=>Ck o c _ _ _) e'.symm) (g.iff ?_)
 constructor
 ·intro h m hm a ha
  obtain ⟨k,hk⟩:=List.mem_iff_getElem?.1 hm
  obtain ⟨j,hj⟩:=List.mem_iff_getElem?.1 ha
  exact h k m hk j a hj
 ·exact fun h k m hk j a hj=>h m (List.mem_of_getElem? hk) a (List.mem_of_getElem? hj)
end Gp
end
section
namespace Gp
open Go Go.Kx Gx
def hereC (x:T15):List ByteArray:=if x.Kind=6 then [x.Name] else []
mutual
def cnI:T15→List ByteArray
 | ⟨k,f,t,n,a,x,b⟩=>hereC ⟨k,f,t,n,a,x,b⟩++cnLL b
def cnL:List T15→List ByteArray
 | []=>[]
 | x::l=>cnI x++cnL l
def cnLL:List (List T15)→List ByteArray
 | []=>[]
 | b::r=>cnL b++cnLL r
end
theorem cnI_eq (x:T15):cnI x=hereC x++cnLL x.Blocks:=by cases x;simp only [cnI]
theorem cnL_fold:∀ (l:List T15) (s:List ByteArray),l.foldl (fun s x=>s++cnI x) s=s++cnL l
 | [],s=>by simp [cnL]
 | x::l,s=>by rw [List.foldl_cons,cnL_fold l];simp only [cnL,aA]
theorem cnLL_fold:∀ (l:List (List T15)) (s:List ByteArray),l.foldl (fun s x=>s++cnL x) s=s++cnLL l
 | [],s=>by simp [cnLL]
 | x::l,s=>by rw [List.foldl_cons,cnLL_fold l];simp only [cnLL,aA]
mutual
theorem cn_I:∀ x,(cnI x).length≤cI x
 | ⟨k,f,t,n,a,x,b⟩=>by
  have:=cn_LL b
  have h:(hereC ⟨k,f,t,n,a,x,b⟩).length≤1:=by unfold hereC;split<;>simp
  simp only [cnI,cI,lA]
  omega
theorem cn_L:∀ l,(cnL l).length≤cL l
 | []=>by simp [cnL,cL]
 | x::l=>by
  have:=cn_I x
  have:=cn_L l
  simp only [cnL,cL,lA]
  omega
theorem cn_LL:∀ l,(cnLL l).length≤cLL l
 | []=>by simp [cnLL,cLL]
 | x::l=>by
  have:=cn_L x
  have:=cn_LL l
  simp only [cnLL,cLL,lA]
  omega
end
theorem called_eq:∀ (N:Nat) (xs:List T15),4194306+dL xs≤N→xs.length≤4194304→bL xs→cL xs≤4194304→z69 N xs=some (cnL xs)
 | 0,_,h,_,_,_=>by omega
 | N+1,xs,h,hs,hb,hc=>by
  show z69_b N (z69 N) xs=_
  unfold z69_b
  have hN:4194304 < N:=by omega
  have inner:∀ (k:Nat) (x:T15) (s:List ByteArray) (ag:List ByteArray→Int→Option (List ByteArray)),xs[k]? = some x→s.length+cLL x.Blocks≤4194304 →
    z69_k5 N (z69 N) (k:Int) ag x s=ag (s++cnLL x.Blocks) ((k+1:Nat):Int):=by
   intro k x s ag hx hle
   have hm:=List.mem_of_getElem? hx
   have hbx:=(bI_eq _).1 (bL_mem hb hm)
   have hdx:=dL_mem hm
   rw [dI_eq] at hdx
   have hk:=get_lt hx
   unfold z69_k5
   have:=(fold_loop x.Blocks (z69_l4 (z69 N) (k:Int) ag x) (fun s b=>s++cnL b) (fun s=>ag s ((k+1:Nat):Int))
    (fun j s=>s.length+cLL (x.Blocks.drop j)≤4194304) (fun n j s b hi hj=>?_) (fun n j s hi hj=>?_) (N:=N) (s:=s) (by omega) (by rw [List.drop_zero];exact hle)).1
   ·rw [this,cnLL_fold]
   ·rw [drop_get hj] at hi
    simp only [cLL] at hi
    have hmb:=List.mem_of_getElem? hj
    have hbb:=bLL_mem hbx.2.2 hmb
    have hdb:=dLL_mem hmb
    have hcn:=cn_L b
    have e:=called_eq N b (by omega) hbb.1 hbb.2 (by omega)
    refine ⟨?_,by rw [lA];omega⟩
    simp only [z69_l4,lt_t (get_lt hj),cT,idx_nat,hj,bS,e]
    rw [appL_some (by omega),bS,w64_succ (by have:=get_lt hj;omega)]
   ·simp only [z69_l4,lt_f hj,cF,z69_k3]
    rw [w64_succ (by omega)]
  have:=(fold_loop xs (z69_l2 N (z69 N) xs) (fun s x=>s++cnI x) (fun s=>some s)
   (fun j s=>s.length+cL (xs.drop j)≤4194304) (fun n k s x hi hx=>?_) (fun n k s hi hk=>?_) (N:=N) (s:=[]) (by omega) (by rw [List.drop_zero];simpa using hc)).1
  ·rw [this,cnL_fold];simp
  ·rw [drop_get hx] at hi
   simp only [cL] at hi
   have hcx:=cI_eq x
   have hcn:=cn_I x
   refine ⟨?_,by rw [lA];omega⟩
   simp only [z69_l2,lt_t (get_lt hx),cT,idx_nat,hx,bS]
   rw [cnI_eq]
   unfold hereC
   by_cases h6:x.Kind=6
   ·rw [show (x.Kind==(6:Int))=true by simpa using h6,cT,appL_some (by simp;omega),bS,inner k x _ _ hx (by simp;omega),if_pos h6,aA]
   ·rw [show (x.Kind==(6:Int))=false by simpa using h6,cF,inner k x _ _ hx (by omega),if_neg h6,List.nil_append]
  ·simp only [z69_l2,lt_f hk,cF,z69_k1]
theorem lsl_dr {α:Type} {xs:List α} {k:Nat} (h:k≤xs.length):lsl xs (some (k:Int)) none=some (xs.drop k):=by
 unfold lsl bnd
 have h1:decide ((0:Int)≤(k:Int))=true:=by simp
 have h2:decide ((k:Int)≤(xs.length:Int))=true:=by simp;exact h
 simp [h1,h2,h]
theorem clL_dr {α:Type} (z:α) {xs:List α} {k:Nat} (h:k≤xs.length):∃ ys,clL z xs (some (k:Int)) none=some ys∧ys.take k=xs.take k∧ys.length=xs.length:=by
 unfold clL bnd
 have h1:decide ((0:Int)≤(k:Int))=true:=by simp
 have h2:decide ((k:Int)≤(xs.length:Int))=true:=by simp;exact h
 refine ⟨xs.take k++List.replicate (xs.length-k) z,?_,?_,?_⟩
 ·simp [h1,h2,h]
 ·rw [List.take_append_of_le_length (by rw [List.length_take];omega),List.take_take];simp
 ·rw [lA,List.length_take,List.length_replicate];omega
theorem atI_first {α:Type} (p:α→Bool) (xs:List α) {i:Nat} (h:atI p xs=(i:Int)):∃ x,xs[i]? = some x∧p x=true∧∀ (j:Nat) y,j < i→xs[j]? = some y→p y=false:=by
 unfold atI at h
 cases e:xs.findIdx? p with
 | none=>rw [e] at h;simp at h
 | some k =>
  rw [e] at h
  have hk:k=i:=by simp at h;omega
  subst hk
  rw [List.findIdx?_eq_some_iff_getElem] at e
  obtain ⟨h1,h2,h3⟩:=e
  refine ⟨xs[k],List.getElem?_eq_getElem h1,h2,fun j y hj hy=>?_⟩
  have:=h3 j hj
  obtain ⟨_,rfl⟩:=List.getElem?_eq_some_iff.1 hy
  simpa using this
theorem take_suc {α:Type} {xs:List α} {k:Nat} {x:α} (h:xs[k]? = some x):xs.take (k+1)=xs.take k++[x]:=by
 obtain ⟨hk,rfl⟩:=List.getElem?_eq_some_iff.1 h
 rw [List.take_succ_eq_append_getElem hk]
theorem del_eq {N:Nat} (c:T7) (s:List ByteArray) (hs:s.length < N) (hb:s.length < 4611686018427387904) (ha:c.all'.length < N) (hab:c.all'.length < 4611686018427387904) :
  z72_47 N s c=some (s.filter fun x=>c.all'.any fun q=>q.Name.toList==x.toList):=by
 unfold z72_47
 rw [ix_chains_2 s c hs hb ha hab,bS]
 generalize hK:(fun x:ByteArray=>c.all'.any fun q=>q.Name.toList==x.toList)=K
 have hK2:(fun x:ByteArray => !(c.all'.any fun q=>q.Name.toList==x.toList))=fun x => !(K x):=by rw [← hK]
 rw [hK2]
 rcases atI_find (fun x:ByteArray => !(K x)) s with ⟨q1,q2⟩ | ⟨i0,x0,q1,q2,q3⟩
 ·rw [q1,show ((-1:Int)==-1)=true from rfl,cT]
  congr 1
  rw [List.find?_eq_none] at q2
  refine (List.filter_eq_self.2 fun x hx=>?_).symm
  have:=q2 x hx
  simpa using this
 ·have q4:=atI_first _ _ q1
  rw [q1,show ((i0:Int)==-1)=false by simp,cF]
  have hi0:=get_lt q2
  rw [w64_suc (by omega)]
  have al:∀ x,z73_45 N x c=some (!(K x)):=fun x=>by
   unfold z73_45
   rw [cf_chains_2_1 c.all' x ha hab,← hK];rfl
  have key:∀ (l:List ByteArray) (j i n:Nat) (v:List ByteArray),s.drop j=l→l.length < n→i < j→v.length=s.length→v.take i=(s.take j).filter K→v.drop j=s.drop j→i≤s.length →
    z72_47_l2 N c n v (i:Int) (j:Int)=some (s.filter K):=by
   intro l
   induction l with
   | nil =>
    intro j i n v h hn hij hv h1 h2 his
    obtain ⟨n,rfl⟩:∃ m,n=m+1:=⟨n-1,by simp at hn;omega⟩
    have hj:=drop_nil h
    have hil:i≤v.length:=by omega
    simp only [z72_47_l2]
    rw [show decide ((j:Int) < (v.length:Int))=false by simp;omega,cF]
    unfold z72_47_k1
    obtain ⟨ys,e1,e2,e3⟩:=clL_dr (str []) hil
    rw [lsl_dr hil,bS,e1,bS,lsl_tk (by omega),bS,e2,h1,List.take_of_length_le hj]
   | cons x l ih =>
    intro j i n v h hn hij hv h1 h2 his
    obtain ⟨n,rfl⟩:∃ m,n=m+1:=⟨n-1,by simp at hn;omega⟩
    obtain ⟨a,e,d⟩:=drop_cons h
    obtain ⟨a',e',d'⟩:=drop_cons (h2.trans h)
    simp only [z72_47_l2]
    rw [lt_t a',cT,idx_nat,e',bS,al,bS,Bool.not_not]
    have hvi:v[i]? = some v[i]:=List.getElem?_eq_getElem (by omega)
    cases hx:K x with
    | true =>
     rw [cT,idx_nat,hvi,bS,setL'_nat,w64_suc (by omega),w64_suc (by omega)]
     refine ih (j+1) (i+1) n (v.set i x) d (by simp at hn;omega) (by omega) (by rw [List.length_set];exact hv) ?_ ?_ (by omega)
     ·rw [take_suc e,List.filter_append,← h1,List.filter_cons,hx,take_suc (x:=x) (by rw [List.getElem?_set_self (by omega)]),List.take_set_of_le (Nat.le_refl _),if_pos rfl,List.filter_nil]
     ·rw [List.drop_set_of_lt (by omega),d',d]
    | false =>
     rw [cF,w64_suc (by omega)]
     refine ih (j+1) i n v d (by simp at hn;omega) (by omega) hv ?_ (by rw [d',d]) his
     rw [take_suc e,List.filter_append,← h1,List.filter_cons,hx]
     simp
  refine key _ (i0+1) i0 N s rfl (by rw [List.length_drop];omega) (by omega) rfl ?_ rfl (by omega)
  obtain ⟨y,hy,h1,h2⟩:=q4
  rw [take_suc hy,List.filter_append,List.filter_cons,if_neg (by simpa using h1),List.filter_nil,List.append_nil]
  refine (List.filter_eq_self.2 fun x hx=>?_).symm
  obtain ⟨j,hj⟩:=List.mem_iff_getElem?.1 hx
  have hjl:=get_lt hj
  rw [List.length_take] at hjl
  rw [List.getElem?_take,if_pos (by omega)] at hj
  have:=h2 j x (by omega) hj
  simpa using this
def CallsTo (all:List T17) (a b:ByteArray):Prop:=(∃ q,all.find? (fun q=>q.Name.toList==a.toList)=some q∧b∈cnL q.Body)∧∃ q∈all,q.Name=b
def PathTo (all:List T17):Nat→ByteArray→ByteArray→Prop
 | 0,a,b=>a=b
 | n+1,a,c=>∃ b,PathTo all n a b∧CallsTo all b c
def ChainOk (all:List T17) (p:T17):Prop:=∀ b,¬ PathTo all 5 p.Name b
def cAll (l:List T17):Nat:=(l.map fun q=>cL q.Body).sum
theorem first_iff (all:List T17) (k:Nat) (q:T17) (hq:all[k]? = some q):atI (fun x:T17=>x.Name.toList==q.Name.toList) all=(k:Int)→all.find? (fun x=>x.Name.toList==q.Name.toList)=some q:=by
 intro h
 rcases atI_find (fun x:T17=>x.Name.toList==q.Name.toList) all with ⟨q1,_⟩ | ⟨i,x,q1,q2,q3⟩
 ·rw [q1] at h;omega
 ·have:i=k:=by rw [q1] at h;omega
  subst this
  rw [hq] at q2;cases q2
  exact q3
theorem find_first (all:List T17) (a:ByteArray) (q:T17) (h:all.find? (fun x=>x.Name.toList==a.toList)=some q):q.Name=a∧∃ k:Nat,all[k]? = some q∧atI (fun x:T17=>x.Name.toList==q.Name.toList) all=(k:Int):=by
 have hn:q.Name=a:=by
  have:=List.find?_some h
  exact seq'.1 this
 subst hn
 refine ⟨rfl,?_⟩
 rcases atI_find (fun x:T17=>x.Name.toList==q.Name.toList) all with ⟨_,q1⟩ | ⟨i,x,q1,q2,q3⟩
 ·rw [q1] at h;cases h
 ·rw [h] at q3;cases q3
  exact ⟨i,q2,q1⟩
theorem chains_ck {N:Nat} (c:T7) (hs:Sz N c) (hb:∀ q∈c.all',8388611+dL q.Body≤N∧q.Body.length≤4194304∧bL q.Body) (hc:cAll c.all'≤4194304):Ck (z29 N c) c (ChainOk c.all' c.p') [] 0:=by
 have hN:=hs.n
 have ha:=hs.a
 unfold z29
 have dsum:∀ k,cAll (c.all'.drop k)≤cAll c.all':=by
  intro k
  have:=congrArg (fun l=>cAll l) (List.take_append_drop k c.all')
  simp only [cAll,List.map_append,List.sum_append] at this ⊢
  omega
 -- one round
 have round:∀ (now:List ByteArray) (i:Int) (ag:List ByteArray→Int→Option T7),now.length≤4194304→∃ nx:List ByteArray,nx.length≤4194304∧(∀ b,b∈nx↔∃ a∈now,CallsTo c.all' a b) ∧
   z29_l4 N c now i ag N [] (0:Int)=ag nx (w64 (i+1)):=by
  intro now i ag hnow
  have key:∀ (l:List T17) (k n:Nat) (s:List ByteArray),c.all'.drop k=l→l.length < n→s.length+cAll l≤4194304 →
    ∃ nx,z29_l4 N c now i ag n s (k:Int)=z29_k3 N c i ag (s++nx)∧(s++nx).length≤4194304 ∧
     ∀ b,b∈nx↔∃ (j:Nat) (q:T17),l[j]? = some q∧atI (fun x:T17=>x.Name.toList==q.Name.toList) c.all'=((k+j:Nat):Int)∧q.Name∈now∧b∈cnL q.Body:=by
   intro l
   induction l with
   | nil =>
    intro k n s h hn hsl
    obtain ⟨n,rfl⟩:∃ m,n=m+1:=⟨n-1,by simp at hn;omega⟩
    refine ⟨[],?_,by simp [cAll] at hsl ⊢;omega,by simp⟩
    simp only [z29_l4,lt_f (drop_nil h),cF,List.append_nil]
   | cons p l ih =>
    intro k n s h hn hsl
    obtain ⟨n,rfl⟩:∃ m,n=m+1:=⟨n-1,by simp at hn;omega⟩
    obtain ⟨a,e,d⟩:=drop_cons h
    obtain ⟨hb1,hb2,hb3⟩:=hb p (List.mem_of_getElem? e)
    have hcn:=cn_L p.Body
    have e0:cAll (p::l)=cL p.Body+cAll l:=by simp [cAll]
    rw [e0] at hsl
    have hdk:=dsum k
    rw [h,e0] at hdk
    have tail:∀ (s':List ByteArray) (cond:Prop),s'.length+cAll l≤4194304→(∃ t,s'=s++t∧∀ b,b∈t↔(atI (fun x:T17=>x.Name.toList==p.Name.toList) c.all'=(k:Int)∧p.Name∈now∧b∈cnL p.Body)) →
      ∃ nx,z29_l4 N c now i ag n s' ((k+1:Nat):Int)=z29_k3 N c i ag (s++nx)∧(s++nx).length≤4194304 ∧
       ∀ b,b∈nx↔∃ (j:Nat) (q:T17),(p::l)[j]? = some q∧atI (fun x:T17=>x.Name.toList==q.Name.toList) c.all'=((k+j:Nat):Int)∧q.Name∈now∧b∈cnL q.Body:=by
     rintro s' _ hs' ⟨t,rfl,ht⟩
     obtain ⟨nx,r1,r2,r3⟩:=ih (k+1) n (s++t) d (by simp at hn;omega) hs'
     refine ⟨t++nx,by rw [r1,aA],by rw [← aA];exact r2,fun b=>?_⟩
     rw [List.mem_append,ht,r3]
     constructor
     ·rintro (g | ⟨j,q,g1,g2,g3⟩)
      ·exact ⟨0,p,rfl,g.1,g.2⟩
      ·exact ⟨j+1,q,by rw [List.getElem?_cons_succ];exact g1,by rw [g2];congr 1;omega,g3⟩
     ·rintro ⟨j,q,g1,g2,g3⟩
      cases j with
      | zero=>simp only [List.getElem?_cons_zero,Option.some.injEq] at g1;subst g1;exact .inl ⟨g2,g3⟩
      | succ j=>rw [List.getElem?_cons_succ] at g1;exact .inr ⟨j,q,g1,by rw [g2];congr 1;omega,g3⟩
    simp only [z29_l4,lt_t a,cT,idx_nat,e,bS]
    rw [ix_chains_1 c.all' p (by omega) (by omega),bS,w64_suc (by omega)]
    by_cases h1:atI (fun x:T17=>x.Name.toList==p.Name.toList) c.all'=(k:Int)
    ·rw [h1,beq_self_eq_true,cT,cont_eq now (by omega) (by omega),bS]
     cases h2:inL p.Name now with
     | true =>
      have h2:=(inL_iff _ _).1 h2
      rw [cT,called_eq N p.Body (by omega) hb2 hb3 (by omega),bS,appL_some (by omega),bS]
      refine tail (s++cnL p.Body) True (by rw [lA];omega) ⟨_,rfl,fun b=>?_⟩
      exact ⟨fun g=>⟨h1,h2,g⟩,fun g=>g.2.2⟩
     | false =>
      have h2:¬ p.Name∈now:=fun h=>by rw [(inL_iff _ _).2 h] at h2;cases h2
      rw [cF]
      exact tail s True (by omega) ⟨[],by simp,fun b=>by simp [h2]⟩
    ·rw [show (atI (fun x:T17=>x.Name.toList==p.Name.toList) c.all'==(k:Int))=false by simpa using h1,cF]
     exact tail s True (by omega) ⟨[],by simp,fun b=>by simp [h1]⟩
  obtain ⟨nx,r1,r2,r3⟩:=key _ 0 N [] rfl (by simp;omega) (by simpa using hc)
  rw [List.nil_append] at r1 r2
  refine ⟨(compS (sortS nx)).filter fun x=>c.all'.any fun q=>q.Name.toList==x.toList,?_,fun b=>?_,?_⟩
  ·have h1:=List.length_filter_le (fun x=>c.all'.any fun q=>q.Name.toList==x.toList) (compS (sortS nx))
   have h2:=compS_len (sortS nx)
   have h3:=sortS_len nx
   omega
  ·rw [List.mem_filter,mem_compS,(sortS_perm nx).mem_iff,r3,List.any_eq_true]
   constructor
   ·rintro ⟨⟨j,q,g1,g2,g3,g4⟩,q',g5,g6⟩
    rw [List.drop_zero] at g1
    rw [Nat.zero_add] at g2
    exact ⟨q.Name,g3,⟨q,first_iff _ _ _ g1 g2,g4⟩,q',g5,seq'.1 g6⟩
   ·rintro ⟨a,g1,⟨q,g2,g3⟩,q',g4,g5⟩
    obtain ⟨rfl,k,g6,g7⟩:=find_first _ _ _ g2
    exact ⟨⟨k,q,by rw [List.drop_zero];exact g6,by rw [Nat.zero_add];exact g7,g1,g3⟩,q',g4,seq'.2 g5⟩
  ·rw [show (0:Int)=((0:Nat):Int) from rfl,r1]
   unfold z29_k3 z70 z71
   have h2:=compS_len (sortS nx)
   have h3:=sortS_len nx
   rw [dT (by omega),cT,bS,dT (by omega),cT,bS,del_eq c _ (by omega) (by omega) (by omega) (by omega),bS]
 have steps:∀ (m i:Nat) (now:List ByteArray),now.length≤4194304→(∀ b,b∈now↔PathTo c.all' i c.p'.Name b)→i+m=5→∀ n,m < n →
   Ck (z29_l2 N c n now (i:Int)) c (ChainOk c.all' c.p') [] 0:=by
  intro m
  induction m with
  | zero =>
   intro i now hnow hmem hi n hn
   obtain ⟨n,rfl⟩:∃ k,n=k+1:=⟨n-1,by omega⟩
   have hi:i=5:=by omega
   subst hi
   rw [z29_l2,show decide (((5:Nat):Int) < 5)=false from rfl,cF]
   unfold z29_k1
   simp only [bind_id]
   refine (Ck.test (by decide)).iff ?_
   unfold ChainOk
   rw [decide_eq_false_iff_not]
   constructor
   ·intro h b hb
    have:=(hmem b).2 hb
    cases now with
    | nil=>cases this
    | cons x l=>exact h (by simp)
   ·intro h h2
    cases now with
    | nil=>simp at h2
    | cons x l=>exact h x ((hmem x).1 (by simp))
  | succ m ih =>
   intro i now hnow hmem hi n hn
   obtain ⟨n,rfl⟩:∃ k,n=k+1:=⟨n-1,by omega⟩
   rw [z29_l2,show decide ((i:Int) < 5)=true by simp;omega,cT]
   obtain ⟨nx,r1,r2,r3⟩:=round now (i:Int) (z29_l2 N c n) hnow
   rw [r3,w64_suc (by omega)]
   refine ih (i+1) nx r1 (fun b=>?_) (by omega) n (by omega)
   rw [r2]
   constructor
   ·rintro ⟨a,g1,g2⟩;exact ⟨a,(hmem a).1 g1,g2⟩
   ·rintro ⟨a,g1,g2⟩;exact ⟨a,(hmem a).2 g1,g2⟩
 exact steps 5 0 [c.p'.Name] (by simp) (fun b=>by simp [PathTo,eq_comm]) rfl N (by omega)
end Gp
end
section
namespace Gp
open Go Go.Kx Gx
structure ProtOk (l:List T17) (i:Nat) (p:T17):Prop where
 name:∀ q∈l.take i,q.Name≠p.Name
 roles:∀ (k:Nat) x,p.Roles[k]? = some x→x ∉ p.Roles.take k
 sorts:SortsOk p
 atoms:AtomsOk p
 items:okL l p [] p.Body
 calls:ndp [] (asL p.Body)
 chain:ChainOk l p
structure Zs (N:Nat) (l:List T17):Prop where
 len:l.length≤4194304
 p:∀ p∈l,bP p∧8388611+dL p.Body≤N∧dL p.Body≤4194304
 all:cAll l≤4194304
 n:8388611 < N
theorem cAll_mem {l:List T17} {p} (h:p∈l):cL p.Body≤cAll l:=by
 unfold cAll
 induction l with
 | nil=>cases h
 | cons q l ih =>
  rw [List.map_cons,List.sum_cons]
  rcases List.mem_cons.1 h with rfl | h
  ·omega
  ·have:=ih h;omega
theorem prot_run {N:Nat} (l:List T17) (hz:Zs N l) (i:Nat) (p:T17) (hp:l[i]? = some p) (ag:Int→Option T6) :
  ∃ c':T7,(z22_19 N (l.take i) p).bind (fun x271 =>
    bif x271 then ((z24 N (⟨l,p,([]:List ByteArray),(⟨(str []),(str []),(0:Int)⟩:T6)⟩:T7) p.Name (9:Int)).bind fun x304 =>
     z13_k5 N (i:Int) ag p x304.all' x304.p'.Name x304.p'.Roles x304.p'.Messages x304.p'.Body x304.calls' x304.out'.Protocol x304.out'.Name x304.out'.Err)
    else z13_k5 N (i:Int) ag p l p.Name p.Roles p.Messages p.Body ([]:List ByteArray) (str []) (str []) (0:Int)) =
   (bif (c'.out'.Err != (0:Int)) then some c'.out' else ag ((i+1:Nat):Int))∧(c'.out'.Err=0↔ProtOk l i p)∧((∃ q∈l.take i,q.Name=p.Name)→c'.out'=⟨p.Name,p.Name,9⟩):=by
 have hN:=hz.n
 have hl:=hz.len
 have hil:=get_lt hp
 obtain ⟨hb,hd1,hd2⟩:=hz.p p (List.mem_of_getElem? hp)
 have hcp:=cAll_mem (List.mem_of_getElem? hp)
 have hall:=hz.all
 have c0:T7:=⟨l,p,[],⟨str [],str [],0⟩⟩
 -- the name
 obtain ⟨c1,e1,g1⟩:=Ck.test (N:=N) (b:=(l.take i).any fun x=>x.Name.toList==p.Name.toList) (c:=⟨l,p,[],⟨str [],str [],0⟩⟩) (nm:=p.Name) (e:=9) (by decide)
 have a1:c1.all'=l:=g1.all
 have p1:c1.p'=p:=g1.p
 -- the roles
 obtain ⟨o2,e2,c2,e2',g2⟩:=ck_loop p.Roles (fun n c i'=>z13_l4 N (i:Int) ag p n c.all' c.p'.Name c.p'.Roles c.p'.Messages c.p'.Body c.calls' c.out'.Protocol c.out'.Name c.out'.Err i')
  (fun c=>z13_k3 N (i:Int) ag p c.all' c.p'.Name c.p'.Roles c.p'.Messages c.p'.Body c.calls' c.out'.Protocol c.out'.Name c.out'.Err) Option.bind (fun _ _=>rfl)
  (fun k x=>x ∉ p.Roles.take k) (fun _=>[]) (fun _=>0) c1.all' c1.p' c1.calls'.length
  (fun n k x c hx ha hp' _=>by
   have hk:=get_lt hx
   have hr:=hb.r
   refine ⟨bif inL x (p.Roles.take k) then z24 N c x 9 else some c,?_,(Ck.test (by decide)).iff ?_⟩
   ·simp only [z13_l4,lt_t hk,cT,z25,idx_nat,hx,bS,lsl_tk (Nat.le_of_lt hk),bind_id]
    rw [cont_eq _ (by rw [List.length_take];omega) (by rw [List.length_take];omega),bS,w64_suc (by omega)]
    cases inL x (p.Roles.take k)<;>rfl
   ·rw [← Bool.not_eq_true,inL_iff])
  (fun n k c hk=>by simp only [z13_l4,lt_f hk,cF]) (N:=N) (by have:=hb.r;omega) c1 rfl rfl (by rw [sum_zero];omega)
 subst e2'
 rw [sum_zero,flat_nil] at g2
 have a2:c2.all'=l:=by rw [g2.all,a1]
 have p2:c2.p'=p:=by rw [g2.p,p1]
 have sz:∀ c:T7,c.all'=l→c.p'=p→Sz N c:=fun c ha hp=>⟨by rw [hp];exact hb.r,by rw [hp];exact hb.m,by rw [ha];exact hl,by omega⟩
 obtain ⟨c3,e3,g3⟩:=sorts_ck (N:=N) c2 (sz c2 a2 p2) (by rw [p2];exact fun m hm=>(hb.ms m hm).1)
 have a3:c3.all'=l:=by rw [g3.all,a2]
 have p3:c3.p'=p:=by rw [g3.p,p2]
 obtain ⟨c4,e4,g4⟩:=atoms_ck (N:=N) c3 (sz c3 a3 p3) (by rw [p3];exact fun m hm=>hb.ms m hm)
 have a4:c4.all'=l:=by rw [g4.all,a3]
 have p4:c4.p'=p:=by rw [g4.p,p3]
 have l4:c4.calls'.length≤0:=by
  have h1:=g1.len;have h2:=g2.len;have h3:=g3.len;have h4:=g4.len
  have h0:([]:List ByteArray).length=0:=rfl
  simp only at h1
  omega
 obtain ⟨c5,e5,g5⟩:=items_ck N c4 p.Body [] ⟨by rw [p4];exact hb.r,by rw [p4];exact hb.m,by rw [a4];exact hl,by omega⟩ hd1 hb.l hb.b (by simpa using hd2) (by omega)
 have a5:c5.all'=l:=by rw [g5.all,a4]
 have p5:c5.p'=p:=by rw [g5.p,p4]
 obtain ⟨c6,e6,g6⟩:=chains_ck (N:=N) c5 (sz c5 a5 p5) (by rw [a5];exact fun q hq=>⟨(hz.p q hq).2.1,(hz.p q hq).1.l,(hz.p q hq).1.b⟩) (by rw [a5];exact hall)
 refine ⟨c6,?_,?_,?_⟩
 ·rw [cf_Check_1 _ p (by rw [List.length_take];omega) (by rw [List.length_take];omega),bS]
  have h5:z13_k5 N (i:Int) ag p c1.all' c1.p'.Name c1.p'.Roles c1.p'.Messages c1.p'.Body c1.calls' c1.out'.Protocol c1.out'.Name c1.out'.Err=(bif (c6.out'.Err != (0:Int)) then some c6.out' else ag ((i+1:Nat):Int)):=by
   unfold z13_k5
   refine e2.trans ?_
   show z13_k3 N (i:Int) ag p c2.all' c2.p'.Name c2.p'.Roles c2.p'.Messages c2.p'.Body c2.calls' c2.out'.Protocol c2.out'.Name c2.out'.Err=_
   unfold z13_k3
   rw [show (⟨c2.all',⟨c2.p'.Name,c2.p'.Roles,c2.p'.Messages,c2.p'.Body⟩,c2.calls',⟨c2.out'.Protocol,c2.out'.Name,c2.out'.Err⟩⟩:T7)=c2 from rfl,e3,bS,e4,bS,e5,bS,e6,bS,w64_suc (by omega)]
  cases hbb:(l.take i).any fun x=>x.Name.toList==p.Name.toList with
  | true=>rw [hbb,cT] at e1;rw [cT,e1];exact h5
  | false =>
   rw [hbb,cF] at e1;cases e1
   exact h5
 ·have h6:=((((((g1.seq g2).seq g3).seq g4).seq g5).seq g6)).err
  rw [h6,a4,p4,a5,p5,p2,p3]
  simp only [List.append_nil,List.nil_append,true_and]
  rw [any_name]
  constructor
  ·rintro ⟨⟨⟨⟨⟨⟨q1,q2⟩,q3⟩,q4⟩,q5⟩,q6⟩,q7⟩
   exact ⟨q1,q2,q3,q4,q5,q7,q6⟩
  ·exact fun q=>⟨⟨⟨⟨⟨⟨q.name,q.roles⟩,q.sorts⟩,q.atoms⟩,q.items⟩,q.chain⟩,q.calls⟩
 ·rintro ⟨q,hq,hn⟩
  have hbb:((l.take i).any fun x=>x.Name.toList==p.Name.toList)=true:=List.any_eq_true.2 ⟨q,hq,seq'.2 hn⟩
  rw [hbb,cT] at e1
  unfold z24 at e1
  rw [show ((0:Int)==0)=true from rfl,cT] at e1
  cases e1
  have s2:=g2.st (by show (9:Int)≠0;decide)
  have s3:=g3.st (by rw [s2];show (9:Int)≠0;decide)
  have s4:=g4.st (by rw [s3,s2];show (9:Int)≠0;decide)
  have s5:=g5.st (by rw [s4,s3,s2];show (9:Int)≠0;decide)
  have s6:=g6.st (by rw [s5,s4,s3,s2];show (9:Int)≠0;decide)
  rw [s6,s5,s4,s3,s2]
theorem check_eq {N:Nat} (l:List T17) (hz:Zs N l) (v:Bool) (hv:z18 N l=some v) :
  ∃ r,z13 N l=some r∧(r.Err=0↔v=true∧∀ (i:Nat) p,l[i]? = some p→ProtOk l i p) ∧
   (v=true→∀ (i:Nat) p,l[i]? = some p→(∀ (j:Nat) q,j < i→l[j]? = some q→ProtOk l j q)→(∃ q∈l.take i,q.Name=p.Name)→r=⟨p.Name,p.Name,9⟩):=by
 have hN:=hz.n
 have hl:=hz.len
 unfold z13
 rw [hv,bS]
 cases v with
 | false=>exact ⟨_,rfl,by simp,by simp⟩
 | true =>
  rw [Bool.not_true,cF]
  have key:∀ (m:List T17) (k n:Nat),l.drop k=m→m.length < n→∃ r,z13_l2 N l n (k:Int)=some r∧(r.Err=0↔∀ (i:Nat) p,m[i]? = some p→ProtOk l (k+i) p) ∧
    (∀ (i:Nat) p,m[i]? = some p→(∀ (j:Nat) q,j < i→m[j]? = some q→ProtOk l (k+j) q)→(∃ q∈l.take (k+i),q.Name=p.Name)→r=⟨p.Name,p.Name,9⟩):=by
   intro m
   induction m with
   | nil =>
    intro k n h hn
    obtain ⟨n,rfl⟩:∃ m,n=m+1:=⟨n-1,by simp at hn;omega⟩
    exact ⟨_,by simp only [z13_l2,lt_f (drop_nil h),cF];rfl,by simp,by simp⟩
   | cons p m ih =>
    intro k n h hn
    obtain ⟨n,rfl⟩:∃ m,n=m+1:=⟨n-1,by simp at hn;omega⟩
    obtain ⟨a,e,d⟩:=drop_cons h
    obtain ⟨c',q1,q2,q3⟩:=prot_run l hz k p e (z13_l2 N l n)
    have hstep:z13_l2 N l (n+1) (k:Int)=(bif (c'.out'.Err != (0:Int)) then some c'.out' else z13_l2 N l n ((k+1:Nat):Int)):=by
     rw [← q1]
     simp only [z13_l2,lt_t a,cT,idx_nat,e,bS,lsl_tk (Nat.le_of_lt a)]
    by_cases h0:c'.out'.Err=0
    ·obtain ⟨r,r1,r2,r3⟩:=ih (k+1) n d (by simp at hn;omega)
     rw [show (c'.out'.Err != (0:Int))=false by simpa using h0,cF] at hstep
     have hok:=q2.1 h0
     refine ⟨r,hstep.trans r1,?_,?_⟩
     ·rw [r2]
      constructor
      ·intro g i q hq
       cases i with
       | zero=>simp only [List.getElem?_cons_zero,Option.some.injEq] at hq;subst hq;exact hok
       | succ i=>rw [List.getElem?_cons_succ] at hq;have:=g i q hq;rwa [show k+(i+1)=k+1+i by omega]
      ·intro g i q hq
       have:=g (i+1) q (by rw [List.getElem?_cons_succ];exact hq)
       rwa [show k+(i+1)=k+1+i by omega] at this
     ·intro i q hq hb hn'
      cases i with
      | zero =>
       simp only [List.getElem?_cons_zero,Option.some.injEq] at hq;subst hq
       have:=q3 hn'
       rw [this] at h0;exact absurd (show (9:Int)=0 from h0) (by decide)
      | succ i =>
       rw [List.getElem?_cons_succ] at hq
       refine r3 i q hq (fun j q' hj hq'=>?_) (by rwa [show k+(i+1)=k+1+i by omega] at hn')
       have:=hb (j+1) q' (by omega) (by rw [List.getElem?_cons_succ];exact hq')
       rwa [show k+(j+1)=k+1+j by omega] at this
    ·rw [show (c'.out'.Err != (0:Int))=true by simpa using h0,cT] at hstep
     refine ⟨_,hstep,?_,?_⟩
     ·constructor
      ·exact fun g=>absurd g h0
      ·exact fun g=>absurd (q2.2 (g 0 p rfl)) h0
     ·intro i q hq hb hn'
      cases i with
      | zero=>simp only [List.getElem?_cons_zero,Option.some.injEq] at hq;subst hq;exact q3 hn'
      | succ i=>exact absurd (q2.2 (hb 0 p (by omega) rfl)) h0
  obtain ⟨r,r1,r2,r3⟩:=key l 0 N rfl (by omega)
  simp only [Nat.zero_add] at r2 r3
  exact ⟨r,r1,by rw [r2];simp,fun _=>r3⟩
end Gp
end
section
namespace Gp
open Go Go.Kx Gx
structure OwnOk (p:T17):Prop where
 roles:∀ (k:Nat) x,p.Roles[k]? = some x→x ∉ p.Roles.take k
 sorts:SortsOk p
 atoms:AtomsOk p
 calls:ndp [] (asL p.Body)
def NmD (l:List T17):Prop:=l.Pairwise fun a b=>a.Name≠b.Name
def NoProb (l:List T17):Prop:=ValidP l∧NmD l∧∀ p∈l,OwnOk p∧okL l p [] p.Body∧ChainOk l p
theorem np_iff (l:List T17):(∀ (i:Nat) p,l[i]? = some p→ProtOk l i p)↔NmD l∧∀ p∈l,OwnOk p∧okL l p [] p.Body∧ChainOk l p:=by
 constructor
 ·intro h
  refine ⟨?_,fun p hp=>?_⟩
  ·unfold NmD
   rw [List.pairwise_iff_getElem]
   intro i j hi hj hij
   refine (h j l[j] (List.getElem?_eq_getElem hj)).name l[i] ?_
   rw [List.mem_take_iff_getElem]
   exact ⟨i,by omega,rfl⟩
  ·obtain ⟨i,hi⟩:=List.mem_iff_getElem?.1 hp
   have:=h i p hi
   exact ⟨⟨this.roles,this.sorts,this.atoms,this.calls⟩,this.items,this.chain⟩
 ·rintro ⟨h1,h2⟩ i p hp
  obtain ⟨a,b,c⟩:=h2 p (List.mem_of_getElem? hp)
  refine ⟨fun q hq=>?_,a.roles,a.sorts,a.atoms,b,a.calls,c⟩
  unfold NmD at h1
  rw [List.pairwise_iff_getElem] at h1
  rw [List.mem_take_iff_getElem] at hq
  obtain ⟨j,hj,rfl⟩:=hq
  obtain ⟨hi,rfl⟩:=List.getElem?_eq_some_iff.1 hp
  exact h1 j i (by omega) hi (by omega)
theorem check_np {N:Nat} (l:List T17) (hz:Zs N l):∃ r,z13 N l=some r∧(r.Err=0↔NoProb l) ∧
  (ValidP l→∀ (i:Nat) p,l[i]? = some p→(∀ (j:Nat) q,j < i→l[j]? = some q→ProtOk l j q)→(∃ q∈l.take i,q.Name=p.Name)→r=⟨p.Name,p.Name,9⟩):=by
 obtain ⟨v,e,g⟩:=valid_dq (N:=N) (by have:=hz.n;omega) l hz.len fun p hp=>(hz.p p hp).1
 obtain ⟨r,h1,h2,h3⟩:=check_eq l hz v e
 exact ⟨r,h1,by rw [h2,g,np_iff];rfl,fun hv=>h3 (g.2 hv)⟩
def Agree (l m:List T17) (a:ByteArray):Prop:=l.find? (fun q=>q.Name.toList==a.toList)=m.find? (fun q=>q.Name.toList==a.toList)
mutual
theorem okI_congr (l m p):∀ (x:T15) ls,(∀ a∈cnI x,Agree l m a)→(okI l p ls x↔okI m p ls x)
 | ⟨k,f,t,n,a,z,b⟩,ls,h=>by
  rw [okI_eq,okI_eq]
  have hb:=okLL_congr l m p b (innL ls ⟨k,f,t,n,a,z,b⟩) fun q hq=>h q (by simp only [cnI];exact List.mem_append_right _ hq)
  have hh:HereOk l p ls ⟨k,f,t,n,a,z,b⟩↔HereOk m p ls ⟨k,f,t,n,a,z,b⟩:=by
   unfold HereOk CallOk
   by_cases h6:k=6
   ·have:=h n (by simp only [cnI,hereC];rw [if_pos h6];simp)
    unfold Agree at this
    simp only at this ⊢
    rw [this]
   ·constructor
    ·rintro ⟨a,b,c,d,e⟩;exact ⟨a,b,c,d,fun h=>absurd h h6⟩
    ·rintro ⟨a,b,c,d,e⟩;exact ⟨a,b,c,d,fun h=>absurd h h6⟩
  rw [hh]
  exact and_congr_right' hb
theorem okL_congr (l m p):∀ (xs:List T15) ls,(∀ a∈cnL xs,Agree l m a)→(okL l p ls xs↔okL m p ls xs)
 | [],ls,h=>by simp only [okL]
 | x::xs,ls,h=>by
  simp only [okL]
  rw [okI_congr l m p x _ fun q hq=>h q (by simp only [cnL];exact List.mem_append_left _ hq),okL_congr l m p xs ls fun q hq=>h q (by simp only [cnL];exact List.mem_append_right _ hq)]
theorem okLL_congr (l m p):∀ (bs:List (List T15)) ls,(∀ a∈cnLL bs,Agree l m a)→(okLL l p ls bs↔okLL m p ls bs)
 | [],ls,h=>by simp only [okLL]
 | x::xs,ls,h=>by
  simp only [okLL]
  rw [okL_congr l m p x ls fun q hq=>h q (by simp only [cnLL];exact List.mem_append_left _ hq),okLL_congr l m p xs ls fun q hq=>h q (by simp only [cnLL];exact List.mem_append_right _ hq)]
end
theorem find_mem {l:List T17} (h:NmD l) {p} (hp:p∈l):l.find? (fun q=>q.Name.toList==p.Name.toList)=some p:=by
 induction l with
 | nil=>cases hp
 | cons q l ih =>
  unfold NmD at h
  rw [List.pairwise_cons] at h
  rw [List.find?_cons]
  rcases List.mem_cons.1 hp with rfl | hp
  ·simp
  ·have hne:=h.1 p hp
   rw [show (q.Name.toList==p.Name.toList)=false from by
    cases hb:(q.Name.toList==p.Name.toList) with
    | false=>rfl
    | true=>exact absurd (seq'.1 hb) hne]
   exact ih h.2 hp
theorem find_name {l:List T17} {a:ByteArray} {q} (h:l.find? (fun q=>q.Name.toList==a.toList)=some q):q∈l∧q.Name=a :=
 ⟨List.mem_of_find?_eq_some h,by have:=List.find?_some h;exact seq'.1 this⟩
theorem agree_sub {l m:List T17} (hl:NmD l) (hm:NmD m) {a:ByteArray} (h:∀ q,q.Name=a→(q∈l↔q∈m)):Agree l m a:=by
 unfold Agree
 cases h1:l.find? (fun q=>q.Name.toList==a.toList) with
 | some q =>
  obtain ⟨g1,rfl⟩:=find_name h1
  exact (find_mem hm ((h q rfl).1 g1)).symm
 | none =>
  cases h2:m.find? (fun q=>q.Name.toList==a.toList) with
  | none=>rfl
  | some q =>
   obtain ⟨g1,rfl⟩:=find_name h2
   have:=find_mem hl ((h q rfl).2 g1)
   rw [this] at h1;cases h1
theorem calls_mono {l m:List T17} (hl:NmD l) (h:∀ q∈m,q∈l) {a b} (hc:CallsTo m a b):CallsTo l a b:=by
 obtain ⟨⟨q,h1,h2⟩,q',h3,h4⟩:=hc
 obtain ⟨g1,rfl⟩:=find_name h1
 exact ⟨⟨q,find_mem hl (h q g1),h2⟩,q',h q' h3,h4⟩
theorem path_mono {l m:List T17} (hl:NmD l) (h:∀ q∈m,q∈l):∀ (n:Nat) a b,PathTo m n a b→PathTo l n a b
 | 0,a,b,hp=>hp
 | n+1,a,b,⟨c,h1,h2⟩=>⟨c,path_mono hl h n a c h1,calls_mono hl h h2⟩
theorem chain_sub {l m:List T17} (hl:NmD l) (h:∀ q∈m,q∈l) {p} (hc:ChainOk l p):ChainOk m p:=fun b hb=>hc b (path_mono hl h 5 _ _ hb)
theorem srcT_sum (l:List T17):(srcT l).length=(l.map fun p=>(protT p).length).sum:=by
 unfold srcT
 induction l with
 | nil=>rfl
 | cons p l ih=>simp only [List.map_cons,List.flatten_cons,lA,List.sum_cons,ih]
theorem valid_sub {l m:List T17} (h:m.Sublist l) (hv:ValidP l):ValidP m:=by
 obtain ⟨h1,h2,h3⟩:=hv
 refine ⟨Nat.le_trans h.length_le h1,fun p hp=>h2 p (h.subset hp),Nat.le_trans ?_ h3⟩
 rw [srcT_sum,srcT_sum]
 clear h1 h2 h3
 induction h with
 | slnil=>exact Nat.le_refl _
 | cons a _ ih=>rw [List.map_cons,List.sum_cons];omega
 | cons_cons a _ ih=>rw [List.map_cons,List.map_cons,List.sum_cons,List.sum_cons];omega
theorem np_sub {l m:List T17} (h:m.Sublist l) (hn:NoProb l) (hc:∀ p∈m,∀ a∈cnL p.Body,∀ q∈l,q.Name=a→q∈m):NoProb m:=by
 obtain ⟨h1,h2,h3⟩:=hn
 have hm:NmD m:=h2.sublist h
 refine ⟨valid_sub h h1,hm,fun p hp=>?_⟩
 obtain ⟨a,b,c⟩:=h3 p (h.subset hp)
 refine ⟨a,(okL_congr l m p p.Body [] fun n hn'=>agree_sub h2 hm fun q hq=>⟨fun g=>hc p hp n hn' q g hq,fun g=>h.subset g⟩).1 b,chain_sub h2 (fun q hq=>h.subset hq) c⟩
end Gp
end
section
namespace Gp
open Go Go.Kx Gx
theorem rem_ok {a:Int} {n:Nat} (h0:0≤a) (h1:a≤255) (hn:0 < n):∃ q:Nat,q < n∧binO .rem .i64 (w64 a) (n:Int)=some (q:Int):=by
 obtain ⟨b,rfl⟩:=Int.eq_ofNat_of_zero_le h0
 refine ⟨b % n,Nat.mod_lt _ hn,?_⟩
 rw [w64_id (by omega) (by omega)]
 have:((n:Int)==0)=false:=by simp;omega
 simp only [binO,this,cF]
 congr 1
theorem lsl_fr {α:Type} {xs:List α} {k m:Nat} (h:k≤m) (h2:m≤xs.length):lsl xs (some (k:Int)) (some (m:Int))=some ((xs.take m).drop k):=by
 unfold lsl bnd
 have e1:decide ((0:Int)≤(k:Int))=true:=by simp
 have e2:decide ((k:Int)≤(m:Int))=true:=by simp;exact h
 have e3:decide ((m:Int)≤(xs.length:Int))=true:=by simp;exact h2
 simp [e1,e2,e3,h,h2]
theorem Zs.sub {N:Nat} {l m:List T17} (hz:Zs N l) (h:∀ p∈m,p∈l) (hl:m.length≤4194304) (hc:cAll m≤4194304):Zs N m:=⟨hl,fun p hp=>hz.p p (h p hp),hc,hz.n⟩
theorem cAll_sub {l m:List T17} (h:m.Sublist l):cAll m≤cAll l:=by
 unfold cAll
 induction h with
 | slnil=>exact Nat.le_refl _
 | cons a _ ih=>rw [List.map_cons,List.sum_cons];omega
 | cons_cons a _ ih=>rw [List.map_cons,List.map_cons,List.sum_cons,List.sum_cons];omega
theorem cPs_own (l:List T12):cAll (l.map oP)=cPs l:=by
 unfold cAll cPs
 rw [List.map_map];rfl
theorem zs_own {N:Nat} {l:List T12} (hl:l.length≤4194304) (hb:∀ p∈l,RP p∧8388611+dL (oL p.Body)≤N∧dL (oL p.Body)≤4194304) (hc:cPs l≤4194304) (hN:8388611 < N):Zs N (l.map oP):=by
 refine ⟨by simpa using hl,fun p hp=>?_,by rw [cPs_own];exact hc,hN⟩
 obtain ⟨q,hq,rfl⟩:=List.mem_map.1 hp
 exact hb q hq
end Gp
end
section
namespace Gp
open Go Go.Kx Gx
theorem mget_put {α:Type} (a:ByteArray) (k:ByteArray) (x:α):∀ s:List (ByteArray × α),mget (mput s k x) a=if k=a then some x else mget s a
 | []=>by
  show (bif k.data.toList==a.data.toList then some x else mget [] a)=if k=a then some x else mget [] a
  by_cases h:k=a
  ·rw [if_pos h,(sq_iff k a).2 h];rfl
  ·rw [if_neg h,show (k.data.toList==a.data.toList)=false from by
    cases hb:(k.data.toList==a.data.toList) with
    | false=>rfl
    | true=>exact absurd ((sq_iff k a).1 hb) h]
   rfl
 | (j,y)::r=>by
  have f:∀ {u v:ByteArray},u≠v→(u.data.toList==v.data.toList)=false:=fun {u v} h=>by
   cases hb:(u.data.toList==v.data.toList) with
   | false=>rfl
   | true=>exact absurd ((sq_iff u v).1 hb) h
  by_cases hj:j=k
  ·subst hj
   rw [mput,(sq_iff j j).2 rfl,cT,mget]
   by_cases h:j=a
   ·rw [if_pos h,(sq_iff j a).2 h];rfl
   ·rw [if_neg h,f h,cF,mget,f h];rfl
  ·rw [mput,f hj,cF,mget,mget_put a k x r]
   by_cases h:j=a
   ·rw [(sq_iff j a).2 h,cT,mget,(sq_iff j a).2 h,cT,if_neg (fun e=>hj (h.trans e.symm))]
   ·rw [f h,cF,mget,f h,cF]
def allM (l:List T17) (s:List (ByteArray × T17)):List (ByteArray × T17):=l.foldl (fun s p=>mput s p.Name p) s
theorem mget_all (a:ByteArray):∀ (l:List T17) (s:List (ByteArray × T17)),NmD l→(∀ p∈l,mget s p.Name=none)→mget (allM l s) a=(l.find? (fun q=>q.Name.toList==a.toList)).or (mget s a)
 | [],s,_,_=>by simp [allM]
 | p::l,s,hn,hs=>by
  unfold NmD at hn
  rw [List.pairwise_cons] at hn
  show mget (allM l (mput s p.Name p)) a=_
  rw [mget_all a l _ hn.2 (fun q hq=>by rw [mget_put,if_neg (hn.1 q hq)];exact hs q (List.mem_cons_of_mem _ hq)),mget_put,List.find?_cons]
  by_cases h:p.Name=a
  ·rw [if_pos h,seq'.2 h]
   have:l.find? (fun q=>q.Name.toList==a.toList)=none:=by
    rw [List.find?_eq_none]
    intro q hq hb
    exact hn.1 q hq (h.trans (seq'.1 hb).symm)
   rw [this];rfl
  ·rw [if_neg h,show (p.Name.toList==a.toList)=false from by
    cases hb:(p.Name.toList==a.toList) with
    | false=>rfl
    | true=>exact absurd (seq'.1 hb) h]
theorem expand_all {N:Nat} (hN:4194304 < N) (l:List T17) (nm:ByteArray) (hl:l.length≤4194304):z8_l2 N l nm N [] 0=z8_k1 N nm (allM l []):=by
 have:=(fold_loop l (z8_l2 N l nm) (fun s p=>mput s p.Name p) (fun s=>z8_k1 N nm s)
  (fun _ _=>True) (fun n k s x hi hx=>?_) (fun n k s hi hk=>?_) (N:=N) (s:=[]) (by omega) trivial).1
 ·exact this
 ·refine ⟨?_,trivial⟩
  simp only [z8_l2,lt_t (get_lt hx),cT,idx_nat,hx,bS]
  rw [w64_succ (by have:=get_lt hx;omega)]
 ·simp only [z8_l2,lt_f hk,cF]
mutual
def plI:T15→Prop
 | ⟨k,_,_,_,_,_,b⟩=>k≠5∧k≠6∧plLL b
def plL:List T15→Prop
 | []=>True
 | x::l=>plI x∧plL l
def plLL:List (List T15)→Prop
 | []=>True
 | b::r=>plL b∧plLL r
end
theorem plI_eq (x:T15):plI x↔x.Kind≠5∧x.Kind≠6∧plLL x.Blocks:=by cases x;simp only [plI]
theorem plL_mem:∀ {l:List T15} {x},plL l→x∈l→plI x
 | y::l,x,h,hx=>by
  simp only [plL] at h
  rcases List.mem_cons.1 hx with rfl | hx
  ·exact h.1
  ·exact plL_mem h.2 hx
theorem plLL_mem:∀ {l:List (List T15)} {x},plLL l→x∈l→plL x
 | y::l,x,h,hx=>by
  simp only [plLL] at h
  rcases List.mem_cons.1 hx with rfl | hx
  ·exact h.1
  ·exact plLL_mem h.2 hx
theorem sep_plain (rc:T2→ByteArray→List (ByteArray × Bool)→Option (Bool × List (ByteArray × Bool))) (c0:T2) (c3:T17) (seen:List (ByteArray × Bool)) :
  ∀ (N:Nat) (xs:List T15),4194306+dL xs≤N→xs.length≤4194304→bL xs→plL xs→z34_48_r rc N xs c0 seen c3=some (true,seen)
 | 0,_,h,_,_,_=>by omega
 | N+1,xs,h,hs,hb,hp=>by
  show z34_48_b N rc (z34_48_r rc N) xs c0 seen c3=_
  unfold z34_48_b
  have inner:∀ (k:Nat) (x:T15) (ag:List (ByteArray × Bool)→Int→Option (Bool × List (ByteArray × Bool))),xs[k]? = some x →
    z34_48_k7 N (z34_48_r rc N) c0 c3 (k:Int) ag x seen false=ag seen ((k+1:Nat):Int):=by
   intro k x ag hx
   have hm:=List.mem_of_getElem? hx
   have hbx:=(bI_eq _).1 (bL_mem hb hm)
   have hdx:=dL_mem hm
   rw [dI_eq] at hdx
   obtain ⟨p5,p6,pb⟩:=(plI_eq x).1 (plL_mem hp hm)
   have hk:=get_lt hx
   unfold z34_48_k7
   rw [cF]
   have key:∀ (r:List (List T15)) (j n:Nat),x.Blocks.drop j=r→r.length < n→z34_48_l4 N (z34_48_r rc N) c0 c3 (k:Int) ag x n seen [] (j:Int)=ag seen ((k+1:Nat):Int):=by
    intro r
    induction r with
    | nil =>
     intro j n h hn
     obtain ⟨n,rfl⟩:∃ m,n=m+1:=⟨n-1,by simp at hn;omega⟩
     simp only [z34_48_l4,lt_f (drop_nil h),cF,z34_48_k3]
     rw [w64_succ (by omega)]
    | cons b r ih =>
     intro j n h hn
     obtain ⟨n,rfl⟩:∃ m,n=m+1:=⟨n-1,by simp at hn;omega⟩
     obtain ⟨a,c,d⟩:=drop_cons h
     have hmb:=List.mem_of_getElem? c
     have hbb:=bLL_mem hbx.2.2 hmb
     have hdb:=dLL_mem hmb
     have e:=sep_plain rc c0 c3 seen N b (by omega) hbb.1 hbb.2 (plLL_mem pb hmb)
     simp only [z34_48_l4,lt_t a,cT,idx_nat,c,bS]
     rw [show (x.Kind==(5:Int))=false by simpa using p5,cF,e,bS]
     simp only [Bool.not_true,cF]
     rw [w64_succ (by omega)]
     exact ih (j+1) n d (by simp at hn;omega)
   exact key _ 0 N rfl (by rw [List.drop_zero];omega)
  have key:∀ (r:List T15) (j n:Nat),xs.drop j=r→r.length < n→z34_48_l2 N rc (z34_48_r rc N) xs c0 c3 n seen (j:Int)=some (true,seen):=by
   intro r
   induction r with
   | nil =>
    intro j n h hn
    obtain ⟨n,rfl⟩:∃ m,n=m+1:=⟨n-1,by simp at hn;omega⟩
    simp only [z34_48_l2,lt_f (drop_nil h),cF,z34_48_k1]
   | cons x r ih =>
    intro j n h hn
    obtain ⟨n,rfl⟩:∃ m,n=m+1:=⟨n-1,by simp at hn;omega⟩
    obtain ⟨a,c,d⟩:=drop_cons h
    obtain ⟨p5,p6,_⟩:=(plI_eq x).1 (plL_mem hp (List.mem_of_getElem? c))
    simp only [z34_48_l2,lt_t a,cT,idx_nat,c,bS]
    rw [show (x.Kind==(6:Int))=false by simpa using p6,cF,inner j x _ c]
    exact ih (j+1) n d (by simp at hn;omega)
  exact key _ 0 N rfl (by rw [List.drop_zero];omega)
end Gp
end
section
namespace Gp
open Go Go.Kx Gx
theorem cLL_len:∀ l:List (List T15),cLL l=(l.map cL).sum
 | []=>rfl
 | x::l=>by simp only [cLL,List.map_cons,List.sum_cons,cLL_len l]
theorem cL_of:∀ l:List T15,cL l=l.length+(l.map fun x=>cLL x.Blocks).sum
 | []=>rfl
 | x::l=>by
  simp only [cL,List.map_cons,List.sum_cons,List.length_cons,cL_of l]
  rw [cI_eq];omega
theorem foldI {α:Type} (f:α→Nat):∀ (l:List α) (s:Int),l.foldl (fun s b=>s+(f b:Int)) s=s+((l.map f).sum:Int)
 | [],s=>by simp
 | b::l,s=>by rw [List.foldl_cons,foldI f l,List.map_cons,List.sum_cons];push_cast;omega
theorem counted_eq:∀ (N:Nat) (xs:List T15),4194306+dL xs≤N→xs.length≤4194304→bL xs→cL xs≤1099511627776→z40_r N xs=some ((cL xs:Nat):Int)
 | 0,_,h,_,_,_=>by omega
 | N+1,xs,h,hs,hb,hc=>by
  show z40_b N (z40_r N) xs=_
  unfold z40_b
  have inner:∀ (k:Nat) (x:T15) (s:Int) (ag:Int→Int→Option Int),xs[k]? = some x→0≤s→s+(cLL x.Blocks:Int)≤1099511627776 →
    z40_l4 (z40_r N) (k:Int) ag x N s (0:Int)=ag (s+(cLL x.Blocks:Int)) ((k+1:Nat):Int):=by
   intro k x s ag hx h0 hle
   have hm:=List.mem_of_getElem? hx
   have hbx:=(bI_eq _).1 (bL_mem hb hm)
   have hdx:=dL_mem hm
   rw [dI_eq] at hdx
   have hk:=get_lt hx
   rw [cLL_len] at hle ⊢
   have:=(fold_loop x.Blocks (z40_l4 (z40_r N) (k:Int) ag x) (fun s b=>s+(cL b:Int)) (fun s=>ag s ((k+1:Nat):Int))
    (fun j s=>0≤s∧s+(((x.Blocks.drop j).map cL).sum:Int)≤1099511627776) (fun n j s b hi hj=>?_) (fun n j s hi hj=>?_) (N:=N) (s:=s) (by omega) ⟨h0,by rw [List.drop_zero];exact hle⟩).1
   ·rw [this,foldI]
   ·obtain ⟨h1,h2⟩:=hi
    rw [drop_get hj,List.map_cons,List.sum_cons] at h2
    have hmb:=List.mem_of_getElem? hj
    have hbb:=bLL_mem hbx.2.2 hmb
    have hdb:=dLL_mem hmb
    have e:=counted_eq N b (by omega) hbb.1 hbb.2 (by push_cast at h2;omega)
    refine ⟨?_,by omega,by push_cast at h2;omega⟩
    simp only [z40_l4,lt_t (get_lt hj),cT,idx_nat,hj,bS,e]
    rw [w64_id (by omega) (by push_cast at h2;omega),w64_succ (by have:=get_lt hj;omega)]
   ·simp only [z40_l4,lt_f hj,cF,z40_k3]
    rw [w64_succ (by omega)]
  rw [cL_of] at hc ⊢
  have:=(fold_loop xs (z40_l2 N (z40_r N) xs) (fun s x=>s+(cLL x.Blocks:Int)) (fun s=>some s)
   (fun j s=>0≤s∧s+(((xs.drop j).map fun x=>cLL x.Blocks).sum:Int)≤1099511627776) (fun n k s x hi hx=>?_) (fun n k s hi hk=>?_) (N:=N) (s:=(xs.length:Int)) (by omega) ⟨by omega,by rw [List.drop_zero];push_cast at hc ⊢;omega⟩).1
  ·rw [this,foldI fun x:T15=>cLL x.Blocks];push_cast;rfl
  ·obtain ⟨h1,h2⟩:=hi
   rw [drop_get hx,List.map_cons,List.sum_cons] at h2
   refine ⟨?_,by omega,by push_cast at h2;omega⟩
   simp only [z40_l2,lt_t (get_lt hx),cT,idx_nat,hx,bS]
   rw [inner k x s _ hx h1 (by push_cast at h2;omega)]
  ·simp only [z40_l2,lt_f hk,cF,z40_k1]
end Gp
end
section
namespace Gp
open Go Go.Kx Gx
theorem cat_nil {s:ByteArray} (h:(bs s).length≤1000):catS (str []) s=some s:=by
 rw [cat_eq (by rw [bs_str];simp;omega),bs_str,List.nil_append,mkB_bs]
theorem term_nil (N:Nat) {t:T18} (h:TermP t):z94_49 N t ⟨[],str []⟩=some t:=by
 unfold z94_49
 cases hb:(t.Message.toList==(str []).toList) with
 | true=>rfl
 | false =>
  rw [Bool.not_false,cT]
  have:(bs t.Message).length≤50:=(termP_len h).1
  rw [cat_nil (by omega)];rfl
theorem snoc_id {α:Type} (l:List α):l.foldl (fun s x=>s++[x]) []=l:=by
 have:=snoc_fold (fun x:α=>x) l []
 rw [this];simp
theorem messages_nil {N:Nat} (hN:4194304 < N) (l:List T16) (hl:l.length≤4194304) (h:∀ m∈l,MsgP m):z37 N ⟨[],str []⟩ l=some l:=by
 unfold z37
 have:=(fold_loop l (z37_l2 N ⟨[],str []⟩ l) (fun s x=>s++[x]) (fun s=>some s)
  (fun j s=>s.length=j) (fun n k s x hi hx=>?_) (fun n k s hi hk=>?_) (N:=N) (s:=[]) (by omega) rfl).1
 ·rw [this,snoc_id]
 ·have hk:=get_lt hx
  have hm:=h x (List.mem_of_getElem? hx)
  obtain ⟨m1,m2,m3,m4,m5⟩:=hm
  refine ⟨?_,by simp [hi]⟩
  simp only [z37_l2,lt_t hk,cT,idx_nat,hx,bS]
  rw [cat_nil (by have:=path_len m1;omega),bS]
  unfold z95
  rw [appL_some (by simp;omega),List.nil_append,bS,bS]
  have:=(fold_loop x.Where (z37_l4 N ⟨[],str []⟩ s (k:Int) (z37_l2 N ⟨[],str []⟩ l n) x x.Name x.Fields) (fun s y=>s++[y]) (fun w=>z37_k3 s (k:Int) (z37_l2 N ⟨[],str []⟩ l n) x.Name x.Fields w)
   (fun j s=>s.length=j) (fun n j s y hi hj=>?_) (fun n j s hi hj=>?_) (N:=N) (s:=[]) (by omega) rfl).1
  ·rw [this,snoc_id]
   unfold z37_k3
   rw [appL_some (by simp;omega),bS,w64_succ (by omega)]
  ·have hj2:=get_lt hj
   obtain ⟨a1,a2,a3⟩:=m5 y (List.mem_of_getElem? hj)
   refine ⟨?_,by simp [hi]⟩
   simp only [z37_l4,lt_t hj2,cT,idx_nat,hj,bS,term_nil N a1,term_nil N a2]
   rw [appL_some (by simp;omega),bS,w64_succ (by omega)]
  ·simp only [z37_l4,lt_f hj,cF]
 ·simp only [z37_l2,lt_f hk,cF,z37_k1]
end Gp
end
section
namespace Gp
open Go Go.Kx Gx
theorem sub_app:∀ (a b:List T15),dL a≤dL (a++b)∧cL a≤cL (a++b)∧(bL (a++b)→bL a)
 | [],b=>⟨by simp only [dL];omega,by simp only [cL];omega,fun _=>by simp only [bL]⟩
 | x::a,b=>by
  obtain ⟨h1,h2,h3⟩:=sub_app a b
  refine ⟨by simp only [List.cons_append,dL];omega,by simp only [List.cons_append,cL];omega,fun h=>?_⟩
  simp only [List.cons_append,bL] at h ⊢
  exact ⟨h.1,h3 h.2⟩
theorem cL_item:∀ {l:List T15} {x},x∈l→cLL x.Blocks+1≤cL l
 | y::l,x,h=>by
  simp only [cL]
  rcases List.mem_cons.1 h with rfl | h
  ·rw [cI_eq];omega
  ·have:=cL_item h;omega
theorem cLL_item:∀ {l:List (List T15)} {x},x∈l→cL x≤cLL l
 | y::l,x,h=>by
  simp only [cLL]
  rcases List.mem_cons.1 h with rfl | h
  ·omega
  ·have:=cLL_item h;omega
theorem items_plain (rc:T2→ByteArray→Option (T17 × Bool × T2)) (A D:List (ByteArray × T17)) (nm:ByteArray) (ro:List ByteArray) (ms:List T16) (bo:List T15) (hms:ms.length≤40) :
  ∀ (N:Nat) (xs:List T15),4194307+dL xs≤N→xs.length≤4194304→bL xs→plL xs→cL xs≤300→z38_50_r rc N xs ⟨A,D⟩ true ⟨nm,ro,ms,bo⟩=some (xs,⟨A,D⟩,true,⟨nm,ro,ms,bo⟩)
 | 0,_,h,_,_,_,_=>by omega
 | N+1,xs,h,hs,hb,hp,hc=>by
  show z38_50_b N rc (z38_50_r rc N) xs ⟨A,D⟩ true ⟨nm,ro,ms,bo⟩=_
  unfold z38_50_b
  have key:∀ (r s:List T15) (n:Nat),xs=s++r→r.length < n→z38_50_l2 N rc (z38_50_r rc N) xs n A D true nm ro ms bo s (s.length:Int)=some (xs,⟨A,D⟩,true,⟨nm,ro,ms,bo⟩):=by
   intro r
   induction r with
   | nil =>
    intro s n e hn
    obtain ⟨n,rfl⟩:∃ m,n=m+1:=⟨n-1,by simp at hn;omega⟩
    rw [List.append_nil] at e
    subst e
    simp only [z38_50_l2,lt_f (Nat.le_refl _),cF,z38_50_k1]
   | cons x r ih =>
    intro s n e hn
    obtain ⟨n,rfl⟩:∃ m,n=m+1:=⟨n-1,by simp at hn;omega⟩
    have hk:s.length < xs.length:=by rw [e];simp
    have hx:xs[s.length]? = some x:=by rw [e];simp
    have hm:=List.mem_of_getElem? hx
    have hbx:=(bI_eq _).1 (bL_mem hb hm)
    have hdx:=dL_mem hm
    rw [dI_eq] at hdx
    have hcx:=cL_item hm
    obtain ⟨p5,p6,pb⟩:=(plI_eq x).1 (plL_mem hp hm)
    simp only [z38_50_l2,lt_t hk,cT,idx_nat,hx,bS]
    rw [show (x.Kind==(6:Int))=false by simpa using p6,cF,show (x.Kind==(5:Int))=false by simpa using p5,cF]
    unfold z36
    rw [appL_some (by have:=hbx.1;simp;omega),List.nil_append,bS,bS]
    have bl:∀ (q:List (List T15)) (t:List (List T15)) (m:Nat),x.Blocks=t++q→q.length < m →
      z38_50_l10 N (z38_50_r rc N) s (s.length:Int) (z38_50_l2 N rc (z38_50_r rc N) xs n) x x.To m A D true nm ro ms bo t (t.length:Int) =
      z38_50_k9 N s (s.length:Int) (z38_50_l2 N rc (z38_50_r rc N) xs n) x x.To A D true nm ro ms bo x.Blocks:=by
     intro q
     induction q with
     | nil =>
      intro t m e2 hm2
      obtain ⟨m,rfl⟩:∃ z,m=z+1:=⟨m-1,by simp at hm2;omega⟩
      rw [List.append_nil] at e2
      rw [e2]
      simp only [z38_50_l10,e2,lt_f (Nat.le_refl _),cF]
     | cons b q ihq =>
      intro t m e2 hm2
      obtain ⟨m,rfl⟩:∃ z,m=z+1:=⟨m-1,by simp at hm2;omega⟩
      have hk2:t.length < x.Blocks.length:=by rw [e2];simp
      have hx2:x.Blocks[t.length]? = some b:=by rw [e2];simp
      have hmb:=List.mem_of_getElem? hx2
      have hbb:=bLL_mem hbx.2.2 hmb
      have hdb:=dLL_mem hmb
      have hcb:=cLL_item hmb
      have e3:=items_plain rc A D nm ro ms bo hms N b (by omega) hbb.1 hbb.2 (plLL_mem pb hmb) (by omega)
      simp only [z38_50_l10,lt_t hk2,cT,idx_nat,hx2,bS,e3]
      have hbl:=hbx.2.1
      rw [appL_some (by simp;omega),bS,w64_succ (by omega)]
      have:=ihq (t++[b]) m (by rw [e2];simp) (by simp at hm2;omega)
      rw [show (t++[b]).length=t.length+1 by simp] at this
      exact this
    have hb0:=bl x.Blocks [] N rfl (by have:=hbx.2.1;omega)
    have hb0:z38_50_l10 N (z38_50_r rc N) s (s.length:Int) (z38_50_l2 N rc (z38_50_r rc N) xs n) x x.To N A D true nm ro ms bo [] (0:Int)=_:=hb0
    rw [hb0]
    unfold z38_50_k9 z38_50_k3
    have ex:(⟨x.Kind,x.From,x.To,x.Name,x.As,x.Ticks,x.Blocks⟩:T15)=x:=by cases x;rfl
    rw [ex,appL_some (by simp;omega),bS]
    have e4:xs=(s++[x])++r:=by rw [e];simp
    obtain ⟨g1,g2,g3⟩:=sub_app (s++[x]) r
    rw [← e4] at g1 g2 g3
    have hct:z40 N (s++[x])=some ((cL (s++[x]):Nat):Int):=counted_eq N _ (by omega) (by simp;omega) (g3 hb) (by omega)
    rw [hct,bS,dF (by omega:¬ ((cL (s++[x]):Nat):Int) > 300),cF,dF (by omega:¬ (ms.length:Int) > 40),cF]
    simp only [Bool.not_true,cF]
    rw [w64_succ (by omega)]
    have:=ih (s++[x]) n e4 (by simp at hn;omega)
    rw [show (s++[x]).length=s.length+1 by simp] at this
    exact this
  exact key xs [] N rfl (by omega)
end Gp
end
section
namespace Gp
open Go Go.Kx Gx
mutual
theorem pl_cnI:∀ x,plI x→cnI x=[]
 | ⟨k,f,t,n,a,x,b⟩,h=>by
  simp only [plI] at h
  simp only [cnI,hereC]
  rw [if_neg h.2.1,pl_cnLL b h.2.2];rfl
theorem pl_cnL:∀ l,plL l→cnL l=[]
 | [],_=>rfl
 | x::l,h=>by
  simp only [plL] at h
  simp only [cnL,pl_cnI x h.1,pl_cnL l h.2];rfl
theorem pl_cnLL:∀ l,plLL l→cnLL l=[]
 | [],_=>rfl
 | x::l,h=>by
  simp only [plLL] at h
  simp only [cnLL,pl_cnL x h.1,pl_cnLL l h.2];rfl
end
theorem np_one {l:List T17} (hn:NoProb l) {p} (hp:p∈l) (hc:cnL p.Body=[]):NoProb [p] :=
 np_sub (List.singleton_sublist.2 hp) hn fun q hq b hb=>by
  rw [List.mem_singleton.1 hq,hc] at hb;cases hb
theorem expand_plain {N:Nat} {l:List T17} (hz:Zs N l) (hn:NoProb l) {p:T17} (hp:p∈l) (hpl:plL p.Body):z8 N l p.Name=some (p,0):=by
 have hN:=hz.n
 obtain ⟨bp,bd1,bd2⟩:=hz.p p hp
 obtain ⟨_,wr,wm,_,_,wc,wms⟩:=hn.1.2.1 p hp
 obtain ⟨r,r1,r2,_⟩:=check_np _ hz
 unfold z8
 rw [r1,bS,r2.2 hn,show ((0:Int) != 0)=false from rfl,cF,expand_all (by omega) l _ hz.len]
 have hg:mget (allM l []) p.Name=some p:=by
  rw [mget_all p.Name l [] hn.2.1 (fun _ _=>rfl),find_mem hn.2.1 hp];rfl
 unfold z8_k1
 rw [hg]
 simp only [bS,Option.isSome_some,Option.getD_some,Bool.not_true,cF]
 obtain ⟨M,rfl⟩:∃ M,N=M+1:=⟨N-1,by omega⟩
 have hsep:z16 (M+1) ⟨allM l [],[]⟩ p.Name []=some (true,mput [] p.Name true):=by
  show z16_b M (z16_r M) ⟨allM l [],[]⟩ p.Name []=_
  unfold z16_b z34_48
  simp only [mget,hg,bS,Option.getD_none,Option.getD_some,cF]
  rw [sep_plain _ _ _ _ M p.Body (by omega) bp.l bp.b hpl]
  rfl
 have hexp:z17 (M+1) ⟨allM l [],[]⟩ p.Name=some (p,true,⟨allM l [],mput [] p.Name p⟩):=by
  show z17_b M (z17_r M) ⟨allM l [],[]⟩ p.Name=_
  unfold z17_b z38_50 z36
  simp only [mget,hg,bS,Option.getD_none,Option.getD_some,Option.isSome_none,cF]
  rw [appL_some (by have:=bp.r;simp;omega),List.nil_append,bS,bS,messages_nil (by omega) p.Messages bp.m wms,bS,
   items_plain _ (allM l []) [] p.Name p.Roles p.Messages [] wm M p.Body (by omega) bp.l bp.b hpl wc,bS]
  rfl
 rw [hsep]
 simp only [bS,Bool.not_true,cF]
 rw [hexp]
 simp only [bS,Bool.not_true,cF]
 have h1:=np_one hn hp (pl_cnL _ hpl)
 have hz1:=hz.sub (m:=[p]) (fun q hq=>by rw [List.mem_singleton.1 hq];exact hp) (by simp) (by
  have:=cAll_sub (List.singleton_sublist.2 hp);have:=hz.all;omega)
 obtain ⟨v,v1,v2⟩:=valid_dq (N:=M+1) (by omega) _ hz1.len fun q hq=>(hz1.p q hq).1
 rw [v1,v2.2 h1.1,bS,Bool.not_true,cF]
 obtain ⟨s,s1,s2,_⟩:=check_np _ hz1
 rw [s1,bS,s2.2 h1]
 rfl
end Gp
end
section
namespace Gp
open Go Go.Kx Gx
theorem kinds_ok:∀ (N:Nat) (xs:List T10),4194306+dL (oL xs)≤N→xs.length≤4194304→bL (oL xs)→cL (oL xs)≤4194304 →
  ∃ a b:Int,z12_r N xs=some (a,b)∧0≤a∧0≤b∧a+b≤(cL (oL xs):Int)∧(a+b=0→plL (oL xs))
 | 0,_,h,_,_,_=>by omega
 | N+1,xs,h,hs,hb,hc=>by
  show ∃ a b:Int,z12_b N (z12_r N) xs=_∧_
  unfold z12_b
  have inner:∀ (k:Nat) (x:T10) (ag:Int→Int→Int→Option (Int × Int)),xs[k]? = some x→∀ (r:List (List T10)) (j n:Nat) (s t:Int),x.Blocks.drop j=r→r.length < n→0≤s→0≤t→s+t+(cLL (oLL r):Int)≤8388608 →
    ∃ a b:Int,z12_l4 (z12_r N) (k:Int) ag x n s t (j:Int)=ag a b ((k+1:Nat):Int)∧s≤a∧t≤b∧a+b≤s+t+(cLL (oLL r):Int)∧(a+b=s+t→plLL (oLL r)):=by
   intro k x ag hx r
   have hm:=List.mem_of_getElem? hx
   have hbx:=(bI_eq _).1 (bL_mem hb (oL_in hm))
   rw [oI_blocks,oLL_len] at hbx
   have hdx:=dL_mem (oL_in hm)
   rw [dI_eq,oI_blocks] at hdx
   have hk:=get_lt hx
   induction r with
   | nil =>
    intro j n s t h hn h0 h1 hle
    obtain ⟨n,rfl⟩:∃ m,n=m+1:=⟨n-1,by simp at hn;omega⟩
    refine ⟨s,t,?_,by omega,by omega,by omega,fun _=>by simp only [oLL,plLL]⟩
    simp only [z12_l4,lt_f (drop_nil h),cF,z12_k3]
    rw [w64_succ (by omega)]
   | cons y r ih =>
    intro j n s t h hn h0 h1 hle
    obtain ⟨n,rfl⟩:∃ m,n=m+1:=⟨n-1,by simp at hn;omega⟩
    obtain ⟨u,c,d⟩:=drop_cons h
    have hmb:=List.mem_of_getElem? c
    have hbb:=bLL_mem hbx.2.2 (oLL_in hmb)
    have hdb:=dLL_mem (oLL_in hmb)
    rw [oL_len] at hbb
    simp only [oLL,cLL] at hle ⊢
    push_cast at hle
    have hcm:=cL_item (oL_in hm)
    rw [oI_blocks] at hcm
    have hcb:=cLL_item (oLL_in hmb)
    obtain ⟨a,b,e,a0,b0,ab,pl⟩:=kinds_ok N y (by omega) hbb.1 hbb.2 (by omega)
    obtain ⟨a',b',e',a1,b1,ab',pl'⟩:=ih (j+1) n (s+a) (t+b) d (by simp at hn;omega) (by omega) (by omega) (by omega)
    refine ⟨a',b',?_,by omega,by omega,by push_cast;omega,fun hh=>?_⟩
    ·simp only [z12_l4,lt_t u,cT,idx_nat,c,bS,e]
     rw [w64_id (by omega) (by omega),w64_id (by omega) (by omega),w64_succ (by omega)]
     exact e'
    ·simp only [plLL]
     exact ⟨pl (by omega),pl' (by omega)⟩
  have key:∀ (r:List T10) (j n:Nat) (s t:Int),xs.drop j=r→r.length < n→0≤s→0≤t→s+t+(cL (oL r):Int)≤4194304 →
    ∃ a b:Int,z12_l2 N (z12_r N) xs n s t (j:Int)=some (a,b)∧s≤a∧t≤b∧a+b≤s+t+(cL (oL r):Int)∧(a+b=s+t→plL (oL r)):=by
   intro r
   induction r with
   | nil =>
    intro j n s t h hn h0 h1 hle
    obtain ⟨n,rfl⟩:∃ m,n=m+1:=⟨n-1,by simp at hn;omega⟩
    refine ⟨s,t,?_,by omega,by omega,by omega,fun _=>by simp only [oL,plL]⟩
    simp only [z12_l2,lt_f (drop_nil h),cF,z12_k1]
   | cons x r ih =>
    intro j n s t h hn h0 h1 hle
    obtain ⟨n,rfl⟩:∃ m,n=m+1:=⟨n-1,by simp at hn;omega⟩
    obtain ⟨u,c,d⟩:=drop_cons h
    have hm:=List.mem_of_getElem? c
    have hbx:=(bI_eq _).1 (bL_mem hb (oL_in hm))
    rw [oI_blocks,oLL_len] at hbx
    simp only [oL,cL] at hle ⊢
    rw [cI_eq,oI_blocks] at hle ⊢
    push_cast at hle ⊢
    have hkd:(oI x).Kind=x.Kind:=by rw [oI_eq]
    have fin:∀ (s1 t1:Int),s≤s1→t≤t1→s1+t1≤s+t+1→(s1+t1=s+t→x.Kind≠5∧x.Kind≠6)→∃ a b:Int,z12_k5 N (z12_r N) (j:Int) (z12_l2 N (z12_r N) xs n) x s1 t1=some (a,b)∧s≤a∧t≤b∧a+b≤s+t+((cLL (oLL x.Blocks):Int)+1+(cL (oL r):Int))∧(a+b=s+t→plI (oI x)∧plL (oL r)):=by
     intro s1 t1 hs1 ht1 hst hkk
     obtain ⟨a,b,e,a1,b1,ab,pl⟩:=inner j x (z12_l2 N (z12_r N) xs n) c x.Blocks 0 N s1 t1 rfl (by omega) (by omega) (by omega) (by omega)
     obtain ⟨a',b',e',a2,b2,ab',pl'⟩:=ih (j+1) n a b d (by simp at hn;omega) (by omega) (by omega) (by omega)
     refine ⟨a',b',?_,by omega,by omega,by omega,fun hh=>⟨?_,pl' (by omega)⟩⟩
     ·unfold z12_k5
      exact e.trans e'
     ·rw [plI_eq,oI_blocks,hkd]
      have:=hkk (by omega)
      exact ⟨this.1,this.2,pl (by omega)⟩
    simp only [z12_l2,lt_t u,cT,idx_nat,c,bS,z12_k6,plL]
    by_cases h6:x.Kind=6
    ·rw [show (x.Kind==(6:Int))=true by simpa using h6,cT,show (x.Kind==(5:Int))=false by simp [h6],cF,w64_id (by omega) (by omega)]
     exact fin (s+1) t (by omega) (by omega) (by omega) (fun hh=>by omega)
    ·rw [show (x.Kind==(6:Int))=false by simpa using h6,cF]
     by_cases h5:x.Kind=5
     ·rw [show (x.Kind==(5:Int))=true by simpa using h5,cT,w64_id (by omega) (by omega)]
      exact fin s (t+1) (by omega) (by omega) (by omega) (fun hh=>by omega)
     ·rw [show (x.Kind==(5:Int))=false by simpa using h5,cF]
      exact fin s t (by omega) (by omega) (by omega) (fun _=>⟨h5,h6⟩)
  obtain ⟨a,b,e,a1,b1,ab,pl⟩:=key xs 0 N 0 0 rfl (by rw [show xs.length=xs.length from rfl];omega) (by omega) (by omega) (by omega)
  exact ⟨a,b,e,a1,b1,by omega,fun h=>pl (by omega)⟩
end Gp
end
section
namespace Gp
open Go Go.Kx Gx
theorem few12_ok {N:Nat} (hN:4194304 < N) (l:List T12) (hs:l.length≤4194304) (hb:∀ p∈l,RP p∧4194306+dL (oL p.Body)≤N) (hc:cPs l≤4194304) (hcm:∀ p∈l,cL (oL p.Body)≤4194304):∃ b,z9 N l=some b:=by
 unfold z9
 have key:∀ (m:List T12) (k n:Nat),l.drop k=m→m.length < n→∃ b,z9_l2 N l n (k:Int)=some b:=by
  intro m
  induction m with
  | nil =>
   intro j n h hn
   obtain ⟨n,rfl⟩:∃ m,n=m+1:=⟨n-1,by simp at hn;omega⟩
   simp only [z9_l2,lt_f (drop_nil h),cF,z9_k1]
   rw [bind_id]
   obtain ⟨b,e,_⟩:=few_dq hN l hs hb (by omega)
   exact ⟨b,e⟩
  | cons p m ih =>
   intro k n h hn
   obtain ⟨n,rfl⟩:∃ m,n=m+1:=⟨n-1,by simp at hn;omega⟩
   obtain ⟨a,c,d⟩:=drop_cons h
   have hm:=List.mem_of_getElem? c
   obtain ⟨h1,h2⟩:=hb p hm
   obtain ⟨u,v,e,_⟩:=kinds_ok N p.Body h2 (RP_l h1) h1.b (hcm p hm)
   have e:z12 N p.Body=some (u,v):=e
   simp only [z9_l2,lt_t a,cT,idx_nat,c,bS,e]
   cases decide (u > 3) with
   | true=>exact ⟨_,rfl⟩
   | false =>
    rw [cF,w64_succ (by omega)]
    exact ih (k+1) n d (by simp at hn;omega)
 exact key _ 0 N rfl (by rw [List.drop_zero];omega)
end Gp
end
section
namespace Gp
open Go Go.Kx Gx
theorem same_law {N:Nat} (l:List T12) (a:Int) (h0:0≤a) (h1:a≤255) (hw:z7 N=some true) (hl:l.length≤4194304)
  (hb:∀ p∈l,RP p∧8388611+dL (oL p.Body)≤N∧dL (oL p.Body)≤4194304) (hc:cPs l≤4194304) (hcm:∀ p∈l,cL (oL p.Body)≤4194304) (hN:8388611 < N):law12_ExpandSame N l a=some true:=by
 have hN':4194304 < N:=by omega
 have hb':∀ p∈l,RP p∧4194306+dL (oL p.Body)≤N:=fun p hp=>⟨(hb p hp).1,by have:=(hb p hp).2.1;omega⟩
 obtain ⟨f,e⟩:=few12_ok hN' l hl hb' hc hcm
 unfold law12_ExpandSame
 simp only [hw,bS,Bool.not_true,cF,e]
 cases f
 ·rfl
 simp only [Bool.not_true,cF]
 by_cases hl0:l.length=0
 ·rw [show ((l.length:Int)==0)=true by simp;exact List.length_eq_zero_iff.1 hl0,cT]
 rw [show ((l.length:Int)==0)=false by simp;intro e;exact hl0 (by rw [e];rfl),cF]
 rw [own_eq hN' l hl hb',bS]
 have hz:=zs_own (N:=N) hl hb hc hN
 obtain ⟨r,r1,r2,_⟩:=check_np _ hz
 obtain ⟨k,hk,e2⟩:=rem_ok h0 h1 (Nat.pos_of_ne_zero hl0)
 obtain ⟨p,hp⟩:∃ p,l[k]? = some p:=⟨l[k],List.getElem?_eq_getElem hk⟩
 have hpo:(l.map oP)[k]? = some (oP p):=by rw [List.getElem?_map,hp];rfl
 have hpm:=List.mem_of_getElem? hp
 have hpom:=List.mem_of_getElem? hpo
 obtain ⟨q1,q2⟩:=hb' p hpm
 obtain ⟨u,v,e3,u0,v0,uv,pl⟩:=kinds_ok N p.Body q2 (RP_l q1) q1.b (hcm p hpm)
 have hcp:=hcm p hpm
 have e3:z12 N p.Body=some (u,v):=e3
 rw [e2,bS,idx_nat,hp,bS,e3,bS,r1,bS]
 by_cases hr:r.Err=0
 ·rw [show (r.Err != (0:Int))=false by simpa using hr,cF,w64_id (by omega) (by omega)]
  by_cases huv:u+v > 0
  ·rw [dT huv];rfl
  ·rw [dF huv,cF]
   have hn:=r2.1 hr
   rw [idx_nat,hpo,bS,expand_plain hz hn hpom (pl (by omega)),bS,show (((oP p),(0:Int)).2==0)=true from rfl,cT,w64_suc (by omega),lsl_fr (by omega) (by simp;omega),bS]
   have hsl:((l.map oP).take (k+1)).drop k=[oP p]:=by
    rw [take_suc hpo,List.drop_append_of_le_length (by rw [List.length_take];simp;omega),List.drop_eq_nil_of_le (by rw [List.length_take];omega)];rfl
   rw [hsl]
   obtain ⟨b,b1,b2⟩:=equal_dq (N:=N) hN' [oP p] [oP p] (by simp) (fun q hq=>by rw [List.mem_singleton.1 hq];exact ⟨q1,q2⟩)
   rw [b1,b2.2 rfl];rfl
 ·rw [show (r.Err != (0:Int))=true by simpa using hr,cT]
end Gp
end
section
namespace Gx
open Go Go.Kx
def k_api_Sort (x:T1):Prop:=((Lit.int .i64 x.Kind).wf=true)∧((Lit.int .i64 x.Lo).wf=true)∧((Lit.int .i64 x.Hi).wf=true)
def k_api_Field (x:T0):Prop:=(x.Name.size≤bd)∧(k_api_Sort x.Sort')
def k_ref10_Term (x:T18):Prop:=((Lit.int .i64 x.Kind).wf=true)∧(x.Message.size≤bd)∧(x.Field.size≤bd)∧((Lit.int .i64 x.N).wf=true)
def k_ref10_Atom (x:T9):Prop:=(k_ref10_Term x.Left)∧(x.Op.size≤bd)∧(k_ref10_Term x.Right)
def k_ref10_Message (x:T11):Prop:=(x.Name.size≤bd)∧(x.Fields.length≤bd∧∀ y∈x.Fields,k_api_Field y)∧(x.Where.length≤bd∧∀ y∈x.Where,k_ref10_Atom y)
mutual
def k_ref10_Item:T10→Prop
 | ⟨a0,a1,a2,a3,a4,a5,a6⟩=>((Lit.int .i64 a0).wf=true)∧(a1.size≤bd)∧(a2.length≤bd∧∀ y∈a2,y.size≤bd)∧(a3.size≤bd)∧(a4.size≤bd)∧((Lit.int .i64 a5).wf=true)∧(a6.length≤bd∧kLL_ref10_Item a6)
def kL_ref10_Item:List T10→Prop
 | []=>True
 | x::l=>k_ref10_Item x∧kL_ref10_Item l
def kLL_ref10_Item:List (List T10)→Prop
 | []=>True
 | x::l=>(x.length≤bd∧kL_ref10_Item x)∧kLL_ref10_Item l
end
mutual
def w_ref10_Item:T10→Nat
 | ⟨_,_,_,_,_,_,a6⟩=>wLL_ref10_Item a6+1
def wL_ref10_Item:List T10→Nat
 | []=>0
 | x::l=>w_ref10_Item x+wL_ref10_Item l
def wLL_ref10_Item:List (List T10)→Nat
 | []=>0
 | x::l=>wL_ref10_Item x+wLL_ref10_Item l
end
theorem wL_ref10_Item_eq:∀ l,wL_ref10_Item l=wsum w_ref10_Item l
 | []=>by simp only [wL_ref10_Item,wsum]
 | x::l=>by simp only [wL_ref10_Item,wsum];rw [wL_ref10_Item_eq l]
theorem kL_ref10_Item_of:∀ l,(∀ x∈l,k_ref10_Item x)→kL_ref10_Item l
 | [],_=>by simp only [kL_ref10_Item]
 | x::l,h=>by simp only [kL_ref10_Item];exact ⟨h x (List.mem_cons_self ..),kL_ref10_Item_of l fun y hy=>h y (List.mem_cons_of_mem _ hy)⟩
theorem wLL_ref10_Item_eq:∀ l,wLL_ref10_Item l=wsum (wsum w_ref10_Item) l
 | []=>by simp only [wLL_ref10_Item,wsum]
 | x::l=>by simp only [wLL_ref10_Item,wsum];rw [wLL_ref10_Item_eq l,wL_ref10_Item_eq]
theorem kLL_ref10_Item_of:∀ l,(∀ x∈l,x.length≤bd∧∀ y∈x,k_ref10_Item y)→kLL_ref10_Item l
 | [],_=>by simp only [kLL_ref10_Item]
 | x::l,h=>by simp only [kLL_ref10_Item];exact ⟨⟨(h x (List.mem_cons_self ..)).1,kL_ref10_Item_of x (h x (List.mem_cons_self ..)).2⟩,kLL_ref10_Item_of l fun y hy=>h y (List.mem_cons_of_mem _ hy)⟩
def k_ref10_Protocol (x:T12):Prop:=(x.Name.size≤bd)∧(x.Roles.length≤bd∧∀ y∈x.Roles,y.size≤bd)∧(x.Messages.length≤bd∧∀ y∈x.Messages,k_ref10_Message y)∧(x.Body.length≤bd∧∀ y∈x.Body,k_ref10_Item y)
def w_ref10_Protocol (x:T12):Nat:=wsum w_ref10_Item x.Body
end Gx
end
section
namespace Gp
open Go Go.Kx Gx
set_option maxRecDepth 100000
theorem awake_some (k:Nat):z7 (k+300)=some true:=by kernel_rfl
mutual
theorem cw_I:∀ x,cI (oI x)=w_ref10_Item x
 | ⟨k,f,t,n,a,x,b⟩=>by simp only [oI,cI,w_ref10_Item,cw_LL b]
theorem cw_L:∀ l,cL (oL l)=wL_ref10_Item l
 | []=>by simp only [oL,cL,wL_ref10_Item]
 | x::l=>by simp only [oL,cL,wL_ref10_Item,cw_I x,cw_L l]
theorem cw_LL:∀ l,cLL (oLL l)=wLL_ref10_Item l
 | []=>by simp only [oLL,cLL,wLL_ref10_Item]
 | x::l=>by simp only [oLL,cLL,wLL_ref10_Item,cw_L x,cw_LL l]
end
mutual
theorem bk_I:∀ x,k_ref10_Item x→bI (oI x)
 | ⟨k,f,t,n,a,x,b⟩,h=>by
  simp only [k_ref10_Item] at h
  simp only [oI,bI]
  rw [oLL_len]
  have h1:=h.2.2.1.1;have h2:=h.2.2.2.2.2.2.1
  unfold bd at h1 h2
  exact ⟨by omega,by omega,bk_LL b h.2.2.2.2.2.2.2⟩
theorem bk_L:∀ l,kL_ref10_Item l→bL (oL l)
 | [],_=>by simp only [oL,bL]
 | x::l,h=>by
  simp only [kL_ref10_Item] at h
  simp only [oL,bL]
  exact ⟨bk_I x h.1,bk_L l h.2⟩
theorem bk_LL:∀ l,kLL_ref10_Item l→bLL (oLL l)
 | [],_=>by simp only [oLL,bLL]
 | x::l,h=>by
  simp only [kLL_ref10_Item] at h
  simp only [oLL,bLL]
  have h1:=h.1.1
  unfold bd at h1
  exact ⟨by rw [oL_len];omega,bk_L x h.1.2,bk_LL l h.2⟩
end
theorem RP_of {p:T12} (h:k_ref10_Protocol p):RP p:=by
 obtain ⟨_,h1,h2,h3⟩:=h
 refine ⟨?_,?_,fun x hx=>?_,?_,?_⟩
 ·have:=h1.1;unfold bd at this;show p.Roles.length≤_;omega
 ·have:=h2.1;unfold bd at this;show (p.Messages.map oM).length≤_;rw [List.length_map];omega
 ·obtain ⟨m,hm,rfl⟩:=List.mem_map.1 hx
  obtain ⟨_,q1,q2⟩:=h2.2 m hm
  have q1:=q1.1;have q2:=q2.1
  unfold bd at q1 q2
  exact ⟨by show m.Fields.length≤_;omega,by show (m.Where.map oA).length≤_;rw [List.length_map];omega⟩
 ·have:=h3.1;unfold bd at this;show (oL p.Body).length≤_;rw [oL_len];omega
 ·exact bk_L _ (kL_ref10_Item_of _ h3.2)
theorem cw_P (p:T12):cL (oL p.Body)=w_ref10_Protocol p:=by
 rw [cw_L,wL_ref10_Item_eq];rfl
theorem cPs_w:∀ l,cPs l=wsum w_ref10_Protocol l
 | []=>rfl
 | p::l=>by
  have:=cPs_w l
  unfold cPs at this ⊢
  simp only [List.map_cons,List.sum_cons,wsum]
  rw [this,cw_P]
theorem le_wsum {α:Type} {f:α→Nat}:∀ {l:List α} {x},x∈l→f x≤wsum f l
 | y::l,x,h=>by
  rcases List.mem_cons.1 h with rfl | h
  ·show _≤f x+_;omega
  ·have:=le_wsum (f:=f) h
   show _≤f y+_;omega
theorem sizes_of {l:List T12} (h:(l.length≤bd∧∀ y∈l,k_ref10_Protocol y)∧wsum w_ref10_Protocol l≤bd) :
  l.length≤4194304∧(∀ p∈l,RP p∧8388611+dL (oL p.Body)≤20000000+300∧dL (oL p.Body)≤4194304)∧cPs l≤4194304:=by
 obtain ⟨⟨h1,h2⟩,h3⟩:=h
 unfold bd at h1 h3
 refine ⟨by omega,fun p hp=>?_,by rw [cPs_w];omega⟩
 have:=dc_L (oL p.Body)
 have:=le_wsum (f:=w_ref10_Protocol) hp
 rw [← cw_P] at this
 exact ⟨RP_of (h2 p hp),by omega,by omega⟩
theorem u8_of {x:Int} (h:(Lit.int .u8 x).wf=true):0≤x∧x≤255:=by
 simp only [Lit.wf,Bool.and_eq_true,decide_eq_true_eq] at h
 have e1:IntKind.u8.min=0:=by decide
 have e2:IntKind.u8.max=255:=by decide
 rw [e1,e2] at h
 exact h
theorem cm_of {l:List T12} (h:wsum w_ref10_Protocol l≤bd):∀ p∈l,cL (oL p.Body)≤4194304:=fun p hp=>by
 have:=le_wsum (f:=w_ref10_Protocol) hp
 unfold bd at h
 rw [cw_P];omega
theorem plain:∀ (x0:(List T12)) (x1:Int),((x0.length≤bd∧∀ y∈x0,k_ref10_Protocol y)∧wsum w_ref10_Protocol x0≤bd)→((Lit.int .u8 x1).wf=true)→∃ N,law12_ExpandSame N x0 x1=some true:=by
 intro l a hl ha
 obtain ⟨a1,a2,a3⟩:=sizes_of hl
 obtain ⟨h0,h1⟩:=u8_of ha
 exact ⟨20000000+300,same_law l a h0 h1 (awake_some _) a1 a2 a3 (cm_of hl.2) (by omega)⟩
end Gp
end
