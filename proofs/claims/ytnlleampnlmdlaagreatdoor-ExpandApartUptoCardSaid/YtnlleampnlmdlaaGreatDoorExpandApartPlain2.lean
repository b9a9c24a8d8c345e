/- The plain law, part 2: what the functions compute answers as the statement says. -/
import Derived.Test.YtnlleampnlmdlaaGreatDoorExpandApartPlain1
set_option linter.all false
section
namespace Gp
open Go Go.Kx Gx
def RangeOk (f:T0):Prop:=f.Sort'.Lo≤f.Sort'.Hi∧(bif f.Sort'.Kind==2 then 0 else -1000)≤f.Sort'.Lo∧f.Sort'.Hi≤(bif f.Sort'.Kind==2 then 40 else 1000)
def FieldsOk (m:T16):Prop:=∀ (j:Nat) f,m.Fields[j]? = some f→(∀ g∈m.Fields.take j,g.Name≠f.Name)∧RangeOk f
def SortsOk (p:T17):Prop:=∀ (k:Nat) m,p.Messages[k]? = some m→(∀ q∈p.Messages.take k,q.Name≠m.Name)∧FieldsOk m
theorem any_name {α:Type} (l:List α) (f:α→ByteArray) (n:ByteArray):(l.any fun x=>(f x).toList==n.toList)=false↔∀ x∈l,f x≠n:=by
 rw [List.any_eq_false]
 exact ⟨fun h x hx e=>h x hx (seq'.2 e),fun h x hx e=>h x hx (seq'.1 e)⟩
set_option maxHeartbeats 1000000 in
theorem sorts_ck {N:Nat} (c:T7) (hs:Sz N c) (hf:∀ m∈c.p'.Messages,m.Fields.length≤4194304):Ck (z26 N c) c (SortsOk c.p') [] 0:=by
 have hN:=hs.n
 have hm:=hs.m
 unfold z26
 -- the range of one field
 have k6:∀ (j:Nat) (f:T0) (c1:T7) (ag),j < 4194304→∃ o,z26_k6 N (j:Int) ag f c1.all' c1.p'.Name c1.p'.Roles c1.p'.Messages c1.p'.Body c1.calls' c1.out'.Protocol c1.out'.Name c1.out'.Err =
   o.bind (fun c2:T7=>ag c2.all' c2.p'.Name c2.p'.Roles c2.p'.Messages c2.p'.Body c2.calls' c2.out'.Protocol c2.out'.Name c2.out'.Err ((j+1:Nat):Int))∧Ck o c1 (RangeOk f) [] 0:=by
  intro j f c1 ag hj
  have k5:∀ lo hi:Int,∃ o,z26_k5 N (j:Int) ag f c1.all' c1.p'.Name c1.p'.Roles c1.p'.Messages c1.p'.Body c1.calls' c1.out'.Protocol c1.out'.Name c1.out'.Err lo hi =
   o.bind (fun c2:T7=>ag c2.all' c2.p'.Name c2.p'.Roles c2.p'.Messages c2.p'.Body c2.calls' c2.out'.Protocol c2.out'.Name c2.out'.Err ((j+1:Nat):Int))∧Ck o c1 (f.Sort'.Lo≤f.Sort'.Hi∧lo≤f.Sort'.Lo∧f.Sort'.Hi≤hi) [] 0:=by
   intro lo hi
   refine ⟨bif decide (f.Sort'.Lo > f.Sort'.Hi) || (decide (f.Sort'.Lo < lo) || decide (f.Sort'.Hi > hi)) then z24 N c1 f.Name 2 else some c1,?_,(Ck.test (by decide)).iff ?_⟩
   ·unfold z26_k5
    rw [w64_suc (by omega)]
    cases decide (f.Sort'.Lo > f.Sort'.Hi)<;>cases decide (f.Sort'.Lo < lo)<;>cases decide (f.Sort'.Hi > hi)<;>rfl
   ·simp only [Bool.or_eq_false_iff,decide_eq_false_iff_not];omega
  unfold z26_k6 RangeOk
  cases (f.Sort'.Kind==2) with
  | true=>exact k5 0 40
  | false=>exact k5 (-1000) 1000
 -- the fields of one message
 have k7:∀ (k:Nat) (m:T16) (c1:T7) (ag),k < 4194304→m.Fields.length≤4194304→∃ o,z26_k7 N (k:Int) ag m c1.all' c1.p'.Name c1.p'.Roles c1.p'.Messages c1.p'.Body c1.calls' c1.out'.Protocol c1.out'.Name c1.out'.Err =
   o.bind (fun c2:T7=>ag c2.all' c2.p'.Name c2.p'.Roles c2.p'.Messages c2.p'.Body c2.calls' c2.out'.Protocol c2.out'.Name c2.out'.Err ((k+1:Nat):Int))∧Ck o c1 (FieldsOk m) [] 0:=by
  intro k m c1 ag hk hfl
  unfold z26_k7
  obtain ⟨o,e,g⟩:=ck_loop m.Fields (fun n c i=>z26_l4 N (k:Int) ag m n c.all' c.p'.Name c.p'.Roles c.p'.Messages c.p'.Body c.calls' c.out'.Protocol c.out'.Name c.out'.Err i)
   (fun c=>z26_k3 (k:Int) ag c.all' c.p'.Name c.p'.Roles c.p'.Messages c.p'.Body c.calls' c.out'.Protocol c.out'.Name c.out'.Err) Option.bind (fun _ _=>rfl)
   (fun j f=>(∀ g∈m.Fields.take j,g.Name≠f.Name)∧RangeOk f) (fun _=>[]) (fun _=>0) c1.all' c1.p' c1.calls'.length
   (fun n j f c2 hj ha hp _=>by
    have hjl:=get_lt hj
    simp only [z26_l4,lt_t hjl,cT,idx_nat,hj,bS,lsl_tk (Nat.le_of_lt hjl)]
    rw [cf_sorts_2 _ f (by rw [List.length_take];omega) (by rw [List.length_take];omega),bS]
    obtain ⟨c3,e3,g3⟩:=Ck.test (N:=N) (b:=(m.Fields.take j).any fun x=>x.Name.toList==f.Name.toList) (c:=c2) (nm:=f.Name) (e:=9) (by decide)
    obtain ⟨o,e4,c4,e5,g4⟩:=k6 j f c3 (fun a b c d e f g h i j=>z26_l4 N (k:Int) ag m n a b c d e f g h i j) (by omega)
    refine ⟨o,?_,c4,e5,(g3.seq g4).iff (and_congr_left' (any_name _ _ _))⟩
    rw [← e4]
    cases hb:(m.Fields.take j).any fun x=>x.Name.toList==f.Name.toList with
    | true=>rw [hb,cT] at e3;rw [cT,e3];rfl
    | false=>rw [hb,cF] at e3;cases e3;rfl)
   (fun n j c2 hj=>by simp only [z26_l4,lt_f hj,cF]) (N:=N) (by omega) c1 rfl rfl (by rw [sum_zero];omega)
  rw [sum_zero,flat_nil] at g
  refine ⟨o,e.trans ?_,g⟩
  congr 1
  funext c2
  unfold z26_k3
  rw [w64_suc (by omega)]
 obtain ⟨o,e,g⟩:=ck_loop c.p'.Messages (fun n c1 i=>z26_l2 N c n c1.all' c1.p'.Name c1.p'.Roles c1.p'.Messages c1.p'.Body c1.calls' c1.out'.Protocol c1.out'.Name c1.out'.Err i)
  (fun c=>z26_k1 c.all' c.p'.Name c.p'.Roles c.p'.Messages c.p'.Body c.calls' c.out'.Protocol c.out'.Name c.out'.Err) Option.bind (fun _ _=>rfl)
  (fun k m=>(∀ q∈c.p'.Messages.take k,q.Name≠m.Name)∧FieldsOk m) (fun _=>[]) (fun _=>0) c.all' c.p' c.calls'.length
  (fun n k m c1 hk ha hp _=>by
   have hkl:=get_lt hk
   simp only [z26_l2,lt_t hkl,cT,idx_nat,hk,bS,hp,lsl_tk (Nat.le_of_lt hkl)]
   rw [cf_sorts_1 _ m (by rw [List.length_take];omega) (by rw [List.length_take];omega),bS]
   obtain ⟨c3,e3,g3⟩:=Ck.test (N:=N) (b:=(c.p'.Messages.take k).any fun x=>x.Name.toList==m.Name.toList) (c:=c1) (nm:=m.Name) (e:=9) (by decide)
   obtain ⟨o,e4,c4,e5,g4⟩:=k7 k m c3 (fun a b c' d e f g h i j=>z26_l2 N c n a b c' d e f g h i j) (by omega) (hf m (List.mem_of_getElem? hk))
   refine ⟨o,?_,c4,e5,(g3.seq g4).iff (and_congr_left' (any_name _ _ _))⟩
   rw [← e4]
   cases hb:(c.p'.Messages.take k).any fun x=>x.Name.toList==m.Name.toList with
   | true =>
    rw [hb,cT] at e3;rw [cT,← hp]
    rw [show (⟨c1.all',⟨c1.p'.Name,c1.p'.Roles,c1.p'.Messages,c1.p'.Body⟩,c1.calls',⟨c1.out'.Protocol,c1.out'.Name,c1.out'.Err⟩⟩:T7)=c1 from rfl,e3];rfl
   | false=>rw [hb,cF] at e3;cases e3;rw [cF,← hp])
  (fun n k c1 hk=>by simp only [z26_l2,lt_f hk,cF]) (N:=N) (by omega) c rfl rfl (by rw [sum_zero];omega)
 rw [sum_zero,flat_nil] at g
 have e':=e.trans (show (o.bind fun c=>z26_k1 c.all' c.p'.Name c.p'.Roles c.p'.Messages c.p'.Body c.calls' c.out'.Protocol c.out'.Name c.out'.Err)=o from bind_id o)
 exact Eq.mp (congrArg (fun o=>Ck o c _ _ _) e'.symm) g
def kdIn (fs:List T0) (t:T18):Int:=match fs.find? (fun f=>f.Name.toList==t.Field.toList) with
 | some f=>f.Sort'.Kind
 | none=>0
def kd (p:T17) (m:T16) (t:T18):Int:=bif !(t.Message.toList==(str []).toList) then (match p.Messages.find? (fun q=>q.Name.toList==t.Message.toList) with
 | some q=>kdIn q.Fields t
 | none=>0) else kdIn m.Fields t
theorem find_eq {N:Nat} (c:T7) (m:T16) (t:T18) (hs:Sz N c) (hf:∀ m∈c.p'.Messages,m.Fields.length≤4194304) (hm:m.Fields.length≤4194304):z59 N c m t=some (kd c.p' m t):=by
 have hN:=hs.n
 have hml:=hs.m
 have k1:∀ (a:ByteArray) (fs:List T0) (w),fs.length≤4194304→z59_k1 N t a fs w=some (kdIn fs t):=by
  intro a fs w h
  unfold z59_k1 kdIn
  rw [ix_find_2 fs t (by omega) (by omega),bS]
  rcases atI_find (fun f:T0=>f.Name.toList==t.Field.toList) fs with ⟨q1,q2⟩ | ⟨i,q,q1,q2,q3⟩
  ·rw [q1,q2];rfl
  ·rw [q1,q3,show decide ((i:Int) < 0)=false by simp,cF,idx_nat,q2];rfl
 unfold z59 kd
 cases (!(t.Message.toList==(str []).toList)) with
 | false=>rw [cF,cF,k1 _ _ _ hm]
 | true =>
  rw [cT,cT,ix_find_1 _ t (by omega) (by omega),bS]
  rcases atI_find (fun q:T16=>q.Name.toList==t.Message.toList) c.p'.Messages with ⟨q1,q2⟩ | ⟨i,q,q1,q2,q3⟩
  ·rw [q1,q2];rfl
  ·rw [q1,q3,show decide ((i:Int) < 0)=false by simp,cF,idx_nat,q2,bS,k1 _ _ _ (hf q (List.mem_of_getElem? q2))]
def kdC (p:T17) (m:T16) (t:T18):Int:=bif t.Kind==1 then 0 else kd p m t
def txC (p:T17) (m:T16) (t:T18):Nat:=bif t.Kind==2 then (bif kdC p m t==2 then 1 else 0) else 0
def AtomOk (p:T17) (m:T16) (a:T14):Prop :=
 (a.Left.Kind=1∨kd p m a.Left≠0)∧(a.Right.Kind=1∨kd p m a.Right≠0)∧(a.Left.Kind=3→kdC p m a.Left=2)∧(a.Right.Kind=3→kdC p m a.Right=2) ∧
 (txC p m a.Left+txC p m a.Right≠1)∧(txC p m a.Left+txC p m a.Right=2→a.Op=str [61,61]∧a.Left.N=0∧a.Right.N=0)
def AtomsOk (p:T17):Prop:=∀ m∈p.Messages,∀ a∈m.Where,AtomOk p m a
set_option maxHeartbeats 2000000 in
theorem atoms_ck {N:Nat} (c:T7) (hs:Sz N c) (hf:∀ m∈c.p'.Messages,m.Fields.length≤4194304∧m.Where.length≤4194304):Ck (z27 N c) c (AtomsOk c.p') [] 0:=by
 have hN:=hs.n
 have hm:=hs.m
 have hff:∀ c1:T7,c1.p'=c.p'→∀ m∈c1.p'.Messages,m.Fields.length≤4194304:=fun c1 hp m hq=>(hf m (by rw [← hp];exact hq)).1
 unfold z27
 -- what is counted at the end
 have k5:∀ (j:Nat) (m:T16) (a:T14) (c1:T7) (t:Nat) (ag),j < 4194304→t≤2→∃ o,z27_k5 N m (j:Int) ag a c1.all' c1.p'.Name c1.p'.Roles c1.p'.Messages c1.p'.Body c1.calls' c1.out'.Protocol c1.out'.Name c1.out'.Err (t:Int) =
   o.bind (fun c2:T7=>ag c2.all' c2.p'.Name c2.p'.Roles c2.p'.Messages c2.p'.Body c2.calls' c2.out'.Protocol c2.out'.Name c2.out'.Err ((j+1:Nat):Int)) ∧
   Ck o c1 (t≠1∧(t=2→a.Op=str [61,61]∧a.Left.N=0∧a.Right.N=0)) [] 0:=by
  intro j m a c1 t ag hj ht
  refine ⟨bif ((t:Int)==1) || (((t:Int)==2) && (!(a.Op.toList==(str [61,61]).toList) || (a.Left.N != 0 || a.Right.N != 0))) then z24 N c1 m.Name 11 else some c1,?_,(Ck.test (by decide)).iff ?_⟩
  ·unfold z27_k5
   rw [w64_suc (by omega)]
   cases ((t:Int)==1)<;>cases ((t:Int)==2)<;>cases (a.Op.toList==(str [61,61]).toList)<;>cases (a.Left.N != 0)<;>cases (a.Right.N != 0)<;>rfl
  ·simp only [Bool.or_eq_false_iff,Bool.and_eq_false_iff,beq_eq_false_iff_ne,nseq,bne_eq_false_iff_eq,ne_eq]
   constructor
   ·rintro ⟨q1,q2⟩
    refine ⟨fun e=>q1 (by rw [e];rfl),fun e=>?_⟩
    rcases q2 with q2 | q2
    ·exact absurd (by rw [e];rfl) q2
    ·exact ⟨q2.1,q2.2.1,q2.2.2⟩
   ·rintro ⟨q1,q2⟩
    refine ⟨fun e=>q1 (by omega),?_⟩
    by_cases e:t=2
    ·obtain ⟨r1,r2,r3⟩:=q2 e;exact .inr ⟨r1,r2,r3⟩
    ·exact .inl (by omega)
 -- kinds, on one side
 have side2:∀ (m:T16) (t:T18) (c1:T7) (k:Int),∃ o:Option T7,o=(bif (t.Kind==3) && (k != 2) then z24 N c1 m.Name 11 else some c1)∧Ck o c1 (t.Kind=3→k=2) [] 0:=by
  intro m t c1 k
  refine ⟨_,rfl,(Ck.test (by decide)).iff ?_⟩
  simp only [Bool.and_eq_false_iff,beq_eq_false_iff_ne,bne_eq_false_iff_eq]
  by_cases h:t.Kind=3<;>simp [h]
 have k9:∀ (m:T16) (k0 k1:Int) (c1:T7) (tx i:Nat) (ag) (t:T18),(i=0∨i=1)→tx≤1 →
   z27_k9 N m k0 k1 c1.all' c1.p'.Name c1.p'.Roles c1.p'.Messages c1.p'.Body c1.calls' c1.out'.Protocol c1.out'.Name c1.out'.Err (tx:Int) (i:Int) ag t.Kind t.Message t.Field t.N =
   (bif (t.Kind==3) && ((if i=0 then k0 else k1) != 2) then z24 N c1 m.Name 11 else some c1).bind fun c2:T7 =>
    ag c2.all' c2.p'.Name c2.p'.Roles c2.p'.Messages c2.p'.Body c2.calls' c2.out'.Protocol c2.out'.Name c2.out'.Err ((tx+(bif t.Kind==2 then (bif (if i=0 then k0 else k1)==2 then 1 else 0) else 0):Nat):Int) ((i+1:Nat):Int):=by
  intro m k0 k1 c1 tx i ag t hi htx
  have k7:∀ c1:T7,z27_k7 k0 k1 (tx:Int) (i:Int) ag t.Kind c1.all' c1.p'.Name c1.p'.Roles c1.p'.Messages c1.p'.Body c1.calls' c1.out'.Protocol c1.out'.Name c1.out'.Err =
    ag c1.all' c1.p'.Name c1.p'.Roles c1.p'.Messages c1.p'.Body c1.calls' c1.out'.Protocol c1.out'.Name c1.out'.Err ((tx+(bif t.Kind==2 then (bif (if i=0 then k0 else k1)==2 then 1 else 0) else 0):Nat):Int) ((i+1:Nat):Int):=by
   intro c1
   unfold z27_k7
   rw [w64_suc (n:=tx) (by omega),w64_suc (n:=i) (by omega)]
   rcases hi with rfl | rfl
   ·rw [if_pos rfl];cases (t.Kind==2)<;>cases (k0==2)<;>rfl
   ·rw [if_neg (by omega)];cases (t.Kind==2)<;>cases (k1==2)<;>rfl
  unfold z27_k9 z27_k8
  simp only [k7]
  rcases hi with rfl | rfl
  ·rw [if_pos rfl];cases (t.Kind==3)<;>cases (k0 != 2)<;>rfl
  ·rw [if_neg (by omega)];cases (t.Kind==3)<;>cases (k1 != 2)<;>rfl
 have k12:∀ (m:T16) (k0 k1:Int) (c1:T7) (i:Nat) (ag) (t:T18),(i=0∨i=1)→c1.all'=c.all'→c1.p'=c.p'→m.Fields.length≤4194304 →
   z27_k12 N m c1.all' c1.p'.Name c1.p'.Roles c1.p'.Messages c1.p'.Body c1.calls' c1.out'.Protocol c1.out'.Name c1.out'.Err k0 k1 (i:Int) ag t.Kind t.Message t.Field t.N =
   (bif !(t.Kind==1) && (kd c.p' m t==0) then z24 N c1 m.Name 10 else some c1).bind fun c2:T7 =>
    ag c2.all' c2.p'.Name c2.p'.Roles c2.p'.Messages c2.p'.Body c2.calls' c2.out'.Protocol c2.out'.Name c2.out'.Err (if i=0 then (bif t.Kind==1 then k0 else kd c.p' m t) else k0) (if i=0 then k1 else (bif t.Kind==1 then k1 else kd c.p' m t)) ((i+1:Nat):Int):=by
  intro m k0 k1 c1 i ag t hi ha hp hmf
  have hfd:=find_eq (N:=N) c1 m t (hs.of ha hp) (hff c1 hp) hmf
  rw [hp] at hfd
  unfold z27_k12
  rw [show (⟨c1.all',⟨c1.p'.Name,c1.p'.Roles,c1.p'.Messages,c1.p'.Body⟩,c1.calls',⟨c1.out'.Protocol,c1.out'.Name,c1.out'.Err⟩⟩:T7)=c1 from rfl,
   show (⟨t.Kind,t.Message,t.Field,t.N⟩:T18)=t from rfl,hfd,bS,w64_suc (n:=i) (by omega)]
  rcases hi with rfl | rfl
  ·cases (t.Kind==1)<;>cases (kd c.p' m t==0)<;>rfl
  ·cases (t.Kind==1)<;>cases (kd c.p' m t==0)<;>rfl
 -- one atom
 have one:∀ (j:Nat) (m:T16) (a:T14) (c1:T7) (ag),j < 4194304→m.Fields.length≤4194304→c1.all'=c.all'→c1.p'=c.p'→∃ o,z27_l11 N m (j:Int) ag a N c1.all' c1.p'.Name c1.p'.Roles c1.p'.Messages c1.p'.Body c1.calls' c1.out'.Protocol c1.out'.Name c1.out'.Err (0:Int) (0:Int) (0:Int) =
   o.bind (fun c2:T7=>ag c2.all' c2.p'.Name c2.p'.Roles c2.p'.Messages c2.p'.Body c2.calls' c2.out'.Protocol c2.out'.Name c2.out'.Err ((j+1:Nat):Int))∧Ck o c1 (AtomOk c.p' m a) [] 0:=by
  intro j m a c1 ag hj hmf ha hp
  obtain ⟨M,rfl⟩:∃ M,N=M+3:=⟨N-3,by omega⟩
  have t1:=fun (t:T18) (c1:T7)=>Ck.test (N:=M+3) (b := !(t.Kind==1) && (kd c.p' m t==0)) (c:=c1) (nm:=m.Name) (e:=10) (by decide)
  obtain ⟨c2,e2,g2⟩:=t1 a.Left c1
  obtain ⟨c3,e3,g3⟩:=t1 a.Right c2
  obtain ⟨_,rfl,c4,e4,g4⟩:=side2 m a.Left c3 (kdC c.p' m a.Left)
  obtain ⟨_,rfl,c5,e5,g5⟩:=side2 m a.Right c4 (kdC c.p' m a.Right)
  have htx:txC c.p' m a.Left≤1∧txC c.p' m a.Right≤1:=by
   unfold txC
   constructor
   ·cases (a.Left.Kind==2)<;>cases (kdC c.p' m a.Left==2)<;>simp
   ·cases (a.Right.Kind==2)<;>cases (kdC c.p' m a.Right==2)<;>simp
  obtain ⟨o,e6,c6,e7,g6⟩:=k5 j m a c5 (txC c.p' m a.Left+txC c.p' m a.Right) ag hj (by omega)
  refine ⟨o,?_,c6,e7,?_⟩
  ·have a1:c2.all'=c.all':=by rw [g2.all,ha]
   have p1:c2.p'=c.p':=by rw [g2.p,hp]
   rw [z27_l11,show decide ((0:Int) < 2)=true from rfl,cT,show ((0:Int)==0)=true from rfl,cT]
   rw [show (0:Int)=((0:Nat):Int) from rfl,k12 m _ _ c1 0 _ a.Left (.inl rfl) ha hp hmf,e2,bS,if_pos rfl,if_pos rfl]
   rw [z27_l11,show decide (((0+1:Nat):Int) < 2)=true from rfl,cT,show (((0+1:Nat):Int)==0)=false from rfl,cF,show (((0+1:Nat):Int)==1)=true from rfl,cT]
   rw [k12 m _ _ c2 (0+1) _ a.Right (.inr rfl) a1 p1 hmf,e3,bS,if_neg (by omega),if_neg (by omega)]
   rw [z27_l11,show decide (((0+1+1:Nat):Int) < 2)=false from rfl,cF]
   unfold z27_k10
   rw [z27_l6,show decide ((0:Int) < 2)=true from rfl,cT,show ((0:Int)==0)=true from rfl,cT]
   rw [show (0:Int)=((0:Nat):Int) from rfl,k9 m _ _ c3 0 0 _ a.Left (.inl rfl) (by omega),if_pos rfl]
   rw [show (bif a.Left.Kind==1 then ((0:Nat):Int) else kd c.p' m a.Left)=kdC c.p' m a.Left from rfl,e4,bS]
   rw [z27_l6,show decide (((0+1:Nat):Int) < 2)=true from rfl,cT,show (((0+1:Nat):Int)==0)=false from rfl,cF,show (((0+1:Nat):Int)==1)=true from rfl,cT]
   rw [show (0+(bif a.Left.Kind==2 then (bif kdC c.p' m a.Left==2 then 1 else 0) else 0))=txC c.p' m a.Left by unfold txC;simp]
   rw [k9 m _ _ c4 (txC c.p' m a.Left) (0+1) _ a.Right (.inr rfl) (by omega),if_neg (by omega)]
   rw [show (bif a.Right.Kind==1 then ((0:Nat):Int) else kd c.p' m a.Right)=kdC c.p' m a.Right from rfl,e5,bS]
   rw [z27_l6,show decide (((0+1+1:Nat):Int) < 2)=false from rfl,cF]
   exact e6
  ·refine ((((g2.seq g3).seq g4).seq g5).seq g6).iff ?_
   have hn:∀ t:T18,(!(t.Kind==1) && (kd c.p' m t==0))=false↔(t.Kind=1∨kd c.p' m t≠0):=by
    intro t
    simp only [Bool.and_eq_false_iff,Bool.not_eq_false',beq_iff_eq,beq_eq_false_iff_ne,ne_eq]
   unfold AtomOk
   rw [hn,hn]
   constructor
   ·rintro ⟨⟨⟨⟨q1,q2⟩,q3⟩,q4⟩,q5,q6⟩;exact ⟨q1,q2,q3,q4,q5,q6⟩
   ·rintro ⟨q1,q2,q3,q4,q5,q6⟩;exact ⟨⟨⟨⟨q1,q2⟩,q3⟩,q4⟩,q5,q6⟩
 obtain ⟨o,e,g⟩:=ck_loop c.p'.Messages (fun n c1 i=>z27_l2 N c n c1.all' c1.p'.Name c1.p'.Roles c1.p'.Messages c1.p'.Body c1.calls' c1.out'.Protocol c1.out'.Name c1.out'.Err i)
  (fun c=>z27_k1 c.all' c.p'.Name c.p'.Roles c.p'.Messages c.p'.Body c.calls' c.out'.Protocol c.out'.Name c.out'.Err) Option.bind (fun _ _=>rfl)
  (fun k m=>∀ (j:Nat) a,m.Where[j]? = some a→AtomOk c.p' m a) (fun _=>[]) (fun _=>0) c.all' c.p' c.calls'.length
  (fun n k m c1 hk ha hp _=>by
   have hkl:=get_lt hk
   obtain ⟨hf1,hf2⟩:=hf m (List.mem_of_getElem? hk)
   simp only [z27_l2,lt_t hkl,cT,idx_nat,hk,bS]
   obtain ⟨o,e,g⟩:=ck_loop m.Where (fun n' c1 i=>z27_l4 N (k:Int) (fun a b c' d e f g h i j=>z27_l2 N c n a b c' d e f g h i j) m n' c1.all' c1.p'.Name c1.p'.Roles c1.p'.Messages c1.p'.Body c1.calls' c1.out'.Protocol c1.out'.Name c1.out'.Err i)
    (fun c1=>z27_k3 (k:Int) (fun a b c' d e f g h i j=>z27_l2 N c n a b c' d e f g h i j) c1.all' c1.p'.Name c1.p'.Roles c1.p'.Messages c1.p'.Body c1.calls' c1.out'.Protocol c1.out'.Name c1.out'.Err) Option.bind (fun _ _=>rfl)
    (fun _ a=>AtomOk c.p' m a) (fun _=>[]) (fun _=>0) c.all' c.p' c1.calls'.length
    (fun n' j a c2 hj ha2 hp2 _=>by
     have hjl:=get_lt hj
     simp only [z27_l4,lt_t hjl,cT,idx_nat,hj,bS]
     exact one j m a c2 _ (by omega) hf1 ha2 hp2)
    (fun n' j c2 hj=>by simp only [z27_l4,lt_f hj,cF]) (N:=N) (by omega) c1 ha hp (by rw [sum_zero];omega)
   rw [sum_zero,flat_nil] at g
   refine ⟨o,e.trans ?_,g⟩
   congr 1
   funext c2
   unfold z27_k3
   rw [w64_suc (by omega)])
  (fun n k c1 hk=>by simp only [z27_l2,lt_f hk,cF]) (N:=N) (by omega) c rfl rfl (by rw [sum_zero];omega)
 rw [sum_zero,flat_nil] at g
 have e':=e.trans (show (o.bind fun c=>z27_k1 c.all' c.p'.Name c.p'.Roles c.p'.Messages c.p'.Body c.calls' c.out'.Protocol c.out'.Name c.out'.Err)=o from bind_id o)
 refine Eq.mp (congrArg (fun o=>Ck o c _ _ _) e'.symm) (g.iff ?_)
 constructor
 ·intro h m hm a ha
  obtain ⟨k,hk⟩:=List.mem_iff_getElem?.1 hm
  obtain ⟨j,hj⟩:=List.mem_iff_getElem?.1 ha
  exact h k m hk j a hj
 ·exact fun h k m hk j a hj=>h m (List.mem_of_getElem? hk) a (List.mem_of_getElem? hj)
end Gp
end
section
namespace Gp
open Go Go.Kx Gx
def hereC (x:T15):List ByteArray:=if x.Kind=6 then [x.Name] else []
mutual
def cnI:T15→List ByteArray
 | ⟨k,f,t,n,a,x,b⟩=>hereC ⟨k,f,t,n,a,x,b⟩++cnLL b
def cnL:List T15→List ByteArray
 | []=>[]
 | x::l=>cnI x++cnL l
def cnLL:List (List T15)→List ByteArray
 | []=>[]
 | b::r=>cnL b++cnLL r
end
theorem cnI_eq (x:T15):cnI x=hereC x++cnLL x.Blocks:=by cases x;simp only [cnI]
theorem cnL_fold:∀ (l:List T15) (s:List ByteArray),l.foldl (fun s x=>s++cnI x) s=s++cnL l
 | [],s=>by simp [cnL]
 | x::l,s=>by rw [List.foldl_cons,cnL_fold l];simp only [cnL,aA]
theorem cnLL_fold:∀ (l:List (List T15)) (s:List ByteArray),l.foldl (fun s x=>s++cnL x) s=s++cnLL l
 | [],s=>by simp [cnLL]
 | x::l,s=>by rw [List.foldl_cons,cnLL_fold l];simp only [cnLL,aA]
mutual
theorem cn_I:∀ x,(cnI x).length≤cI x
 | ⟨k,f,t,n,a,x,b⟩=>by
  have:=cn_LL b
  have h:(hereC ⟨k,f,t,n,a,x,b⟩).length≤1:=by unfold hereC;split<;>simp
  simp only [cnI,cI,lA]
  omega
theorem cn_L:∀ l,(cnL l).length≤cL l
 | []=>by simp [cnL,cL]
 | x::l=>by
  have:=cn_I x
  have:=cn_L l
  simp only [cnL,cL,lA]
  omega
theorem cn_LL:∀ l,(cnLL l).length≤cLL l
 | []=>by simp [cnLL,cLL]
 | x::l=>by
  have:=cn_L x
  have:=cn_LL l
  simp only [cnLL,cLL,lA]
  omega
end
theorem called_eq:∀ (N:Nat) (xs:List T15),4194306+dL xs≤N→xs.length≤4194304→bL xs→cL xs≤4194304→z69 N xs=some (cnL xs)
 | 0,_,h,_,_,_=>by omega
 | N+1,xs,h,hs,hb,hc=>by
  show z69_b N (z69 N) xs=_
  unfold z69_b
  have hN:4194304 < N:=by omega
  have inner:∀ (k:Nat) (x:T15) (s:List ByteArray) (ag:List ByteArray→Int→Option (List ByteArray)),xs[k]? = some x→s.length+cLL x.Blocks≤4194304 →
    z69_k5 N (z69 N) (k:Int) ag x s=ag (s++cnLL x.Blocks) ((k+1:Nat):Int):=by
   intro k x s ag hx hle
   have hm:=List.mem_of_getElem? hx
   have hbx:=(bI_eq _).1 (bL_mem hb hm)
   have hdx:=dL_mem hm
   rw [dI_eq] at hdx
   have hk:=get_lt hx
   unfold z69_k5
   have:=(fold_loop x.Blocks (z69_l4 (z69 N) (k:Int) ag x) (fun s b=>s++cnL b) (fun s=>ag s ((k+1:Nat):Int))
    (fun j s=>s.length+cLL (x.Blocks.drop j)≤4194304) (fun n j s b hi hj=>?_) (fun n j s hi hj=>?_) (N:=N) (s:=s) (by omega) (by rw [List.drop_zero];exact hle)).1
   ·rw [this,cnLL_fold]
   ·rw [drop_get hj] at hi
    simp only [cLL] at hi
    have hmb:=List.mem_of_getElem? hj
    have hbb:=bLL_mem hbx.2.2 hmb
    have hdb:=dLL_mem hmb
    have hcn:=cn_L b
    have e:=called_eq N b (by omega) hbb.1 hbb.2 (by omega)
    refine ⟨?_,by rw [lA];omega⟩
    simp only [z69_l4,lt_t (get_lt hj),cT,idx_nat,hj,bS,e]
    rw [appL_some (by omega),bS,w64_succ (by have:=get_lt hj;omega)]
   ·simp only [z69_l4,lt_f hj,cF,z69_k3]
    rw [w64_succ (by omega)]
  have:=(fold_loop xs (z69_l2 N (z69 N) xs) (fun s x=>s++cnI x) (fun s=>some s)
   (fun j s=>s.length+cL (xs.drop j)≤4194304) (fun n k s x hi hx=>?_) (fun n k s hi hk=>?_) (N:=N) (s:=[]) (by omega) (by rw [List.drop_zero];simpa using hc)).1
  ·rw [this,cnL_fold];simp
  ·rw [drop_get hx] at hi
   simp only [cL] at hi
   have hcx:=cI_eq x
   have hcn:=cn_I x
   refine ⟨?_,by rw [lA];omega⟩
   simp only [z69_l2,lt_t (get_lt hx),cT,idx_nat,hx,bS]
   rw [cnI_eq]
   unfold hereC
   by_cases h6:x.Kind=6
   ·rw [show (x.Kind==(6:Int))=true by simpa using h6,cT,appL_some (by simp;omega),bS,inner k x _ _ hx (by simp;omega),if_pos h6,aA]
   ·rw [show (x.Kind==(6:Int))=false by simpa using h6,cF,inner k x _ _ hx (by omega),if_neg h6,List.nil_append]
  ·simp only [z69_l2,lt_f hk,cF,z69_k1]
theorem lsl_dr {α:Type} {xs:List α} {k:Nat} (h:k≤xs.length):lsl xs (some (k:Int)) none=some (xs.drop k):=by
 unfold lsl bnd
 have h1:decide ((0:Int)≤(k:Int))=true:=by simp
 have h2:decide ((k:Int)≤(xs.length:Int))=true:=by simp;exact h
 simp [h1,h2,h]
theorem clL_dr {α:Type} (z:α) {xs:List α} {k:Nat} (h:k≤xs.length):∃ ys,clL z xs (some (k:Int)) none=some ys∧ys.take k=xs.take k∧ys.length=xs.length:=by
 unfold clL bnd
 have h1:decide ((0:Int)≤(k:Int))=true:=by simp
 have h2:decide ((k:Int)≤(xs.length:Int))=true:=by simp;exact h
 refine ⟨xs.take k++List.replicate (xs.length-k) z,?_,?_,?_⟩
 ·simp [h1,h2,h]
 ·rw [List.take_append_of_le_length (by rw [List.length_take];omega),List.take_take];simp
 ·rw [lA,List.length_take,List.length_replicate];omega
theorem atI_first {α:Type} (p:α→Bool) (xs:List α) {i:Nat} (h:atI p xs=(i:Int)):∃ x,xs[i]? = some x∧p x=true∧∀ (j:Nat) y,j < i→xs[j]? = some y→p y=false:=by
 unfold atI at h
 cases e:xs.findIdx? p with
 | none=>rw [e] at h;simp at h
 | some k =>
  rw [e] at h
  have hk:k=i:=by simp at h;omega
  subst hk
  rw [List.findIdx?_eq_some_iff_getElem] at e
  obtain ⟨h1,h2,h3⟩:=e
  refine ⟨xs[k],List.getElem?_eq_getElem h1,h2,fun j y hj hy=>?_⟩
  have:=h3 j hj
  obtain ⟨_,rfl⟩:=List.getElem?_eq_some_iff.1 hy
  simpa using this
theorem take_suc {α:Type} {xs:List α} {k:Nat} {x:α} (h:xs[k]? = some x):xs.take (k+1)=xs.take k++[x]:=by
 obtain ⟨hk,rfl⟩:=List.getElem?_eq_some_iff.1 h
 rw [List.take_succ_eq_append_getElem hk]
theorem del_eq {N:Nat} (c:T7) (s:List ByteArray) (hs:s.length < N) (hb:s.length < 4611686018427387904) (ha:c.all'.length < N) (hab:c.all'.length < 4611686018427387904) :
  z72_47 N s c=some (s.filter fun x=>c.all'.any fun q=>q.Name.toList==x.toList):=by
 unfold z72_47
 rw [ix_chains_2 s c hs hb ha hab,bS]
 generalize hK:(fun x:ByteArray=>c.all'.any fun q=>q.Name.toList==x.toList)=K
 have hK2:(fun x:ByteArray => !(c.all'.any fun q=>q.Name.toList==x.toList))=fun x => !(K x):=by rw [← hK]
 rw [hK2]
 rcases atI_find (fun x:ByteArray => !(K x)) s with ⟨q1,q2⟩ | ⟨i0,x0,q1,q2,q3⟩
 ·rw [q1,show ((-1:Int)==-1)=true from rfl,cT]
  congr 1
  rw [List.find?_eq_none] at q2
  refine (List.filter_eq_self.2 fun x hx=>?_).symm
  have:=q2 x hx
  simpa using this
 ·have q4:=atI_first _ _ q1
  rw [q1,show ((i0:Int)==-1)=false by simp,cF]
  have hi0:=get_lt q2
  rw [w64_suc (by omega)]
  have al:∀ x,z73_45 N x c=some (!(K x)):=fun x=>by
   unfold z73_45
   rw [cf_chains_2_1 c.all' x ha hab,← hK];rfl
  have key:∀ (l:List ByteArray) (j i n:Nat) (v:List ByteArray),s.drop j=l→l.length < n→i < j→v.length=s.length→v.take i=(s.take j).filter K→v.drop j=s.drop j→i≤s.length →
    z72_47_l2 N c n v (i:Int) (j:Int)=some (s.filter K):=by
   intro l
   induction l with
   | nil =>
    intro j i n v h hn hij hv h1 h2 his
    obtain ⟨n,rfl⟩:∃ m,n=m+1:=⟨n-1,by simp at hn;omega⟩
    have hj:=drop_nil h
    have hil:i≤v.length:=by omega
    simp only [z72_47_l2]
    rw [show decide ((j:Int) < (v.length:Int))=false by simp;omega,cF]
    unfold z72_47_k1
    obtain ⟨ys,e1,e2,e3⟩:=clL_dr (str []) hil
    rw [lsl_dr hil,bS,e1,bS,lsl_tk (by omega),bS,e2,h1,List.take_of_length_le hj]
   | cons x l ih =>
    intro j i n v h hn hij hv h1 h2 his
    obtain ⟨n,rfl⟩:∃ m,n=m+1:=⟨n-1,by simp at hn;omega⟩
    obtain ⟨a,e,d⟩:=drop_cons h
    obtain ⟨a',e',d'⟩:=drop_cons (h2.trans h)
    simp only [z72_47_l2]
    rw [lt_t a',cT,idx_nat,e',bS,al,bS,Bool.not_not]
    have hvi:v[i]? = some v[i]:=List.getElem?_eq_getElem (by omega)
    cases hx:K x with
    | true =>
     rw [cT,idx_nat,hvi,bS,setL'_nat,w64_suc (by omega),w64_suc (by omega)]
     refine ih (j+1) (i+1) n (v.set i x) d (by simp at hn;omega) (by omega) (by rw [List.length_set];exact hv) ?_ ?_ (by omega)
     ·rw [take_suc e,List.filter_append,← h1,List.filter_cons,hx,take_suc (x:=x) (by rw [List.getElem?_set_self (by omega)]),List.take_set_of_le (Nat.le_refl _),if_pos rfl,List.filter_nil]
     ·rw [List.drop_set_of_lt (by omega),d',d]
    | false =>
     rw [cF,w64_suc (by omega)]
     refine ih (j+1) i n v d (by simp at hn;omega) (by omega) hv ?_ (by rw [d',d]) his
     rw [take_suc e,List.filter_append,← h1,List.filter_cons,hx]
     simp
  refine key _ (i0+1) i0 N s rfl (by rw [List.length_drop];omega) (by omega) rfl ?_ rfl (by omega)
  obtain ⟨y,hy,h1,h2⟩:=q4
  rw [take_suc hy,List.filter_append,List.filter_cons,if_neg (by simpa using h1),List.filter_nil,List.append_nil]
  refine (List.filter_eq_self.2 fun x hx=>?_).symm
  obtain ⟨j,hj⟩:=List.mem_iff_getElem?.1 hx
  have hjl:=get_lt hj
  rw [List.length_take] at hjl
  rw [List.getElem?_take,if_pos (by omega)] at hj
  have:=h2 j x (by omega) hj
  simpa using this
def CallsTo (all:List T17) (a b:ByteArray):Prop:=(∃ q,all.find? (fun q=>q.Name.toList==a.toList)=some q∧b∈cnL q.Body)∧∃ q∈all,q.Name=b
def PathTo (all:List T17):Nat→ByteArray→ByteArray→Prop
 | 0,a,b=>a=b
 | n+1,a,c=>∃ b,PathTo all n a b∧CallsTo all b c
def ChainOk (all:List T17) (p:T17):Prop:=∀ b,¬ PathTo all 5 p.Name b
def cAll (l:List T17):Nat:=(l.map fun q=>cL q.Body).sum
theorem first_iff (all:List T17) (k:Nat) (q:T17) (hq:all[k]? = some q):atI (fun x:T17=>x.Name.toList==q.Name.toList) all=(k:Int)→all.find? (fun x=>x.Name.toList==q.Name.toList)=some q:=by
 intro h
 rcases atI_find (fun x:T17=>x.Name.toList==q.Name.toList) all with ⟨q1,_⟩ | ⟨i,x,q1,q2,q3⟩
 ·rw [q1] at h;omega
 ·have:i=k:=by rw [q1] at h;omega
  subst this
  rw [hq] at q2;cases q2
  exact q3
theorem find_first (all:List T17) (a:ByteArray) (q:T17) (h:all.find? (fun x=>x.Name.toList==a.toList)=some q):q.Name=a∧∃ k:Nat,all[k]? = some q∧atI (fun x:T17=>x.Name.toList==q.Name.toList) all=(k:Int):=by
 have hn:q.Name=a:=by
  have:=List.find?_some h
  exact seq'.1 this
 subst hn
 refine ⟨rfl,?_⟩
 rcases atI_find (fun x:T17=>x.Name.toList==q.Name.toList) all with ⟨_,q1⟩ | ⟨i,x,q1,q2,q3⟩
 ·rw [q1] at h;cases h
 ·rw [h] at q3;cases q3
  exact ⟨i,q2,q1⟩
theorem chains_ck {N:Nat} (c:T7) (hs:Sz N c) (hb:∀ q∈c.all',8388611+dL q.Body≤N∧q.Body.length≤4194304∧bL q.Body) (hc:cAll c.all'≤4194304):Ck (z29 N c) c (ChainOk c.all' c.p') [] 0:=by
 have hN:=hs.n
 have ha:=hs.a
 unfold z29
 have dsum:∀ k,cAll (c.all'.drop k)≤cAll c.all':=by
  intro k
  have:=congrArg (fun l=>cAll l) (List.take_append_drop k c.all')
  simp only [cAll,List.map_append,List.sum_append] at this ⊢
  omega
 -- one round
 have round:∀ (now:List ByteArray) (i:Int) (ag:List ByteArray→Int→Option T7),now.length≤4194304→∃ nx:List ByteArray,nx.length≤4194304∧(∀ b,b∈nx↔∃ a∈now,CallsTo c.all' a b) ∧
   z29_l4 N c now i ag N [] (0:Int)=ag nx (w64 (i+1)):=by
  intro now i ag hnow
  have key:∀ (l:List T17) (k n:Nat) (s:List ByteArray),c.all'.drop k=l→l.length < n→s.length+cAll l≤4194304 →
    ∃ nx,z29_l4 N c now i ag n s (k:Int)=z29_k3 N c i ag (s++nx)∧(s++nx).length≤4194304 ∧
     ∀ b,b∈nx↔∃ (j:Nat) (q:T17),l[j]? = some q∧atI (fun x:T17=>x.Name.toList==q.Name.toList) c.all'=((k+j:Nat):Int)∧q.Name∈now∧b∈cnL q.Body:=by
   intro l
   induction l with
   | nil =>
    intro k n s h hn hsl
    obtain ⟨n,rfl⟩:∃ m,n=m+1:=⟨n-1,by simp at hn;omega⟩
    refine ⟨[],?_,by simp [cAll] at hsl ⊢;omega,by simp⟩
    simp only [z29_l4,lt_f (drop_nil h),cF,List.append_nil]
   | cons p l ih =>
    intro k n s h hn hsl
    obtain ⟨n,rfl⟩:∃ m,n=m+1:=⟨n-1,by simp at hn;omega⟩
    obtain ⟨a,e,d⟩:=drop_cons h
    obtain ⟨hb1,hb2,hb3⟩:=hb p (List.mem_of_getElem? e)
    have hcn:=cn_L p.Body
    have e0:cAll (p::l)=cL p.Body+cAll l:=by simp [cAll]
    rw [e0] at hsl
    have hdk:=dsum k
    rw [h,e0] at hdk
    have tail:∀ (s':List ByteArray) (cond:Prop),s'.length+cAll l≤4194304→(∃ t,s'=s++t∧∀ b,b∈t↔(atI (fun x:T17=>x.Name.toList==p.Name.toList) c.all'=(k:Int)∧p.Name∈now∧b∈cnL p.Body)) →
      ∃ nx,z29_l4 N c now i ag n s' ((k+1:Nat):Int)=z29_k3 N c i ag (s++nx)∧(s++nx).length≤4194304 ∧
       ∀ b,b∈nx↔∃ (j:Nat) (q:T17),(p::l)[j]? = some q∧atI (fun x:T17=>x.Name.toList==q.Name.toList) c.all'=((k+j:Nat):Int)∧q.Name∈now∧b∈cnL q.Body:=by
     rintro s' _ hs' ⟨t,rfl,ht⟩
     obtain ⟨nx,r1,r2,r3⟩:=ih (k+1) n (s++t) d (by simp at hn;omega) hs'
     refine ⟨t++nx,by rw [r1,aA],by rw [← aA];exact r2,fun b=>?_⟩
     rw [List.mem_append,ht,r3]
     constructor
     ·rintro (g | ⟨j,q,g1,g2,g3⟩)
      ·exact ⟨0,p,rfl,g.1,g.2⟩
      ·exact ⟨j+1,q,by rw [List.getElem?_cons_succ];exact g1,by rw [g2];congr 1;omega,g3⟩
     ·rintro ⟨j,q,g1,g2,g3⟩
      cases j with
      | zero=>simp only [List.getElem?_cons_zero,Option.some.injEq] at g1;subst g1;exact .inl ⟨g2,g3⟩
      | succ j=>rw [List.getElem?_cons_succ] at g1;exact .inr ⟨j,q,g1,by rw [g2];congr 1;omega,g3⟩
    simp only [z29_l4,lt_t a,cT,idx_nat,e,bS]
    rw [ix_chains_1 c.all' p (by omega) (by omega),bS,w64_suc (by omega)]
    by_cases h1:atI (fun x:T17=>x.Name.toList==p.Name.toList) c.all'=(k:Int)
    ·rw [h1,beq_self_eq_true,cT,cont_eq now (by omega) (by omega),bS]
     cases h2:inL p.Name now with
     | true =>
      have h2:=(inL_iff _ _).1 h2
      rw [cT,called_eq N p.Body (by omega) hb2 hb3 (by omega),bS,appL_some (by omega),bS]
      refine tail (s++cnL p.Body) True (by rw [lA];omega) ⟨_,rfl,fun b=>?_⟩
      exact ⟨fun g=>⟨h1,h2,g⟩,fun g=>g.2.2⟩
     | false =>
      have h2:¬ p.Name∈now:=fun h=>by rw [(inL_iff _ _).2 h] at h2;cases h2
      rw [cF]
      exact tail s True (by omega) ⟨[],by simp,fun b=>by simp [h2]⟩
    ·rw [show (atI (fun x:T17=>x.Name.toList==p.Name.toList) c.all'==(k:Int))=false by simpa using h1,cF]
     exact tail s True (by omega) ⟨[],by simp,fun b=>by simp [h1]⟩
  obtain ⟨nx,r1,r2,r3⟩:=key _ 0 N [] rfl (by simp;omega) (by simpa using hc)
  rw [List.nil_append] at r1 r2
  refine ⟨(compS (sortS nx)).filter fun x=>c.all'.any fun q=>q.Name.toList==x.toList,?_,fun b=>?_,?_⟩
  ·have h1:=List.length_filter_le (fun x=>c.all'.any fun q=>q.Name.toList==x.toList) (compS (sortS nx))
   have h2:=compS_len (sortS nx)
   have h3:=sortS_len nx
   omega
  ·rw [List.mem_filter,mem_compS,(sortS_perm nx).mem_iff,r3,List.any_eq_true]
   constructor
   ·rintro ⟨⟨j,q,g1,g2,g3,g4⟩,q',g5,g6⟩
    rw [List.drop_zero] at g1
    rw [Nat.zero_add] at g2
    exact ⟨q.Name,g3,⟨q,first_iff _ _ _ g1 g2,g4⟩,q',g5,seq'.1 g6⟩
   ·rintro ⟨a,g1,⟨q,g2,g3⟩,q',g4,g5⟩
    obtain ⟨rfl,k,g6,g7⟩:=find_first _ _ _ g2
    exact ⟨⟨k,q,by rw [List.drop_zero];exact g6,by rw [Nat.zero_add];exact g7,g1,g3⟩,q',g4,seq'.2 g5⟩
  ·rw [show (0:Int)=((0:Nat):Int) from rfl,r1]
   unfold z29_k3 z70 z71
   have h2:=compS_len (sortS nx)
   have h3:=sortS_len nx
   rw [dT (by omega),cT,bS,dT (by omega),cT,bS,del_eq c _ (by omega) (by omega) (by omega) (by omega),bS]
 have steps:∀ (m i:Nat) (now:List ByteArray),now.length≤4194304→(∀ b,b∈now↔PathTo c.all' i c.p'.Name b)→i+m=5→∀ n,m < n →
   Ck (z29_l2 N c n now (i:Int)) c (ChainOk c.all' c.p') [] 0:=by
  intro m
  induction m with
  | zero =>
   intro i now hnow hmem hi n hn
   obtain ⟨n,rfl⟩:∃ k,n=k+1:=⟨n-1,by omega⟩
   have hi:i=5:=by omega
   subst hi
   rw [z29_l2,show decide (((5:Nat):Int) < 5)=false from rfl,cF]
   unfold z29_k1
   simp only [bind_id]
   refine (Ck.test (by decide)).iff ?_
   unfold ChainOk
   rw [decide_eq_false_iff_not]
   constructor
   ·intro h b hb
    have:=(hmem b).2 hb
    cases now with
    | nil=>cases this
    | cons x l=>exact h (by simp)
   ·intro h h2
    cases now with
    | nil=>simp at h2
    | cons x l=>exact h x ((hmem x).1 (by simp))
  | succ m ih =>
   intro i now hnow hmem hi n hn
   obtain ⟨n,rfl⟩:∃ k,n=k+1:=⟨n-1,by omega⟩
   rw [z29_l2,show decide ((i:Int) < 5)=true by simp;omega,cT]
   obtain ⟨nx,r1,r2,r3⟩:=round now (i:Int) (z29_l2 N c n) hnow
   rw [r3,w64_suc (by omega)]
   refine ih (i+1) nx r1 (fun b=>?_) (by omega) n (by omega)
   rw [r2]
   constructor
   ·rintro ⟨a,g1,g2⟩;exact ⟨a,(hmem a).1 g1,g2⟩
   ·rintro ⟨a,g1,g2⟩;exact ⟨a,(hmem a).2 g1,g2⟩
 exact steps 5 0 [c.p'.Name] (by simp) (fun b=>by simp [PathTo,eq_comm]) rfl N (by omega)
end Gp
end
section
namespace Gp
open Go Go.Kx Gx
structure ProtOk (l:List T17) (i:Nat) (p:T17):Prop where
 name:∀ q∈l.take i,q.Name≠p.Name
 roles:∀ (k:Nat) x,p.Roles[k]? = some x→x ∉ p.Roles.take k
 sorts:SortsOk p
 atoms:AtomsOk p
 items:okL l p [] p.Body
 calls:ndp [] (asL p.Body)
 chain:ChainOk l p
structure Zs (N:Nat) (l:List T17):Prop where
 len:l.length≤4194304
 p:∀ p∈l,bP p∧8388611+dL p.Body≤N∧dL p.Body≤4194304
 all:cAll l≤4194304
 n:8388611 < N
theorem cAll_mem {l:List T17} {p} (h:p∈l):cL p.Body≤cAll l:=by
 unfold cAll
 induction l with
 | nil=>cases h
 | cons q l ih =>
  rw [List.map_cons,List.sum_cons]
  rcases List.mem_cons.1 h with rfl | h
  ·omega
  ·have:=ih h;omega
theorem prot_run {N:Nat} (l:List T17) (hz:Zs N l) (i:Nat) (p:T17) (hp:l[i]? = some p) (ag:Int→Option T6) :
  ∃ c':T7,(z22_19 N (l.take i) p).bind (fun x271 =>
    bif x271 then ((z24 N (⟨l,p,([]:List ByteArray),(⟨(str []),(str []),(0:Int)⟩:T6)⟩:T7) p.Name (9:Int)).bind fun x304 =>
     z13_k5 N (i:Int) ag p x304.all' x304.p'.Name x304.p'.Roles x304.p'.Messages x304.p'.Body x304.calls' x304.out'.Protocol x304.out'.Name x304.out'.Err)
    else z13_k5 N (i:Int) ag p l p.Name p.Roles p.Messages p.Body ([]:List ByteArray) (str []) (str []) (0:Int)) =
   (bif (c'.out'.Err != (0:Int)) then some c'.out' else ag ((i+1:Nat):Int))∧(c'.out'.Err=0↔ProtOk l i p)∧((∃ q∈l.take i,q.Name=p.Name)→c'.out'=⟨p.Name,p.Name,9⟩):=by
 have hN:=hz.n
 have hl:=hz.len
 have hil:=get_lt hp
 obtain ⟨hb,hd1,hd2⟩:=hz.p p (List.mem_of_getElem? hp)
 have hcp:=cAll_mem (List.mem_of_getElem? hp)
 have hall:=hz.all
 have c0:T7:=⟨l,p,[],⟨str [],str [],0⟩⟩
 -- the name
 obtain ⟨c1,e1,g1⟩:=Ck.test (N:=N) (b:=(l.take i).any fun x=>x.Name.toList==p.Name.toList) (c:=⟨l,p,[],⟨str [],str [],0⟩⟩) (nm:=p.Name) (e:=9) (by decide)
 have a1:c1.all'=l:=g1.all
 have p1:c1.p'=p:=g1.p
 -- the roles
 obtain ⟨o2,e2,c2,e2',g2⟩:=ck_loop p.Roles (fun n c i'=>z13_l4 N (i:Int) ag p n c.all' c.p'.Name c.p'.Roles c.p'.Messages c.p'.Body c.calls' c.out'.Protocol c.out'.Name c.out'.Err i')
  (fun c=>z13_k3 N (i:Int) ag p c.all' c.p'.Name c.p'.Roles c.p'.Messages c.p'.Body c.calls' c.out'.Protocol c.out'.Name c.out'.Err) Option.bind (fun _ _=>rfl)
  (fun k x=>x ∉ p.Roles.take k) (fun _=>[]) (fun _=>0) c1.all' c1.p' c1.calls'.length
  (fun n k x c hx ha hp' _=>by
   have hk:=get_lt hx
   have hr:=hb.r
   refine ⟨bif inL x (p.Roles.take k) then z24 N c x 9 else some c,?_,(Ck.test (by decide)).iff ?_⟩
   ·simp only [z13_l4,lt_t hk,cT,z25,idx_nat,hx,bS,lsl_tk (Nat.le_of_lt hk),bind_id]
    rw [cont_eq _ (by rw [List.length_take];omega) (by rw [List.length_take];omega),bS,w64_suc (by omega)]
    cases inL x (p.Roles.take k)<;>rfl
   ·rw [← Bool.not_eq_true,inL_iff])
  (fun n k c hk=>by simp only [z13_l4,lt_f hk,cF]) (N:=N) (by have:=hb.r;omega) c1 rfl rfl (by rw [sum_zero];omega)
 subst e2'
 rw [sum_zero,flat_nil] at g2
 have a2:c2.all'=l:=by rw [g2.all,a1]
 have p2:c2.p'=p:=by rw [g2.p,p1]
 have sz:∀ c:T7,c.all'=l→c.p'=p→Sz N c:=fun c ha hp=>⟨by rw [hp];exact hb.r,by rw [hp];exact hb.m,by rw [ha];exact hl,by omega⟩
 obtain ⟨c3,e3,g3⟩:=sorts_ck (N:=N) c2 (sz c2 a2 p2) (by rw [p2];exact fun m hm=>(hb.ms m hm).1)
 have a3:c3.all'=l:=by rw [g3.all,a2]
 have p3:c3.p'=p:=by rw [g3.p,p2]
 obtain ⟨c4,e4,g4⟩:=atoms_ck (N:=N) c3 (sz c3 a3 p3) (by rw [p3];exact fun m hm=>hb.ms m hm)
 have a4:c4.all'=l:=by rw [g4.all,a3]
 have p4:c4.p'=p:=by rw [g4.p,p3]
 have l4:c4.calls'.length≤0:=by
  have h1:=g1.len;have h2:=g2.len;have h3:=g3.len;have h4:=g4.len
  have h0:([]:List ByteArray).length=0:=rfl
  simp only at h1
  omega
 obtain ⟨c5,e5,g5⟩:=items_ck N c4 p.Body [] ⟨by rw [p4];exact hb.r,by rw [p4];exact hb.m,by rw [a4];exact hl,by omega⟩ hd1 hb.l hb.b (by simpa using hd2) (by omega)
 have a5:c5.all'=l:=by rw [g5.all,a4]
 have p5:c5.p'=p:=by rw [g5.p,p4]
 obtain ⟨c6,e6,g6⟩:=chains_ck (N:=N) c5 (sz c5 a5 p5) (by rw [a5];exact fun q hq=>⟨(hz.p q hq).2.1,(hz.p q hq).1.l,(hz.p q hq).1.b⟩) (by rw [a5];exact hall)
 refine ⟨c6,?_,?_,?_⟩
 ·rw [cf_Check_1 _ p (by rw [List.length_take];omega) (by rw [List.length_take];omega),bS]
  have h5:z13_k5 N (i:Int) ag p c1.all' c1.p'.Name c1.p'.Roles c1.p'.Messages c1.p'.Body c1.calls' c1.out'.Protocol c1.out'.Name c1.out'.Err=(bif (c6.out'.Err != (0:Int)) then some c6.out' else ag ((i+1:Nat):Int)):=by
   unfold z13_k5
   refine e2.trans ?_
   show z13_k3 N (i:Int) ag p c2.all' c2.p'.Name c2.p'.Roles c2.p'.Messages c2.p'.Body c2.calls' c2.out'.Protocol c2.out'.Name c2.out'.Err=_
   unfold z13_k3
   rw [show (⟨c2.all',⟨c2.p'.Name,c2.p'.Roles,c2.p'.Messages,c2.p'.Body⟩,c2.calls',⟨c2.out'.Protocol,c2.out'.Name,c2.out'.Err⟩⟩:T7)=c2 from rfl,e3,bS,e4,bS,e5,bS,e6,bS,w64_suc (by omega)]
  cases hbb:(l.take i).any fun x=>x.Name.toList==p.Name.toList with
  | true=>rw [hbb,cT] at e1;rw [cT,e1];exact h5
  | false =>
   rw [hbb,cF] at e1;cases e1
   exact h5
 ·have h6:=((((((g1.seq g2).seq g3).seq g4).seq g5).seq g6)).err
  rw [h6,a4,p4,a5,p5,p2,p3]
  simp only [List.append_nil,List.nil_append,true_and]
  rw [any_name]
  constructor
  ·rintro ⟨⟨⟨⟨⟨⟨q1,q2⟩,q3⟩,q4⟩,q5⟩,q6⟩,q7⟩
   exact ⟨q1,q2,q3,q4,q5,q7,q6⟩
  ·exact fun q=>⟨⟨⟨⟨⟨⟨q.name,q.roles⟩,q.sorts⟩,q.atoms⟩,q.items⟩,q.chain⟩,q.calls⟩
 ·rintro ⟨q,hq,hn⟩
  have hbb:((l.take i).any fun x=>x.Name.toList==p.Name.toList)=true:=List.any_eq_true.2 ⟨q,hq,seq'.2 hn⟩
  rw [hbb,cT] at e1
  unfold z24 at e1
  rw [show ((0:Int)==0)=true from rfl,cT] at e1
  cases e1
  have s2:=g2.st (by show (9:Int)≠0;decide)
  have s3:=g3.st (by rw [s2];show (9:Int)≠0;decide)
  have s4:=g4.st (by rw [s3,s2];show (9:Int)≠0;decide)
  have s5:=g5.st (by rw [s4,s3,s2];show (9:Int)≠0;decide)
  have s6:=g6.st (by rw [s5,s4,s3,s2];show (9:Int)≠0;decide)
  rw [s6,s5,s4,s3,s2]
theorem check_eq {N:Nat} (l:List T17) (hz:Zs N l) (v:Bool) (hv:z18 N l=some v) :
  ∃ r,z13 N l=some r∧(r.Err=0↔v=true∧∀ (i:Nat) p,l[i]? = some p→ProtOk l i p) ∧
   (v=true→∀ (i:Nat) p,l[i]? = some p→(∀ (j:Nat) q,j < i→l[j]? = some q→ProtOk l j q)→(∃ q∈l.take i,q.Name=p.Name)→r=⟨p.Name,p.Name,9⟩):=by
 have hN:=hz.n
 have hl:=hz.len
 unfold z13
 rw [hv,bS]
 cases v with
 | false=>exact ⟨_,rfl,by simp,by simp⟩
 | true =>
  rw [Bool.not_true,cF]
  have key:∀ (m:List T17) (k n:Nat),l.drop k=m→m.length < n→∃ r,z13_l2 N l n (k:Int)=some r∧(r.Err=0↔∀ (i:Nat) p,m[i]? = some p→ProtOk l (k+i) p) ∧
    (∀ (i:Nat) p,m[i]? = some p→(∀ (j:Nat) q,j < i→m[j]? = some q→ProtOk l (k+j) q)→(∃ q∈l.take (k+i),q.Name=p.Name)→r=⟨p.Name,p.Name,9⟩):=by
   intro m
   induction m with
   | nil =>
    intro k n h hn
    obtain ⟨n,rfl⟩:∃ m,n=m+1:=⟨n-1,by simp at hn;omega⟩
    exact ⟨_,by simp only [z13_l2,lt_f (drop_nil h),cF];rfl,by simp,by simp⟩
   | cons p m ih =>
    intro k n h hn
    obtain ⟨n,rfl⟩:∃ m,n=m+1:=⟨n-1,by simp at hn;omega⟩
    obtain ⟨a,e,d⟩:=drop_cons h
    obtain ⟨c',q1,q2,q3⟩:=prot_run l hz k p e (z13_l2 N l n)
    have hstep:z13_l2 N l (n+1) (k:Int)=(bif (c'.out'.Err != (0:Int)) then some c'.out' else z13_l2 N l n ((k+1:Nat):Int)):=by
     rw [← q1]
     simp only [z13_l2,lt_t a,cT,idx_nat,e,bS,lsl_tk (Nat.le_of_lt a)]
    by_cases h0:c'.out'.Err=0
    ·obtain ⟨r,r1,r2,r3⟩:=ih (k+1) n d (by simp at hn;omega)
     rw [show (c'.out'.Err != (0:Int))=false by simpa using h0,cF] at hstep
     have hok:=q2.1 h0
     refine ⟨r,hstep.trans r1,?_,?_⟩
     ·rw [r2]
      constructor
      ·intro g i q hq
       cases i with
       | zero=>simp only [List.getElem?_cons_zero,Option.some.injEq] at hq;subst hq;exact hok
       | succ i=>rw [List.getElem?_cons_succ] at hq;have:=g i q hq;rwa [show k+(i+1)=k+1+i by omega]
      ·intro g i q hq
       have:=g (i+1) q (by rw [List.getElem?_cons_succ];exact hq)
       rwa [show k+(i+1)=k+1+i by omega] at this
     ·intro i q hq hb hn'
      cases i with
      | zero =>
       simp only [List.getElem?_cons_zero,Option.some.injEq] at hq;subst hq
       have:=q3 hn'
       rw [this] at h0;exact absurd (show (9:Int)=0 from h0) (by decide)
      | succ i =>
       rw [List.getElem?_cons_succ] at hq
       refine r3 i q hq (fun j q' hj hq'=>?_) (by rwa [show k+(i+1)=k+1+i by omega] at hn')
       have:=hb (j+1) q' (by omega) (by rw [List.getElem?_cons_succ];exact hq')
       rwa [show k+(j+1)=k+1+j by omega] at this
    ·rw [show (c'.out'.Err != (0:Int))=true by simpa using h0,cT] at hstep
     refine ⟨_,hstep,?_,?_⟩
     ·constructor
      ·exact fun g=>absurd g h0
      ·exact fun g=>absurd (q2.2 (g 0 p rfl)) h0
     ·intro i q hq hb hn'
      cases i with
      | zero=>simp only [List.getElem?_cons_zero,Option.some.injEq] at hq;subst hq;exact q3 hn'
      | succ i=>exact absurd (q2.2 (hb 0 p (by omega) rfl)) h0
  obtain ⟨r,r1,r2,r3⟩:=key l 0 N rfl (by omega)
  simp only [Nat.zero_add] at r2 r3
  exact ⟨r,r1,by rw [r2];simp,fun _=>r3⟩
end Gp
end
section
namespace Gp
open Go Go.Kx Gx
structure OwnOk (p:T17):Prop where
 roles:∀ (k:Nat) x,p.Roles[k]? = some x→x ∉ p.Roles.take k
 sorts:SortsOk p
 atoms:AtomsOk p
 calls:ndp [] (asL p.Body)
def NmD (l:List T17):Prop:=l.Pairwise fun a b=>a.Name≠b.Name
def NoProb (l:List T17):Prop:=ValidP l∧NmD l∧∀ p∈l,OwnOk p∧okL l p [] p.Body∧ChainOk l p
theorem np_iff (l:List T17):(∀ (i:Nat) p,l[i]? = some p→ProtOk l i p)↔NmD l∧∀ p∈l,OwnOk p∧okL l p [] p.Body∧ChainOk l p:=by
 constructor
 ·intro h
  refine ⟨?_,fun p hp=>?_⟩
  ·unfold NmD
   rw [List.pairwise_iff_getElem]
   intro i j hi hj hij
   refine (h j l[j] (List.getElem?_eq_getElem hj)).name l[i] ?_
   rw [List.mem_take_iff_getElem]
   exact ⟨i,by omega,rfl⟩
  ·obtain ⟨i,hi⟩:=List.mem_iff_getElem?.1 hp
   have:=h i p hi
   exact ⟨⟨this.roles,this.sorts,this.atoms,this.calls⟩,this.items,this.chain⟩
 ·rintro ⟨h1,h2⟩ i p hp
  obtain ⟨a,b,c⟩:=h2 p (List.mem_of_getElem? hp)
  refine ⟨fun q hq=>?_,a.roles,a.sorts,a.atoms,b,a.calls,c⟩
  unfold NmD at h1
  rw [List.pairwise_iff_getElem] at h1
  rw [List.mem_take_iff_getElem] at hq
  obtain ⟨j,hj,rfl⟩:=hq
  obtain ⟨hi,rfl⟩:=List.getElem?_eq_some_iff.1 hp
  exact h1 j i (by omega) hi (by omega)
theorem check_np {N:Nat} (l:List T17) (hz:Zs N l):∃ r,z13 N l=some r∧(r.Err=0↔NoProb l) ∧
  (ValidP l→∀ (i:Nat) p,l[i]? = some p→(∀ (j:Nat) q,j < i→l[j]? = some q→ProtOk l j q)→(∃ q∈l.take i,q.Name=p.Name)→r=⟨p.Name,p.Name,9⟩):=by
 obtain ⟨v,e,g⟩:=valid_dq (N:=N) (by have:=hz.n;omega) l hz.len fun p hp=>(hz.p p hp).1
 obtain ⟨r,h1,h2,h3⟩:=check_eq l hz v e
 exact ⟨r,h1,by rw [h2,g,np_iff];rfl,fun hv=>h3 (g.2 hv)⟩
theorem find_mem {l:List T17} (h:NmD l) {p} (hp:p∈l):l.find? (fun q=>q.Name.toList==p.Name.toList)=some p:=by
 induction l with
 | nil=>cases hp
 | cons q l ih =>
  unfold NmD at h
  rw [List.pairwise_cons] at h
  rw [List.find?_cons]
  rcases List.mem_cons.1 hp with rfl | hp
  ·simp
  ·have hne:=h.1 p hp
   rw [show (q.Name.toList==p.Name.toList)=false from by
    cases hb:(q.Name.toList==p.Name.toList) with
    | false=>rfl
    | true=>exact absurd (seq'.1 hb) hne]
   exact ih h.2 hp
theorem find_name {l:List T17} {a:ByteArray} {q} (h:l.find? (fun q=>q.Name.toList==a.toList)=some q):q∈l∧q.Name=a :=
 ⟨List.mem_of_find?_eq_some h,by have:=List.find?_some h;exact seq'.1 this⟩
end Gp
end
section
namespace Gp
open Go Go.Kx Gx
theorem rem_ok {a:Int} {n:Nat} (h0:0≤a) (h1:a≤255) (hn:0 < n):∃ q:Nat,q < n∧binO .rem .i64 (w64 a) (n:Int)=some (q:Int):=by
 obtain ⟨b,rfl⟩:=Int.eq_ofNat_of_zero_le h0
 refine ⟨b % n,Nat.mod_lt _ hn,?_⟩
 rw [w64_id (by omega) (by omega)]
 have:((n:Int)==0)=false:=by simp;omega
 simp only [binO,this,cF]
 congr 1
theorem cPs_own (l:List T12):cAll (l.map oP)=cPs l:=by
 unfold cAll cPs
 rw [List.map_map];rfl
theorem zs_own {N:Nat} {l:List T12} (hl:l.length≤4194304) (hb:∀ p∈l,RP p∧8388611+dL (oL p.Body)≤N∧dL (oL p.Body)≤4194304) (hc:cPs l≤4194304) (hN:8388611 < N):Zs N (l.map oP):=by
 refine ⟨by simpa using hl,fun p hp=>?_,by rw [cPs_own];exact hc,hN⟩
 obtain ⟨q,hq,rfl⟩:=List.mem_map.1 hp
 exact hb q hq
end Gp
end
section
namespace Gp
open Go Go.Kx Gx
theorem mget_put {α:Type} (a:ByteArray) (k:ByteArray) (x:α):∀ s:List (ByteArray × α),mget (mput s k x) a=if k=a then some x else mget s a
 | []=>by
  show (bif k.data.toList==a.data.toList then some x else mget [] a)=if k=a then some x else mget [] a
  by_cases h:k=a
  ·rw [if_pos h,(sq_iff k a).2 h];rfl
  ·rw [if_neg h,show (k.data.toList==a.data.toList)=false from by
    cases hb:(k.data.toList==a.data.toList) with
    | false=>rfl
    | true=>exact absurd ((sq_iff k a).1 hb) h]
   rfl
 | (j,y)::r=>by
  have f:∀ {u v:ByteArray},u≠v→(u.data.toList==v.data.toList)=false:=fun {u v} h=>by
   cases hb:(u.data.toList==v.data.toList) with
   | false=>rfl
   | true=>exact absurd ((sq_iff u v).1 hb) h
  by_cases hj:j=k
  ·subst hj
   rw [mput,(sq_iff j j).2 rfl,cT,mget]
   by_cases h:j=a
   ·rw [if_pos h,(sq_iff j a).2 h];rfl
   ·rw [if_neg h,f h,cF,mget,f h];rfl
  ·rw [mput,f hj,cF,mget,mget_put a k x r]
   by_cases h:j=a
   ·rw [(sq_iff j a).2 h,cT,mget,(sq_iff j a).2 h,cT,if_neg (fun e=>hj (h.trans e.symm))]
   ·rw [f h,cF,mget,f h,cF]
def allM (l:List T17) (s:List (ByteArray × T17)):List (ByteArray × T17):=l.foldl (fun s p=>mput s p.Name p) s
theorem mget_all (a:ByteArray):∀ (l:List T17) (s:List (ByteArray × T17)),NmD l→(∀ p∈l,mget s p.Name=none)→mget (allM l s) a=(l.find? (fun q=>q.Name.toList==a.toList)).or (mget s a)
 | [],s,_,_=>by simp [allM]
 | p::l,s,hn,hs=>by
  unfold NmD at hn
  rw [List.pairwise_cons] at hn
  show mget (allM l (mput s p.Name p)) a=_
  rw [mget_all a l _ hn.2 (fun q hq=>by rw [mget_put,if_neg (hn.1 q hq)];exact hs q (List.mem_cons_of_mem _ hq)),mget_put,List.find?_cons]
  by_cases h:p.Name=a
  ·rw [if_pos h,seq'.2 h]
   have:l.find? (fun q=>q.Name.toList==a.toList)=none:=by
    rw [List.find?_eq_none]
    intro q hq hb
    exact hn.1 q hq (h.trans (seq'.1 hb).symm)
   rw [this];rfl
  ·rw [if_neg h,show (p.Name.toList==a.toList)=false from by
    cases hb:(p.Name.toList==a.toList) with
    | false=>rfl
    | true=>exact absurd (seq'.1 hb) h]
theorem expand_all {N:Nat} (hN:4194304 < N) (l:List T17) (nm:ByteArray) (hl:l.length≤4194304):z8_l2 N l nm N [] 0=z8_k1 N nm (allM l []):=by
 have:=(fold_loop l (z8_l2 N l nm) (fun s p=>mput s p.Name p) (fun s=>z8_k1 N nm s)
  (fun _ _=>True) (fun n k s x hi hx=>?_) (fun n k s hi hk=>?_) (N:=N) (s:=[]) (by omega) trivial).1
 ·exact this
 ·refine ⟨?_,trivial⟩
  simp only [z8_l2,lt_t (get_lt hx),cT,idx_nat,hx,bS]
  rw [w64_succ (by have:=get_lt hx;omega)]
 ·simp only [z8_l2,lt_f hk,cF]
mutual
def plI:T15→Prop
 | ⟨k,_,_,_,_,_,b⟩=>k≠5∧k≠6∧plLL b
def plL:List T15→Prop
 | []=>True
 | x::l=>plI x∧plL l
def plLL:List (List T15)→Prop
 | []=>True
 | b::r=>plL b∧plLL r
end
theorem plI_eq (x:T15):plI x↔x.Kind≠5∧x.Kind≠6∧plLL x.Blocks:=by cases x;simp only [plI]
end Gp
end
section
namespace Gp
open Go Go.Kx Gx
theorem cLL_len:∀ l:List (List T15),cLL l=(l.map cL).sum
 | []=>rfl
 | x::l=>by simp only [cLL,List.map_cons,List.sum_cons,cLL_len l]
theorem cL_of:∀ l:List T15,cL l=l.length+(l.map fun x=>cLL x.Blocks).sum
 | []=>rfl
 | x::l=>by
  simp only [cL,List.map_cons,List.sum_cons,List.length_cons,cL_of l]
  rw [cI_eq];omega
theorem foldI {α:Type} (f:α→Nat):∀ (l:List α) (s:Int),l.foldl (fun s b=>s+(f b:Int)) s=s+((l.map f).sum:Int)
 | [],s=>by simp
 | b::l,s=>by rw [List.foldl_cons,foldI f l,List.map_cons,List.sum_cons];push_cast;omega
theorem counted_eq:∀ (N:Nat) (xs:List T15),4194306+dL xs≤N→xs.length≤4194304→bL xs→cL xs≤1099511627776→z40_r N xs=some ((cL xs:Nat):Int)
 | 0,_,h,_,_,_=>by omega
 | N+1,xs,h,hs,hb,hc=>by
  show z40_b N (z40_r N) xs=_
  unfold z40_b
  have inner:∀ (k:Nat) (x:T15) (s:Int) (ag:Int→Int→Option Int),xs[k]? = some x→0≤s→s+(cLL x.Blocks:Int)≤1099511627776 →
    z40_l4 (z40_r N) (k:Int) ag x N s (0:Int)=ag (s+(cLL x.Blocks:Int)) ((k+1:Nat):Int):=by
   intro k x s ag hx h0 hle
   have hm:=List.mem_of_getElem? hx
   have hbx:=(bI_eq _).1 (bL_mem hb hm)
   have hdx:=dL_mem hm
   rw [dI_eq] at hdx
   have hk:=get_lt hx
   rw [cLL_len] at hle ⊢
   have:=(fold_loop x.Blocks (z40_l4 (z40_r N) (k:Int) ag x) (fun s b=>s+(cL b:Int)) (fun s=>ag s ((k+1:Nat):Int))
    (fun j s=>0≤s∧s+(((x.Blocks.drop j).map cL).sum:Int)≤1099511627776) (fun n j s b hi hj=>?_) (fun n j s hi hj=>?_) (N:=N) (s:=s) (by omega) ⟨h0,by rw [List.drop_zero];exact hle⟩).1
   ·rw [this,foldI]
   ·obtain ⟨h1,h2⟩:=hi
    rw [drop_get hj,List.map_cons,List.sum_cons] at h2
    have hmb:=List.mem_of_getElem? hj
    have hbb:=bLL_mem hbx.2.2 hmb
    have hdb:=dLL_mem hmb
    have e:=counted_eq N b (by omega) hbb.1 hbb.2 (by push_cast at h2;omega)
    refine ⟨?_,by omega,by push_cast at h2;omega⟩
    simp only [z40_l4,lt_t (get_lt hj),cT,idx_nat,hj,bS,e]
    rw [w64_id (by omega) (by push_cast at h2;omega),w64_succ (by have:=get_lt hj;omega)]
   ·simp only [z40_l4,lt_f hj,cF,z40_k3]
    rw [w64_succ (by omega)]
  rw [cL_of] at hc ⊢
  have:=(fold_loop xs (z40_l2 N (z40_r N) xs) (fun s x=>s+(cLL x.Blocks:Int)) (fun s=>some s)
   (fun j s=>0≤s∧s+(((xs.drop j).map fun x=>cLL x.Blocks).sum:Int)≤1099511627776) (fun n k s x hi hx=>?_) (fun n k s hi hk=>?_) (N:=N) (s:=(xs.length:Int)) (by omega) ⟨by omega,by rw [List.drop_zero];push_cast at hc ⊢;omega⟩).1
  ·rw [this,foldI fun x:T15=>cLL x.Blocks];push_cast;rfl
  ·obtain ⟨h1,h2⟩:=hi
   rw [drop_get hx,List.map_cons,List.sum_cons] at h2
   refine ⟨?_,by omega,by push_cast at h2;omega⟩
   simp only [z40_l2,lt_t (get_lt hx),cT,idx_nat,hx,bS]
   rw [inner k x s _ hx h1 (by push_cast at h2;omega)]
  ·simp only [z40_l2,lt_f hk,cF,z40_k1]
end Gp
end
section
namespace Gp
open Go Go.Kx Gx
theorem cat_nil {s:ByteArray} (h:(bs s).length≤1000):catS (str []) s=some s:=by
 rw [cat_eq (by rw [bs_str];simp;omega),bs_str,List.nil_append,mkB_bs]
theorem term_nil (N:Nat) {t:T18} (h:TermP t):z94_49 N t ⟨[],str []⟩=some t:=by
 unfold z94_49
 cases hb:(t.Message.toList==(str []).toList) with
 | true=>rfl
 | false =>
  rw [Bool.not_false,cT]
  have:(bs t.Message).length≤50:=(termP_len h).1
  rw [cat_nil (by omega)];rfl
theorem snoc_id {α:Type} (l:List α):l.foldl (fun s x=>s++[x]) []=l:=by
 have:=snoc_fold (fun x:α=>x) l []
 rw [this];simp
theorem messages_nil {N:Nat} (hN:4194304 < N) (l:List T16) (hl:l.length≤4194304) (h:∀ m∈l,MsgP m):z37 N ⟨[],str []⟩ l=some l:=by
 unfold z37
 have:=(fold_loop l (z37_l2 N ⟨[],str []⟩ l) (fun s x=>s++[x]) (fun s=>some s)
  (fun j s=>s.length=j) (fun n k s x hi hx=>?_) (fun n k s hi hk=>?_) (N:=N) (s:=[]) (by omega) rfl).1
 ·rw [this,snoc_id]
 ·have hk:=get_lt hx
  have hm:=h x (List.mem_of_getElem? hx)
  obtain ⟨m1,m2,m3,m4,m5⟩:=hm
  refine ⟨?_,by simp [hi]⟩
  simp only [z37_l2,lt_t hk,cT,idx_nat,hx,bS]
  rw [cat_nil (by have:=path_len m1;omega),bS]
  unfold z95
  rw [appL_some (by simp;omega),List.nil_append,bS,bS]
  have:=(fold_loop x.Where (z37_l4 N ⟨[],str []⟩ s (k:Int) (z37_l2 N ⟨[],str []⟩ l n) x x.Name x.Fields) (fun s y=>s++[y]) (fun w=>z37_k3 s (k:Int) (z37_l2 N ⟨[],str []⟩ l n) x.Name x.Fields w)
   (fun j s=>s.length=j) (fun n j s y hi hj=>?_) (fun n j s hi hj=>?_) (N:=N) (s:=[]) (by omega) rfl).1
  ·rw [this,snoc_id]
   unfold z37_k3
   rw [appL_some (by simp;omega),bS,w64_succ (by omega)]
  ·have hj2:=get_lt hj
   obtain ⟨a1,a2,a3⟩:=m5 y (List.mem_of_getElem? hj)
   refine ⟨?_,by simp [hi]⟩
   simp only [z37_l4,lt_t hj2,cT,idx_nat,hj,bS,term_nil N a1,term_nil N a2]
   rw [appL_some (by simp;omega),bS,w64_succ (by omega)]
  ·simp only [z37_l4,lt_f hj,cF]
 ·simp only [z37_l2,lt_f hk,cF,z37_k1]
end Gp
end
section
namespace Gp
open Go Go.Kx Gx
theorem cL_item:∀ {l:List T15} {x},x∈l→cLL x.Blocks+1≤cL l
 | y::l,x,h=>by
  simp only [cL]
  rcases List.mem_cons.1 h with rfl | h
  ·rw [cI_eq];omega
  ·have:=cL_item h;omega
theorem cLL_item:∀ {l:List (List T15)} {x},x∈l→cL x≤cLL l
 | y::l,x,h=>by
  simp only [cLL]
  rcases List.mem_cons.1 h with rfl | h
  ·omega
  ·have:=cLL_item h;omega
end Gp
end
section
namespace Gp
open Go Go.Kx Gx
end Gp
end
section
namespace Gp
open Go Go.Kx Gx
theorem kinds_ok:∀ (N:Nat) (xs:List T10),4194306+dL (oL xs)≤N→xs.length≤4194304→bL (oL xs)→cL (oL xs)≤4194304 →
  ∃ a b:Int,z12_r N xs=some (a,b)∧0≤a∧0≤b∧a+b≤(cL (oL xs):Int)∧(a+b=0→plL (oL xs))
 | 0,_,h,_,_,_=>by omega
 | N+1,xs,h,hs,hb,hc=>by
  show ∃ a b:Int,z12_b N (z12_r N) xs=_∧_
  unfold z12_b
  have inner:∀ (k:Nat) (x:T10) (ag:Int→Int→Int→Option (Int × Int)),xs[k]? = some x→∀ (r:List (List T10)) (j n:Nat) (s t:Int),x.Blocks.drop j=r→r.length < n→0≤s→0≤t→s+t+(cLL (oLL r):Int)≤8388608 →
    ∃ a b:Int,z12_l4 (z12_r N) (k:Int) ag x n s t (j:Int)=ag a b ((k+1:Nat):Int)∧s≤a∧t≤b∧a+b≤s+t+(cLL (oLL r):Int)∧(a+b=s+t→plLL (oLL r)):=by
   intro k x ag hx r
   have hm:=List.mem_of_getElem? hx
   have hbx:=(bI_eq _).1 (bL_mem hb (oL_in hm))
   rw [oI_blocks,oLL_len] at hbx
   have hdx:=dL_mem (oL_in hm)
   rw [dI_eq,oI_blocks] at hdx
   have hk:=get_lt hx
   induction r with
   | nil =>
    intro j n s t h hn h0 h1 hle
    obtain ⟨n,rfl⟩:∃ m,n=m+1:=⟨n-1,by simp at hn;omega⟩
    refine ⟨s,t,?_,by omega,by omega,by omega,fun _=>by simp only [oLL,plLL]⟩
    simp only [z12_l4,lt_f (drop_nil h),cF,z12_k3]
    rw [w64_succ (by omega)]
   | cons y r ih =>
    intro j n s t h hn h0 h1 hle
    obtain ⟨n,rfl⟩:∃ m,n=m+1:=⟨n-1,by simp at hn;omega⟩
    obtain ⟨u,c,d⟩:=drop_cons h
    have hmb:=List.mem_of_getElem? c
    have hbb:=bLL_mem hbx.2.2 (oLL_in hmb)
    have hdb:=dLL_mem (oLL_in hmb)
    rw [oL_len] at hbb
    simp only [oLL,cLL] at hle ⊢
    push_cast at hle
    have hcm:=cL_item (oL_in hm)
    rw [oI_blocks] at hcm
    have hcb:=cLL_item (oLL_in hmb)
    obtain ⟨a,b,e,a0,b0,ab,pl⟩:=kinds_ok N y (by omega) hbb.1 hbb.2 (by omega)
    obtain ⟨a',b',e',a1,b1,ab',pl'⟩:=ih (j+1) n (s+a) (t+b) d (by simp at hn;omega) (by omega) (by omega) (by omega)
    refine ⟨a',b',?_,by omega,by omega,by push_cast;omega,fun hh=>?_⟩
    ·simp only [z12_l4,lt_t u,cT,idx_nat,c,bS,e]
     rw [w64_id (by omega) (by omega),w64_id (by omega) (by omega),w64_succ (by omega)]
     exact e'
    ·simp only [plLL]
     exact ⟨pl (by omega),pl' (by omega)⟩
  have key:∀ (r:List T10) (j n:Nat) (s t:Int),xs.drop j=r→r.length < n→0≤s→0≤t→s+t+(cL (oL r):Int)≤4194304 →
    ∃ a b:Int,z12_l2 N (z12_r N) xs n s t (j:Int)=some (a,b)∧s≤a∧t≤b∧a+b≤s+t+(cL (oL r):Int)∧(a+b=s+t→plL (oL r)):=by
   intro r
   induction r with
   | nil =>
    intro j n s t h hn h0 h1 hle
    obtain ⟨n,rfl⟩:∃ m,n=m+1:=⟨n-1,by simp at hn;omega⟩
    refine ⟨s,t,?_,by omega,by omega,by omega,fun _=>by simp only [oL,plL]⟩
    simp only [z12_l2,lt_f (drop_nil h),cF,z12_k1]
   | cons x r ih =>
    intro j n s t h hn h0 h1 hle
    obtain ⟨n,rfl⟩:∃ m,n=m+1:=⟨n-1,by simp at hn;omega⟩
    obtain ⟨u,c,d⟩:=drop_cons h
    have hm:=List.mem_of_getElem? c
    have hbx:=(bI_eq _).1 (bL_mem hb (oL_in hm))
    rw [oI_blocks,oLL_len] at hbx
    simp only [oL,cL] at hle ⊢
    rw [cI_eq,oI_blocks] at hle ⊢
    push_cast at hle ⊢
    have hkd:(oI x).Kind=x.Kind:=by rw [oI_eq]
    have fin:∀ (s1 t1:Int),s≤s1→t≤t1→s1+t1≤s+t+1→(s1+t1=s+t→x.Kind≠5∧x.Kind≠6)→∃ a b:Int,z12_k5 N (z12_r N) (j:Int) (z12_l2 N (z12_r N) xs n) x s1 t1=some (a,b)∧s≤a∧t≤b∧a+b≤s+t+((cLL (oLL x.Blocks):Int)+1+(cL (oL r):Int))∧(a+b=s+t→plI (oI x)∧plL (oL r)):=by
     intro s1 t1 hs1 ht1 hst hkk
     obtain ⟨a,b,e,a1,b1,ab,pl⟩:=inner j x (z12_l2 N (z12_r N) xs n) c x.Blocks 0 N s1 t1 rfl (by omega) (by omega) (by omega) (by omega)
     obtain ⟨a',b',e',a2,b2,ab',pl'⟩:=ih (j+1) n a b d (by simp at hn;omega) (by omega) (by omega) (by omega)
     refine ⟨a',b',?_,by omega,by omega,by omega,fun hh=>⟨?_,pl' (by omega)⟩⟩
     ·unfold z12_k5
      exact e.trans e'
     ·rw [plI_eq,oI_blocks,hkd]
      have:=hkk (by omega)
      exact ⟨this.1,this.2,pl (by omega)⟩
    simp only [z12_l2,lt_t u,cT,idx_nat,c,bS,z12_k6,plL]
    by_cases h6:x.Kind=6
    ·rw [show (x.Kind==(6:Int))=true by simpa using h6,cT,show (x.Kind==(5:Int))=false by simp [h6],cF,w64_id (by omega) (by omega)]
     exact fin (s+1) t (by omega) (by omega) (by omega) (fun hh=>by omega)
    ·rw [show (x.Kind==(6:Int))=false by simpa using h6,cF]
     by_cases h5:x.Kind=5
     ·rw [show (x.Kind==(5:Int))=true by simpa using h5,cT,w64_id (by omega) (by omega)]
      exact fin s (t+1) (by omega) (by omega) (by omega) (fun hh=>by omega)
     ·rw [show (x.Kind==(5:Int))=false by simpa using h5,cF]
      exact fin s t (by omega) (by omega) (by omega) (fun _=>⟨h5,h6⟩)
  obtain ⟨a,b,e,a1,b1,ab,pl⟩:=key xs 0 N 0 0 rfl (by rw [show xs.length=xs.length from rfl];omega) (by omega) (by omega) (by omega)
  exact ⟨a,b,e,a1,b1,by omega,fun h=>pl (by omega)⟩
end Gp
end
section
namespace Gp
open Go Go.Kx Gx
end Gp
end
section
namespace Gp
open Go Go.Kx Gx
end Gp
end
section
namespace Gp
open Go Go.Kx Gx
theorem path_pre {l:List T17} {a b:ByteArray} (h:CallsTo l a b):∀ (n:Nat) c,PathTo l n b c→PathTo l (n+1) a c
 | 0,c,hc=>by
  have hc:b=c:=hc
  subst hc
  exact ⟨a,rfl,h⟩
 | n+1,c,⟨d,h1,h2⟩=>⟨d,path_pre h n d h1,h2⟩
theorem rank_ex (l:List T17) (hc:∀ p∈l,ChainOk l p):∃ R:ByteArray→Nat,(∀ a,R a≤4)∧∀ p∈l,∀ b,CallsTo l p.Name b→R b < R p.Name:=by
 classical
 refine ⟨fun a=>(if ∃ b,PathTo l 1 a b then 1 else 0)+(if ∃ b,PathTo l 2 a b then 1 else 0)+(if ∃ b,PathTo l 3 a b then 1 else 0)+(if ∃ b,PathTo l 4 a b then 1 else 0),fun a=>?_,fun p hp b hb=>?_⟩
 ·dsimp only;split<;>split<;>split<;>split<;>omega
 ·have up:∀ n,(∃ c,PathTo l n b c)→∃ c,PathTo l (n+1) p.Name c:=fun n ⟨c,h⟩=>⟨c,path_pre hb n c h⟩
  have le:∀ n,(if ∃ c,PathTo l n b c then 1 else 0)≤(if ∃ c,PathTo l (n+1) p.Name c then 1 else 0):=by
   intro n
   split
   ·rename_i h;rw [if_pos (up n h)];exact Nat.le_refl _
   ·exact Nat.zero_le _
  have h0:∃ c,PathTo l 1 p.Name c:=up 0 ⟨b,rfl⟩
  have h4:¬ ∃ c,PathTo l 4 b c:=fun h=>by obtain ⟨c,g⟩:=up 4 h;exact hc p hp c g
  have e1:(if ∃ c,PathTo l 1 b c then 1 else 0)≤(if ∃ c,PathTo l 2 p.Name c then 1 else 0):=le 1
  have e2:(if ∃ c,PathTo l 2 b c then 1 else 0)≤(if ∃ c,PathTo l 3 p.Name c then 1 else 0):=le 2
  have e3:(if ∃ c,PathTo l 3 b c then 1 else 0)≤(if ∃ c,PathTo l 4 p.Name c then 1 else 0):=le 3
  dsimp only
  rw [if_pos h0,if_neg h4]
  omega
mutual
def EI (l:List T17) (R:ByteArray→Nat) (r:Nat):T15→Prop
 | ⟨k,_,t,n,a,_,b⟩=>(k=6→∃ q∈l,q.Name=n∧q.Roles.length=t.length∧R n < r)∧(bs n).length≤50∧(bs a).length≤50∧t.length≤6∧b.length≤8∧ELL l R r b
def EL (l:List T17) (R:ByteArray→Nat) (r:Nat):List T15→Prop
 | []=>True
 | x::xs=>EI l R r x∧EL l R r xs
def ELL (l:List T17) (R:ByteArray→Nat) (r:Nat):List (List T15)→Prop
 | []=>True
 | b::bs=>EL l R r b∧ELL l R r bs
end
theorem EI_eq {l R r} (x:T15):EI l R r x↔(x.Kind=6→∃ q∈l,q.Name=x.Name∧q.Roles.length=x.To.length∧R x.Name < r)∧(bs x.Name).length≤50∧(bs x.As).length≤50∧x.To.length≤6∧x.Blocks.length≤8∧ELL l R r x.Blocks:=by
 cases x;simp only [EI]
theorem EL_mem {l R r}:∀ {xs:List T15} {x},EL l R r xs→x∈xs→EI l R r x
 | y::xs,x,h,hx=>by
  simp only [EL] at h
  rcases List.mem_cons.1 hx with rfl | hx
  ·exact h.1
  ·exact EL_mem h.2 hx
theorem ELL_mem {l R r}:∀ {xs:List (List T15)} {x},ELL l R r xs→x∈xs→EL l R r x
 | y::xs,x,h,hx=>by
  simp only [ELL] at h
  rcases List.mem_cons.1 hx with rfl | hx
  ·exact h.1
  ·exact ELL_mem h.2 hx
theorem nil_len:(bs (str [])).length≤50:=by rw [bs_str];exact Nat.zero_le _
theorem sh_size {x:T15} (h:ShP x):(bs x.Name).length≤50∧(bs x.As).length≤50∧x.To.length≤6∧x.Blocks.length≤8:=by
 have z:=nil_len
 rcases h with ⟨_,_,a,b,c,_,d⟩ | ⟨_,_,a,b,c,_,_,_,d⟩ | ⟨_,_,a,b,c,_,d⟩ | ⟨_,_,a,b,c,_,d⟩ | ⟨_,_,a,b,c,_,_,d⟩ | ⟨_,_,a,b,c,_,d⟩
 ·exact ⟨path_len b,by rw [c];exact z,by have:=a.2.1;omega,by omega⟩
 ·exact ⟨by rw [b];exact z,by rw [c];exact z,by omega,by omega⟩
 ·exact ⟨path_len b,by rw [c];exact z,by omega,by omega⟩
 ·exact ⟨path_len b,by rw [c];exact z,by omega,by omega⟩
 ·exact ⟨by rw [b];exact z,by rw [c];exact z,by omega,by omega⟩
 ·exact ⟨by have:=word_len b;omega,by have:=word_len c;omega,a.2.1,by omega⟩
mutual
theorem e_I {l:List T17} {R:ByteArray→Nat} {r:Nat} {p:T17}:∀ (x:T15) ls,okI l p ls x→shI x→(∀ a∈cnI x,(∃ q∈l,q.Name=a)→R a < r)→EI l R r x
 | ⟨k,f,t,n,a,z,b⟩,ls,h,hs,hc=>by
  rw [okI_eq] at h
  rw [shI_eq] at hs
  obtain ⟨g1,g2,g3,g4⟩:=sh_size hs.1
  simp only [EI]
  refine ⟨fun h6=>?_,g1,g2,g3,g4,e_LL b _ h.2 hs.2 fun q hq=>hc q (by simp only [cnI];exact List.mem_append_right _ hq)⟩
  obtain ⟨_,_,_,_,hh⟩:=h.1
  obtain ⟨q,q1,q2,_⟩:=hh h6
  obtain ⟨q3,q4⟩:=find_name q1
  have q4:q.Name=n:=q4
  exact ⟨q,q3,q4,q2,hc n (by simp only [cnI,hereC];rw [if_pos h6];simp) ⟨q,q3,q4⟩⟩
theorem e_L {l:List T17} {R:ByteArray→Nat} {r:Nat} {p:T17}:∀ (xs:List T15) ls,okL l p ls xs→shL xs→(∀ a∈cnL xs,(∃ q∈l,q.Name=a)→R a < r)→EL l R r xs
 | [],_,_,_,_=>by simp only [EL]
 | x::xs,ls,h,hs,hc=>by
  simp only [okL] at h
  simp only [shL] at hs
  simp only [EL]
  exact ⟨e_I x _ h.1 hs.1 fun q hq=>hc q (by simp only [cnL];exact List.mem_append_left _ hq),e_L xs _ h.2 hs.2 fun q hq=>hc q (by simp only [cnL];exact List.mem_append_right _ hq)⟩
theorem e_LL {l:List T17} {R:ByteArray→Nat} {r:Nat} {p:T17}:∀ (xs:List (List T15)) ls,okLL l p ls xs→shLL xs→(∀ a∈cnLL xs,(∃ q∈l,q.Name=a)→R a < r)→ELL l R r xs
 | [],_,_,_,_=>by simp only [ELL]
 | x::xs,ls,h,hs,hc=>by
  simp only [okLL] at h
  simp only [shLL] at hs
  simp only [ELL]
  exact ⟨e_L x _ h.1 hs.1 fun q hq=>hc q (by simp only [cnLL];exact List.mem_append_left _ hq),e_LL xs _ h.2 hs.2 fun q hq=>hc q (by simp only [cnLL];exact List.mem_append_right _ hq)⟩
end
mutual
theorem rcE_I {l R r}:∀ x,EI l R r x→(rcI x).length≤7 * cI x
 | ⟨k,f,t,n,a,z,b⟩,h=>by
  simp only [EI] at h
  have h1:=hdR_len ⟨k,f,t,n,a,z,b⟩
  have h1:(hdR ⟨k,f,t,n,a,z,b⟩).length≤t.length+1:=h1
  have:=rcE_LL b h.2.2.2.2.2
  have:=h.2.2.2.1
  rw [rcI_eq,cI_eq,lA]
  show _+(rcLL b).length≤7 * (cLL b+1)
  omega
theorem rcE_L {l R r}:∀ xs,EL l R r xs→(rcL xs).length≤7 * cL xs
 | [],_=>by simp [rcL]
 | x::xs,h=>by
  simp only [EL] at h
  have:=rcE_I x h.1
  have:=rcE_L xs h.2
  simp only [rcL,cL,lA];omega
theorem rcE_LL {l R r}:∀ xs,ELL l R r xs→(rcLL xs).length≤7 * cLL xs
 | [],_=>by simp [rcLL]
 | x::xs,h=>by
  simp only [ELL] at h
  have:=rcE_L x h.1
  have:=rcE_LL xs h.2
  simp only [rcLL,cLL,lA];omega
end
theorem cL_ge:∀ xs:List T15,xs.length≤cL xs
 | []=>by simp [cL]
 | x::xs=>by have:=cL_ge xs;have:=cI_eq x;simp only [cL,List.length_cons];omega
mutual
theorem bE_I {l R r}:∀ x,EI l R r x→cI x≤4194304→bI x
 | ⟨k,f,t,n,a,z,b⟩,h,hc=>by
  simp only [EI] at h
  simp only [cI] at hc
  simp only [bI]
  exact ⟨by omega,by omega,bE_LL b h.2.2.2.2.2 (by omega)⟩
theorem bE_L {l R r}:∀ xs,EL l R r xs→cL xs≤4194304→bL xs
 | [],_,_=>by simp only [bL]
 | x::xs,h,hc=>by
  simp only [EL] at h
  simp only [cL] at hc
  simp only [bL]
  exact ⟨bE_I x h.1 (by omega),bE_L xs h.2 (by omega)⟩
theorem bE_LL {l R r}:∀ xs,ELL l R r xs→cLL xs≤4194304→bLL xs
 | [],_,_=>by simp only [bLL]
 | x::xs,h,hc=>by
  simp only [ELL] at h
  simp only [cLL] at hc
  simp only [bLL]
  have:=cL_ge x
  exact ⟨by omega,bE_L x h.1 (by omega),bE_LL xs h.2 (by omega)⟩
end
end Gp
end
section
namespace Gp
open Go Go.Kx Gx
def Agr (l:List T17) (A:List (ByteArray × T17)):Prop:=∀ p∈l,mget A p.Name=some p
theorem sep_l6 {l:List T17} (rcI:(List T15)→T2→(List (ByteArray × Bool))→T17→Option (Bool × (List (ByteArray × Bool)))) (c3:T17) (k:Nat) (hk:k < 4194304) (b:List T15)
  (hrec:∀ seen,∃ o,∀ c:T2,Agr l c.all'→rcI b c seen c3=some o)
  (ag:T2→List (ByteArray × Bool)→List (ByteArray × Bool)→Int→Option (Bool × List (ByteArray × Bool)))
  (hag:∀ seen taken,∃ o,∀ c:T2,Agr l c.all'→ag c seen taken ((k+1:Nat):Int)=some o) (rs:List ByteArray) (hrs:rs.length≤4194304) (seen:List (ByteArray × Bool)) :
  ∀ (q:List ByteArray) (j n:Nat) (taken:List (ByteArray × Bool)),rs.drop j=q→q.length < n→∃ o,∀ c:T2,Agr l c.all'→z34_48_l6 rcI c c3 seen (k:Int) (ag c) b rs n taken (j:Int)=some o:=by
 intro q
 induction q with
 | nil =>
  intro j n taken h hn
  obtain ⟨n,rfl⟩:∃ m,n=m+1:=⟨n-1,by simp at hn;omega⟩
  obtain ⟨⟨b1,b2⟩,ho⟩:=hrec seen
  cases b1 with
  | false =>
   refine ⟨(false,b2),fun c hc=>?_⟩
   simp only [z34_48_l6,lt_f (drop_nil h),cF,z34_48_k5]
   rw [ho c hc];rfl
  | true =>
   obtain ⟨o2,h2⟩:=hag b2 taken
   refine ⟨o2,fun c hc=>?_⟩
   simp only [z34_48_l6,lt_f (drop_nil h),cF,z34_48_k5]
   rw [ho c hc,bS,w64_succ (by omega)]
   exact h2 c hc
 | cons x q ih =>
  intro j n taken h hn
  obtain ⟨n,rfl⟩:∃ m,n=m+1:=⟨n-1,by simp at hn;omega⟩
  obtain ⟨a,e,d⟩:=drop_cons h
  cases hb:(mget taken x).getD false with
  | true =>
   refine ⟨(false,seen),fun c hc=>?_⟩
   simp only [z34_48_l6,lt_t a,cT,idx_nat,e,bS,hb]
  | false =>
   obtain ⟨o2,h2⟩:=ih (j+1) n (mput taken x true) d (by simp at hn;omega)
   refine ⟨o2,fun c hc=>?_⟩
   simp only [z34_48_l6,lt_t a,cT,idx_nat,e,bS,hb,cF]
   rw [w64_succ (by omega)]
   exact h2 c hc
theorem sep_w {l:List T17} {R:ByteArray→Nat} {r:Nat} (rc:T2→ByteArray→(List (ByteArray × Bool))→Option (Bool × (List (ByteArray × Bool))))
  (hrc:∀ q∈l,R q.Name < r→∀ seen,∃ o,∀ c:T2,Agr l c.all'→rc c q.Name seen=some o) (c3:T17) (hr3:c3.Roles.length≤4194304) :
  ∀ (N:Nat) (xs:List T15),4194306+dL xs≤N→cL xs≤300→EL l R r xs→∀ seen,∃ o,∀ c:T2,Agr l c.all'→z34_48_r rc N xs c seen c3=some o
 | 0,_,h,_,_,_=>by omega
 | N+1,xs,h,hc,he,seen=>by
  show ∃ o,∀ c:T2,Agr l c.all'→z34_48_b N rc (z34_48_r rc N) xs c seen c3=some o
  unfold z34_48_b
  have hlen:=cL_ge xs
  have inner:∀ (k:Nat) (x:T15) (ag:T2→List (ByteArray × Bool)→Int→Option (Bool × List (ByteArray × Bool))),xs[k]? = some x →
    (∀ seen,∃ o,∀ c:T2,Agr l c.all'→ag c seen ((k+1:Nat):Int)=some o)→∀ seen v,∃ o,∀ c:T2,Agr l c.all' →
    z34_48_k7 N (z34_48_r rc N) c c3 (k:Int) (ag c) x seen v=some o:=by
   intro k x ag hx hag seen v
   have hm:=List.mem_of_getElem? hx
   obtain ⟨_,_,_,_,hbl,hel⟩:=(EI_eq x).1 (EL_mem he hm)
   have hdx:=dL_mem hm
   rw [dI_eq] at hdx
   have hcx:=cL_item hm
   have hk:=get_lt hx
   cases v with
   | true=>exact ⟨(false,seen),fun c hc=>by unfold z34_48_k7;rfl⟩
   | false =>
    have key:∀ (q:List (List T15)) (j n:Nat) seen taken,x.Blocks.drop j=q→q.length < n→∃ o,∀ c:T2,Agr l c.all' →
      z34_48_l4 N (z34_48_r rc N) c c3 (k:Int) (ag c) x n seen taken (j:Int)=some o:=by
     intro q
     induction q with
     | nil =>
      intro j n seen taken h hn
      obtain ⟨n,rfl⟩:∃ m,n=m+1:=⟨n-1,by simp at hn;omega⟩
      obtain ⟨o,ho⟩:=hag seen
      refine ⟨o,fun c hc=>?_⟩
      simp only [z34_48_l4,lt_f (drop_nil h),cF,z34_48_k3]
      rw [w64_succ (by omega)]
      exact ho c hc
     | cons b q ih =>
      intro j n seen taken h hn
      obtain ⟨n,rfl⟩:∃ m,n=m+1:=⟨n-1,by simp at hn;omega⟩
      obtain ⟨a,e,d⟩:=drop_cons h
      have hmb:=List.mem_of_getElem? e
      have hdb:=dLL_mem hmb
      have hcb:=cLL_item hmb
      have heb:=ELL_mem hel hmb
      have hrec:=fun seen=>sep_w rc hrc c3 hr3 N b (by omega) (by omega) heb seen
      have next:=fun seen taken=>ih (j+1) n seen taken d (by simp at hn;omega)
      cases h5:(x.Kind==(5:Int)) with
      | true =>
       have hbb:=bE_L b heb (by omega)
       have hrr:=rcE_L b heb
       have hlb:=cL_ge b
       obtain ⟨o,ho⟩:=sep_l6 (z34_48_r rc N) c3 j (by omega) b hrec (fun c=>z34_48_l4 N (z34_48_r rc N) c c3 (k:Int) (ag c) x n) next
        (c3.Roles.filter fun r=>inL r (rcL b)) (by have:=List.length_filter_le (fun r=>inL r (rcL b)) c3.Roles;omega) seen _ 0 N taken rfl (by
         rw [List.drop_zero]
         have:=List.length_filter_le (fun r=>inL r (rcL b)) c3.Roles;omega)
       refine ⟨o,fun c hc=>?_⟩
       simp only [z34_48_l4,lt_t a,cT,idx_nat,e,bS,h5]
       rw [ownTakes_eq (by omega) c3.Roles hr3 b (by omega) (by omega) hbb (by omega) (by omega),bS]
       exact ho c hc
      | false =>
       obtain ⟨⟨b1,b2⟩,ho⟩:=hrec seen
       cases b1 with
       | false =>
        refine ⟨(false,b2),fun c hc=>?_⟩
        simp only [z34_48_l4,lt_t a,cT,idx_nat,e,bS,h5,cF]
        rw [ho c hc];rfl
       | true =>
        obtain ⟨o2,h2⟩:=next b2 taken
        refine ⟨o2,fun c hc=>?_⟩
        simp only [z34_48_l4,lt_t a,cT,idx_nat,e,bS,h5,cF]
        rw [ho c hc,bS,w64_succ (by omega)]
        exact h2 c hc
    obtain ⟨o,ho⟩:=key _ 0 N seen [] rfl (by rw [List.drop_zero];omega)
    exact ⟨o,fun c hc=>by unfold z34_48_k7;rw [cF];exact ho c hc⟩
  have key:∀ (q:List T15) (j n:Nat) seen,xs.drop j=q→q.length < n→∃ o,∀ c:T2,Agr l c.all' →
    z34_48_l2 N rc (z34_48_r rc N) xs c c3 n seen (j:Int)=some o:=by
   intro q
   induction q with
   | nil =>
    intro j n seen h hn
    obtain ⟨n,rfl⟩:∃ m,n=m+1:=⟨n-1,by simp at hn;omega⟩
    refine ⟨(true,seen),fun c hc=>?_⟩
    simp only [z34_48_l2,lt_f (drop_nil h),cF,z34_48_k1]
   | cons x q ih =>
    intro j n seen h hn
    obtain ⟨n,rfl⟩:∃ m,n=m+1:=⟨n-1,by simp at hn;omega⟩
    obtain ⟨a,e,d⟩:=drop_cons h
    have hm:=List.mem_of_getElem? e
    have in2:=inner j x (fun c=>z34_48_l2 N rc (z34_48_r rc N) xs c c3 n) e (fun seen=>ih (j+1) n seen d (by simp at hn;omega))
    cases h6:(x.Kind==(6:Int)) with
    | true =>
     obtain ⟨p,hp,hpn,_,hR⟩:=((EI_eq x).1 (EL_mem he hm)).1 (by simpa using h6)
     obtain ⟨⟨b1,b2⟩,ho⟩:=hrc p hp (by rw [hpn];exact hR) seen
     rw [hpn] at ho
     obtain ⟨o2,h2⟩:=in2 b2 (!b1)
     refine ⟨o2,fun c hc=>?_⟩
     simp only [z34_48_l2,lt_t a,cT,idx_nat,e,bS,h6]
     rw [ho c hc,bS]
     exact h2 c hc
    | false =>
     obtain ⟨o2,h2⟩:=in2 seen false
     refine ⟨o2,fun c hc=>?_⟩
     simp only [z34_48_l2,lt_t a,cT,idx_nat,e,bS,h6,cF]
     exact h2 c hc
  exact key _ 0 N seen rfl (by rw [List.drop_zero];omega)
structure Rn (l:List T17) (R:ByteArray→Nat):Prop where
 le:∀ a,R a≤4
 e:∀ p∈l,EL l R (R p.Name) p.Body
 d:∀ p∈l,dL p.Body≤10
 c:∀ p∈l,cL p.Body≤300
 r:∀ p∈l,p.Roles.length≤6
 m:∀ p∈l,p.Messages.length≤40
 ms:∀ p∈l,∀ m∈p.Messages,MsgP m
theorem rn_of {l:List T17} (hn:NoProb l):∃ R,Rn l R:=by
 obtain ⟨R,h1,h2⟩:=rank_ex l fun p hp=>(hn.2.2 p hp).2.2
 refine ⟨R,h1,fun p hp=>?_,fun p hp=>?_,fun p hp=>?_,fun p hp=>?_,fun p hp=>?_,fun p hp=>?_⟩
 ·obtain ⟨_,_,_,ws,_⟩:=hn.1.2.1 p hp
  refine e_L p.Body [] (hn.2.2 p hp).2.1 ws fun a ha hq=>h2 p hp a ⟨⟨p,find_mem hn.2.1 hp,ha⟩,hq⟩
 ·exact (hn.1.2.1 p hp).2.2.2.2.1
 ·exact (hn.1.2.1 p hp).2.2.2.2.2.1
 ·exact (hn.1.2.1 p hp).2.1.2.1
 ·exact (hn.1.2.1 p hp).2.2.1
 ·exact (hn.1.2.1 p hp).2.2.2.2.2.2
theorem sep_tot {l:List T17} {R:ByteArray→Nat} (hR:Rn l R):∀ (r N:Nat) (p:T17),p∈l→R p.Name < r→4194320+r≤N→∀ seen,∃ o,∀ c:T2,Agr l c.all'→z16_r N c p.Name seen=some o
 | 0,_,_,_,h,_,_=>by omega
 | r+1,0,_,_,_,h,_=>by omega
 | r+1,N+1,p,hp,hr,h,seen=>by
  show ∃ o,∀ c:T2,Agr l c.all'→z16_b N (z16_r N) c p.Name seen=some o
  cases hb:(mget seen p.Name).getD false with
  | true=>exact ⟨(true,seen),fun c hc=>by unfold z16_b;rw [hb];rfl⟩
  | false =>
   have hd:=hR.d p hp
   obtain ⟨o,ho⟩:=sep_w (r:=R p.Name) (z16_r N) (fun q hq hqr seen=>sep_tot hR r N q hq (by omega) (by omega) seen) p (by have:=hR.r p hp;omega) N p.Body (by omega) (hR.c p hp) (hR.e p hp) (mput seen p.Name true)
   refine ⟨o,fun c hc=>?_⟩
   unfold z16_b z34_48
   rw [hb,bS,cF,hc p hp,Option.getD_some,bS,ho c hc]
   rfl
end Gp
end
section
namespace Gp
open Go Go.Kx Gx
def rnT (h:ByteArray) (t:T18):T18:=if t.Message=str [] then t else ⟨t.Kind,mkB (bs h++bs t.Message),t.Field,t.N⟩
def rnM (h:ByteArray) (m:T16):T16:=⟨mkB (bs h++bs m.Name),m.Fields,m.Where.map fun a=>⟨rnT h a.Left,a.Op,rnT h a.Right⟩⟩
def Bm (s:Nat) (m:T16):Prop:=m.Fields.length≤4∧m.Where.length≤6∧(bs m.Name).length≤s∧∀ a∈m.Where,(bs a.Left.Message).length≤s∧(bs a.Right.Message).length≤s
theorem bm_of {m:T16} (h:MsgP m):Bm 50 m:=⟨h.2.1,h.2.2.1,path_len h.1,fun a ha=>⟨(termP_len (h.2.2.2.2 a ha).1).1,(termP_len (h.2.2.2.2 a ha).2.1).1⟩⟩
theorem bm_mono {s t:Nat} (h:s≤t) {m:T16} (b:Bm s m):Bm t m:=⟨b.1,b.2.1,by have:=b.2.2.1;omega,fun a ha=>by have:=b.2.2.2 a ha;omega⟩
theorem rnT_len {h:ByteArray} {t:T18} {s:Nat} (hh:(bs h).length≤51) (ht:(bs t.Message).length≤s):(bs (rnT h t).Message).length≤s+51:=by
 unfold rnT
 split
 ·omega
 ·show (bs (mkB (bs h++bs t.Message))).length≤_
  rw [bs_mkB,lA];omega
theorem rnM_b {h:ByteArray} {m:T16} {s:Nat} (hh:(bs h).length≤51) (b:Bm s m):Bm (s+51) (rnM h m):=by
 obtain ⟨b1,b2,b3,b4⟩:=b
 refine ⟨b1,by show (List.map _ _).length≤_;rw [List.length_map];exact b2,?_,fun a ha=>?_⟩
 ·show (bs (mkB (bs h++bs m.Name))).length≤_
  rw [bs_mkB,lA];omega
 ·obtain ⟨a',ha',rfl⟩:=List.mem_map.1 ha
  exact ⟨rnT_len hh (b4 a' ha').1,rnT_len hh (b4 a' ha').2⟩
theorem term_rn (N:Nat) {h:ByteArray} {t:T18} {s:Nat} {ro:List (ByteArray × ByteArray)} (hh:(bs h).length≤51) (hs:s≤10000) (ht:(bs t.Message).length≤s):z94_49 N t ⟨ro,h⟩=some (rnT h t):=by
 unfold z94_49 rnT
 cases hb:(t.Message.toList==(str []).toList) with
 | true=>rw [if_pos (seq'.1 hb)];rfl
 | false =>
  rw [if_neg (fun e=>by rw [seq'.2 e] at hb;cases hb),Bool.not_false,cT,cat_eq (a:=h) (by omega)];rfl
theorem messages_rn {N:Nat} (hN:4194304 < N) {ro:List (ByteArray × ByteArray)} {h:ByteArray} {s:Nat} (hh:(bs h).length≤51) (hs:s≤10000) (l:List T16) (hl:l.length≤4194304) (hb:∀ m∈l,Bm s m):z37 N ⟨ro,h⟩ l=some (l.map (rnM h)):=by
 unfold z37
 have:=(fold_loop l (z37_l2 N ⟨ro,h⟩ l) (fun s x=>s++[rnM h x]) (fun s=>some s)
  (fun j s=>s.length=j) (fun n k s x hi hx=>?_) (fun n k s hi hk=>?_) (N:=N) (s:=[]) (by omega) rfl).1
 ·rw [this,snoc_fold];rfl
 ·have hk:=get_lt hx
  obtain ⟨m1,m2,m3,m4⟩:=hb x (List.mem_of_getElem? hx)
  refine ⟨?_,by simp [hi]⟩
  simp only [z37_l2,lt_t hk,cT,idx_nat,hx,bS]
  rw [cat_eq (a:=h) (by omega),bS]
  unfold z95
  rw [appL_some (by simp;omega),List.nil_append,bS,bS]
  have:=(fold_loop x.Where (z37_l4 N ⟨ro,h⟩ s (k:Int) (z37_l2 N ⟨ro,h⟩ l n) x (mkB (bs h++bs x.Name)) x.Fields) (fun s y=>s++[(⟨rnT h y.Left,y.Op,rnT h y.Right⟩:T14)]) (fun w=>z37_k3 s (k:Int) (z37_l2 N ⟨ro,h⟩ l n) (mkB (bs h++bs x.Name)) x.Fields w)
   (fun j s=>s.length=j) (fun n j s y hi hj=>?_) (fun n j s hi hj=>?_) (N:=N) (s:=[]) (by omega) rfl).1
  ·rw [this,snoc_fold,List.nil_append]
   unfold z37_k3
   rw [appL_some (by simp;omega),bS,w64_succ (by omega)];rfl
  ·have hj2:=get_lt hj
   obtain ⟨a1,a2⟩:=m4 y (List.mem_of_getElem? hj)
   refine ⟨?_,by simp [hi]⟩
   simp only [z37_l4,lt_t hj2,cT,idx_nat,hj,bS,term_rn N hh hs a1,term_rn N hh hs a2]
   rw [appL_some (by simp;omega),bS,w64_succ (by omega)]
  ·simp only [z37_l4,lt_f hj,cF]
 ·simp only [z37_l2,lt_f hk,cF,z37_k1]
def rnR (ro:List (ByteArray × ByteArray)) (s:ByteArray):ByteArray:=(mget ro s).getD s
theorem role_rn (N:Nat) (ro:List (ByteArray × ByteArray)) (h s:ByteArray):z96 N ⟨ro,h⟩ s=some (rnR ro s):=by
 unfold z96 rnR
 cases mget ro s<;>rfl
mutual
def rnI (ro:List (ByteArray × ByteArray)) (h:ByteArray):T15→T15
 | ⟨k,f,t,n,a,z,b⟩=>⟨k,if f=str [] then f else rnR ro f,t.map (rnR ro),if k=1∨k=3∨k=4 then mkB (bs h++bs n) else n,a,z,rnLL ro h b⟩
def rnL (ro:List (ByteArray × ByteArray)) (h:ByteArray):List T15→List T15
 | []=>[]
 | x::xs=>rnI ro h x::rnL ro h xs
def rnLL (ro:List (ByteArray × ByteArray)) (h:ByteArray):List (List T15)→List (List T15)
 | []=>[]
 | x::xs=>rnL ro h x::rnLL ro h xs
def GI (s:Nat):T15→Prop
 | ⟨_,_,t,n,_,_,b⟩=>(bs n).length≤s∧t.length≤6∧b.length≤8∧GLL s b
def GL (s:Nat):List T15→Prop
 | []=>True
 | x::xs=>GI s x∧GL s xs
def GLL (s:Nat):List (List T15)→Prop
 | []=>True
 | b::bs=>GL s b∧GLL s bs
end
theorem rnI_eq (ro h) (x:T15):rnI ro h x=⟨x.Kind,if x.From=str [] then x.From else rnR ro x.From,x.To.map (rnR ro),if x.Kind=1∨x.Kind=3∨x.Kind=4 then mkB (bs h++bs x.Name) else x.Name,x.As,x.Ticks,rnLL ro h x.Blocks⟩:=by cases x;simp only [rnI]
theorem rnL_map (ro h):∀ l:List T15,rnL ro h l=l.map (rnI ro h)
 | []=>rfl
 | x::l=>by simp only [rnL,List.map_cons,rnL_map ro h l]
theorem rnLL_map (ro h):∀ l:List (List T15),rnLL ro h l=l.map (rnL ro h)
 | []=>rfl
 | x::l=>by simp only [rnLL,List.map_cons,rnLL_map ro h l]
theorem GI_eq {s} (x:T15):GI s x↔(bs x.Name).length≤s∧x.To.length≤6∧x.Blocks.length≤8∧GLL s x.Blocks:=by cases x;simp only [GI]
theorem GL_mem {s}:∀ {xs:List T15} {x},GL s xs→x∈xs→GI s x
 | y::xs,x,h,hx=>by
  simp only [GL] at h
  rcases List.mem_cons.1 hx with rfl | hx
  ·exact h.1
  ·exact GL_mem h.2 hx
theorem GLL_mem {s}:∀ {xs:List (List T15)} {x},GLL s xs→x∈xs→GL s x
 | y::xs,x,h,hx=>by
  simp only [GLL] at h
  rcases List.mem_cons.1 hx with rfl | hx
  ·exact h.1
  ·exact GLL_mem h.2 hx
theorem GL_app {s}:∀ {a b:List T15},GL s a→GL s b→GL s (a++b)
 | [],b,_,h=>h
 | x::a,b,h,g=>by
  simp only [GL,List.cons_append] at h ⊢
  exact ⟨h.1,GL_app h.2 g⟩
theorem GLL_app {s}:∀ {a b:List (List T15)},GLL s a→GLL s b→GLL s (a++b)
 | [],b,_,h=>h
 | x::a,b,h,g=>by
  simp only [GLL,List.cons_append] at h ⊢
  exact ⟨h.1,GLL_app h.2 g⟩
theorem cL_app:∀ a b:List T15,cL (a++b)=cL a+cL b
 | [],b=>by simp [cL]
 | x::a,b=>by simp only [List.cons_append,cL,cL_app a b];omega
theorem cLL_app:∀ a b:List (List T15),cLL (a++b)=cLL a+cLL b
 | [],b=>by simp [cLL]
 | x::a,b=>by simp only [List.cons_append,cLL,cLL_app a b];omega
mutual
theorem bG_I {s}:∀ x,GI s x→cI x≤4194304→bI x
 | ⟨k,f,t,n,a,z,b⟩,h,hc=>by
  simp only [GI] at h
  simp only [cI] at hc
  simp only [bI]
  exact ⟨by omega,by omega,bG_LL b h.2.2.2 (by omega)⟩
theorem bG_L {s}:∀ xs,GL s xs→cL xs≤4194304→bL xs
 | [],_,_=>by simp only [bL]
 | x::xs,h,hc=>by
  simp only [GL] at h
  simp only [cL] at hc
  simp only [bL]
  exact ⟨bG_I x h.1 (by omega),bG_L xs h.2 (by omega)⟩
theorem bG_LL {s}:∀ xs,GLL s xs→cLL xs≤4194304→bLL xs
 | [],_,_=>by simp only [bLL]
 | x::xs,h,hc=>by
  simp only [GLL] at h
  simp only [cLL] at hc
  simp only [bLL]
  have:=cL_ge x
  exact ⟨by omega,bG_L x h.1 (by omega),bG_LL xs h.2 (by omega)⟩
end
mutual
theorem rn_gI {s ro h} (hh:(bs h).length≤51):∀ x,GI s x→GI (s+51) (rnI ro h x)∧cI (rnI ro h x)=cI x
 | ⟨k,f,t,n,a,z,b⟩,g=>by
  simp only [GI] at g
  obtain ⟨g1,g2,g3,g4⟩:=g
  obtain ⟨q1,q2⟩:=rn_gLL (ro:=ro) hh b g4
  simp only [rnI,GI,cI]
  refine ⟨⟨?_,by rw [List.length_map];exact g2,by rw [rnLL_map,List.length_map];exact g3,q1⟩,by rw [q2]⟩
  split
  ·rw [bs_mkB,lA];omega
  ·omega
theorem rn_gL {s ro h} (hh:(bs h).length≤51):∀ xs,GL s xs→GL (s+51) (rnL ro h xs)∧cL (rnL ro h xs)=cL xs
 | [],_=>by simp only [rnL,GL,cL,and_self]
 | x::xs,g=>by
  simp only [GL] at g
  obtain ⟨q1,q2⟩:=rn_gI (ro:=ro) hh x g.1
  obtain ⟨q3,q4⟩:=rn_gL (ro:=ro) hh xs g.2
  simp only [rnL,GL,cL]
  exact ⟨⟨q1,q3⟩,by rw [q2,q4]⟩
theorem rn_gLL {s ro h} (hh:(bs h).length≤51):∀ xs,GLL s xs→GLL (s+51) (rnLL ro h xs)∧cLL (rnLL ro h xs)=cLL xs
 | [],_=>by simp only [rnLL,GLL,cLL,and_self]
 | x::xs,g=>by
  simp only [GLL] at g
  obtain ⟨q1,q2⟩:=rn_gL (ro:=ro) hh x g.1
  obtain ⟨q3,q4⟩:=rn_gLL (ro:=ro) hh xs g.2
  simp only [rnLL,GLL,cLL]
  exact ⟨⟨q1,q3⟩,by rw [q2,q4]⟩
end
mutual
theorem g_monoI {s t} (h:s≤t):∀ x,GI s x→GI t x
 | ⟨k,f,to,n,a,z,b⟩,g=>by
  simp only [GI] at g ⊢
  exact ⟨by omega,g.2.1,g.2.2.1,g_monoLL h b g.2.2.2⟩
theorem g_monoL {s t} (h:s≤t):∀ x,GL s x→GL t x
 | [],_=>by simp only [GL]
 | x::xs,g=>by
  simp only [GL] at g ⊢
  exact ⟨g_monoI h x g.1,g_monoL h xs g.2⟩
theorem g_monoLL {s t} (h:s≤t):∀ x,GLL s x→GLL t x
 | [],_=>by simp only [GLL]
 | x::xs,g=>by
  simp only [GLL] at g ⊢
  exact ⟨g_monoL h x g.1,g_monoLL h xs g.2⟩
end
theorem items_rn {ro:List (ByteArray × ByteArray)} {h:ByteArray} {s:Nat} (hh:(bs h).length≤51) (hs:s≤10000) :
  ∀ (N:Nat) (xs:List T15),4194306+dL xs≤N→cL xs≤4194304→GL s xs→z39_r N ⟨ro,h⟩ xs=some (rnL ro h xs)
 | 0,_,h,_,_=>by omega
 | N+1,xs,hN,hc,hg=>by
  show z39_b N (z39_r N) ⟨ro,h⟩ xs=_
  unfold z39_b
  have hlen:=cL_ge xs
  have:=(fold_loop xs (z39_l2 N (z39_r N) ⟨ro,h⟩ xs) (fun s x=>s++[rnI ro h x]) (fun s=>some s)
   (fun j s=>s.length=j) (fun n k s2 x hi hx=>?_) (fun n k s hi hk=>?_) (N:=N) (s:=[]) (by omega) rfl).1
  ·rw [this,snoc_fold,rnL_map];rfl
  ·have hk:=get_lt hx
   have hm:=List.mem_of_getElem? hx
   obtain ⟨g1,g2,g3,g4⟩:=(GI_eq x).1 (GL_mem hg hm)
   have hdx:=dL_mem hm
   rw [dI_eq] at hdx
   have hcx:=cL_item hm
   refine ⟨?_,by simp [hi]⟩
   have k3:∀ f t n2,z39_k5 N (z39_r N) ⟨ro,h⟩ s2 (k:Int) (z39_l2 N (z39_r N) ⟨ro,h⟩ xs n) x f t n2 =
     z39_l2 N (z39_r N) ⟨ro,h⟩ xs n (s2++[(⟨x.Kind,f,t,n2,x.As,x.Ticks,rnLL ro h x.Blocks⟩:T15)]) ((k+1:Nat):Int):=by
    intro f t n2
    unfold z39_k5
    have:=(fold_loop x.Blocks (z39_l4 (z39_r N) ⟨ro,h⟩ s2 (k:Int) (z39_l2 N (z39_r N) ⟨ro,h⟩ xs n) x f t n2) (fun s y=>s++[rnL ro h y]) (fun w=>z39_k3 s2 (k:Int) (z39_l2 N (z39_r N) ⟨ro,h⟩ xs n) x f t n2 w)
     (fun j s=>s.length=j) (fun n j s y hi hj=>?_) (fun n j s hi hj=>?_) (N:=N) (s:=[]) (by omega) rfl).1
    ·rw [this,snoc_fold,List.nil_append,← rnLL_map]
     unfold z39_k3
     rw [appL_some (by simp;omega),bS,w64_succ (by omega)]
    ·have hj2:=get_lt hj
     have hmb:=List.mem_of_getElem? hj
     have hdb:=dLL_mem hmb
     have hcb:=cLL_item hmb
     have e:=items_rn hh hs N y (by omega) (by omega) (GLL_mem g4 hmb) (ro:=ro)
     refine ⟨?_,by simp [hi]⟩
     simp only [z39_l4,lt_t hj2,cT,idx_nat,hj,bS,e]
     rw [appL_some (by simp;omega),bS,w64_succ (by omega)]
    ·simp only [z39_l4,lt_f hj,cF]
   have k9:∀ f,z39_k9 N (z39_r N) ⟨ro,h⟩ s2 (k:Int) (z39_l2 N (z39_r N) ⟨ro,h⟩ xs n) x f =
     z39_l2 N (z39_r N) ⟨ro,h⟩ xs n (s2++[(⟨x.Kind,f,x.To.map (rnR ro),if x.Kind=1∨x.Kind=3∨x.Kind=4 then mkB (bs h++bs x.Name) else x.Name,x.As,x.Ticks,rnLL ro h x.Blocks⟩:T15)]) ((k+1:Nat):Int):=by
    intro f
    unfold z39_k9
    have:=(fold_loop x.To (z39_l8 N (z39_r N) ⟨ro,h⟩ s2 (k:Int) (z39_l2 N (z39_r N) ⟨ro,h⟩ xs n) x f) (fun s y=>s++[rnR ro y]) (fun w=>z39_k7 N (z39_r N) ⟨ro,h⟩ s2 (k:Int) (z39_l2 N (z39_r N) ⟨ro,h⟩ xs n) x f w)
     (fun j s=>s.length=j) (fun n j s y hi hj=>?_) (fun n j s hi hj=>?_) (N:=N) (s:=[]) (by omega) rfl).1
    ·rw [this,snoc_fold,List.nil_append]
     have k6:∀ v,z39_k6 N (z39_r N) ⟨ro,h⟩ s2 (k:Int) (z39_l2 N (z39_r N) ⟨ro,h⟩ xs n) x f (x.To.map (rnR ro)) v=z39_l2 N (z39_r N) ⟨ro,h⟩ xs n (s2++[(⟨x.Kind,f,x.To.map (rnR ro),if v=true then mkB (bs h++bs x.Name) else x.Name,x.As,x.Ticks,rnLL ro h x.Blocks⟩:T15)]) ((k+1:Nat):Int):=by
      intro v
      unfold z39_k6
      cases v with
      | true=>rw [cT,cat_eq (a:=h) (by omega),bS,k3,if_pos rfl]
      | false=>rw [cF,k3,if_neg (by decide)]
     unfold z39_k7
     by_cases h1:x.Kind=1
     ·rw [show (x.Kind==(1:Int))=true by simpa using h1,cT,k6,if_pos rfl,if_pos (.inl h1)]
     ·rw [show (x.Kind==(1:Int))=false by simpa using h1,cF]
      by_cases h3:x.Kind=3
      ·rw [show (x.Kind==(3:Int))=true by simpa using h3,cT,k6,if_pos rfl,if_pos (.inr (.inl h3))]
      ·rw [show (x.Kind==(3:Int))=false by simpa using h3,cF]
       by_cases h4:x.Kind=4
       ·rw [show (x.Kind==(4:Int))=true by simpa using h4,k6,if_pos rfl,if_pos (.inr (.inr h4))]
       ·rw [show (x.Kind==(4:Int))=false by simpa using h4,k6,if_neg (by decide),if_neg (by rintro (h | h | h)<;>contradiction)]
    ·have hj2:=get_lt hj
     refine ⟨?_,by simp [hi]⟩
     simp only [z39_l8,lt_t hj2,cT,idx_nat,hj,bS,role_rn]
     rw [appL_some (by simp;omega),bS,w64_succ (by omega)]
    ·simp only [z39_l8,lt_f hj,cF]
   simp only [z39_l2,lt_t hk,cT,idx_nat,hx,bS]
   rw [rnI_eq]
   cases hf:(x.From.toList==(str []).toList) with
   | true =>
    have hne:x.From=str []:=seq'.1 hf
    rw [Bool.not_true,cF,k9,if_pos hne]
   | false =>
    have hne:¬ x.From=str []:=fun e=>by rw [seq'.2 e] at hf;cases hf
    rw [Bool.not_false,cT,role_rn,bS,k9,if_neg hne]
  ·simp only [z39_l2,lt_f hk,cF,z39_k1]
end Gp
end
section
namespace Gp
open Go Go.Kx Gx
structure Bq (s:Nat) (n:Nat) (q:T17):Prop where
 r:q.Roles.length=n
 m:q.Messages.length≤40
 ms:∀ m∈q.Messages,Bm s m
 c:cL q.Body≤300
 g:GL s q.Body
def DnI (l:List T17) (R:ByteArray→Nat) (D:List (ByteArray × T17)):Prop:=∀ q∈l,∀ o,mget D q.Name=some o→Bq (100 * (R q.Name+1)) q.Roles.length o
structure Pw (l:List T17) (R:ByteArray→Nat) (S:Nat) (D:List (ByteArray × T17)) (ok:Bool) (ms:List T16) (part:List T15):Prop where
 d:DnI l R D
 m:ms.length≤80
 ok:ok=true→ms.length≤40
 ms:∀ m∈ms,Bm S m
 c:cL part≤300
 g:GL S part
def Tw (l:List T17) (R:ByteArray→Nat) (S:Nat) (nm:ByteArray) (ro:List ByteArray) (bo:List T15) (f:List (ByteArray × T17)→Option (List T15 × T2 × Bool × T17)):Prop :=
 ∃ D ok ms part,Pw l R S D ok ms part∧∀ A,Agr l A→f A=some (part,⟨A,D⟩,ok,⟨nm,ro,ms,bo⟩)
theorem Tw.to {l R S nm ro bo f g} (h:Tw l R S nm ro bo g) (e:∀ A,Agr l A→f A=g A):Tw l R S nm ro bo f:=by
 obtain ⟨D,ok,ms,part,h1,h2⟩:=h
 exact ⟨D,ok,ms,part,h1,fun A hA=>(e A hA).trans (h2 A hA)⟩
theorem Tw.none {l R S nm ro bo D ms f} (hd:DnI l R D) (hm:ms.length≤80) (hms:∀ m∈ms,Bm S m) (e:∀ A,Agr l A→f A=some ([],⟨A,D⟩,false,⟨nm,ro,ms,bo⟩)):Tw l R S nm ro bo f :=
 ⟨D,false,ms,[],⟨hd,hm,(fun h=>by cases h),hms,(by simp [cL]),(by simp only [GL])⟩,e⟩
theorem k3_tw {l R S nm ro bo} {N k:Nat} (hN:4198320≤N) (hk:k < 4194304) {ag} (hag:∀ D ms part,Pw l R S D true ms part→Tw l R S nm ro bo (fun A=>ag A D true nm ro ms bo part ((k+1:Nat):Int)))
  {D ms part} (ok:Bool) (hd:DnI l R D) (hm:ms.length≤80) (hms:∀ m∈ms,Bm S m) (hc:cL part≤3000) (hg:GL S part) :
  Tw l R S nm ro bo (fun A=>z38_50_k3 N (k:Int) ag A D ok nm ro ms bo part):=by
 have hb:=bG_L part hg (by omega)
 have h1:=dc_L part
 have h2:=cL_ge part
 have e:z40 N part=_:=counted_eq N part (by omega) (by omega) hb (by omega)
 by_cases c1:cL part > 300
 ·refine Tw.none hd hm hms fun A hA=>?_
  unfold z38_50_k3
  rw [e,bS,dT (by omega),cT]
 ·by_cases c2:ms.length > 40
  ·refine Tw.none hd hm hms fun A hA=>?_
   unfold z38_50_k3
   rw [e,bS,dF (by omega),cF,dT (by omega),cT]
  ·cases ok with
   | false =>
    refine Tw.none hd hm hms fun A hA=>?_
    unfold z38_50_k3
    rw [e,bS,dF (by omega),cF,dF (by omega),cF,Bool.not_false,cT]
   | true =>
    refine (hag D ms part ⟨hd,hm,fun _=>by omega,hms,by omega,hg⟩).to fun A hA=>?_
    unfold z38_50_k3
    rw [e,bS,dF (by omega),cF,dF (by omega),cF,Bool.not_true,cF,w64_succ (by omega)]
theorem l5_run (N:Nat) (nm:ByteArray) (ro:List ByteArray) (ms:List T16) (bo part:List T15) (k:Int) (ag) (x:T15) (o:T17) (v:Bool) (hd:ByteArray) (fine:Bool) (D':List (ByteArray × T17)) (hlen:o.Roles.length=x.To.length) (hx:x.To.length≤6) :
  ∀ (q:List ByteArray) (j n:Nat) mp,o.Roles.drop j=q→q.length < n→∃ mp',∀ A,z38_50_l5 N nm ro ms bo part k ag x (o,fine,⟨A,D'⟩) v hd n mp (j:Int) =
   z38_50_k4 N nm ro ms bo part k ag (o,fine,⟨A,D'⟩) v hd mp':=by
 intro q
 induction q with
 | nil =>
  intro j n mp h hn
  obtain ⟨n,rfl⟩:∃ m,n=m+1:=⟨n-1,by simp at hn;omega⟩
  exact ⟨mp,fun A=>by simp only [z38_50_l5,lt_f (drop_nil h),cF]⟩
 | cons b q ih =>
  intro j n mp h hn
  obtain ⟨n,rfl⟩:∃ m,n=m+1:=⟨n-1,by simp at hn;omega⟩
  obtain ⟨a,e,d⟩:=drop_cons h
  have e2:x.To[j]? = some x.To[j]:=List.getElem?_eq_getElem (by omega)
  obtain ⟨mp',hm⟩:=ih (j+1) n (mput mp b x.To[j]) d (by simp at hn;omega)
  refine ⟨mp',fun A=>?_⟩
  rw [← hm A]
  simp only [z38_50_l5,lt_t a,cT,idx_nat,e,e2,bS]
  rw [w64_succ (by omega)]
theorem dot_len:(bs (str [46])).length=1:=by rw [bs_str];rfl
theorem exp_w {l:List T17} {R:ByteArray→Nat} {r:Nat} (hr:r≤4) (rc:T2→ByteArray→Option (T17 × Bool × T2))
  (hrc:∀ q∈l,R q.Name < r→∀ D,DnI l R D→∃ o ok D',DnI l R D'∧(ok=true→Bq (100 * (R q.Name+1)) q.Roles.length o)∧∀ A,Agr l A→rc ⟨A,D⟩ q.Name=some (o,ok,⟨A,D'⟩))
  (nm:ByteArray) (ro:List ByteArray) (bo:List T15) :
  ∀ (N:Nat) (xs:List T15),4198330+dL xs≤N→cL xs≤300→EL l R r xs→∀ D ok ms,DnI l R D→ms.length≤80→(ok=true→ms.length≤40)→(∀ m∈ms,Bm (100 * (r+1)) m) →
   Tw l R (100 * (r+1)) nm ro bo (fun A=>z38_50_r rc N xs ⟨A,D⟩ ok ⟨nm,ro,ms,bo⟩)
 | 0,_,h,_,_=>by omega
 | N+1,xs,h,hc,he=>by
  have hlen:=cL_ge xs
  have key:∀ (q:List T15) (j n:Nat) D ok ms part,xs.drop j=q→q.length < n→Pw l R (100 * (r+1)) D ok ms part →
    Tw l R (100 * (r+1)) nm ro bo (fun A=>z38_50_l2 N rc (z38_50_r rc N) xs n A D ok nm ro ms bo part (j:Int)):=by
   intro q
   induction q with
   | nil =>
    intro j n D ok ms part h hn hp
    obtain ⟨n,rfl⟩:∃ m,n=m+1:=⟨n-1,by simp at hn;omega⟩
    exact ⟨D,ok,ms,part,hp,fun A hA=>by simp only [z38_50_l2,lt_f (drop_nil h),cF,z38_50_k1]⟩
   | cons x q ih =>
    intro j n D ok ms part h hn hp
    obtain ⟨n,rfl⟩:∃ m,n=m+1:=⟨n-1,by simp at hn;omega⟩
    obtain ⟨a,e,d⟩:=drop_cons h
    have hm:=List.mem_of_getElem? e
    obtain ⟨hcall,hnm,has,hto,hbl,hel⟩:=(EI_eq x).1 (EL_mem he hm)
    have hdx:=dL_mem hm
    rw [dI_eq] at hdx
    have hcx:=cL_item hm
    have next:=fun D ms part hp=>ih (j+1) n D true ms part d (by simp at hn;omega) hp
    cases h6:(x.Kind==(6:Int)) with
    | true =>
     obtain ⟨p,hpl,hpn,hpr,hR⟩:=hcall (by simpa using h6)
     obtain ⟨o,fine,D',hD',hB,ho⟩:=hrc p hpl (by rw [hpn];exact hR) D hp.d
     rw [hpn] at ho hB
     have k6:∀ v:Bool,(v=true→ok=true∧fine=true)→Tw l R (100 * (r+1)) nm ro bo (fun A=>z38_50_k6 N nm ro ms bo part (j:Int) (z38_50_l2 N rc (z38_50_r rc N) xs n) x (o,fine,⟨A,D'⟩) v):=by
      intro v hv
      cases v with
      | false=>exact Tw.none hD' hp.m hp.ms fun A hA=>by unfold z38_50_k6;rfl
      | true =>
       obtain ⟨v1,v2⟩:=hv rfl
       have hq:=hB v2
       have hmk:=hp.ok v1
       have hdot:=dot_len
       obtain ⟨mp,hmp⟩:=l5_run N nm ro ms bo part (j:Int) (z38_50_l2 N rc (z38_50_r rc N) xs n) x o true (mkB (bs x.As++bs (str [46]))) fine D' (by rw [hq.r,hpr]) hto _ 0 N [] rfl (by rw [List.drop_zero,hq.r,hpr];omega)
       have hh:(bs (mkB (bs x.As++bs (str [46])))).length≤51:=by rw [bs_mkB,lA];omega
       have hs:100 * (R x.Name+1)≤10000:=by omega
       have e1:=messages_rn (N:=N) (by omega) (ro:=mp) hh hs o.Messages (by have:=hq.m;omega) hq.ms
       have hdo:=dc_L o.Body
       have hqc:=hq.c
       have e2:z39 N ⟨mp,_⟩ o.Body=_:=items_rn (ro:=mp) hh hs N o.Body (by omega) (by omega) hq.g
       obtain ⟨g1,g2⟩:=rn_gL (ro:=mp) hh o.Body hq.g
       have hl2:=cL_ge (rnL mp (mkB (bs x.As++bs (str [46]))) o.Body)
       have hlp:=cL_ge part
       have hpc:=hp.c
       have hqm:=hq.m
       refine (k3_tw (N:=N) (k:=j) (by omega) (by omega) next (D:=D') (ms:=ms++o.Messages.map (rnM (mkB (bs x.As++bs (str [46]))))) (part:=part++rnL mp (mkB (bs x.As++bs (str [46]))) o.Body) true hD' (by rw [lA,List.length_map];omega) (fun m hm=>?_) (by rw [cL_app,g2];omega) (GL_app hp.g (g_monoL (by omega) _ g1))).to fun A hA=>?_
       ·rcases List.mem_append.1 hm with hm | hm
        ·exact hp.ms m hm
        ·obtain ⟨m',hm',rfl⟩:=List.mem_map.1 hm
         exact bm_mono (by omega) (rnM_b hh (hq.ms m' hm'))
       ·have hmA:=hmp A
        unfold z38_50_k6
        rw [Bool.not_true,cF,cat_eq (by omega),bS]
        refine hmA.trans ?_
        unfold z38_50_k4
        dsimp only
        rw [e1,bS,appL_some (by rw [List.length_map];omega),bS,e2,bS,appL_some (by rw [g2] at hl2;omega),bS]
     cases ok with
     | true =>
      refine (k6 fine fun h=>⟨rfl,h⟩).to fun A hA=>?_
      simp only [z38_50_l2,lt_t a,cT,idx_nat,e,bS,h6]
      rw [ho A hA];rfl
     | false =>
      refine (k6 false fun h=>by cases h).to fun A hA=>?_
      simp only [z38_50_l2,lt_t a,cT,idx_nat,e,bS,h6]
      rw [ho A hA];rfl
    | false =>
     cases h5:(x.Kind==(5:Int)) with
     | true =>
      have bl:∀ (q:List (List T15)) (i m:Nat) D ok ms part,x.Blocks.drop i=q→q.length < m→i≤8→DnI l R D→ms.length≤80→(ok=true→ms.length≤40)→(∀ m∈ms,Bm (100 * (r+1)) m)→cL part≤300+300 * i→GL (100 * (r+1)) part →
        Tw l R (100 * (r+1)) nm ro bo (fun A=>z38_50_l8 N (z38_50_r rc N) (j:Int) (z38_50_l2 N rc (z38_50_r rc N) xs n) x m A D ok nm ro ms bo part (i:Int)):=by
       intro q
       induction q with
       | nil =>
        intro i m D ok ms part h2 hn2 hi p1 p2 p3 p4 p5 p6
        obtain ⟨m,rfl⟩:∃ z,m=z+1:=⟨m-1,by simp at hn2;omega⟩
        refine (k3_tw (N:=N) (k:=j) (by omega) (by omega) next ok p1 p2 p4 (by omega) p6).to fun A hA=>?_
        simp only [z38_50_l8,lt_f (drop_nil h2),cF,z38_50_k7]
       | cons b q ihq =>
        intro i m D ok ms part h2 hn2 hi p1 p2 p3 p4 p5 p6
        obtain ⟨m,rfl⟩:∃ z,m=z+1:=⟨m-1,by simp at hn2;omega⟩
        obtain ⟨a2,e2,d2⟩:=drop_cons h2
        have hmb:=List.mem_of_getElem? e2
        have hdb:=dLL_mem hmb
        have hcb:=cLL_item hmb
        obtain ⟨D2,ok2,ms2,part2,q1,q2⟩:=exp_w hr rc hrc nm ro bo N b (by omega) (by omega) (ELL_mem hel hmb) D ok ms p1 p2 p3 p4
        have l1:=cL_ge part
        have l2:=cL_ge part2
        have hc2:=q1.c
        refine (ihq (i+1) m D2 ok2 ms2 (part++part2) d2 (by simp at hn2;omega) (by omega) q1.d q1.m q1.ok q1.ms (by rw [cL_app];omega) (GL_app p6 q1.g)).to fun A hA=>?_
        simp only [z38_50_l8,lt_t a2,cT,idx_nat,e2,bS]
        have q2:z38_50_r rc N b ⟨A,D⟩ ok ⟨nm,ro,ms,bo⟩=_:=q2 A hA
        rw [q2,bS]
        dsimp only
        rw [appL_some (by omega),bS,w64_succ (by omega)]
      refine (bl _ 0 N D ok ms part rfl (by rw [List.drop_zero];omega) (by omega) hp.d hp.m hp.ok hp.ms (by have:=hp.c;omega) hp.g).to fun A hA=>?_
      simp only [z38_50_l2,lt_t a,cT,idx_nat,e,bS,h6,cF,h5]
      rfl
     | false =>
      have bl:∀ (q:List (List T15)) (i m:Nat) D ok ms bs2,x.Blocks.drop i=q→q.length < m→i≤8→DnI l R D→ms.length≤80→(ok=true→ms.length≤40)→(∀ m∈ms,Bm (100 * (r+1)) m)→cLL bs2≤300 * i→bs2.length=i→GLL (100 * (r+1)) bs2 →
        Tw l R (100 * (r+1)) nm ro bo (fun A=>z38_50_l10 N (z38_50_r rc N) part (j:Int) (z38_50_l2 N rc (z38_50_r rc N) xs n) x x.To m A D ok nm ro ms bo bs2 (i:Int)):=by
       intro q
       induction q with
       | nil =>
        intro i m D ok ms bs2 h2 hn2 hi p1 p2 p3 p4 p5 p6 p7
        obtain ⟨m,rfl⟩:∃ z,m=z+1:=⟨m-1,by simp at hn2;omega⟩
        have l1:=cL_ge part
        have hpc:=hp.c
        have hcI:cL [(⟨x.Kind,x.From,x.To,x.Name,x.As,x.Ticks,bs2⟩:T15)]=cLL bs2+1:=by simp only [cL,cI];try omega
        refine (k3_tw (N:=N) (k:=j) (by omega) (by omega) next (part:=part++[(⟨x.Kind,x.From,x.To,x.Name,x.As,x.Ticks,bs2⟩:T15)]) ok p1 p2 p4 (by rw [cL_app,hcI];omega) (GL_app hp.g ?_)).to fun A hA=>?_
        ·simp only [GL,GI]
         exact ⟨⟨by omega,hto,by omega,p7⟩,trivial⟩
        ·simp only [z38_50_l10,lt_f (drop_nil h2),cF,z38_50_k9]
         rw [appL_some (by simp;omega),bS]
       | cons b q ihq =>
        intro i m D ok ms bs2 h2 hn2 hi p1 p2 p3 p4 p5 p6 p7
        obtain ⟨m,rfl⟩:∃ z,m=z+1:=⟨m-1,by simp at hn2;omega⟩
        obtain ⟨a2,e2,d2⟩:=drop_cons h2
        have hmb:=List.mem_of_getElem? e2
        have hdb:=dLL_mem hmb
        have hcb:=cLL_item hmb
        obtain ⟨D2,ok2,ms2,part2,q1,q2⟩:=exp_w hr rc hrc nm ro bo N b (by omega) (by omega) (ELL_mem hel hmb) D ok ms p1 p2 p3 p4
        have hc2:=q1.c
        have hcb2:cLL [part2]=cL part2:=by simp only [cLL];omega
        refine (ihq (i+1) m D2 ok2 ms2 (bs2++[part2]) d2 (by simp at hn2;omega) (by omega) q1.d q1.m q1.ok q1.ms (by rw [cLL_app,hcb2];omega) (by simp [p6]) (GLL_app p7 (by simp only [GLL];exact ⟨q1.g,trivial⟩))).to fun A hA=>?_
        simp only [z38_50_l10,lt_t a2,cT,idx_nat,e2,bS]
        have q2:z38_50_r rc N b ⟨A,D⟩ ok ⟨nm,ro,ms,bo⟩=_:=q2 A hA
        rw [q2,bS]
        dsimp only
        rw [appL_some (by simp;omega),bS,w64_succ (by omega)]
      refine (bl _ 0 N D ok ms [] rfl (by rw [List.drop_zero];omega) (by omega) hp.d hp.m hp.ok hp.ms (by simp [cLL]) rfl (by simp only [GLL])).to fun A hA=>?_
      simp only [z38_50_l2,lt_t a,cT,idx_nat,e,bS,h6,cF,h5]
      unfold z36
      rw [appL_some (by simp;omega),List.nil_append,bS,bS]
      rfl
  intro D ok ms h1 h2 h3 h4
  refine (key _ 0 N D ok ms [] rfl (by rw [List.drop_zero];omega) ⟨h1,h2,h3,h4,by simp [cL],by simp only [GL]⟩).to fun A hA=>?_
  rfl
end Gp
end
section
namespace Gp
open Go Go.Kx Gx
theorem exp_tot {l:List T17} {R:ByteArray→Nat} (hR:Rn l R) (hnd:NmD l):∀ (r N:Nat) (p:T17),p∈l→R p.Name < r→4198350+r≤N→∀ D,DnI l R D →
  ∃ o ok D',DnI l R D'∧(ok=true→Bq (100 * (R p.Name+1)) p.Roles.length o)∧∀ A,Agr l A→z17_r N ⟨A,D⟩ p.Name=some (o,ok,⟨A,D'⟩)
 | 0,_,_,_,h,_,_,_=>by omega
 | r+1,0,_,_,_,h,_,_=>by omega
 | r+1,N+1,p,hp,hr,h,D,hD=>by
  show ∃ o ok D',DnI l R D'∧(ok=true→Bq (100 * (R p.Name+1)) p.Roles.length o)∧∀ A,Agr l A→z17_b N (z17_r N) ⟨A,D⟩ p.Name=some (o,ok,⟨A,D'⟩)
  cases hg:mget D p.Name with
  | some o=>exact ⟨o,true,D,hD,fun _=>hD p hp o hg,fun A hA=>by unfold z17_b;dsimp only;rw [hg];rfl⟩
  | none =>
   have hd:=hR.d p hp
   have hm:=hR.m p hp
   have hro:=hR.r p hp
   obtain ⟨D',ok,ms,part,h1,h2⟩:=exp_w (hR.le p.Name) (z17_r N) (fun q hq hqr D hD=>exp_tot hR hnd r N q hq (by omega) (by omega) D hD) p.Name p.Roles [] N p.Body (by omega) (hR.c p hp) (hR.e p hp) D true p.Messages hD (by omega) (fun _=>hm)
    (fun m hm'=>bm_mono (by omega) (bm_of (hR.ms p hp m hm')))
   have run:∀ A,Agr l A→z17_b N (z17_r N) ⟨A,D⟩ p.Name=(bif (!ok) then (some ((⟨(str []),([]:List ByteArray),([]:List T16),([]:List T15)⟩:T17),false,(⟨A,D'⟩:T2)))
     else some ((⟨p.Name,p.Roles,ms,part⟩:T17),true,(⟨A,(mput D' p.Name (⟨p.Name,p.Roles,ms,part⟩:T17))⟩:T2))):=by
    intro A hA
    unfold z17_b z36 z38_50
    dsimp only
    rw [hg,hA p hp]
    simp only [bS,Option.getD_none,Option.getD_some,Option.isSome_none,cF]
    rw [appL_some (by simp;omega),List.nil_append,bS,bS,messages_nil (by omega) p.Messages (by omega) (hR.ms p hp),bS]
    have h2:z38_50_r (z17_r N) N p.Body ⟨A,D⟩ true ⟨p.Name,p.Roles,p.Messages,[]⟩=_:=h2 A hA
    rw [h2,bS]
   cases ok with
   | false=>exact ⟨_,false,D',h1.d,(fun h=>by cases h),fun A hA=>run A hA⟩
   | true =>
    have hB:Bq (100 * (R p.Name+1)) p.Roles.length ⟨p.Name,p.Roles,ms,part⟩:=⟨rfl,h1.ok rfl,h1.ms,h1.c,h1.g⟩
    refine ⟨_,true,_,fun q hq o ho=>?_,fun _=>hB,fun A hA=>run A hA⟩
    rw [mget_put] at ho
    split at ho
    ·rename_i hn
     cases ho
     have e1:=find_mem hnd hp
     have e2:=find_mem hnd hq
     rw [hn] at e1
     rw [e1] at e2
     cases e2
     exact hB
    ·exact h1.d q hq o ho
theorem bq_b {s n:Nat} {q:T17} (h:Bq s n q) (hn:n≤6):bP q∧dL q.Body≤300:=by
 have h1:=h.c
 have h2:=cL_ge q.Body
 have h3:=dc_L q.Body
 have h4:=h.m
 have h5:=h.r
 exact ⟨⟨by omega,by omega,fun m hm=>by have:=h.ms m hm;exact ⟨by have:=this.1;omega,by have:=this.2.1;omega⟩,by omega,bG_L q.Body h.g (by omega)⟩,by omega⟩
theorem zs_one {N:Nat} {q:T17} (hN:8389000≤N) (hb:bP q) (hd:dL q.Body≤300) (hc:cL q.Body≤300):Zs N [q] :=
 ⟨by simp,fun p hp=>by rw [List.mem_singleton.1 hp];exact ⟨hb,by omega,by omega⟩,by unfold cAll;simp;omega,by omega⟩
theorem k1_tot {N:Nat} {l:List T17} (hn:NoProb l) (hN:8389000≤N) {p:T17} (hp:p∈l) :
  ∃ o e,(e=0∨e=14∨e=6∨e=9)∧(bP o∧dL o.Body≤300)∧∀ A,Agr l A→z8_k1 N p.Name A=some (o,e):=by
 obtain ⟨R,hR⟩:=rn_of hn
 have hle:=hR.le p.Name
 have nob:bP ⟨str [],[],[],[]⟩∧dL ([]:List T15)≤300:=⟨⟨by simp,by simp,(fun m hm=>by cases hm),by simp,(by simp only [bL])⟩,by simp [dL]⟩
 obtain ⟨⟨b1,b2⟩,hs⟩:=sep_tot hR 5 N p hp (by omega) (by omega) []
 cases b1 with
 | false =>
  refine ⟨_,14,by simp,nob,fun A hA=>?_⟩
  have hs:=hs ⟨A,[]⟩ hA
  have hs:z16 N ⟨A,[]⟩ p.Name []=_:=hs
  unfold z8_k1
  rw [hA p hp]
  simp only [bS,Option.isSome_some,Option.getD_some,Bool.not_true,cF]
  rw [hs];rfl
 | true =>
  obtain ⟨o,ok,D',_,hB,he⟩:=exp_tot hR hn.2.1 5 N p hp (by omega) (by omega) [] (fun q _ o ho=>by cases ho)
  have run:∀ A,Agr l A→z8_k1 N p.Name A=(bif (!ok) then (some ((⟨(str []),([]:List ByteArray),([]:List T16),([]:List T15)⟩:T17),(6:Int)))
    else (z18 N ([o]:List T17)).bind fun x9 =>
    bif (!x9) then (some ((⟨(str []),([]:List ByteArray),([]:List T16),([]:List T15)⟩:T17),(6:Int)))
    else (z13 N ([o]:List T17)).bind fun x10 =>
    bif (x10.Err != (0:Int)) then (some ((⟨(str []),([]:List ByteArray),([]:List T16),([]:List T15)⟩:T17),(9:Int)))
    else some (o,(0:Int))):=by
   intro A hA
   have hs:=hs ⟨A,[]⟩ hA
   have hs:z16 N ⟨A,[]⟩ p.Name []=_:=hs
   have he:=he A hA
   have he:z17 N ⟨A,[]⟩ p.Name=_:=he
   unfold z8_k1
   rw [hA p hp]
   simp only [bS,Option.isSome_some,Option.getD_some,Bool.not_true,cF]
   rw [hs,bS]
   simp only [Bool.not_true,cF]
   rw [he,bS]
  cases ok with
  | false=>exact ⟨_,6,by simp,nob,fun A hA=>run A hA⟩
  | true =>
   have hq:=hB rfl
   obtain ⟨h1,h2⟩:=bq_b hq (hR.r p hp)
   have hz:=zs_one hN h1 h2 hq.c
   obtain ⟨v,v1,v2⟩:=valid_dq (N:=N) (by omega) _ hz.len fun q hq=>(hz.p q hq).1
   obtain ⟨s,s1,s2,_⟩:=check_np _ hz
   rw [v1] at run
   cases v with
   | false=>exact ⟨_,6,by simp,nob,fun A hA=>run A hA⟩
   | true =>
    simp only [Bool.not_true,cF,bS] at run
    rw [s1] at run
    simp only [bS] at run
    by_cases hs0:s.Err=0
    ·rw [show (s.Err != (0:Int))=false by simpa using hs0] at run
     exact ⟨o,0,by simp,⟨h1,h2⟩,fun A hA=>run A hA⟩
    ·rw [show (s.Err != (0:Int))=true by simpa using hs0] at run
     exact ⟨_,9,by simp,nob,fun A hA=>run A hA⟩
theorem agr_all {l m:List T17} (hm:NmD m) (h:∀ p∈l,p∈m):Agr l (allM m []):=fun p hp=>by
 rw [mget_all p.Name m [] hm (fun _ _=>rfl),find_mem hm (h p hp)];rfl
theorem expand_np {N:Nat} {m:List T17} (hz:Zs N m) (hn:NoProb m) (nm:ByteArray):z8 N m nm=z8_k1 N nm (allM m []):=by
 obtain ⟨r,r1,r2,_⟩:=check_np _ hz
 have:=hz.n
 unfold z8
 rw [r1,bS,r2.2 hn,show ((0:Int) != 0)=false from rfl,cF,expand_all (by omega) m _ hz.len]
theorem few12_T {N:Nat} (hN:4194304 < N) (l:List T12) (hs:l.length≤4194304) (hb:∀ p∈l,RP p∧4194306+dL (oL p.Body)≤N) (hc:cPs l≤4194304) (hcm:∀ p∈l,cL (oL p.Body)≤4194304):∃ b,z9 N l=some b∧(b=true→FewP l):=by
 unfold z9
 have key:∀ (m:List T12) (k n:Nat),l.drop k=m→m.length < n→∃ b,z9_l2 N l n (k:Int)=some b∧(b=true→FewP l):=by
  intro m
  induction m with
  | nil =>
   intro j n h hn
   obtain ⟨n,rfl⟩:∃ m,n=m+1:=⟨n-1,by simp at hn;omega⟩
   simp only [z9_l2,lt_f (drop_nil h),cF,z9_k1]
   rw [bind_id]
   obtain ⟨b,e,g⟩:=few_dq hN l hs hb (by omega)
   exact ⟨b,e,g.1⟩
  | cons p m ih =>
   intro k n h hn
   obtain ⟨n,rfl⟩:∃ m,n=m+1:=⟨n-1,by simp at hn;omega⟩
   obtain ⟨a,c,d⟩:=drop_cons h
   have hm:=List.mem_of_getElem? c
   obtain ⟨h1,h2⟩:=hb p hm
   obtain ⟨u,v,e,_⟩:=kinds_ok N p.Body h2 (RP_l h1) h1.b (hcm p hm)
   have e:z12 N p.Body=some (u,v):=e
   simp only [z9_l2,lt_t a,cT,idx_nat,c,bS,e]
   cases decide (u > 3) with
   | true=>exact ⟨_,rfl,fun h=>by cases h⟩
   | false =>
    rw [cF,w64_succ (by omega)]
    exact ih (k+1) n d (by simp at hn;omega)
 exact key _ 0 N rfl (by rw [List.drop_zero];omega)
theorem apart_law {N:Nat} (l:List T12) (m:T12) (a:Int) (h0:0≤a) (h1:a≤255) (hw:z7 N=some true) (hl:l.length≤4194304)
  (hb:∀ p∈m::l,RP p∧8388611+dL (oL p.Body)≤N∧dL (oL p.Body)≤4194304) (hc:cPs l≤4194304) (hcm:∀ p∈m::l,cL (oL p.Body)≤4194304) (hN:8389000≤N):law12_ExpandApart N l m a=some true:=by
 have hN':4194304 < N:=by omega
 have hbl:=fun p hp=>hb p (List.mem_cons_of_mem _ hp)
 have hbm:=hb m (List.mem_cons_self ..)
 have hb':∀ p∈l,RP p∧4194306+dL (oL p.Body)≤N:=fun p hp=>⟨(hbl p hp).1,by have:=(hbl p hp).2.1;omega⟩
 obtain ⟨f,e,ef⟩:=few12_T hN' l hl hb' hc fun p hp=>hcm p (List.mem_cons_of_mem _ hp)
 obtain ⟨f2,e2,ef2⟩:=few12_T hN' [m] (by simp) (fun p hp=>by rw [List.mem_singleton.1 hp];exact ⟨hbm.1,by omega⟩) (by unfold cPs;simp;exact hcm m (List.mem_cons_self ..)) (fun p hp=>by rw [List.mem_singleton.1 hp];exact hcm m (List.mem_cons_self ..))
 unfold law12_ExpandApart
 simp only [hw,bS,Bool.not_true,cF,e]
 cases f
 ·rfl
 simp only [Bool.not_true,cF]
 by_cases hl0:l.length=0
 ·rw [show ((l.length:Int)==0)=true by simp;exact List.length_eq_zero_iff.1 hl0,cT]
 rw [show ((l.length:Int)==0)=false by simp;intro e;exact hl0 (by rw [e];rfl),cF,e2,bS]
 cases f2
 ·rfl
 simp only [Bool.not_true,cF]
 have hf:=ef rfl
 have hf2:=ef2 rfl
 obtain ⟨k,hk,e3⟩:=rem_ok h0 h1 (Nat.pos_of_ne_zero hl0)
 obtain ⟨p,hp⟩:∃ p,l[k]? = some p:=⟨l[k],List.getElem?_eq_getElem hk⟩
 have hpm:=List.mem_of_getElem? hp
 obtain ⟨m',hm'⟩:∃ m':T12,m'=⟨str [90,90],m.Roles,m.Messages,m.Body⟩:=⟨_,rfl⟩
 have hbm':RP m'∧8388611+dL (oL m'.Body)≤N∧dL (oL m'.Body)≤4194304:=by
  subst hm'
  obtain ⟨⟨q1,q2,q3,q4,q5⟩,q6⟩:=hbm
  exact ⟨⟨q1,q2,q3,q4,q5⟩,q6⟩
 have hba:∀ p∈l++[m'],RP p∧8388611+dL (oL p.Body)≤N∧dL (oL p.Body)≤4194304:=fun p hp=>by
  rcases List.mem_append.1 hp with h | h
  ·exact hbl p h
  ·rw [List.mem_singleton.1 h];exact hbm'
 have hla:(l++[m']).length≤4194304:=by have:=hf.2.1;simp;omega
 have hca:cPs (l++[m'])≤4194304:=by
  have h1:=hf.2.2.1
  have h2:=hf2.2.2.1
  unfold cPs at h1 h2 ⊢
  rw [List.map_append,List.sum_append]
  have:(List.map (fun p:T12=>cL (oL p.Body)) [m']).sum=(List.map (fun p:T12=>cL (oL p.Body)) [m]).sum:=by subst hm';rfl
  omega
 rw [e3,bS,idx_nat,hp,bS,appL_some (by simp;omega),List.nil_append,bS,← hm',appL_some (by simp;omega),bS,
  own_eq hN' (l++[m']) hla (fun p hp=>⟨(hba p hp).1,by have:=(hba p hp).2.1;omega⟩),bS,List.map_append,lsl_tk (by simp),bS]
 have htk:((l.map oP)++([m'].map oP)).take l.length=l.map oP:=by rw [List.take_append_of_le_length (by simp),List.take_of_length_le (by simp)]
 rw [htk]
 have hz:=zs_own (N:=N) hl hbl hc (by omega)
 have hza:=zs_own (N:=N) hla hba hca (by omega)
 rw [List.map_append] at hza
 obtain ⟨r,r1,r2,_⟩:=check_np _ hza
 obtain ⟨s,s1,s2,_⟩:=check_np _ hz
 rw [r1,bS]
 by_cases hr:r.Err=0
 ·rw [show (r.Err != (0:Int))=false by simpa using hr,cF,s1,bS]
  by_cases hs:s.Err=0
  ·rw [show (s.Err != (0:Int))=false by simpa using hs,cF]
   have n1:=r2.1 hr
   have n2:=s2.1 hs
   have hpo:oP p∈l.map oP:=List.mem_map.2 ⟨p,hpm,rfl⟩
   obtain ⟨o,er,_,⟨ho1,ho2⟩,ho⟩:=k1_tot (N:=N) n2 hN hpo
   have hnm:p.Name=(oP p).Name:=rfl
   rw [hnm,expand_np hz n2,expand_np hza n1,ho _ (agr_all n2.2.1 fun _ h=>h),ho _ (agr_all n1.2.1 fun q h=>List.mem_append_left _ h),bS,bS,beq_self_eq_true,cT]
   obtain ⟨b,b1,b2⟩:=equal_dq (N:=N) hN' [o] [o] (by simp) (fun q hq=>by rw [List.mem_singleton.1 hq];exact ⟨ho1,by omega⟩)
   rw [b1,b2.2 rfl];rfl
  ·rw [show (s.Err != (0:Int))=true by simpa using hs,cT]
 ·rw [show (r.Err != (0:Int))=true by simpa using hr,cT]
end Gp
end
section
namespace Gx
open Go Go.Kx
def k_api_Sort (x:T1):Prop:=((Lit.int .i64 x.Kind).wf=true)∧((Lit.int .i64 x.Lo).wf=true)∧((Lit.int .i64 x.Hi).wf=true)
def k_api_Field (x:T0):Prop:=(x.Name.size≤bd)∧(k_api_Sort x.Sort')
def k_ref10_Term (x:T18):Prop:=((Lit.int .i64 x.Kind).wf=true)∧(x.Message.size≤bd)∧(x.Field.size≤bd)∧((Lit.int .i64 x.N).wf=true)
def k_ref10_Atom (x:T9):Prop:=(k_ref10_Term x.Left)∧(x.Op.size≤bd)∧(k_ref10_Term x.Right)
def k_ref10_Message (x:T11):Prop:=(x.Name.size≤bd)∧(x.Fields.length≤bd∧∀ y∈x.Fields,k_api_Field y)∧(x.Where.length≤bd∧∀ y∈x.Where,k_ref10_Atom y)
mutual
def k_ref10_Item:T10→Prop
 | ⟨a0,a1,a2,a3,a4,a5,a6⟩=>((Lit.int .i64 a0).wf=true)∧(a1.size≤bd)∧(a2.length≤bd∧∀ y∈a2,y.size≤bd)∧(a3.size≤bd)∧(a4.size≤bd)∧((Lit.int .i64 a5).wf=true)∧(a6.length≤bd∧kLL_ref10_Item a6)
def kL_ref10_Item:List T10→Prop
 | []=>True
 | x::l=>k_ref10_Item x∧kL_ref10_Item l
def kLL_ref10_Item:List (List T10)→Prop
 | []=>True
 | x::l=>(x.length≤bd∧kL_ref10_Item x)∧kLL_ref10_Item l
end
mutual
def w_ref10_Item:T10→Nat
 | ⟨_,_,_,_,_,_,a6⟩=>wLL_ref10_Item a6+1
def wL_ref10_Item:List T10→Nat
 | []=>0
 | x::l=>w_ref10_Item x+wL_ref10_Item l
def wLL_ref10_Item:List (List T10)→Nat
 | []=>0
 | x::l=>wL_ref10_Item x+wLL_ref10_Item l
end
theorem wL_ref10_Item_eq:∀ l,wL_ref10_Item l=wsum w_ref10_Item l
 | []=>by simp only [wL_ref10_Item,wsum]
 | x::l=>by simp only [wL_ref10_Item,wsum];rw [wL_ref10_Item_eq l]
theorem kL_ref10_Item_of:∀ l,(∀ x∈l,k_ref10_Item x)→kL_ref10_Item l
 | [],_=>by simp only [kL_ref10_Item]
 | x::l,h=>by simp only [kL_ref10_Item];exact ⟨h x (List.mem_cons_self ..),kL_ref10_Item_of l fun y hy=>h y (List.mem_cons_of_mem _ hy)⟩
theorem wLL_ref10_Item_eq:∀ l,wLL_ref10_Item l=wsum (wsum w_ref10_Item) l
 | []=>by simp only [wLL_ref10_Item,wsum]
 | x::l=>by simp only [wLL_ref10_Item,wsum];rw [wLL_ref10_Item_eq l,wL_ref10_Item_eq]
theorem kLL_ref10_Item_of:∀ l,(∀ x∈l,x.length≤bd∧∀ y∈x,k_ref10_Item y)→kLL_ref10_Item l
 | [],_=>by simp only [kLL_ref10_Item]
 | x::l,h=>by simp only [kLL_ref10_Item];exact ⟨⟨(h x (List.mem_cons_self ..)).1,kL_ref10_Item_of x (h x (List.mem_cons_self ..)).2⟩,kLL_ref10_Item_of l fun y hy=>h y (List.mem_cons_of_mem _ hy)⟩
def k_ref10_Protocol (x:T12):Prop:=(x.Name.size≤bd)∧(x.Roles.length≤bd∧∀ y∈x.Roles,y.size≤bd)∧(x.Messages.length≤bd∧∀ y∈x.Messages,k_ref10_Message y)∧(x.Body.length≤bd∧∀ y∈x.Body,k_ref10_Item y)
def w_ref10_Protocol (x:T12):Nat:=wsum w_ref10_Item x.Body
end Gx
end
section
namespace Gp
open Go Go.Kx Gx
set_option maxRecDepth 100000
theorem awake_some (k:Nat):z7 (k+300)=some true:=by kernel_rfl
mutual
theorem cw_I:∀ x,cI (oI x)=w_ref10_Item x
 | ⟨k,f,t,n,a,x,b⟩=>by simp only [oI,cI,w_ref10_Item,cw_LL b]
theorem cw_L:∀ l,cL (oL l)=wL_ref10_Item l
 | []=>by simp only [oL,cL,wL_ref10_Item]
 | x::l=>by simp only [oL,cL,wL_ref10_Item,cw_I x,cw_L l]
theorem cw_LL:∀ l,cLL (oLL l)=wLL_ref10_Item l
 | []=>by simp only [oLL,cLL,wLL_ref10_Item]
 | x::l=>by simp only [oLL,cLL,wLL_ref10_Item,cw_L x,cw_LL l]
end
mutual
theorem bk_I:∀ x,k_ref10_Item x→bI (oI x)
 | ⟨k,f,t,n,a,x,b⟩,h=>by
  simp only [k_ref10_Item] at h
  simp only [oI,bI]
  rw [oLL_len]
  have h1:=h.2.2.1.1;have h2:=h.2.2.2.2.2.2.1
  unfold bd at h1 h2
  exact ⟨by omega,by omega,bk_LL b h.2.2.2.2.2.2.2⟩
theorem bk_L:∀ l,kL_ref10_Item l→bL (oL l)
 | [],_=>by simp only [oL,bL]
 | x::l,h=>by
  simp only [kL_ref10_Item] at h
  simp only [oL,bL]
  exact ⟨bk_I x h.1,bk_L l h.2⟩
theorem bk_LL:∀ l,kLL_ref10_Item l→bLL (oLL l)
 | [],_=>by simp only [oLL,bLL]
 | x::l,h=>by
  simp only [kLL_ref10_Item] at h
  simp only [oLL,bLL]
  have h1:=h.1.1
  unfold bd at h1
  exact ⟨by rw [oL_len];omega,bk_L x h.1.2,bk_LL l h.2⟩
end
theorem RP_of {p:T12} (h:k_ref10_Protocol p):RP p:=by
 obtain ⟨_,h1,h2,h3⟩:=h
 refine ⟨?_,?_,fun x hx=>?_,?_,?_⟩
 ·have:=h1.1;unfold bd at this;show p.Roles.length≤_;omega
 ·have:=h2.1;unfold bd at this;show (p.Messages.map oM).length≤_;rw [List.length_map];omega
 ·obtain ⟨m,hm,rfl⟩:=List.mem_map.1 hx
  obtain ⟨_,q1,q2⟩:=h2.2 m hm
  have q1:=q1.1;have q2:=q2.1
  unfold bd at q1 q2
  exact ⟨by show m.Fields.length≤_;omega,by show (m.Where.map oA).length≤_;rw [List.length_map];omega⟩
 ·have:=h3.1;unfold bd at this;show (oL p.Body).length≤_;rw [oL_len];omega
 ·exact bk_L _ (kL_ref10_Item_of _ h3.2)
theorem cw_P (p:T12):cL (oL p.Body)=w_ref10_Protocol p:=by
 rw [cw_L,wL_ref10_Item_eq];rfl
theorem cPs_w:∀ l,cPs l=wsum w_ref10_Protocol l
 | []=>rfl
 | p::l=>by
  have:=cPs_w l
  unfold cPs at this ⊢
  simp only [List.map_cons,List.sum_cons,wsum]
  rw [this,cw_P]
theorem le_wsum {α:Type} {f:α→Nat}:∀ {l:List α} {x},x∈l→f x≤wsum f l
 | y::l,x,h=>by
  rcases List.mem_cons.1 h with rfl | h
  ·show _≤f x+_;omega
  ·have:=le_wsum (f:=f) h
   show _≤f y+_;omega
theorem sizes_of {l:List T12} (h:(l.length≤bd∧∀ y∈l,k_ref10_Protocol y)∧wsum w_ref10_Protocol l≤bd) :
  l.length≤4194304∧(∀ p∈l,RP p∧8388611+dL (oL p.Body)≤20000000+300∧dL (oL p.Body)≤4194304)∧cPs l≤4194304:=by
 obtain ⟨⟨h1,h2⟩,h3⟩:=h
 unfold bd at h1 h3
 refine ⟨by omega,fun p hp=>?_,by rw [cPs_w];omega⟩
 have:=dc_L (oL p.Body)
 have:=le_wsum (f:=w_ref10_Protocol) hp
 rw [← cw_P] at this
 exact ⟨RP_of (h2 p hp),by omega,by omega⟩
theorem u8_of {x:Int} (h:(Lit.int .u8 x).wf=true):0≤x∧x≤255:=by
 simp only [Lit.wf,Bool.and_eq_true,decide_eq_true_eq] at h
 have e1:IntKind.u8.min=0:=by decide
 have e2:IntKind.u8.max=255:=by decide
 rw [e1,e2] at h
 exact h
theorem cm_of {l:List T12} (h:wsum w_ref10_Protocol l≤bd):∀ p∈l,cL (oL p.Body)≤4194304:=fun p hp=>by
 have:=le_wsum (f:=w_ref10_Protocol) hp
 unfold bd at h
 rw [cw_P];omega
theorem plain:∀ (x0:(List T12)) (x1:T12) (x2:Int),((x0.length≤bd∧∀ y∈x0,k_ref10_Protocol y)∧wsum w_ref10_Protocol x0≤bd)→((k_ref10_Protocol x1)∧w_ref10_Protocol x1≤bd)→((Lit.int .u8 x2).wf=true)→∃ N,law12_ExpandApart N x0 x1 x2=some true:=by
 intro l m a hl hm ha
 obtain ⟨a1,a2,a3⟩:=sizes_of hl
 obtain ⟨h0,h1⟩:=u8_of ha
 have hm2:wsum w_ref10_Protocol [m]≤bd:=by simpa [wsum] using hm.2
 obtain ⟨_,b2,_⟩:=sizes_of (l:=[m]) ⟨⟨by simp [bd],fun y hy=>by rw [List.mem_singleton.1 hy];exact hm.1⟩,hm2⟩
 refine ⟨20000000+300,apart_law l m a h0 h1 (awake_some _) a1 (fun p hp=>?_) a3 (fun p hp=>?_) (by omega)⟩
 ·rcases List.mem_cons.1 hp with rfl | hp
  ·exact b2 _ (List.mem_singleton.2 rfl)
  ·exact a2 p hp
 ·rcases List.mem_cons.1 hp with rfl | hp
  ·exact cm_of hm2 _ (List.mem_singleton.2 rfl)
  ·exact cm_of hl.2 p hp
end Gp
end
