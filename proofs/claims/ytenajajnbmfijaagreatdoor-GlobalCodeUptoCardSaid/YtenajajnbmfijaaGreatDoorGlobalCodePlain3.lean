/- The plain law, part 3: what the functions compute answers as the statement says. -/
import Derived.KernelRfl
import Derived.Test.YtenajajnbmfijaaGreatDoorGlobalCodePlain2
set_option linter.all false
section
namespace Gp
open Go Go.Kx Gx
variable {N:Nat}
theorem rint_loop:∀ (m f u:Nat) (b:List Int),u < 128 ^ (m+1)→u < 18446744073709551616→m < f→b.length+(m+1)≤4294967296→z130_l2 f (u:Int) b=some (b++vu m u):=by
 intro m
 induction m with
 | zero =>
  intro f u b hu h64 hf hb
  obtain ⟨f,rfl⟩:∃ q,f=q+1:=⟨f-1,by omega⟩
  have hu:u < 128:=by simpa using hu
  have:decide ((u:Int)≥128)=false:=by simp;omega
  simp only [z130_l2,this,cond_false,z130_k1,wk8]
  rw [appL_some (by simp;omega),show u % 256=u by omega];rfl
 | succ m ih =>
  intro f u b hu h64 hf hb
  obtain ⟨f,rfl⟩:∃ q,f=q+1:=⟨f-1,by omega⟩
  by_cases h:u < 128
  ·have:decide ((u:Int)≥128)=false:=by simp;omega
   simp only [z130_l2,this,cond_false,z130_k1,wk8]
   rw [appL_some (by simp;omega),show u % 256=u by omega]
   unfold vu
   rw [if_pos h];rfl
  ·have:decide ((u:Int)≥128)=true:=by simp;omega
   have e1:wk .u8 ((wk .u8 (((u:Int).tmod (128:Int))))+(128:Int))=((u % 128+128:Nat):Int):=by
    rw [Int.tmod_eq_emod_of_nonneg (by omega),show ((u:Int) % 128)=((u % 128:Nat):Int) by omega,wk8,show ((u % 128 % 256:Nat):Int)+128=((u % 128+128:Nat):Int) by omega,wk8]
    congr 1;omega
   have e2:wk .u64 ((u:Int).tdiv (128:Int))=((u / 128:Nat):Int):=by
    rw [Int.tdiv_eq_ediv_of_nonneg (by omega),wk64];omega
   simp only [z130_l2,this,cT,e1,e2]
   rw [appL_some (by simp;omega),bS,ih f (u / 128) _ (by rw [Nat.pow_succ] at hu;omega) (by omega) (by omega) (by simp;omega)]
   rw [vu,if_neg h]
   simp
theorem rint_eq (hN:10 < N) (n:Int) (h:I64 n):z130 N n=some (vint n):=by
 obtain ⟨h1,h2⟩:=h
 have hz:=zig_lt n
 have hp:(128:Nat) ^ (9+1)=1180591620717411303424:=by decide
 have fin:=rint_loop 9 N (zig n) [] (by omega) hz (by omega) (by simp)
 rw [List.nil_append] at fin
 unfold z130 z130_k3
 by_cases h0:n < 0
 ·rw [dT h0,cT]
  have e:wk .u64 ((wk .u64 ((wk .u64 ((w64 (0-(w64 (n+(1:Int))))))) * (2:Int)))+(1:Int))=(zig n:Int):=by
   rw [w64_id (n:=n+1) (by omega) (by omega),w64_id (n:=0-(n+1)) (by omega) (by omega),wk64,wk64,wk64,zig_neg n h0 h1]
   omega
  rw [e];exact fin
 ·rw [dF h0,cond_false]
  have e:wk .u64 ((wk .u64 n) * (2:Int))=(zig n:Int):=by
   rw [wk64,wk64,zig_pos n (by omega) h2]
   omega
  rw [e];exact fin
theorem rints_eq (hN:4194304 < N) (l:List Int) (hl:l.length≤100) (hi:∀ n∈l,I64 n):z88 N l=some (encI l):=by
 unfold z88 encI
 have:=enc_loop (β:=List Int) 1000000000 10 l vint (z88_l2 N l) (fun b=>some b) (fun x _=>vint_len x) (by omega) (by
  intro n k x b hk hx hb
  have:=vint_len x
  simp only [z88_l2,lt_t hk,cT,idx_nat,hx,bS]
  rw [rint_eq (by omega) x (hi x (List.mem_of_getElem? hx)),bS,appL_some (by omega),bS,w64_succ (by omega)]) (by
  intro n k b hk
  simp only [z88_l2,lt_f hk,cond_false,z88_k1]) l 0 N [] rfl (by omega) (by simp;omega)
 exact this
theorem rint1 (hN:4194304 < N) (n:Int) (h:I64 n):z88 N [n]=some (vint n):=by
 rw [rints_eq hN [n] (by simp) (by simpa using h)]
 simp [encI]
theorem len64 (n:Nat) (h:n≤1000000):I64 (n:Int):=by unfold I64;omega
theorem rtext_eq (hN:4194304 < N) (s:ByteArray) (hs:s.size≤1000):z87 N s=some (encT s):=by
 have:=vint_len (s.size:Int)
 unfold z87 z129
 rw [bytesL_len,rint_eq (by omega) _ (len64 _ (by omega)),bS,appL_some (by rw [bytesL_len];omega)]
 rfl
theorem rdecl_eq (hN:4194304 < N) (d:T0) (h:okD d):z89 N d=some (encD d):=by
 obtain ⟨h1,⟨h2,h3⟩,n1,⟨h4,h4'⟩,h5,h5'⟩:=h
 have a1:=encT_len d.Name
 have a2:=vint_len (d.Fields.length:Int)
 have a3:=flat_len encF 60 d.Fields (fun f hf=>encF_len (h3 f hf).1)
 have a4:=encI_len [d.First,(d.Guard.Diffs.length:Int)]
 have a5:=flat_len encDf 30 d.Guard.Diffs (fun x _=>encDf_len x)
 have a6:=vint_len (d.Guard.Equals.length:Int)
 simp only [List.length_cons,List.length_nil] at a4
 have q2:∀ b:List Int,b.length≤2000→z89_l2 N d N b (0:Int)=some (b++d.Guard.Equals.flatMap encEq):=by
  intro b hb
  exact enc_loop (β:=List Int) 800000000 20 d.Guard.Equals encEq (z89_l2 N d) (fun b=>some b) (fun x _=>encEq_len x) (by omega) (by
   intro n k x b hk hx hb
   obtain ⟨g1,g2⟩:=h5' x (List.mem_of_getElem? hx)
   have:=encEq_len x
   unfold encEq at this
   simp only [z89_l2,lt_t hk,cT,idx_nat,hx,bS]
   rw [rints_eq hN _ (by simp) (by simp;exact ⟨g1,g2⟩),bS,appL_some (by omega),bS,w64_succ (by omega)];rfl) (by
   intro n k b hk
   simp only [z89_l2,lt_f hk,cond_false,z89_k1]) d.Guard.Equals 0 N b rfl (by omega) (by omega)
 have q4:∀ b:List Int,b.length≤1000→z89_l4 N d N b (0:Int)=some (b++(d.Guard.Diffs.flatMap encDf++(vint (d.Guard.Equals.length:Int)++d.Guard.Equals.flatMap encEq))):=by
  intro b hb
  have:=enc_loop (β:=List Int) 800000000 30 d.Guard.Diffs encDf (z89_l4 N d) (z89_k3 N d) (fun x _=>encDf_len x) (by omega) (by
   intro n k x b hk hx hb
   obtain ⟨g1,g2,g3⟩:=h4' x (List.mem_of_getElem? hx)
   have:=encDf_len x
   unfold encDf at this
   simp only [z89_l4,lt_t hk,cT,idx_nat,hx,bS]
   rw [rints_eq hN _ (by simp) (by simp;exact ⟨g1,g2,g3⟩),bS,appL_some (by omega),bS,w64_succ (by omega)];rfl) (by
   intro n k b hk
   simp only [z89_l4,lt_f hk,cond_false]) d.Guard.Diffs 0 N b rfl (by omega) (by omega)
  rw [show (0:Int)=((0:Nat):Int) from rfl,this]
  unfold z89_k3
  rw [rint1 hN _ (len64 _ (by omega)),bS,appL_some (by simp only [List.length_append];omega),bS,q2 _ (by simp only [List.length_append];omega)]
  simp only [aA]
 have q6:=enc_loop (β:=List Int) 800000000 60 d.Fields encF (z89_l6 N d) (z89_k5 N d) (fun f hf=>encF_len (h3 f hf).1) (by omega) (by
  intro n k x b hk hx hb
  obtain ⟨g0,g1,g2,g3⟩:=h3 x (List.mem_of_getElem? hx)
  have hl:=encT_len x.Name
  have hl2:=encI_len [x.Sort'.Kind,x.Sort'.Lo,x.Sort'.Hi]
  simp only [List.length_cons,List.length_nil] at hl2
  simp only [z89_l6,lt_t hk,cT,idx_nat,hx,bS]
  rw [rtext_eq hN _ (by omega),bS,appL_some (by omega),bS,rints_eq hN _ (by simp) (by simp;exact ⟨g1,g2,g3⟩),bS,appL_some (by simp only [List.length_append];omega),bS,w64_succ (by omega)]
  unfold encF
  rw [aA]) (by
  intro n k b hk
  simp only [z89_l6,lt_f hk,cond_false]) d.Fields 0 N (encT d.Name++vint (d.Fields.length:Int)) rfl (by omega) (by simp only [List.length_append];omega)
 unfold z89
 rw [rtext_eq hN _ (by omega),bS,rint1 hN _ (len64 _ (by omega)),bS,appL_some (by omega),bS,show (0:Int)=((0:Nat):Int) from rfl,q6]
 unfold z89_k5
 rw [rints_eq hN _ (by simp) (by simp;exact ⟨n1,len64 _ (by omega)⟩),bS,appL_some (by simp only [List.length_append];omega),bS,q4 _ (by simp only [List.length_append];omega)]
 unfold encD
 simp only [aA]
theorem refEncode_eq (hN:4194304 < N) (g:T4) (h:okG g) (hV:z19 N g=some true):z39 N g=some (encG g):=by
 obtain ⟨s1,⟨s2,s3⟩,⟨d1,d2⟩,n1,n2,n3,⟨s4,s4'⟩,s5,s5'⟩:=h
 have sD:∀ d∈g.Decls,SmallD d:=fun d hd=>by
  obtain ⟨c1,⟨c2,c3⟩,_,⟨c4,_⟩,c5,_⟩:=d2 d hd
  exact ⟨c1,c2,fun f hf=>(c3 f hf).1,c4,c5⟩
 have a1:=encT_len g.Name
 have a2:=vint_len (g.Roles.length:Int)
 have a3:=flat_len encT 26 g.Roles (fun s hs=>by have:=encT_len s;have:=s3 s hs;unfold okT' at this;omega)
 have a4:=vint_len (g.Decls.length:Int)
 have a5:=flat_len encD 1400 g.Decls (fun d hd=>encD_len (sD d hd))
 have a6:=encI_len [g.States,g.Start,g.End,(g.Edges.length:Int)]
 have a7:=flat_len encE 51 g.Edges (fun x _=>encE_len x)
 have a8:=vint_len (g.Timeouts.length:Int)
 simp only [List.length_cons,List.length_nil] at a6
 have q2:∀ b:List Int,b.length≤200000→z39_k3 N g b=some (b++(vint (g.Timeouts.length:Int)++g.Timeouts.flatMap encTm)):=by
  intro b hb
  unfold z39_k3
  rw [rint1 hN _ (len64 _ (by omega)),bS,appL_some (by omega),bS]
  have:=enc_loop (β:=List Int) 800000000 30 g.Timeouts encTm (z39_l2 N g) (fun b=>some b) (fun x _=>encTm_len x) (by omega) (by
   intro n k x b hk hx hb
   obtain ⟨g1,g2,g3⟩:=s5' x (List.mem_of_getElem? hx)
   have:=encTm_len x
   unfold encTm at this
   simp only [z39_l2,lt_t hk,cT,idx_nat,hx,bS]
   rw [rints_eq hN _ (by simp) (by simp;exact ⟨g1,g2,g3⟩),bS,appL_some (by omega),bS,w64_succ (by omega)];rfl) (by
   intro n k b hk
   simp only [z39_l2,lt_f hk,cond_false,z39_k1]) g.Timeouts 0 N (b++vint (g.Timeouts.length:Int)) rfl (by omega) (by simp only [List.length_append];omega)
  rw [show (0:Int)=((0:Nat):Int) from rfl,this,aA]
 have q4:∀ b:List Int,b.length≤150000→z39_k5 N g b=some (b++(encI [g.States,g.Start,g.End,(g.Edges.length:Int)]++(g.Edges.flatMap encE++(vint (g.Timeouts.length:Int)++g.Timeouts.flatMap encTm)))):=by
  intro b hb
  unfold z39_k5
  rw [rints_eq hN _ (by simp) (by simp;exact ⟨n1,n2,n3,len64 _ (by omega)⟩),bS,appL_some (by omega),bS]
  have:=enc_loop (β:=List Int) 800000000 51 g.Edges encE (z39_l4 N g) (z39_k3 N g) (fun x _=>encE_len x) (by omega) (by
   intro n k x b hk hx hb
   obtain ⟨g1,g2,g3,g4,g5⟩:=s4' x (List.mem_of_getElem? hx)
   have hl:=encI_len [x.From,x.Act.From,x.Act.To,x.Act.Label,x.To]
   simp only [List.length_cons,List.length_nil] at hl
   have eb:z90 N x.Again=some [if x.Again then 1 else 0]:=by unfold z90;cases x.Again<;>rfl
   simp only [z39_l4,lt_t hk,cT,idx_nat,hx,bS]
   rw [rints_eq hN _ (by simp) (by simp;exact ⟨g1,g2,g3,g4,g5⟩),bS,appL_some (by omega),bS,eb,bS,appL_some (by simp only [List.length_append,List.length_cons,List.length_nil];omega),bS,w64_succ (by omega)]
   unfold encE
   rw [aA]) (by
   intro n k b hk
   simp only [z39_l4,lt_f hk,cond_false]) g.Edges 0 N (b++encI [g.States,g.Start,g.End,(g.Edges.length:Int)]) rfl (by omega) (by simp only [List.length_append];omega)
  rw [show (0:Int)=((0:Nat):Int) from rfl,this,q2 _ (by simp only [List.length_append];omega)]
  simp only [aA]
 have q6:∀ b:List Int,b.length≤50000→z39_k7 N g b=some (b++(vint (g.Decls.length:Int)++(g.Decls.flatMap encD++(encI [g.States,g.Start,g.End,(g.Edges.length:Int)]++(g.Edges.flatMap encE++(vint (g.Timeouts.length:Int)++g.Timeouts.flatMap encTm)))))):=by
  intro b hb
  unfold z39_k7
  rw [rint1 hN _ (len64 _ (by omega)),bS,appL_some (by omega),bS]
  have:=enc_loop (β:=List Int) 100000000 1400 g.Decls encD (z39_l6 N g) (z39_k5 N g) (fun d hd=>encD_len (sD d hd)) (by omega) (by
   intro n k x b hk hx hb
   have:=encD_len (sD x (List.mem_of_getElem? hx))
   simp only [z39_l6,lt_t hk,cT,idx_nat,hx,bS]
   rw [rdecl_eq hN x (d2 x (List.mem_of_getElem? hx)),bS,appL_some (by omega),bS,w64_succ (by omega)]) (by
   intro n k b hk
   simp only [z39_l6,lt_f hk,cond_false]) g.Decls 0 N (b++vint (g.Decls.length:Int)) rfl (by omega) (by simp only [List.length_append];omega)
  rw [show (0:Int)=((0:Nat):Int) from rfl,this,q4 _ (by simp only [List.length_append];omega)]
  simp only [aA]
 have q8:=enc_loop (β:=List Int) 800000000 26 g.Roles encT (z39_l8 N g) (z39_k7 N g) (fun s hs=>by have:=encT_len s;have:=s3 s hs;unfold okT' at this;omega) (by omega) (by
  intro n k x b hk hx hb
  have hx':=s3 x (List.mem_of_getElem? hx)
  unfold okT' at hx'
  have:=encT_len x
  simp only [z39_l8,lt_t hk,cT,idx_nat,hx,bS]
  rw [rtext_eq hN x (by omega),bS,appL_some (by omega),bS,w64_succ (by omega)]) (by
  intro n k b hk
  simp only [z39_l8,lt_f hk,cond_false]) g.Roles 0 N (encT g.Name++vint (g.Roles.length:Int)) rfl (by omega) (by simp only [List.length_append];omega)
 unfold z39
 rw [hV,bS,Bool.not_true,cond_false,rtext_eq hN _ (by omega),bS,rint1 hN _ (len64 _ (by omega)),bS,appL_some (by omega),bS,show (0:Int)=((0:Nat):Int) from rfl,q8,q6 _ (by simp only [List.length_append];omega)]
 unfold encG
 simp only [aA]
theorem refOf_eq (b:List Int):z91 N b=z73 N b:=by
 have:∀ n v k,z131_l2 b n v k=z127_l2 b n v k:=by
  intro n
  induction n with
  | zero=>intro v k;rfl
  | succ n ih =>
   intro v k
   simp only [z131_l2,z127_l2,ih]
   rfl
 unfold z91 z73 z131 z127
 rw [this]
theorem okG_valid {g:T4} (hv:ValidG g) (hd:∀ d∈g.Decls,okD d):okG g:=by
 obtain ⟨s1,s2,s3,s4,s5⟩:=smallG hv
 obtain ⟨d1,d2⟩:=smallD hv.decls
 obtain ⟨o1,o2,o3,o4,o5,o6,o7⟩:=numV_head hv.num
 refine ⟨s1,⟨s2,s3⟩,⟨d1,hd⟩,by unfold I64;omega,by unfold I64;omega,by unfold I64;omega,⟨s4,?_⟩,s5,?_⟩
 ·intro x hx
  obtain ⟨e1,e2,e3,e4,e5,e6,e7,e8,_,e9,e10⟩:=numV_edge hv.num hx
  refine ⟨?_,?_,?_,?_,?_⟩<;>unfold I64<;>omega
 ·intro t ht
  obtain ⟨i,hi⟩:=List.mem_iff_getElem?.mp ht
  obtain ⟨_,k1,k2,k3,k4,_⟩:=of_decide_eq_true ((allV_iff _ _ _).mp hv.time i t hi)
  obtain ⟨y,y1,y2,_⟩:=timeV_else hv.time ht
  have hm:y∈g.Edges:=by
   obtain ⟨k0,k1⟩:=idx_some y1
   obtain ⟨q,hq⟩:∃ q:Nat,t.Else=(q:Int):=⟨t.Else.toNat,by omega⟩
   rw [hq,idx_nat] at y1
   exact List.mem_of_getElem? y1
  obtain ⟨a1,a2,_⟩:=numV_edge hv.num hm
  refine ⟨?_,?_,?_⟩<;>unfold I64<;>omega
end Gp
end
section
namespace Gx
open Go Go.Kx
def k_api_Sort (x:T7):Prop:=((Lit.int .i64 x.Kind).wf=true)∧((Lit.int .i64 x.Lo).wf=true)∧((Lit.int .i64 x.Hi).wf=true)
def k_api_Field (x:T3):Prop:=(x.Name.size≤bd)∧(k_api_Sort x.Sort')
def k_api_Diff (x:T1):Prop:=((Lit.int .i64 x.X).wf=true)∧((Lit.int .i64 x.Y).wf=true)∧((Lit.int .i64 x.C).wf=true)
def k_api_Guard (x:T5):Prop:=(x.Diffs.length≤bd∧∀ y∈x.Diffs,k_api_Diff y)∧(x.Equals.length≤bd∧∀ y∈x.Equals,((Lit.int .i64 y.1).wf=true)∧((Lit.int .i64 y.2).wf=true))
def k_api_Decl (x:T0):Prop:=(x.Name.size≤bd)∧(x.Fields.length≤bd∧∀ y∈x.Fields,k_api_Field y)∧((Lit.int .i64 x.First).wf=true)∧(k_api_Guard x.Guard)
def k_api_Interaction (x:T6):Prop:=((Lit.int .i64 x.From).wf=true)∧((Lit.int .i64 x.To).wf=true)∧((Lit.int .i64 x.Label).wf=true)
def k_api_Edge (x:T2):Prop:=((Lit.int .i64 x.From).wf=true)∧(k_api_Interaction x.Act)∧((Lit.int .i64 x.To).wf=true)∧(True)
def k_api_Timeout (x:T8):Prop:=((Lit.int .i64 x.State).wf=true)∧((Lit.int .i64 x.Ticks).wf=true)∧((Lit.int .i64 x.Else).wf=true)
def k_api_Global (x:T4):Prop:=(x.Name.size≤bd)∧(x.Roles.length≤bd∧∀ y∈x.Roles,y.size≤bd)∧(x.Decls.length≤bd∧∀ y∈x.Decls,k_api_Decl y)∧((Lit.int .i64 x.States).wf=true)∧((Lit.int .i64 x.Start).wf=true)∧((Lit.int .i64 x.End).wf=true)∧(x.Edges.length≤bd∧∀ y∈x.Edges,k_api_Edge y)∧(x.Timeouts.length≤bd∧∀ y∈x.Timeouts,k_api_Timeout y)
end Gx
end
section
namespace Gp
open Go Go.Kx Gx
theorem sizeD_of {x:T0} (h:k_api_Decl x):SizeD x:=by
 obtain ⟨_,h1,_,h2⟩:=h
 exact ⟨by have:=h1.1;unfold bd at this;omega,by have:=h2.1.1;unfold bd at this;omega,by have:=h2.2.1;unfold bd at this;omega⟩
theorem sizeG_of {x:T4} (h:k_api_Global x):SizeG x:=by
 obtain ⟨_,h1,h2,_,_,_,h3,h4⟩:=h
 exact ⟨by have:=h1.1;unfold bd at this;omega,by have:=h2.1;unfold bd at this;omega,fun d hd=>sizeD_of (h2.2 d hd),by have:=h3.1;unfold bd at this;omega,by have:=h4.1;unfold bd at this;omega⟩
theorem numE_of {x:T4} (h:k_api_Global x):NumE x:=by
 obtain ⟨_,h1,h2,_,_,_,h3,h4⟩:=h
 intro e he
 have:=(h3.2 e he).2.1
 exact ⟨I64.of this.2.1,I64.of this.2.2⟩
theorem nameD_of {x:T0} (h:k_api_Decl x):NameD x:=by
 obtain ⟨h0,h1,_,h2⟩:=h
 exact ⟨by unfold bd at h0;omega,fun f hf=>by have:=(h1.2 f hf).1;unfold bd at this;omega⟩
theorem sizeN_of {x:T4} (h:k_api_Global x):SizeN x:=by
 obtain ⟨h0,h1,h2,_⟩:=h
 exact ⟨by unfold bd at h0;omega,fun s hs=>by have:=h1.2 s hs;unfold bd at this;omega,fun d hd=>nameD_of (h2.2 d hd)⟩
theorem okG_of {g:T4} (h:k_api_Global g) (hv:ValidG g):okG g:=by
 obtain ⟨_,h1,h2,n1,n2,n3,h3,h4⟩:=h
 obtain ⟨s1,s2,s3,s4,s5⟩:=smallG hv
 obtain ⟨d1,d2⟩:=smallD hv.decls
 refine ⟨s1,⟨s2,s3⟩,⟨d1,?_⟩,I64.of n1,I64.of n2,I64.of n3,⟨s4,?_⟩,s5,?_⟩
 ·intro d hd
  obtain ⟨_,f1,f2,f3⟩:=h2.2 d hd
  obtain ⟨e1,e2,e3,e4,e5⟩:=d2 d hd
  refine ⟨e1,⟨e2,?_⟩,I64.of f2,⟨e4,?_⟩,e5,?_⟩
  ·intro f hf
   obtain ⟨_,g1,g2,g3⟩:=f1.2 f hf
   exact ⟨e3 f hf,I64.of g1,I64.of g2,I64.of g3⟩
  ·intro x hx
   obtain ⟨g1,g2,g3⟩:=f3.1.2 x hx
   exact ⟨I64.of g1,I64.of g2,I64.of g3⟩
  ·intro x hx
   obtain ⟨g1,g2⟩:=f3.2.2 x hx
   exact ⟨I64.of g1,I64.of g2⟩
 ·intro x hx
  obtain ⟨g1,⟨g2,g3,g4⟩,g5,_⟩:=h3.2 x hx
  exact ⟨I64.of g1,I64.of g2,I64.of g3,I64.of g4,I64.of g5⟩
 ·intro t ht
  obtain ⟨g1,g2,g3⟩:=h4.2 t ht
  exact ⟨I64.of g1,I64.of g2,I64.of g3⟩
end Gp
end
section
open Go Go.Kx Gx
set_option maxRecDepth 100000
theorem awake_c (n:Nat):z12 (n+300)=some true:=by kernel_rfl
end
section
namespace Gp
open Go Go.Kx Gx
variable {N:Nat}
theorem same_eq (l:List Int):z38 N l l=some true:=by simp [z38]
theorem plain:∀ (x0:T4),k_api_Global x0→∃ N,law18_GlobalCode N x0=some true:=by
 intro g hg
 refine ⟨33554432+300,?_⟩
 have aw:z12 (33554432+300)=some true:=awake_c _
 generalize hN:33554432+300=N at aw ⊢
 have s0:=sizeG_of hg
 have s1:=sizeN_of hg
 have s2:=numE_of hg
 obtain ⟨a,a1,a2⟩:=few18_some (N:=N) (by omega) g s0
 obtain ⟨b,b1,b2,b3⟩:=Valid_both (N:=N) (by omega) g s0 s1 s2
 unfold law18_GlobalCode
 rw [aw]
 simp only [bS,Bool.not_true,cond_false]
 rw [a1]
 simp only [bS]
 cases a
 ·rfl
 simp only [Bool.not_true,cond_false]
 have e4:∀ z:Int,(z != z)=false:=by intro z;simp
 cases b
 ·have x1:z37 N g=some []:=by unfold z37;rw [b1];rfl
  have x2:z39 N g=some []:=by unfold z39;rw [b2];rfl
  have x3:z24 N g=some 0:=by unfold z24 z21;rw [b1];rfl
  have x4:z40 N g=some 0:=by unfold z40 z34;rw [b2];rfl
  obtain ⟨r,r1,_⟩:=decode_eq (N:=N) (by omega) [] ⟨by simp,by simp⟩
  rw [x1,x2]
  simp only [bS]
  rw [same_eq]
  simp only [bS,Bool.not_true,cond_false]
  rw [x3,x4]
  simp only [bS,e4,cond_false]
  rw [r1,b2]
  rfl
 ·have hv:=b3.mp rfl
  have hok:=okG_of hg hv
  obtain ⟨r,r1,r2,r3,r4⟩:=Canonical_both (N:=N) (by omega) g s0 s1 s2
  obtain ⟨r5,st,hst⟩:=r4 hv
  have J:=canon_is hv hst
  have hvc:=hv.iso J
  have hokc:=okG_valid hvc (by rw [J.decls];exact hok.2.2.1.2)
  obtain ⟨u,u1,u2,u3⟩:=Valid_both (N:=N) (by omega) r.1 hokc.sizeG hokc.sizeN hokc.numE
  have hu1:=u3.mpr hvc
  subst hu1
  have rr:r=(r.1,0):=by rw [← r5]
  generalize r.1=c at *
  subst rr
  obtain ⟨d,hd⟩:=sum_some (N:=N) (encG c) (by have:=encG_len hvc;omega) (by omega)
  have x3:z24 N g=some d:=by
   unfold z24
   rw [r1]
   simp only [bS,e4,cond_false]
   rw [encode_eq (by omega) c hvc u1,bS,hd];rfl
  have x4:z40 N g=some d:=by
   unfold z40
   rw [r2]
   simp only [bS,e4,cond_false]
   rw [refEncode_eq (by omega) c hokc u2,bS,refOf_eq,hd];rfl
  rw [encode_eq (by omega) g hv b1,refEncode_eq (by omega) g hok b2]
  simp only [bS]
  rw [same_eq]
  simp only [bS,Bool.not_true,cond_false]
  rw [x3,x4]
  simp only [bS,e4,cond_false]
  rw [decode_enc (by omega) g hok hv,b2]
  simp only [bS,Bool.not_true,cond_false,show ((0:Int)==0)=true from rfl,cT]
  rw [refEqual_eq (N:=N) (by omega) g g s0,eqGlobal_refl]
  rfl
end Gp
end
