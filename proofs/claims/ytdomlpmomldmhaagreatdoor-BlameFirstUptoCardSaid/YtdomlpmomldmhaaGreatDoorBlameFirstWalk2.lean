/- Each function of the statement computes what its plain definition says, part 2. -/
import Derived.Test.YtdomlpmomldmhaaGreatDoorBlameFirstWalk1
set_option linter.all false
section
set_option maxRecDepth 10000
set_option maxHeartbeats 4000000
open Go Go.Kx Go.Proofs Tryz
namespace Gx
theorem z99_ct (N:Nat) (decls_:(List T0)) (d_:T1) (r:ByteArray) (h:z99 N decls_ d_=some r) :
 Fn Tryz.prog 99 ⟨1,[.S 0,.a (cC1 d_)],[(0,.sl rR0 decls_)],[],1,.c (.s r),[],[]⟩:=by
 refine eFn func99 rfl (fun E F w=>?_)
 unfold z99 at h
 refine wa J 13 (eCut (σ:=Bool) (fun st=>⟨[(0,.S 0),(3,.B 1 0),(6,.O st)],[(1,.box (cC1 d_) 150)],[(0,.sl rR0 decls_)],2⟩) (fun st=>z99_k1 N decls_ d_ st=some r) ?_ (fun j1=>?_))
 ·intro d h
  replace h:z99_k1 N decls_ d_ d=some r:=h
  unfold z99_k1 at h
  obtain ⟨K,h⟩|⟨K,h⟩:=oc h
  ·refine eK K ?_
   obtain ⟨x1,e,h⟩:=ob h
   refine wa J 5 (eCl (z164_ct N d_.C _ e) [] [] ?_)
   obtain ⟨x2,f,h⟩:=ob h
   refine eCa f ?_
   cases h
   exact wr J 2 func99 []
  refine eK K ?_
  obtain ⟨K,h⟩|⟨K,h⟩:=oc h
  ·refine wH J 8 K ?_
   obtain ⟨x3,g,h⟩:=ob h
   refine wa J 6 (eCl (z169_ct N decls_ d_.X _ g) [] [(0,.sl 0)] ?_)
   obtain ⟨x4,i,h⟩:=ob h
   refine eCa i ?_
   obtain ⟨x5,j,h⟩:=ob h
   refine wa J 2 (eCl (z164_ct N d_.C _ j) [] [] ?_)
   obtain ⟨x6,k,h⟩:=ob h
   refine eCa k (wa J 1 (eEnd ?_))
   cases h
   exact eRet J func99 []
  refine wH J 8 K ?_
  obtain ⟨K,h⟩|⟨K,h⟩:=oc h
  ·refine wH J 8 K ?_
   obtain ⟨x7,l,h⟩:=ob h
   refine wa J 6 (eCl (z169_ct N decls_ d_.Y _ l) [] [(0,.sl 0)] ?_)
   obtain ⟨x8,m,h⟩:=ob h
   refine eCa m ?_
   obtain ⟨x9,o,h⟩:=ob h
   refine wa J 3 (eCl (z164_ct N (w64 (0-d_.C)) _ o) [] [] ?_)
   obtain ⟨p,q,h⟩:=ob h
   refine eCa q (wa J 1 (eEnd ?_))
   cases h
   exact eRet J func99 []
  refine wH J 8 K ?_
  obtain ⟨t,u,h⟩:=ob h
  refine wa J 8 (eCl (z169_ct N decls_ d_.X _ u) [] [(0,.sl 0)] ?_)
  obtain ⟨v,x,h⟩:=ob h
  refine eCa x ?_
  obtain ⟨y,z,h⟩:=ob h
  refine wa J 3 (eCl (z169_ct N decls_ d_.Y _ z) [] [(0,.sl 0)] ?_)
  obtain ⟨A,D,h⟩:=ob h
  refine eCa D (wa J 1 (eEnd ?_))
  obtain ⟨K,h⟩|⟨K,h⟩:=oc h
  ·refine wH J 9 K ?_
   obtain ⟨G,H,h⟩:=ob h
   refine wa J 4 (eCa H ?_)
   obtain ⟨R,T,h⟩:=ob h
   refine wa J 2 (eCl (z164_ct N d_.C _ T) [] [] ?_)
   obtain ⟨U,Z,h⟩:=ob h
   refine eCa Z ?_
   cases h
   exact wr J 2 func99 []
  refine wH J 9 K ?_
  obtain ⟨K,h⟩|⟨K,h⟩:=oc' h
  ·refine wH J 8 K ?_
   cases h
   exact wr J 8 func99 []
  refine wH J 8 K ?_
  obtain ⟨a0,b0,h⟩:=ob h
  refine wa J 4 (eCa b0 ?_)
  obtain ⟨c0,d0,h⟩:=ob h
  refine wa J 3 (eCl (z164_ct N (w64 (0-d_.C)) _ d0) [] [] ?_)
  obtain ⟨e0,f0,h⟩:=ob h
  refine eCa f0 ?_
  cases h
  exact wr J 2 func99 []
 obtain ⟨K,h⟩|⟨K,h⟩:=oc h
 ·exact eK K (wa J 6 (eSub [] (j1 (decide (d_.Y < 0)) h)))
 exact eK K (wa J 6 (eSub [] (j1 false h)))
theorem z46_ct (N:Nat) (decls_:(List T0)) (label_:Int) (part_:Int) (r:ByteArray) (h:z46 N decls_ label_ part_=some r) :
 Fn Tryz.prog 46 ⟨1,[.S 0,.I label_,.I part_],[(0,.sl rR0 decls_)],[],1,.c (.s r),[],[]⟩:=by
 refine eFn func46 rfl (fun E F w=>?_)
 unfold z46 at h
 obtain ⟨x1,d,h⟩:=ob h
 refine wa J 9 (eCl (z98_ct N decls_ label_ _ d) [] [(0,.sl 0)] ?_)
 obtain ⟨K,h⟩|⟨K,h⟩:=oc h
 ·refine wH J 11 K ?_
  cases h
  exact wr J 9 func46 []
 refine wH J 11 K ?_
 obtain ⟨K,h⟩|⟨K,h⟩:=oc h
 ·refine wH J 4 K ?_
  cases h
  exact wr J 5 func46 []
 refine wH J 4 K ?_
 obtain ⟨x2,e,h⟩:=ob h
 refine wa J 6 (eIx J oO0 e ?_)
 obtain ⟨K,h⟩|⟨K,h⟩:=oc h
 ·refine wH J 14 K ?_
  obtain ⟨x3,f,h⟩:=ob h
  refine wa J 7 (eIx J oO1 f ?_)
  obtain ⟨x4,g,h⟩:=ob h
  refine wa J 1 (eCl (z99_ct N decls_ x3 _ g) [] [(0,.sl 0)] ?_)
  cases h
  exact wr J 2 func46 []
 refine wH J 14 K ?_
 obtain ⟨K,h⟩|⟨K,h⟩:=oc' h
 ·refine wH J 20 K ?_
  cases h
  exact wr J 6 func46 []
 refine wH J 20 K ?_
 obtain ⟨x5,i,h⟩:=ob h
 refine wa J 7 (eIx J (oP (oI .i64) (oI .i64)) i (eAq 0 rfl ?_))
 obtain ⟨x6,j,h⟩:=ob h
 refine wa J 1 (eCl (z100_ct N decls_ x5.1 _ j) [] [(0,.sl 0)] ?_)
 obtain ⟨x7,k,h⟩:=ob h
 refine eCa k ?_
 obtain ⟨x8,l,h⟩:=ob h
 refine wa J 4 (eIx J (oP (oI .i64) (oI .i64)) l (eAq 1 rfl ?_))
 obtain ⟨x9,m,h⟩:=ob h
 refine wa J 1 (eCl (z100_ct N decls_ x8.2 _ m) [] [(0,.sl 0)] ?_)
 obtain ⟨o,p,h⟩:=ob h
 refine eCa p (wa J 1 (eEnd ?_))
 cases h
 exact eRet J func46 []
theorem z88_ct (N:Nat) (g_:T5) (m_:T8) (b_:T13) (x_:T3) (r:ByteArray) (h:z88 N g_ m_ b_ x_=some r) :
 Fn Tryz.prog 88 ⟨8,[.a (cC5 0 1 2 3 g_),.a (cC8 4 5 6 m_),.a (cC13 b_),.a (cC3 7 x_)],((0,.sl rS g_.Roles)::(1,.sl rR0 g_.Decls)::(2,.sl rR2 g_.Edges)::(3,.sl rR11 g_.Timeouts)::vV8 4 5 6 m_ [(7,.sl rR12 x_.Values)]),[],8,.c (.s r),[],[]⟩:=by
 refine eFn func88 rfl (fun E F w=>?_)
 unfold z88 at h
 obtain ⟨K,h⟩|⟨K,h⟩:=oc h
 ·refine wH J 20 K ?_
  obtain ⟨x1,d,h⟩:=ob h
  refine wa J 7 (eCl (z93_ct N g_.Roles m_.Role _ d) [] [(0,.sl 0)] ?_)
  obtain ⟨x2,e,h⟩:=ob h
  refine eCa e ?_
  cases h
  exact wr J 2 func88 []
 refine wH J 20 K ?_
 obtain ⟨K,h⟩|⟨K,h⟩:=oc h
 ·refine wH J 6 K ?_
  cases h
  exact wr J 5 func88 []
 refine wH J 6 K ?_
 obtain ⟨K,h⟩|⟨K,h⟩:=oc h
 ·refine wH J 6 K ?_
  obtain ⟨x3,f,h⟩:=ob h
  refine wa J 6 (eCl (z164_ct N (x_.Values.length:Int) _ f) [] [] ?_)
  obtain ⟨x4,g,h⟩:=ob h
  refine eCa g ?_
  obtain ⟨x5,i,h⟩:=ob h
  refine eCa i ?_
  obtain ⟨x6,j,h⟩:=ob h
  refine wa J 4 (eIx J oO0 j ?_)
  obtain ⟨x7,k,h⟩:=ob h
  refine wa J 3 (eCl (z164_ct N (x6.Fields.length:Int) _ k) [] [] ?_)
  obtain ⟨x8,l,h⟩:=ob h
  refine eCa l (wa J 1 (eEnd ?_))
  cases h
  exact eRet J func88 []
 refine wH J 6 K ?_
 obtain ⟨K,h⟩|⟨K,h⟩:=oc' h
 ·refine wH J 6 K ?_
  obtain ⟨K,h⟩|⟨K,h⟩:=oc' h
  ·refine wH J 6 K ?_
   cases h
   exact wr J 7 func88 []
  refine wH J 6 K ?_
  obtain ⟨m,o,h⟩:=ob h
  refine wa J 9 (eCl (z46_ct N g_.Decls x_.Label b_.Part _ o) [] [(0,.sl 1)] ?_)
  obtain ⟨p,q,h⟩:=ob h
  refine eCa q ?_
  cases h
  exact wr J 2 func88 []
 refine wH J 6 K ?_
 obtain ⟨x9,t,h⟩:=ob h
 refine wa J 7 (eIx J oO0 t ?_)
 obtain ⟨u,v,h⟩:=ob h
 refine wa J 4 (eIx J oO4 v (wa J 3 (eEnd ?_)))
 obtain ⟨x,y,h⟩:=ob h
 refine wa J 6 (eIx J oO12 y ?_)
 obtain ⟨z,A,h⟩:=ob h
 refine wa J 1 (eCl (z165_ct N x _ A) [] [] ?_)
 obtain ⟨C,D,h⟩:=ob h
 refine eCa D ?_
 obtain ⟨G,H,h⟩:=ob h
 refine eCa H ?_
 obtain ⟨R,T,h⟩:=ob h
 refine wa J 2 (eCa T ?_)
 obtain ⟨U,X,h⟩:=ob h
 refine eCa X ?_
 obtain ⟨Y,Z,h⟩:=ob h
 refine wa J 3 (eCl (z164_ct N u.Sort'.Lo _ Z) [] [] ?_)
 obtain ⟨a0,b0,h⟩:=ob h
 refine eCa b0 ?_
 obtain ⟨c0,d0,h⟩:=ob h
 refine eCa d0 ?_
 obtain ⟨e0,f0,h⟩:=ob h
 refine wa J 3 (eCl (z164_ct N u.Sort'.Hi _ f0) [] [] ?_)
 obtain ⟨g0,i0,h⟩:=ob h
 refine eCa i0 (wa J 1 (eEnd ?_))
 cases h
 exact eRet J func88 []
theorem z41_ct (N:Nat) (g_:T5) (m_:T8) (history_:(List T3)) (r:ByteArray × Int) (h:z41 N g_ m_ history_=some r) :
 Fn Tryz.prog 41 ⟨8,[.a (cC5 0 1 2 3 g_),.a (cC8 4 5 6 m_),.S 7],((0,.sl rS g_.Roles)::(1,.sl rR0 g_.Decls)::(2,.sl rR2 g_.Edges)::(3,.sl rR11 g_.Timeouts)::vV8 4 5 6 m_ [(7,.sl rR3 history_)]),[],8,.t [.inl (.s r.1),.inl (.I r.2)],[],[]⟩:=by
 refine eFn func41 rfl (fun E F w=>?_)
 unfold z41 at h
 obtain ⟨x1,c,h⟩:=ob h
 refine wa J 12 (eCl (z39_ct N g_ m_ history_ _ c) [] [(0,.sl 0),(1,.sl 1),(2,.sl 2),(3,.sl 3),(4,.sl 4),(5,.sl 5),(6,.sl 6),(7,.sl 7)] ?_)
 obtain ⟨K,h⟩|⟨K,h⟩:=oc h
 ·refine wH J 15 K ?_
  cases h
  exact wr J 11 func41 []
 refine wH J 15 K ?_
 obtain ⟨K,h⟩|⟨K,h⟩:=oc h
 ·refine wH J 4 K ?_
  cases h
  exact wr J 7 func41 []
 refine wH J 4 K ?_
 obtain ⟨x2,d,h⟩:=ob h
 refine wa J 7 (eIx J oO3 d ?_)
 obtain ⟨x3,e,h⟩:=ob h
 refine wa J 8 (eCl (z44_ct N g_ x2 _ e) [] [(0,.sl 0),(1,.sl 1),(2,.sl 2),(3,.sl 3),(4,.sl 12)] ?_)
 obtain ⟨x4,f,h⟩:=ob h
 refine eCa f ?_
 obtain ⟨x5,g,h⟩:=ob h
 refine wa J 4 (eCl (z88_ct N g_ m_ x1.1 x2 _ g) [] [(0,.sl 0),(1,.sl 1),(2,.sl 2),(3,.sl 3),(4,.sl 4),(5,.sl 5),(6,.sl 6),(7,.sl 12)] ?_)
 obtain ⟨x6,i,h⟩:=ob h
 refine eCa i (wa J 2 (eEnd ?_))
 cases h
 exact eRet J func41 []
theorem z37_ct (N:Nat) (r:Bool) (h:z37 N=some r) :
 Fn Tryz.prog 37 ⟨0,[],[],[],0,.O r,[],[]⟩:=by
 refine eFn func37 rfl (fun E F w=>?_)
 unfold z37 at h
 refine wa J 14 (eBs J [] oO4 ([(⟨(str [110]),(⟨1,0,9⟩:T10)⟩:T4)]:List T4) (wa J 3 (eBs J [] oO4 ([(⟨(str [109]),(⟨1,0,9⟩:T10)⟩:T4)]:List T4) (wa J 1 (eBs J [] oO1 ([(⟨0,1,(-1)⟩:T1)]:List T1) (wa J 2 (eBs J [1,2,3] oO0 ([(⟨(str [120]),([(⟨(str [110]),(⟨1,0,9⟩:T10)⟩:T4)]:List T4),0,(⟨([]:List T1),([]:List (Int × Int))⟩:T6)⟩:T0),(⟨(str [121]),([(⟨(str [109]),(⟨1,0,9⟩:T10)⟩:T4)]:List T4),1,(⟨([(⟨0,1,(-1)⟩:T1)]:List T1),([]:List (Int × Int))⟩:T6)⟩:T0)]:List T0) (wa J 4 (eBs J [] oS ([(str [97]),(str [98])]:List ByteArray) ?_)))))))))
 obtain ⟨x1,c,h⟩:=ob h
 refine wa J 1 (eFr [4] (eIs J rR0 c (wa J 2 (eBs J [] oO2 ([(⟨0,(⟨0,1,0⟩:T7),1,false⟩:T2)]:List T2) (wa J 6 (eBs J [] oB ([false,true]:List Bool) (wa J 1 (eBs J [] oO9 ([(⟨0,true,1,0,1,false⟩:T9)]:List T9) ?_))))))))
 obtain ⟨x2,d,h⟩:=ob h
 refine wa J 6 (eCl (z83_ct N 3 _ d) [] [] (eBs J [] oO12 ([x2]:List T12) (wa J 9 (eBs J [12] oO3 ([(⟨1,false,0,0,([x2]:List T12)⟩:T3)]:List T3) ?_))))
 obtain ⟨x3,e,h⟩:=ob h
 refine eCb (z39_ct N (⟨(str [80]),([(str [97]),(str [98])]:List ByteArray),x1,2,0,1,([(⟨0,(⟨0,1,0⟩:T7),1,false⟩:T2)]:List T2),([]:List T11)⟩:T5) (⟨0,2,0,([false,true]:List Bool),([(⟨0,true,1,0,1,false⟩:T9)]:List T9),([]:List T11)⟩:T8) ([(⟨1,false,0,0,([x2]:List T12)⟩:T3)]:List T3) _ e) [] [(0,.sl 5),(1,.sl 6),(2,.sl 7),(3,.nil),(4,.sl 9),(5,.sl 10),(6,.nil),(7,.sl 14)] [5,7,9,10,14] (.inr ⟨rfl,trivial⟩) (wa J 14 (eBs J [] oO3 ([(⟨1,false,0,0,([x2]:List T12)⟩:T3)]:List T3) ?_))
 obtain ⟨x4,f,h⟩:=ob h
 refine eCb (z41_ct N (⟨(str [80]),([(str [97]),(str [98])]:List ByteArray),x1,2,0,1,([(⟨0,(⟨0,1,0⟩:T7),1,false⟩:T2)]:List T2),([]:List T11)⟩:T5) (⟨0,2,0,([false,true]:List Bool),([(⟨0,true,1,0,1,false⟩:T9)]:List T9),([]:List T11)⟩:T8) ([(⟨1,false,0,0,([x2]:List T12)⟩:T3)]:List T3) _ f) [] [(0,.sl 5),(1,.sl 6),(2,.sl 7),(3,.nil),(4,.sl 9),(5,.sl 10),(6,.nil),(7,.sl 16)] [5,7,9,10,16] (.inr ⟨rfl,trivial⟩) ?_
 obtain ⟨x5,g,h⟩:=ob h
 refine wa J 9 (eCl (z46_ct N ([(⟨(str [120]),([(⟨(str [110]),(⟨1,0,9⟩:T10)⟩:T4)]:List T4),0,(⟨([]:List T1),([]:List (Int × Int))⟩:T6)⟩:T0),(⟨(str [121]),([(⟨(str [109]),(⟨1,0,9⟩:T10)⟩:T4)]:List T4),1,(⟨([(⟨0,1,(-1)⟩:T1)]:List T1),([]:List (Int × Int))⟩:T6)⟩:T0)]:List T0) 1 0 _ g) [] [(0,.sl 4)] ?_)
 obtain ⟨K,h⟩|⟨K,h⟩:=oc' h
 ·refine wH J 2 K ?_
  cases h
  exact wr J 21 func37 []
 refine wH J 2 K ?_
 obtain ⟨K,h⟩|⟨K,h⟩:=oc' h
 ·refine wH J 3 K ?_
  cases h
  exact wr J 18 func37 []
 refine wH J 3 K ?_
 obtain ⟨K,h⟩|⟨K,h⟩:=oc' h
 ·refine wH J 4 K ?_
  cases h
  exact wr J 14 func37 []
 refine wH J 4 K ?_
 obtain ⟨K,h⟩|⟨K,h⟩:=oc' h
 ·refine wH J 4 K ?_
  cases h
  exact wr J 10 func37 []
 refine wH J 4 K (wa J 2 (eEq ?_))
 obtain ⟨K,h⟩|⟨K,h⟩:=oc h
 ·refine wH J 2 K ?_
  cases h
  exact wr J 5 func37 []
 refine wH J 2 K ?_
 cases h
 exact wr J 5 func37 []
theorem z38_ct (N:Nat) (g_:T5) (m_:T8) (l_:(List T3)) (r:Bool) (h:z38 N g_ m_ l_=some r) :
 Fn Tryz.prog 38 ⟨8,[.a (cC5 0 1 2 3 g_),.a (cC8 4 5 6 m_),.S 7],((0,.sl rS g_.Roles)::(1,.sl rR0 g_.Decls)::(2,.sl rR2 g_.Edges)::(3,.sl rR11 g_.Timeouts)::vV8 4 5 6 m_ [(7,.sl rR3 l_)]),[],8,.O r,[],[]⟩:=by
 refine eFn func38 rfl (fun E F w=>?_)
 unfold z38 at h
 obtain ⟨x1,c,h⟩:=ob h
 refine wa J 9 (eCl (z43_ct N g_ _ c) [] [(0,.sl 0),(1,.sl 1),(2,.sl 2),(3,.sl 3)] ?_)
 obtain ⟨K,h⟩|⟨K,h⟩:=oc' h
 ·refine wH J 1 K ?_
  cases h
  exact wr J 9 func38 []
 refine wH J 1 K ?_
 obtain ⟨x2,d,h⟩:=ob h
 refine wa J 1 (eCl (z54_ct N m_ _ d) [] [(0,.sl 4),(1,.sl 5),(2,.sl 6)] ?_)
 obtain ⟨K,h⟩|⟨K,h⟩:=oc' h
 ·refine wH J 2 K ?_
  cases h
  exact wr J 5 func38 []
 refine wH J 2 K ?_
 obtain ⟨x3,e,h⟩:=ob h
 refine wa J 1 (eCl (z55_ct N l_ _ e) [] [(0,.sl 7)] ?_)
 cases h
 exact wr J 3 func38 []
theorem law41_BlameFirst_ct (N:Nat) (g_:T5) (m_:T8) (l_:(List T3)) (r:Bool) (h:law41_BlameFirst N g_ m_ l_=some r) :
 Fn Tryz.prog 10 ⟨8,[.a (cC5 0 1 2 3 g_),.a (cC8 4 5 6 m_),.S 7],((0,.sl rS g_.Roles)::(1,.sl rR0 g_.Decls)::(2,.sl rR2 g_.Edges)::(3,.sl rR11 g_.Timeouts)::vV8 4 5 6 m_ [(7,.sl rR3 l_)]),[],8,.O r,[],[]⟩:=by
 refine eFn func10 rfl (fun E F w=>?_)
 unfold law41_BlameFirst at h
 obtain ⟨x1,c,h⟩:=ob h
 refine wa J 9 (eCl (z37_ct N _ c) [] [] ?_)
 obtain ⟨K,h⟩|⟨K,h⟩:=oc h
 ·refine wH J 2 K ?_
  cases h
  exact wr J 5 func10 []
 refine wH J 2 K ?_
 obtain ⟨x2,d,h⟩:=ob h
 refine wa J 8 (eCl (z38_ct N g_ m_ l_ _ d) [] [(0,.sl 0),(1,.sl 1),(2,.sl 2),(3,.sl 3),(4,.sl 4),(5,.sl 5),(6,.sl 6),(7,.sl 7)] ?_)
 obtain ⟨K,h⟩|⟨K,h⟩:=oc h
 ·refine wH J 2 K ?_
  cases h
  exact wr J 5 func10 []
 refine wH J 2 K ?_
 obtain ⟨x3,e,h⟩:=ob h
 refine wa J 7 (eCl (z39_ct N g_ m_ l_ _ e) [] [(0,.sl 0),(1,.sl 1),(2,.sl 2),(3,.sl 3),(4,.sl 4),(5,.sl 5),(6,.sl 6),(7,.sl 7)] ?_)
 obtain ⟨x4,f,h⟩:=ob h
 refine wa J 14 (eCl (z15_ct N g_ m_ l_ _ f) [] [(0,.sl 0),(1,.sl 1),(2,.sl 2),(3,.sl 3),(4,.sl 4),(5,.sl 5),(6,.sl 6),(7,.sl 7)] ?_)
 obtain ⟨K,h⟩|⟨K,h⟩:=oc h
 ·refine wH J 15 K ?_
  obtain ⟨K,h⟩|⟨K,h⟩:=oc' h
  ·refine wH J 10 K ?_
   cases h
   exact wr J 11 func10 []
  refine wH J 10 K (wa J 2 (eEq ?_))
  obtain ⟨K,h⟩|⟨K,h⟩:=oc h
  ·refine wH J 2 K ?_
   cases h
   exact wr J 6 func10 []
  refine wH J 2 K ?_
  cases h
  exact wr J 6 func10 []
 refine wH J 15 K ?_
 obtain ⟨K,h⟩|⟨K,h⟩:=oc h
 ·refine wH J 4 K ?_
  obtain ⟨K,h⟩|⟨K,h⟩:=oc' h
  ·refine wH J 6 K ?_
   cases h
   exact wr J 11 func10 []
  refine wH J 6 K (wa J 2 (eEq ?_))
  obtain ⟨K,h⟩|⟨K,h⟩:=oc h
  ·refine wH J 2 K ?_
   cases h
   exact wr J 6 func10 []
  refine wH J 2 K ?_
  cases h
  exact wr J 6 func10 []
 refine wH J 4 K ?_
 obtain ⟨K,h⟩|⟨K,h⟩:=oc h
 ·refine wH J 8 K ?_
  cases h
  exact wr J 23 func10 []
 refine wH J 8 K ?_
 obtain ⟨K,h⟩|⟨K,h⟩:=oc h
 ·refine wH J 6 K ?_
  cases h
  exact wr J 17 func10 []
 refine wH J 6 K ?_
 obtain ⟨K,h⟩|⟨K,h⟩:=oc h
 ·refine wH J 5 K ?_
  cases h
  exact wr J 12 func10 []
 refine wH J 5 K ?_
 obtain ⟨K,h⟩|⟨K,h⟩:=oc h
 ·refine wH J 7 K ?_
  cases h
  exact wr J 5 func10 []
 refine wH J 7 K (wa J 18 (eCut (σ:=Int) (fun st=>⟨[(2,.S 7),(3,.B 8 0),(4,.B 9 0),(7,.B 10 0),(12,.I x4.2.2),(13,.I st)],[(8,.box (cC5 0 1 2 3 g_) 27),(9,.box (cC8 4 5 6 m_) 31),(10,.box (cC13 x3.1) 97)],((0,.sl rS g_.Roles)::(1,.sl rR0 g_.Decls)::(2,.sl rR2 g_.Edges)::(3,.sl rR11 g_.Timeouts)::vV8 4 5 6 m_ [(7,.sl rR3 l_)]),14⟩) (fun st=>law41_BlameFirst_k1 N g_ m_ l_ x3 x4 st=some r) ?_ (fun j1=>?_)))
 ·intro g h
  replace h:law41_BlameFirst_k1 N g_ m_ l_ x3 x4 g=some r:=h
  unfold law41_BlameFirst_k1 at h
  obtain ⟨x5,i,h⟩:=ob h
  refine wa J 9 (eIs J rR3 i ?_)
  obtain ⟨x6,j,h⟩:=ob h
  refine eCl (z39_ct N g_ m_ x5 _ j) [] [(0,.sl 0),(1,.sl 1),(2,.sl 2),(3,.sl 3),(4,.sl 4),(5,.sl 5),(6,.sl 6),(7,.sl 14)] (wa J 8 (eEnd ?_))
  obtain ⟨K,h⟩|⟨K,h⟩:=oc' h
  ·refine wH J 6 K ?_
   cases h
   exact wr J 13 func10 []
  refine wH J 6 K ?_
  obtain ⟨K,h⟩|⟨K,h⟩:=oc' h
  ·refine wH J 3 K ?_
   cases h
   exact wr J 10 func10 []
  refine wH J 3 K ?_
  obtain ⟨K,h⟩|⟨K,h⟩:=oc h
  ·refine wH J 4 K (wa J 2 (eEq ?_))
   cases h
   exact wr J 3 func10 []
  refine wH J 4 K ?_
  cases h
  exact wr J 6 func10 []
 obtain ⟨K,h⟩|⟨K,h⟩:=oc h
 ·exact eK K (wa J 4 (eSub [] (j1 12 h)))
 refine eK K ?_
 obtain ⟨K,h⟩|⟨K,h⟩:=oc h
 ·exact wH J 6 K (wa J 4 (eSub [] (j1 23 h)))
 refine wH J 6 K ?_
 obtain ⟨K,h⟩|⟨K,h⟩:=oc h
 ·exact wH J 7 K (wa J 6 (eSub [] (j1 11 h)))
 refine wH J 7 K ?_
 obtain ⟨K,h⟩|⟨K,h⟩:=oc h
 ·exact wH J 5 K (wa J 4 (eSub [] (j1 11 h)))
 refine wH J 5 K ?_
 obtain ⟨K,h⟩|⟨K,h⟩:=oc h
 ·exact wH J 7 K (wa J 4 (eSub [] (j1 17 h)))
 refine wH J 7 K ?_
 obtain ⟨K,h⟩|⟨K,h⟩:=oc h
 ·exact wH J 5 K (wa J 2 (eSub [] (j1 17 h)))
 refine wH J 5 K ?_
 cases h
 exact wr J 5 func10 []
end Gx
end
