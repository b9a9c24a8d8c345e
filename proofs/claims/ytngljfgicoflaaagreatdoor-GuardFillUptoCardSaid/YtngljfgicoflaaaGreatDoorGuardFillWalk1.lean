/- Each function of the statement computes what its plain definition says, part 1. -/
import Derived.Test.YtngljfgicoflaaaGreatDoorGuardFillBase
import Derived.Test.YtngljfgicoflaaaGreatDoorGuardFillEvalA
import Derived.Test.YtngljfgicoflaaaGreatDoorGuardFillLib
set_option linter.all false
section
set_option maxRecDepth 10000
set_option maxHeartbeats 4000000
open Go Go.Kx Go.Proofs Tryz
namespace Gx
theorem z4_ct (N:Nat) (r:Bool) (h:z4 N=some r):Fn Tryz.prog 4 ⟨0,[],[],[],0,.O r,[],[]⟩:=by
 cases h
 exact awake_fn
theorem z12_ct (N:Nat) (l_:(List T0)) (r:Bool) (h:z12 N l_=some r) :
 Fn Tryz.prog 12 ⟨1,[.S 0],[(0,.sl rR0 l_)],[],1,.O r,[],[]⟩:=by
 refine eFn func12 rfl (fun E F w=>?_)
 unfold z12 at h
 refine wa J 13 (eCut (σ:=Int) (fun st=>(zz3 l_ [(0,.S 0),(3,.I st)])) (fun st=>z12_k1 l_ st=some r) ?_ (fun j1=>?_))
 ·intro c h
  replace h:z12_k1 l_ c=some r:=h
  unfold z12_k1 at h
  obtain ⟨K,h⟩|⟨K,h⟩:=oc h
  ·refine wH J 6 K ?_
   cases h
   exact wr J 5 func12 []
  refine wH J 6 K ?_
  cases h
  exact wr J 5 func12 []
 refine wa J 1 (eLoop (σ:=Int × Int) (fun st=>(zz3 l_ [(0,.S 0),(3,.I st.1),(4,.I st.2)])) (fun n st=>z12_l2 l_ n st.1 st.2) (r:=r) (fun _=>rfl) ?_ (fun ih=>?_))
 ·intro n2 ih3
  rintro ⟨d,e⟩ h
  replace h:z12_l2 l_ (n2+1) d e=some r:=h
  unfold z12_l2 at h
  obtain ⟨K,h⟩|⟨K,h⟩:=oc' h
  ·exact wH J 8 K (wa J 2 (eSub [] (j1 d h)))
  refine wH J 8 K ?_
  obtain ⟨f,g,h⟩:=ob h
  refine wa J 8 (eIx J oO0 g ?_)
  obtain ⟨i,j,h⟩:=ob h
  refine wa J 5 (eIx J oO0 j ?_)
  obtain ⟨k,l,h⟩:=ob h
  exact wa J 7 (eIx J oO0 l (wa J 7 (eEnd (wa J 6 (eSub [] (ih3 ((w64 (d+(w64 ((w64 ((f.Fields.length:Int)+(i.Guard.Diffs.length:Int)))+(k.Guard.Equals.length:Int))))),(w64 (e+1))) h))))))
 exact eSub [] (ih N (0,0) h)
theorem z5_ct (N:Nat) (d_:(List T0)) (values_:(List T5)) (known_:(List T5)) (r:Bool) (h:z5 N d_ values_ known_=some r) :
 Fn Tryz.prog 5 ⟨3,[.S 0,.S 1,.S 2],[(0,.sl rR0 d_),(1,.sl rR5 values_),(2,.sl rR5 known_)],[],3,.O r,[],[]⟩:=by
 refine eFn func5 rfl (fun E F w=>?_)
 unfold z5 at h
 obtain ⟨x1,c,h⟩:=ob h
 refine wa J 7 (eCl (z12_ct N d_ _ c) [] [(0,.sl 0)] ?_)
 obtain ⟨K,h⟩|⟨K,h⟩:=oc' h
 ·refine wH J 1 K ?_
  cases h
  exact wr J 11 func5 []
 refine wH J 1 K ?_
 obtain ⟨K,h⟩|⟨K,h⟩:=oc h
 ·refine wH J 5 K ?_
  cases h
  exact wr J 6 func5 []
 refine wH J 5 K ?_
 cases h
 exact wr J 6 func5 []
theorem z49_ct (N:Nat) (l_:(List T0)) (r:(List T2)) (h:z49 N l_=some r) :
 Fn Tryz.prog 49 ⟨1,[.S 0],[(0,.sl rR0 l_)],[],2,.S 1,[],[(1,.own rR2 r true)]⟩:=by
 refine eFn func49 rfl (fun E F w=>?_)
 unfold z49 at h
 refine wa J 15 (eCut (σ:=(List T2)) (fun st=>(zz13 st l_ [(3,.S 1)])) (fun st=>z49_k1 st=some r) ?_ (fun j1=>?_))
 ·intro c h
  replace h:z49_k1 c=some r:=h
  unfold z49_k1 at h
  cases h
  exact wr J 5 func49 [(1,.sl 1)]
 refine wa J 1 (eLoop (σ:=(List T2) × Int) (fun st=>(zz13 st.1 l_ [(3,.S 1),(6,.S 0),(7,.I (l_.length:Int)),(8,.I st.2)])) (fun n st=>z49_l2 l_ n st.1 st.2) (r:=r) (fun _=>rfl) ?_ (fun ih=>?_))
 ·intro n2 ih3
  rintro ⟨d,e⟩ h
  replace h:z49_l2 l_ (n2+1) d e=some r:=h
  unfold z49_l2 at h
  obtain ⟨K,h⟩|⟨K,h⟩:=oc' h
  ·exact wH J 5 K (wa J 2 (eSub [] (j1 d h)))
  refine wH J 5 K ?_
  obtain ⟨f,g,h⟩:=ob h
  refine wa J 6 (eIx J oO0 g ?_)
  obtain ⟨i,j,h⟩:=ob h
  exact wa J 8 (eAp J rR2 j (wa J 7 (eSub [(1,.sl 7)] (ih3 (i,(w64 (e+1))) h))))
 exact eSub [(1,.nil)] (ih N (([]:List T2),0) h)
theorem z228_ct (N:Nat) (s_:ByteArray) (r:Int) (h:z228 N s_=some r) :
 Fn Tryz.prog 228 ⟨0,[.c (.s s_)],[],[],0,.I r,[],[]⟩:=by
 refine eFn func228 rfl (fun E F w=>?_)
 unfold z228 at h
 refine wa J 8 (eRn J (fun bk1=>wa J 1 (eCut (σ:=Int × Nat) (fun st=>⟨[(2,.I st.1)],[(0,.abs (itR bk1 s_ st.2))],[],1⟩) (fun st=>z228_k1 st.1 st.2=some r) ?_ (fun j1=>?_))))
 ·rintro ⟨d,vi0_1⟩ h
  replace h:z228_k1 d vi0_1=some r:=h
  unfold z228_k1 at h
  cases h
  exact wr J 5 func228 []
 refine wa J 1 (eLoop (σ:=Int × Nat) (fun st=>⟨[(2,.I st.1),(4,.c (.v (.pointer (some ⟨bk1,0,none⟩))))],[(0,.abs (itR bk1 s_ st.2))],[],1⟩) (fun n st=>z228_l2 s_ n st.1 st.2) (r:=r) (fun _=>rfl) ?_ (fun ih=>?_))
 ·intro n2 ih3
  rintro ⟨e,vi0_3⟩ h
  replace h:z228_l2 s_ (n2+1) e vi0_3=some r:=h
  unfold z228_l2 at h
  obtain ⟨K,h⟩|⟨K,h⟩:=oc h
  ·exact wa J 2 (eNt bk1 0 K (wa J 12 (eSub [] (ih3 ((w64 (e+1)),(vi0_3+(Utf8.decode s_ vi0_3).2)) h))))
  exact wa J 2 (eNf bk1 0 K (wa J 5 (eSub [] (j1 (e,vi0_3) h))))
 exact eSub [] (ih N (0,(0:Nat)) h)
theorem z237_ct (N:Nat) (s_:ByteArray) (r:Int × Int) (h:z237 N s_=some r) :
 Fn Tryz.prog 237 ⟨0,[.c (.s s_)],[],[],0,.t [.inl (.i .i32 r.1),.inl (.I r.2)],[],[]⟩:=by
 refine eFn func237 rfl (fun E F w=>?_)
 unfold z237 at h
 obtain ⟨K,h⟩|⟨K,h⟩:=oc h
 ·refine wH J 17 K ?_
  cases h
  exact wr J 6 func237 []
 refine wH J 17 K ?_
 obtain ⟨x1,d,h⟩:=ob h
 refine wa J 5 (eSx J d ?_)
 cases h
theorem z229_ct (N:Nat) (s_:ByteArray) (r:Int × Int) (h:z229 N s_=some r) :
 Fn Tryz.prog 229 ⟨0,[.c (.s s_)],[],[],0,.t [.inl (.i .i32 r.1),.inl (.I r.2)],[],[]⟩:=by
 refine eFn func229 rfl (fun E F w=>?_)
 unfold z229 at h
 obtain ⟨K,h⟩|⟨K,h⟩:=oc' h
 ·refine wH J 11 K ?_
  obtain ⟨x4,d,h⟩:=ob h
  refine wa J 8 (eCl (z237_ct N s_ _ d) [] [] ?_)
  cases h
  exact wr J 6 func229 []
 refine wH J 11 K ?_
 obtain ⟨x1,e,h⟩:=ob h
 refine wa J 1 (eSx J e ?_)
 obtain ⟨K,h⟩|⟨K,h⟩:=oc h
 ·refine wH J 3 K ?_
  obtain ⟨x2,f,h⟩:=ob h
  refine wa J 4 (eSx J f ?_)
  cases h
  exact wr J 4 func229 []
 refine wH J 3 K ?_
 obtain ⟨x3,g,h⟩:=ob h
 refine wa J 3 (eCl (z237_ct N s_ _ g) [] [] ?_)
 cases h
 exact wr J 6 func229 []
theorem z216_ct (N:Nat) (s_:ByteArray) (n_:Int) (r:(List ByteArray)) (h:z216 N s_ n_=some r) :
 Fn Tryz.prog 216 ⟨0,[.c (.s s_),.I n_],[],[],1,.S 0,[],[(0,.own rS r true)]⟩:=by
 refine eFn func216 rfl (fun E F w=>?_)
 unfold z216 at h
 obtain ⟨x1,d,h⟩:=ob h
 refine wa J 7 (eCl (z228_ct N s_ _ d) [] [] ?_)
 refine wa J 8 (eCut (σ:=Bool) (fun st=>(zz0 [(0,.c (.s s_)),(1,.I n_),(5,.I x1),(18,.O st)])) (fun st=>z216_k4 N s_ n_ x1 st=some r) ?_ (fun j1=>?_))
 ·intro e h
  replace h:z216_k4 N s_ n_ x1 e=some r:=h
  unfold z216_k4 at h
  refine eCut (σ:=Int) (fun st=>(zz0 [(0,.c (.s s_)),(1,.I st)])) (fun st=>z216_k3 N s_ st=some r) ?_ (fun j2=>?_)
  ·intro f h
   replace h:z216_k3 N s_ f=some r:=h
   unfold z216_k3 at h
   obtain ⟨x2,g,h⟩:=ob h
   refine wa J 3 (eMk J oS g (wa J 7 (eCut (σ:=ByteArray × (List ByteArray)) (fun st=>(zz9 st.2 [(0,.c (.s st.1)),(1,.I f),(6,.S 0)])) (fun st=>z216_k1 f st.1 st.2=some r) ?_ (fun j3=>?_))))
   ·rintro ⟨i,j⟩ h
    replace h:z216_k1 f i j=some r:=h
    unfold z216_k1 at h
    obtain ⟨K,h⟩|⟨K,h⟩:=oc' h
    ·refine wH J 6 K ?_
     cases h
     exact wr J 7 func216 [(0,.sl 0)]
    refine wH J 6 K ?_
    obtain ⟨k,l,h⟩:=ob h
    refine wa J 6 (eIo J rS l (eSt J [] oS i l ?_))
    cases h
    exact wr J 6 func216 [(0,.sl 0)]
   refine wa J 1 (eLoop (σ:=ByteArray × (List ByteArray) × Int) (fun st=>(zz9 st.2.1 [(0,.c (.s st.1)),(1,.I f),(6,.S 0),(7,.I st.2.2)])) (fun n st=>z216_l2 N f n st.1 st.2.1 st.2.2) (r:=r) (fun _=>rfl) ?_ (fun ih=>?_))
   ·intro n2 ih5
    rintro ⟨m,o,p⟩ h
    replace h:z216_l2 N f (n2+1) m o p=some r:=h
    unfold z216_l2 at h
    obtain ⟨K,h⟩|⟨K,h⟩:=oc' h
    ·exact wH J 8 K (wa J 2 (eSub [] (j3 (m,o) h)))
    refine wH J 8 K ?_
    obtain ⟨q,t,h⟩:=ob h
    refine wa J 7 (eCl (z229_ct N m _ t) [] [] ?_)
    obtain ⟨u,v,h⟩:=ob h
    refine wa J 12 (eSs J v ?_)
    obtain ⟨x,y,h⟩:=ob h
    refine eIo J rS y (eSt J [] oS u y ?_)
    obtain ⟨z,A,h⟩:=ob h
    exact wa J 4 (eSs J A (wa J 8 (eSub [] (ih5 (z,(setL' o p u),(w64 (p+1))) h))))
   exact eSub [] (ih N (s_,x2,0) h)
  obtain ⟨K,h⟩|⟨K,h⟩:=oc h
  ·exact eK K (wa J 5 (eSub [] (j2 x1 h)))
  exact eK K (wa J 2 (eSub [] (j2 n_ h)))
 obtain ⟨K,h⟩|⟨K,h⟩:=oc h
 ·exact eK K (wa J 5 (eSub [] (j1 true h)))
 exact eK K (wa J 5 (eSub [] (j1 (decide (n_ > x1)) h)))
theorem z174_ct (N:Nat) (s_:ByteArray) (c_:Int) (r:Int) (h:z174 N s_ c_=some r) :
 Fn Tryz.prog 174 ⟨0,[.c (.s s_),.c (.i .u8 c_)],[],[],0,.I r,[],[]⟩:=by
 refine eFn func174 rfl (fun E F w=>?_)
 unfold z174 at h
 refine wa J 8 (eEx (ext_indexByte func201 (by kernel_rfl) (by kernel_rfl) (by kernel_rfl) (by kernel_rfl) s_ c_) (fun _=>trivial) ?_)
 cases h
 exact wr J 2 func174 []
theorem z202_ct (N:Nat) (s_:ByteArray) (substr_:ByteArray) (r:Int) (h:z202 N s_ substr_=some r) :
 Fn Tryz.prog 202 ⟨0,[.c (.s s_),.c (.s substr_)],[],[],0,.I r,[],[]⟩:=by
 refine eFn func202 rfl (fun E F w=>?_)
 unfold z202 at h
 obtain ⟨K,h⟩|⟨K,h⟩:=oc h
 ·refine wH J 17 K ?_
  cases h
  exact wr J 11 func202 []
 refine wH J 17 K ?_
 obtain ⟨K,h⟩|⟨K,h⟩:=oc h
 ·refine wH J 6 K ?_
  cases h
  exact wr J 5 func202 []
 refine wH J 6 K ?_
 obtain ⟨K,h⟩|⟨K,h⟩:=oc h
 ·refine wH J 7 K ?_
  obtain ⟨x1,d,h⟩:=ob h
  refine wa J 5 (eSx J d ?_)
  obtain ⟨x2,e,h⟩:=ob h
  refine eCl (z174_ct N s_ x1 _ e) [] [] ?_
  cases h
  exact wr J 2 func202 []
 refine wH J 7 K ?_
 obtain ⟨K,h⟩|⟨K,h⟩:=oc h
 ·refine wH J 9 K ?_
  cases h
  exact wr J 5 func202 []
 refine wH J 9 K ?_
 cases h
theorem z175_ct (N:Nat) (s_:ByteArray) (substr_:ByteArray) (r:Int) (h:z175 N s_ substr_=some r) :
 Fn Tryz.prog 175 ⟨0,[.c (.s s_),.c (.s substr_)],[],[],0,.I r,[],[]⟩:=by
 refine eFn func175 rfl (fun E F w=>?_)
 unfold z175 at h
 obtain ⟨x1,d,h⟩:=ob h
 refine wa J 8 (eCl (z202_ct N s_ substr_ _ d) [] [] ?_)
 cases h
 exact wr J 2 func175 []
theorem z217_ct (N:Nat) (s_:ByteArray) (substr_:ByteArray) (r:Int) (h:z217 N s_ substr_=some r) :
 Fn Tryz.prog 217 ⟨0,[.c (.s s_),.c (.s substr_)],[],[],0,.I r,[],[]⟩:=by
 refine eFn func217 rfl (fun E F w=>?_)
 unfold z217 at h
 obtain ⟨K,h⟩|⟨K,h⟩:=oc h
 ·refine wH J 11 K ?_
  obtain ⟨x1,d,h⟩:=ob h
  refine wa J 4 (eCl (z228_ct N s_ _ d) [] [] ?_)
  cases h
  exact wr J 3 func217 []
 refine wH J 11 K ?_
 obtain ⟨K,h⟩|⟨K,h⟩:=oc h
 ·refine wH J 9 K ?_
  obtain ⟨x2,e,h⟩:=ob h
  refine wa J 5 (eSx J e (eEx (ext_countByte func230 (by kernel_rfl) (by kernel_rfl) (by kernel_rfl) (by kernel_rfl) s_ x2) (fun _=>trivial) ?_))
  cases h
  exact wr J 2 func217 []
 refine wH J 9 K (wa J 7 (eLoop (σ:=ByteArray × Int) (fun st=>(zz0 [(0,.c (.s st.1)),(1,.c (.s substr_)),(5,.I st.2)])) (fun n st=>z217_l1 N substr_ n st.1 st.2) (r:=r) (fun _=>rfl) ?_ (fun ih=>?_)))
 ·intro n1 ih1
  rintro ⟨f,g⟩ h
  replace h:z217_l1 N substr_ (n1+1) f g=some r:=h
  unfold z217_l1 at h
  obtain ⟨i,j,h⟩:=ob h
  refine wa J 5 (eCl (z175_ct N f substr_ _ j) [] [] ?_)
  obtain ⟨K,h⟩|⟨K,h⟩:=oc h
  ·refine wH J 8 K ?_
   cases h
   exact wr J 6 func217 []
  refine wH J 8 K ?_
  obtain ⟨k,l,h⟩:=ob h
  exact wa J 14 (eSs J l (wa J 3 (eSub [] (ih1 (k,(w64 (g+1))) h))))
 exact eSub [] (ih N (s_,0) h)
theorem z194_ct (N:Nat) (s_:ByteArray) (sep_:ByteArray) (sepSave_:Int) (n_:Int) (r:(List ByteArray)) (h:z194 N s_ sep_ sepSave_ n_=some r) :
 Fn Tryz.prog 194 ⟨0,[.c (.s s_),.c (.s sep_),.I sepSave_,.I n_],[],[],1,.S 0,[],[(0,.own rS r true)]⟩:=by
 refine eFn func194 rfl (fun E F w=>?_)
 unfold z194 at h
 obtain ⟨K,h⟩|⟨K,h⟩:=oc h
 ·refine wH J 10 K ?_
  cases h
  exact wr J 5 func194 [(0,.nil)]
 refine wH J 10 K ?_
 obtain ⟨K,h⟩|⟨K,h⟩:=oc h
 ·refine wH J 8 K ?_
  obtain ⟨x1,d,h⟩:=ob h
  refine wa J 5 (eCl (z216_ct N s_ n_ _ d) [] [] ?_)
  cases h
  exact wr J 2 func194 [(0,.sl 0)]
 refine wH J 8 K (wa J 8 (eCut (σ:=Int) (fun st=>(zz0 [(0,.c (.s s_)),(1,.c (.s sep_)),(2,.I sepSave_),(3,.I st)])) (fun st=>z194_k3 N s_ sep_ sepSave_ st=some r) ?_ (fun j1=>?_)))
 ·intro e h
  replace h:z194_k3 N s_ sep_ sepSave_ e=some r:=h
  unfold z194_k3 at h
  obtain ⟨x3,f,h⟩:=ob h
  refine wa J 12 (eMk J oS f (wa J 13 (eCut (σ:=ByteArray × (List ByteArray) × Int) (fun st=>(zz9 st.2.1 [(0,.c (.s st.1)),(9,.S 0),(10,.I st.2.2)])) (fun st=>z194_k1 st.1 st.2.1 st.2.2=some r) ?_ (fun j2=>?_))))
  ·rintro ⟨g,i,j⟩ h
   replace h:z194_k1 g i j=some r:=h
   unfold z194_k1 at h
   obtain ⟨k,l,h⟩:=ob h
   refine wa J 5 (eIo J rS l (eSt J [] oS g l ?_))
   obtain ⟨m,o,h⟩:=ob h
   refine wa J 6 (eVw J rS o (wa J 2 (eSl rS 2 o ?_)))
   cases h
   exact eRet J func194 [(0,.sl 2)]
  refine wa J 1 (eLoop (σ:=ByteArray × (List ByteArray) × Int) (fun st=>(zz9 st.2.1 [(0,.c (.s st.1)),(1,.c (.s sep_)),(2,.I sepSave_),(3,.I (w64 ((minI e (w64 ((s_.size:Int)+1)))-1))),(9,.S 0),(10,.I st.2.2)])) (fun n st=>z194_l2 N s_ sep_ sepSave_ e n st.1 st.2.1 st.2.2) (r:=r) (fun _=>rfl) ?_ (fun ih=>?_))
  ·intro n2 ih4
   rintro ⟨p,q,t⟩ h
   replace h:z194_l2 N s_ sep_ sepSave_ e (n2+1) p q t=some r:=h
   unfold z194_l2 at h
   obtain ⟨K,h⟩|⟨K,h⟩:=oc' h
   ·exact wH J 7 K (wa J 2 (eSub [] (j2 (p,q,t) h)))
   refine wH J 7 K ?_
   obtain ⟨u,v,h⟩:=ob h
   refine wa J 7 (eCl (z175_ct N p sep_ _ v) [] [] ?_)
   obtain ⟨K,h⟩|⟨K,h⟩:=oc h
   ·exact wH J 8 K (wa J 2 (eSub [] (j2 (p,q,t) h)))
   refine wH J 8 K ?_
   obtain ⟨x,y,h⟩:=ob h
   refine wa J 10 (eSs J y ?_)
   obtain ⟨z,A,h⟩:=ob h
   refine eIo J rS A (eSt J [] oS x A ?_)
   obtain ⟨C,D,h⟩:=ob h
   exact wa J 8 (eSs J D (wa J 8 (eSub [] (ih4 (C,(setL' q t x),(w64 (t+1))) h))))
  exact eSub [] (ih N (s_,x3,0) h)
 obtain ⟨K,h⟩|⟨K,h⟩:=oc' h
 ·exact eK K (wa J 2 (eSub [] (j1 n_ h)))
 refine eK K ?_
 obtain ⟨G,H,h⟩:=ob h
 exact wa J 4 (eCl (z217_ct N s_ sep_ _ H) [] [] (wa J 3 (eSub [] (j1 (w64 (G+1)) h))))
theorem z163_ct (N:Nat) (s_:ByteArray) (sep_:ByteArray) (r:(List ByteArray)) (h:z163 N s_ sep_=some r) :
 Fn Tryz.prog 163 ⟨0,[.c (.s s_),.c (.s sep_)],[],[],1,.S 0,[],[(0,.own rS r true)]⟩:=by
 refine eFn func163 rfl (fun E F w=>?_)
 unfold z163 at h
 obtain ⟨x1,d,h⟩:=ob h
 refine wa J 8 (eCl (z194_ct N s_ sep_ 0 (-1) _ d) [] [] ?_)
 cases h
 exact wr J 2 func163 [(0,.sl 0)]
theorem z74_ct (N:Nat) (c_:Int) (r:Bool) (h:z74 N c_=some r) :
 Fn Tryz.prog 74 ⟨0,[.c (.i .u8 c_)],[],[],0,.O r,[],[]⟩:=by
 refine eFn func74 rfl (fun E F w=>?_)
 unfold z74 at h
 obtain ⟨K,h⟩|⟨K,h⟩:=oc' h
 ·refine wH J 9 K ?_
  obtain ⟨K,h⟩|⟨K,h⟩:=oc h
  ·refine wH J 7 K ?_
   cases h
   exact wr J 6 func74 []
  refine wH J 7 K ?_
  cases h
  exact wr J 6 func74 []
 refine wH J 9 K ?_
 obtain ⟨K,h⟩|⟨K,h⟩:=oc h
 ·refine wH J 4 K ?_
  cases h
  exact wr J 9 func74 []
 refine wH J 4 K ?_
 obtain ⟨K,h⟩|⟨K,h⟩:=oc h
 ·refine wH J 3 K ?_
  cases h
  exact wr J 6 func74 []
 refine wH J 3 K ?_
 cases h
 exact wr J 6 func74 []
theorem z76_ct (N:Nat) (c_:Int) (r:Bool) (h:z76 N c_=some r) :
 Fn Tryz.prog 76 ⟨0,[.c (.i .u8 c_)],[],[],0,.O r,[],[]⟩:=by
 refine eFn func76 rfl (fun E F w=>?_)
 unfold z76 at h
 obtain ⟨K,h⟩|⟨K,h⟩:=oc h
 ·refine wH J 9 K ?_
  cases h
  exact wr J 5 func76 []
 refine wH J 9 K ?_
 cases h
 exact wr J 5 func76 []
theorem z124_ct (N:Nat) (c_:Int) (r:Bool) (h:z124 N c_=some r) :
 Fn Tryz.prog 124 ⟨0,[.c (.i .u8 c_)],[],[],0,.O r,[],[]⟩:=by
 refine eFn func124 rfl (fun E F w=>?_)
 unfold z124 at h
 obtain ⟨x1,d,h⟩:=ob h
 refine wa J 7 (eCl (z74_ct N c_ _ d) [] [] ?_)
 obtain ⟨K,h⟩|⟨K,h⟩:=oc h
 ·refine wH J 1 K ?_
  cases h
  exact wr J 9 func124 []
 refine wH J 1 K ?_
 obtain ⟨x2,e,h⟩:=ob h
 refine wa J 1 (eCl (z76_ct N c_ _ e) [] [] ?_)
 obtain ⟨K,h⟩|⟨K,h⟩:=oc h
 ·refine wH J 2 K ?_
  cases h
  exact wr J 5 func124 []
 refine wH J 2 K ?_
 cases h
 exact wr J 5 func124 []
theorem z133_ct (N:Nat) (s_:ByteArray) (r:Bool) (h:z133 N s_=some r) :
 Fn Tryz.prog 133 ⟨0,[.c (.s s_)],[],[],0,.O r,[],[]⟩:=by
 refine eFn func133 rfl (fun E F w=>?_)
 unfold z133 at h
 obtain ⟨K,h⟩|⟨K,h⟩:=oc h
 ·refine wH J 10 K ?_
  cases h
  exact wr J 16 func133 []
 refine wH J 10 K ?_
 obtain ⟨K,h⟩|⟨K,h⟩:=oc h
 ·refine wH J 5 K ?_
  cases h
  exact wr J 11 func133 []
 refine wH J 5 K ?_
 obtain ⟨x1,d,h⟩:=ob h
 refine wa J 1 (eSx J d ?_)
 obtain ⟨x2,e,h⟩:=ob h
 refine eCl (z74_ct N x1 _ e) [] [] ?_
 obtain ⟨K,h⟩|⟨K,h⟩:=oc h
 ·refine wH J 3 K ?_
  cases h
  exact wr J 5 func133 []
 refine wH J 3 K (wa J 9 (eCut (σ:=Unit) (fun st=>(zz0 [])) (fun st=>z133_k1=some r) ?_ (fun j1=>?_)))
 ·intro _ h
  replace h:z133_k1=some r:=h
  unfold z133_k1 at h
  cases h
  exact wr J 4 func133 []
 refine wa J 1 (eLoop (σ:=Int) (fun st=>(zz0 [(0,.c (.s s_)),(18,.I (s_.size:Int)),(19,.I st)])) (fun n st=>z133_l2 N s_ n st) (r:=r) (fun _=>rfl) ?_ (fun ih=>?_))
 ·intro n2 ih3
  intro f h
  replace h:z133_l2 N s_ (n2+1) f=some r:=h
  unfold z133_l2 at h
  obtain ⟨K,h⟩|⟨K,h⟩:=oc' h
  ·exact wH J 5 K (wa J 2 (eSub [] (j1 () h)))
  refine wH J 5 K ?_
  obtain ⟨g,i,h⟩:=ob h
  refine wa J 13 (eSx J i ?_)
  obtain ⟨j,k,h⟩:=ob h
  refine eCl (z124_ct N g _ k) [] [] ?_
  obtain ⟨K,h⟩|⟨K,h⟩:=oc h
  ·refine wH J 2 K ?_
   cases h
   exact wr J 5 func133 []
  exact wH J 2 K (wa J 7 (eSub [] (ih3 (w64 (f+1)) h)))
 exact eSub [] (ih N 0 h)
theorem z179_ct (N:Nat) (s_:(List ByteArray)) (v_:ByteArray) (r:Int) (h:z179 N s_ v_=some r) :
 Fn Tryz.prog 179 ⟨1,[.S 0,.c (.s v_)],[(0,.sl rS s_)],[],1,.I r,[],[]⟩:=by
 refine eFn func179 rfl (fun E F w=>?_)
 unfold z179 at h
 refine wa J 11 (eCut (σ:=Unit) (fun st=>(zz4 s_ [])) (fun st=>z179_k1=some r) ?_ (fun j1=>?_))
 ·intro _ h
  replace h:z179_k1=some r:=h
  unfold z179_k1 at h
  cases h
  exact wr J 4 func179 []
 refine wa J 1 (eLoop (σ:=Int) (fun st=>(zz4 s_ [(0,.S 0),(1,.c (.s v_)),(7,.I (s_.length:Int)),(8,.I st)])) (fun n st=>z179_l2 s_ v_ n st) (r:=r) (fun _=>rfl) ?_ (fun ih=>?_))
 ·intro n2 ih3
  intro d h
  replace h:z179_l2 s_ v_ (n2+1) d=some r:=h
  unfold z179_l2 at h
  obtain ⟨K,h⟩|⟨K,h⟩:=oc' h
  ·exact wH J 5 K (wa J 2 (eSub [] (j1 () h)))
  refine wH J 5 K ?_
  obtain ⟨x9,e,h⟩:=ob h
  refine wa J 14 (eIx J oS e ?_)
  obtain ⟨K,h⟩|⟨K,h⟩:=oc h
  ·refine wH J 3 K ?_
   cases h
   exact wr J 6 func179 []
  exact wH J 3 K (wa J 7 (eSub [] (ih3 (w64 (d+1)) h)))
 exact eSub [] (ih N 0 h)
theorem z131_ct (N:Nat) (s_:(List ByteArray)) (v_:ByteArray) (r:Bool) (h:z131 N s_ v_=some r) :
 Fn Tryz.prog 131 ⟨1,[.S 0,.c (.s v_)],[(0,.sl rS s_)],[],1,.O r,[],[]⟩:=by
 refine eFn func131 rfl (fun E F w=>?_)
 unfold z131 at h
 obtain ⟨x1,d,h⟩:=ob h
 refine wa J 8 (eCl (z179_ct N s_ v_ _ d) [] [(0,.sl 0)] ?_)
 cases h
 exact wr J 3 func131 []
theorem z85_ct (N:Nat) (s_:ByteArray) (r:Bool) (h:z85 N s_=some r) :
 Fn Tryz.prog 85 ⟨0,[.c (.s s_)],[],[],0,.O r,[],[]⟩:=by
 refine eFn func85 rfl (fun E F w=>?_)
 unfold z85 at h
 obtain ⟨x1,d,h⟩:=ob h
 refine wa J 13 (eCl (z133_ct N s_ _ d) [] [] ?_)
 obtain ⟨K,h⟩|⟨K,h⟩:=oc' h
 ·refine wH J 1 K ?_
  cases h
  exact wr J 7 func85 []
 refine wH J 1 K (eSb [] oS ([(str [97,103,97,105,110]),(str [97,110,100]),(str [97,115]),(str [97,116]),(str [99,97,108,108]),(str [99,104,111,105,99,101]),(str [101,108,115,101]),(str [102,114,111,109]),(str [105,102]),(str [105,110,116]),(str [108,101,110]),(str [108,111,111,112]),(str [109,101,115,115,97,103,101]),(str [111,102]),(str [111,102,102,101,114]),(str [111,110]),(str [111,114]),(str [112,97,114]),(str [112,108,97,121,115]),(str [112,114,111,116,111,99,111,108]),(str [115,101,114,118,105,99,101]),(str [116,101,120,116]),(str [116,105,109,101,115]),(str [116,111]),(str [118,97,114]),(str [119,104,101,114,101]),(str [119,104,105,108,101]),(str [119,105,116,104,105,110])]:List ByteArray) ?_)
 obtain ⟨x2,e,h⟩:=ob h
 refine wa J 1 (eCb (z131_ct N ([(str [97,103,97,105,110]),(str [97,110,100]),(str [97,115]),(str [97,116]),(str [99,97,108,108]),(str [99,104,111,105,99,101]),(str [101,108,115,101]),(str [102,114,111,109]),(str [105,102]),(str [105,110,116]),(str [108,101,110]),(str [108,111,111,112]),(str [109,101,115,115,97,103,101]),(str [111,102]),(str [111,102,102,101,114]),(str [111,110]),(str [111,114]),(str [112,97,114]),(str [112,108,97,121,115]),(str [112,114,111,116,111,99,111,108]),(str [115,101,114,118,105,99,101]),(str [116,101,120,116]),(str [116,105,109,101,115]),(str [116,111]),(str [118,97,114]),(str [119,104,101,114,101]),(str [119,104,105,108,101]),(str [119,105,116,104,105,110])]:List ByteArray) s_ _ e) [] [(0,.sl 1)] [1] (.inr ⟨rfl,trivial⟩) ?_)
 cases h
 exact wr J 4 func85 []
theorem z164_ct (N:Nat) (w_:ByteArray) (r:Bool) (h:z164 N w_=some r) :
 Fn Tryz.prog 164 ⟨0,[.c (.s w_)],[],[],0,.O r,[],[]⟩:=by
 refine eFn func164 rfl (fun E F w=>?_)
 unfold z164 at h
 obtain ⟨x1,d,h⟩:=ob h
 refine wa J 7 (eCl (z85_ct N w_ _ d) [] [] ?_)
 cases h
 exact wr J 3 func164 []
theorem z182_0_ct (N:Nat) (s_:(List ByteArray)) (r:Int) (h:z182_0 N s_=some r) :
 Fn Tryz.prog 182 ⟨1,[.S 0,.c (.cl 164 [] [])],[(0,.sl rS s_)],[],1,.I r,[],[]⟩:=by
 refine eFn func182 rfl (fun E F w=>?_)
 unfold z182_0 at h
 refine wa J 11 (eCut (σ:=Unit) (fun st=>(zz4 s_ [])) (fun st=>z182_0_k1=some r) ?_ (fun j1=>?_))
 ·intro _ h
  replace h:z182_0_k1=some r:=h
  unfold z182_0_k1 at h
  cases h
  exact wr J 4 func182 []
 refine wa J 1 (eLoop (σ:=Int) (fun st=>(zz4 s_ [(0,.S 0),(1,.c (.cl 164 [] [])),(7,.I (s_.length:Int)),(8,.I st)])) (fun n st=>z182_0_l2 N s_ n st) (r:=r) (fun _=>rfl) ?_ (fun ih=>?_))
 ·intro n2 ih3
  intro d h
  replace h:z182_0_l2 N s_ (n2+1) d=some r:=h
  unfold z182_0_l2 at h
  obtain ⟨K,h⟩|⟨K,h⟩:=oc' h
  ·exact wH J 5 K (wa J 2 (eSub [] (j1 () h)))
  refine wH J 5 K ?_
  obtain ⟨e,f,h⟩:=ob h
  refine wa J 14 (eIx J oS f ?_)
  obtain ⟨g,i,h⟩:=ob h
  refine wa J 1 (eCl (z164_ct N e _ i) [] [] ?_)
  obtain ⟨K,h⟩|⟨K,h⟩:=oc h
  ·refine wH J 1 K ?_
   cases h
   exact wr J 6 func182 []
  exact wH J 1 K (wa J 7 (eSub [] (ih3 (w64 (d+1)) h)))
 exact eSub [] (ih N 0 h)
theorem z134_1_ct (N:Nat) (s_:(List ByteArray)) (r:Bool) (h:z134_1 N s_=some r) :
 Fn Tryz.prog 134 ⟨1,[.S 0,.c (.cl 164 [] [])],[(0,.sl rS s_)],[],1,.O r,[],[]⟩:=by
 refine eFn func134 rfl (fun E F w=>?_)
 unfold z134_1 at h
 obtain ⟨x1,d,h⟩:=ob h
 refine wa J 8 (eCl (z182_0_ct N s_ _ d) [] [(0,.sl 0)] ?_)
 cases h
 exact wr J 3 func134 []
theorem z99_ct (N:Nat) (s_:ByteArray) (r:Bool) (h:z99 N s_=some r) :
 Fn Tryz.prog 99 ⟨0,[.c (.s s_)],[],[],0,.O r,[],[]⟩:=by
 refine eFn func99 rfl (fun E F w=>?_)
 unfold z99 at h
 obtain ⟨K,h⟩|⟨K,h⟩:=oc' h
 ·refine wH J 10 K ?_
  cases h
  exact wr J 7 func99 []
 refine wH J 10 K ?_
 obtain ⟨x1,d,h⟩:=ob h
 refine wa J 1 (eCl (z163_ct N s_ (str [46]) _ d) [] [] ?_)
 obtain ⟨x2,e,h⟩:=ob h
 refine eCb (z134_1_ct N x1 _ e) [] [(0,.sl 0)] [0] (.inr ⟨rfl,trivial⟩) ?_
 cases h
 exact wr J 4 func99 []
theorem z101_2_ct (N:Nat) (x_:T0) (c0_:T0) (r:Bool) (h:z101_2 N x_ c0_=some r) :
 Fn Tryz.prog 101 ⟨7,[.a (cC0 0 1 2 x_),.B 3 0],(vV0 0 1 2 x_ (vV0 4 5 6 c0_ [])),[(3,.box (cC0 4 5 6 c0_) 51)],7,.O r,[],[(3,.box (cC0 4 5 6 c0_) 51)]⟩:=by
 refine eFn func101 rfl (fun E F w=>?_)
 unfold z101_2 at h
 cases h
 exact wr J 14 func101 []
theorem z43_3_ct (N:Nat) (s_:(List T0)) (c0_:T0) (r:Int) (h:z43_3 N s_ c0_=some r) :
 Fn Tryz.prog 43 ⟨5,[.S 0,.c (.cl 101 [] [1])],((0,.sl rR0 s_)::vV0 2 3 4 c0_ []),[(1,.box (cC0 2 3 4 c0_) 51)],5,.I r,[],[(1,.box (cC0 2 3 4 c0_) 51)]⟩:=by
 refine eFn func43 rfl (fun E F w=>?_)
 unfold z43_3 at h
 refine wa J 11 (eCut (σ:=Unit) (fun st=>⟨[],[(1,.box (cC0 2 3 4 c0_) 51)],((0,.sl rR0 s_)::vV0 2 3 4 c0_ []),5⟩) (fun st=>z43_3_k1=some r) ?_ (fun j1=>?_))
 ·intro _ h
  replace h:z43_3_k1=some r:=h
  unfold z43_3_k1 at h
  cases h
  exact wr J 4 func43 []
 refine wa J 1 (eLoop (σ:=Int) (fun st=>⟨[(0,.S 0),(1,.c (.cl 101 [] [1])),(7,.I (s_.length:Int)),(8,.I st)],[(1,.box (cC0 2 3 4 c0_) 51)],((0,.sl rR0 s_)::vV0 2 3 4 c0_ []),5⟩) (fun n st=>z43_3_l2 N s_ c0_ n st) (r:=r) (fun _=>rfl) ?_ (fun ih=>?_))
 ·intro n2 ih3
  intro d h
  replace h:z43_3_l2 N s_ c0_ (n2+1) d=some r:=h
  unfold z43_3_l2 at h
  obtain ⟨K,h⟩|⟨K,h⟩:=oc' h
  ·exact wH J 5 K (wa J 2 (eSub [] (j1 () h)))
  refine wH J 5 K ?_
  obtain ⟨e,f,h⟩:=ob h
  refine wa J 14 (eIx J oO0 f ?_)
  obtain ⟨g,i,h⟩:=ob h
  refine wa J 1 (eCl (z101_2_ct N e c0_ _ i) [] [(0,.sl 6),(1,.sl 7),(2,.sl 8),(3,.bp 1 0),(4,.sl 2),(5,.sl 3),(6,.sl 4)] ?_)
  obtain ⟨K,h⟩|⟨K,h⟩:=oc h
  ·refine wH J 1 K ?_
   cases h
   exact wr J 6 func43 []
  exact wH J 1 K (wa J 7 (eSub [] (ih3 (w64 (d+1)) h)))
 exact eSub [] (ih N 0 h)
theorem z100_4_ct (N:Nat) (s_:(List T0)) (c0_:T0) (r:Bool) (h:z100_4 N s_ c0_=some r) :
 Fn Tryz.prog 100 ⟨5,[.S 0,.c (.cl 101 [] [1])],((0,.sl rR0 s_)::vV0 2 3 4 c0_ []),[(1,.box (cC0 2 3 4 c0_) 51)],5,.O r,[],[(1,.box (cC0 2 3 4 c0_) 51)]⟩:=by
 refine eFn func100 rfl (fun E F w=>?_)
 unfold z100_4 at h
 obtain ⟨x1,d,h⟩:=ob h
 refine wa J 8 (eCl (z43_3_ct N s_ c0_ _ d) [] [(0,.sl 0),(1,.bp 1 0),(2,.sl 2),(3,.sl 3),(4,.sl 4)] ?_)
 cases h
 exact wr J 3 func100 []
theorem z102_ct (N:Nat) (s_:T4) (r:Bool) (h:z102 N s_=some r) :
 Fn Tryz.prog 102 ⟨0,[.a (cC4 s_)],[],[],0,.O r,[],[]⟩:=by
 refine eFn func102 rfl (fun E F w=>?_)
 unfold z102 at h
 obtain ⟨K,h⟩|⟨K,h⟩:=oc h
 ·refine wH J 17 K ?_
  obtain ⟨K,h⟩|⟨K,h⟩:=oc' h
  ·refine wH J 7 K ?_
   cases h
   exact wr J 13 func102 []
  refine wH J 7 K ?_
  obtain ⟨K,h⟩|⟨K,h⟩:=oc h
  ·refine wH J 7 K ?_
   cases h
   exact wr J 6 func102 []
  refine wH J 7 K ?_
  cases h
  exact wr J 6 func102 []
 refine wH J 17 K ?_
 obtain ⟨K,h⟩|⟨K,h⟩:=oc' h
 ·refine wH J 6 K ?_
  cases h
  exact wr J 7 func102 []
 refine wH J 6 K ?_
 obtain ⟨K,h⟩|⟨K,h⟩:=oc' h
 ·refine wH J 7 K ?_
  cases h
  exact wr J 13 func102 []
 refine wH J 7 K ?_
 obtain ⟨K,h⟩|⟨K,h⟩:=oc h
 ·refine wH J 7 K ?_
  cases h
  exact wr J 6 func102 []
 refine wH J 7 K ?_
 cases h
 exact wr J 6 func102 []
theorem z104_5_ct (N:Nat) (x_:T2) (c0_:T2) (r:Bool) (h:z104_5 N x_ c0_=some r) :
 Fn Tryz.prog 104 ⟨1,[.a (cC2 x_),.B 0 0],[],[(0,.box (cC2 c0_) 68)],1,.O r,[],[(0,.box (cC2 c0_) 68)]⟩:=by
 refine eFn func104 rfl (fun E F w=>?_)
 unfold z104_5 at h
 cases h
 exact wr J 14 func104 []
theorem z45_6_ct (N:Nat) (s_:(List T2)) (c0_:T2) (r:Int) (h:z45_6 N s_ c0_=some r) :
 Fn Tryz.prog 45 ⟨2,[.S 0,.c (.cl 104 [] [1])],[(0,.sl rR2 s_)],[(1,.box (cC2 c0_) 68)],2,.I r,[],[(1,.box (cC2 c0_) 68)]⟩:=by
 refine eFn func45 rfl (fun E F w=>?_)
 unfold z45_6 at h
 refine wa J 11 (eCut (σ:=Unit) (fun st=>⟨[],[(1,.box (cC2 c0_) 68)],[(0,.sl rR2 s_)],2⟩) (fun st=>z45_6_k1=some r) ?_ (fun j1=>?_))
 ·intro _ h
  replace h:z45_6_k1=some r:=h
  unfold z45_6_k1 at h
  cases h
  exact wr J 4 func45 []
 refine wa J 1 (eLoop (σ:=Int) (fun st=>⟨[(0,.S 0),(1,.c (.cl 104 [] [1])),(7,.I (s_.length:Int)),(8,.I st)],[(1,.box (cC2 c0_) 68)],[(0,.sl rR2 s_)],2⟩) (fun n st=>z45_6_l2 N s_ c0_ n st) (r:=r) (fun _=>rfl) ?_ (fun ih=>?_))
 ·intro n2 ih3
  intro d h
  replace h:z45_6_l2 N s_ c0_ (n2+1) d=some r:=h
  unfold z45_6_l2 at h
  obtain ⟨K,h⟩|⟨K,h⟩:=oc' h
  ·exact wH J 5 K (wa J 2 (eSub [] (j1 () h)))
  refine wH J 5 K ?_
  obtain ⟨e,f,h⟩:=ob h
  refine wa J 14 (eIx J oO2 f ?_)
  obtain ⟨g,i,h⟩:=ob h
  refine wa J 1 (eCl (z104_5_ct N e c0_ _ i) [] [(0,.bp 1 0)] ?_)
  obtain ⟨K,h⟩|⟨K,h⟩:=oc h
  ·refine wH J 1 K ?_
   cases h
   exact wr J 6 func45 []
  exact wH J 1 K (wa J 7 (eSub [] (ih3 (w64 (d+1)) h)))
 exact eSub [] (ih N 0 h)
theorem z103_7_ct (N:Nat) (s_:(List T2)) (c0_:T2) (r:Bool) (h:z103_7 N s_ c0_=some r) :
 Fn Tryz.prog 103 ⟨2,[.S 0,.c (.cl 104 [] [1])],[(0,.sl rR2 s_)],[(1,.box (cC2 c0_) 68)],2,.O r,[],[(1,.box (cC2 c0_) 68)]⟩:=by
 refine eFn func103 rfl (fun E F w=>?_)
 unfold z103_7 at h
 obtain ⟨x1,d,h⟩:=ob h
 refine wa J 8 (eCl (z45_6_ct N s_ c0_ _ d) [] [(0,.sl 0),(1,.bp 1 0)] ?_)
 cases h
 exact wr J 3 func103 []
theorem z105_ct (N:Nat) (g_:T3) (all_:(List T2)) (r:Bool) (h:z105 N g_ all_=some r) :
 Fn Tryz.prog 105 ⟨3,[.a [.sl 0,.sl 1],.S 2],[(0,.sl rR1 g_.Diffs),(1,.sl (rP (rI .i64) (rI .i64)) g_.Equals),(2,.sl rR2 all_)],[],3,.O r,[],[]⟩:=by
 refine eFn func105 rfl (fun E F w=>?_)
 unfold z105 at h
 obtain ⟨K,h⟩|⟨K,h⟩:=oc h
 ·refine wH J 13 K ?_
  cases h
  exact wr J 11 func105 []
 refine wH J 13 K ?_
 obtain ⟨K,h⟩|⟨K,h⟩:=oc h
 ·refine wH J 6 K ?_
  cases h
  exact wr J 5 func105 []
 refine wH J 6 K (wa J 10 (eCut (σ:=Unit) (fun st=>(zz19 g_.Diffs g_.Equals all_ [(1,.S 2),(2,.B 3 0)])) (fun st=>z105_k5 N g_ all_=some r) ?_ (fun j1=>?_)))
 ·intro _ h
  replace h:z105_k5 N g_ all_=some r:=h
  unfold z105_k5 at h
  refine wa J 8 (eCut (σ:=Unit) (fun st=>⟨[],[],[(0,.sl rR1 g_.Diffs),(1,.sl (rP (rI .i64) (rI .i64)) g_.Equals),(2,.sl rR2 all_)],4⟩) (fun st=>z105_k1=some r) ?_ (fun j3=>?_))
  ·intro _ h
   replace h:z105_k1=some r:=h
   unfold z105_k1 at h
   cases h
   exact wr J 4 func105 []
  refine wa J 1 (eLoop (σ:=Int) (fun st=>⟨[(1,.S 2),(56,.S 1),(57,.I (g_.Equals.length:Int)),(58,.I st)],[],[(0,.sl rR1 g_.Diffs),(1,.sl (rP (rI .i64) (rI .i64)) g_.Equals),(2,.sl rR2 all_)],4⟩) (fun n st=>z105_l2 N g_ all_ n st) (r:=r) (fun _=>rfl) ?_ (fun ih=>?_))
  ·intro n13 ih14
   intro c h
   replace h:z105_l2 N g_ all_ (n13+1) c=some r:=h
   unfold z105_l2 at h
   obtain ⟨K,h⟩|⟨K,h⟩:=oc' h
   ·exact wH J 5 K (wa J 2 (eSub [] (j3 () h)))
   refine wH J 5 K ?_
   obtain ⟨d,e,h⟩:=ob h
   refine wa J 6 (eIx J (oP (oI .i64) (oI .i64)) e (wa J 9 (eCut (σ:=Unit) (fun st=>⟨[(1,.S 2),(56,.S 1),(57,.I (g_.Equals.length:Int)),(58,.I c)],[],[(0,.sl rR1 g_.Diffs),(1,.sl (rP (rI .i64) (rI .i64)) g_.Equals),(2,.sl rR2 all_)],6⟩) (fun st=>z105_k3 c (z105_l2 N g_ all_ n13)=some r) ?_ (fun j21=>?_))))
   ·intro _ h
    replace h:z105_k3 c (z105_l2 N g_ all_ n13)=some r:=h
    unfold z105_k3 at h
    exact wa J 5 (eSub [] (ih14 (w64 (c+1)) h))
   refine wa J 1 (eLoop (σ:=Int) (fun st=>⟨[(1,.S 2),(56,.S 1),(57,.I (g_.Equals.length:Int)),(58,.I c),(62,.a [.I d.1,.I d.2]),(63,.I st)],[],[(0,.sl rR1 g_.Diffs),(1,.sl (rP (rI .i64) (rI .i64)) g_.Equals),(2,.sl rR2 all_)],6⟩) (fun n st=>z105_l4 all_ c (z105_l2 N g_ all_ n13) d n st) (r:=r) (fun _=>rfl) ?_ (fun ih=>?_))
   ·intro n15 ih23
    intro f h
    replace h:z105_l4 all_ c (z105_l2 N g_ all_ n13) d (n15+1) f=some r:=h
    unfold z105_l4 at h
    obtain ⟨K,h⟩|⟨K,h⟩:=oc' h
    ·exact wH J 5 K (wa J 2 (eSub [] (j21 () h)))
    refine wH J 5 K ?_
    obtain ⟨g,j,h⟩:=ob h
    refine wa J 6 (eAx (SC.i .i64) ([d.1,d.2]:List Int) j ?_)
    obtain ⟨K,h⟩|⟨K,h⟩:=oc h
    ·refine wH J 7 K ?_
     cases h
     exact wr J 20 func105 []
    refine wH J 7 K ?_
    obtain ⟨K,h⟩|⟨K,h⟩:=oc h
    ·refine wH J 6 K ?_
     cases h
     exact wr J 14 func105 []
    refine wH J 6 K ?_
    obtain ⟨k,l,h⟩:=ob h
    refine wa J 2 (eIx J oO2 l ?_)
    obtain ⟨K,h⟩|⟨K,h⟩:=oc h
    ·refine wH J 6 K ?_
     cases h
     exact wr J 5 func105 []
    exact wH J 6 K (wa J 7 (eSub [] (ih23 (w64 (f+1)) h)))
   exact eSub [] (ih N 0 h)
  exact eSub [] (ih N 0 h)
 refine wa J 1 (eLoop (σ:=Int) (fun st=>(zz19 g_.Diffs g_.Equals all_ [(1,.S 2),(2,.B 3 0),(22,.S 0),(23,.I (g_.Diffs.length:Int)),(24,.I st)])) (fun n st=>z105_l6 N g_ all_ n st) (r:=r) (fun _=>rfl) ?_ (fun ih=>?_))
 ·intro n16 ih24
  intro m h
  replace h:z105_l6 N g_ all_ (n16+1) m=some r:=h
  unfold z105_l6 at h
  obtain ⟨K,h⟩|⟨K,h⟩:=oc' h
  ·exact wH J 5 K (wa J 2 (eSub [] (j1 () h)))
  refine wH J 5 K ?_
  obtain ⟨o,p,h⟩:=ob h
  refine wa J 6 (eIx J oO1 p ?_)
  obtain ⟨K,h⟩|⟨K,h⟩:=oc h
  ·refine wH J 13 K ?_
   cases h
   exact wr J 25 func105 []
  refine wH J 13 K ?_
  obtain ⟨K,h⟩|⟨K,h⟩:=oc h
  ·refine wH J 10 K ?_
   cases h
   exact wr J 15 func105 []
  refine wH J 10 K ?_
  obtain ⟨K,h⟩|⟨K,h⟩:=oc h
  ·refine wH J 5 K ?_
   cases h
   exact wr J 10 func105 []
  refine wH J 5 K ?_
  obtain ⟨K,h⟩|⟨K,h⟩:=oc h
  ·refine wH J 5 K ?_
   cases h
   exact wr J 5 func105 []
  exact wH J 5 K (wa J 7 (eSub [] (ih24 (w64 (m+1)) h)))
 exact eSub [] (ih N 0 h)
theorem z48_ct (N:Nat) (l_:(List T0)) (r:Bool) (h:z48 N l_=some r) :
 Fn Tryz.prog 48 ⟨1,[.S 0],[(0,.sl rR0 l_)],[],1,.O r,[],[]⟩:=by
 refine eFn func48 rfl (fun E F w=>?_)
 unfold z48 at h
 obtain ⟨K,h⟩|⟨K,h⟩:=oc h
 ·refine wH J 11 K ?_
  cases h
  exact wr J 5 func48 []
 refine wH J 11 K ?_
 obtain ⟨x1,c,h⟩:=ob h
 refine wa J 5 (eCl (z49_ct N l_ _ c) [] [(0,.sl 0)] ?_)
 obtain ⟨K,h⟩|⟨K,h⟩:=oc h
 ·refine wH J 9 K ?_
  cases h
  exact wr J 5 func48 []
 refine wH J 9 K (wa J 13 (eCut (σ:=Unit) (fun st=>⟨[],[],[(0,.sl rR0 l_)],2⟩) (fun st=>z48_k1=some r) ?_ (fun j1=>?_)))
 ·intro _ h
  replace h:z48_k1=some r:=h
  unfold z48_k1 at h
  cases h
  exact wr J 4 func48 []
 refine wa J 1 (eLoop (σ:=Int × Int) (fun st=>(zz13 x1 l_ [(0,.S 0),(3,.S 1),(4,.I st.1),(17,.S 0),(18,.I (l_.length:Int)),(19,.I st.2)])) (fun n st=>z48_l2 N l_ x1 n st.1 st.2) (r:=r) (fun _=>rfl) ?_ (fun ih=>?_))
 ·intro n12 ih12
  rintro ⟨d,e⟩ h
  replace h:z48_l2 N l_ x1 (n12+1) d e=some r:=h
  unfold z48_l2 at h
  obtain ⟨K,h⟩|⟨K,h⟩:=oc' h
  ·exact wH J 5 K (wa J 2 (eSub [] (j1 () h)))
  refine wH J 5 K ?_
  obtain ⟨f,g,h⟩:=ob h
  refine wa J 7 (eIx J oO0 g ?_)
  obtain ⟨i,j,h⟩:=ob h
  refine wa J 10 (eCl (z99_ct N f.Name _ j) [] [] ?_)
  obtain ⟨K,h⟩|⟨K,h⟩:=oc h
  ·refine wH J 2 K ?_
   cases h
   exact wr J 24 func48 []
  refine wH J 2 K ?_
  obtain ⟨K,h⟩|⟨K,h⟩:=oc h
  ·refine wH J 6 K ?_
   cases h
   exact wr J 18 func48 []
  refine wH J 6 K ?_
  obtain ⟨K,h⟩|⟨K,h⟩:=oc h
  ·refine wH J 6 K ?_
   cases h
   exact wr J 12 func48 []
  refine wH J 6 K ?_
  obtain ⟨k,l,h⟩:=ob h
  refine wa J 2 (eIs J rR0 l ?_)
  obtain ⟨m,o,h⟩:=ob h
  refine wa J 1 (eCl (z100_4_ct N k f _ o) [] [(0,.sl 7),(1,.bp 6 0),(2,.sl 3),(3,.sl 4),(4,.sl 5)] ?_)
  obtain ⟨K,h⟩|⟨K,h⟩:=oc h
  ·refine wH J 2 K ?_
   cases h
   exact wr J 5 func48 []
  refine wH J 2 K (wa J 19 (eCut (σ:=Unit) (fun st=>(zz20 x1 f l_ [(0,.S 0),(3,.S 1),(4,.I (w64 (d+(f.Fields.length:Int)))),(6,.B 6 0),(17,.S 0),(18,.I (l_.length:Int)),(19,.I e)])) (fun st=>z48_k3 N x1 d e (z48_l2 N l_ x1 n12) f=some r) ?_ (fun j19=>?_)))
  ·intro _ h
   replace h:z48_k3 N x1 d e (z48_l2 N l_ x1 n12) f=some r:=h
   unfold z48_k3 at h
   obtain ⟨p,q,h⟩:=ob h
   refine wa J 5 (eCb (z105_ct N f.Guard x1 _ q) [] [(0,.sl 4),(1,.sl 5),(2,.sl 1)] [1] (.inr ⟨rfl,trivial⟩) ?_)
   obtain ⟨K,h⟩|⟨K,h⟩:=oc h
   ·refine wH J 2 K ?_
    cases h
    exact wr J 5 func48 []
   exact wH J 2 K (wa J 7 (eSub [] (ih12 ((w64 (d+(f.Fields.length:Int))),(w64 (e+1))) h)))
  refine wa J 1 (eLoop (σ:=Int) (fun st=>(zz20 x1 f l_ [(0,.S 0),(3,.S 1),(4,.I (w64 (d+(f.Fields.length:Int)))),(6,.B 6 0),(17,.S 0),(18,.I (l_.length:Int)),(19,.I e),(53,.S 3),(54,.I (f.Fields.length:Int)),(55,.I st)])) (fun n st=>z48_l4 N x1 d e (z48_l2 N l_ x1 n12) f n st) (r:=r) (fun _=>rfl) ?_ (fun ih=>?_))
  ·intro n14 ih21
   intro s h
   replace h:z48_l4 N x1 d e (z48_l2 N l_ x1 n12) f (n14+1) s=some r:=h
   unfold z48_l4 at h
   obtain ⟨K,h⟩|⟨K,h⟩:=oc' h
   ·exact wH J 5 K (wa J 2 (eSub [] (j19 () h)))
   refine wH J 5 K ?_
   obtain ⟨t,u,h⟩:=ob h
   refine wa J 7 (eIx J oO2 u ?_)
   obtain ⟨v,x,h⟩:=ob h
   refine wa J 9 (eCl (z85_ct N t.Name _ x) [] [] ?_)
   obtain ⟨K,h⟩|⟨K,h⟩:=oc h
   ·refine wH J 2 K ?_
    cases h
    exact wr J 19 func48 []
   refine wH J 2 K ?_
   obtain ⟨y,z,h⟩:=ob h
   refine wa J 2 (eCl (z102_ct N t.Sort' _ z) [] [] ?_)
   obtain ⟨K,h⟩|⟨K,h⟩:=oc h
   ·refine wH J 3 K ?_
    cases h
    exact wr J 13 func48 []
   refine wH J 3 K ?_
   obtain ⟨A,C,h⟩:=ob h
   refine wa J 3 (eIs J rR2 C ?_)
   obtain ⟨D,G,h⟩:=ob h
   refine wa J 1 (eCl (z103_7_ct N A t _ G) [] [(0,.sl 10),(1,.bp 9 0)] ?_)
   obtain ⟨K,h⟩|⟨K,h⟩:=oc h
   ·refine wH J 2 K ?_
    cases h
    exact wr J 5 func48 []
   exact wH J 2 K (wa J 7 (eSub [] (ih21 (w64 (s+1)) h)))
  exact eSub [] (ih N 0 h)
 exact eSub [] (ih N (0,0) h)
theorem z16_ct (N:Nat) (v_:T5) (r:Int) (h:z16 N v_=some r) :
 Fn Tryz.prog 16 ⟨0,[.a (cC5 v_)],[],[],0,.I r,[],[]⟩:=by
 refine eFn func16 rfl (fun E F w=>?_)
 unfold z16 at h
 obtain ⟨K,h⟩|⟨K,h⟩:=oc h
 ·refine wH J 12 K ?_
  cases h
  exact wr J 8 func16 []
 refine wH J 12 K ?_
 cases h
 exact wr J 8 func16 []
theorem z107_ct (N:Nat) (r_:Int) (r:Bool) (h:z107 N r_=some r) :
 Fn Tryz.prog 107 ⟨0,[.c (.i .i32 r_)],[],[],0,.O r,[],[]⟩:=by
 refine eFn func107 rfl (fun E F w=>?_)
 unfold z107 at h
 obtain ⟨K,h⟩|⟨K,h⟩:=oc h
 ·refine wH J 9 K ?_
  cases h
  exact wr J 5 func107 []
 refine wH J 9 K ?_
 cases h
 exact wr J 5 func107 []
theorem z195_8_ct (N:Nat) (s_:ByteArray) (truth_:Bool) (r:Int) (h:z195_8 N s_ truth_=some r) :
 Fn Tryz.prog 195 ⟨0,[.c (.s s_),.c (.cl 107 [] []),.O truth_],[],[],0,.I r,[],[]⟩:=by
 refine eFn func195 rfl (fun E F w=>?_)
 unfold z195_8 at h
 refine wa J 8 (eRn J (fun bk1=>wa J 1 (eCut (σ:=Nat) (fun st=>⟨[],[(0,.abs (itR bk1 s_ st))],[],1⟩) (fun st=>z195_8_k1 st=some r) ?_ (fun j1=>?_))))
 ·intro vi0_1 h
  replace h:z195_8_k1 vi0_1=some r:=h
  unfold z195_8_k1 at h
  cases h
  exact wr J 4 func195 []
 refine wa J 1 (eLoop (σ:=Nat) (fun st=>⟨[(1,.c (.cl 107 [] [])),(2,.O truth_),(10,.c (.v (.pointer (some ⟨bk1,0,none⟩))))],[(0,.abs (itR bk1 s_ st))],[],1⟩) (fun n st=>z195_8_l2 N s_ truth_ n st) (r:=r) (fun _=>rfl) ?_ (fun ih=>?_))
 ·intro n2 ih3
  intro vi0_3 h
  replace h:z195_8_l2 N s_ truth_ (n2+1) vi0_3=some r:=h
  unfold z195_8_l2 at h
  obtain ⟨K,h⟩|⟨K,h⟩:=oc' h
  ·exact wa J 2 (eNf bk1 0 K (wa J 5 (eSub [] (j1 vi0_3 h))))
  refine wa J 2 (eNt bk1 0 K ?_)
  obtain ⟨d,e,h⟩:=ob h
  refine wa J 17 (eCl (z107_ct N ((Utf8.decode s_ vi0_3).1:Int) _ e) [] [] ?_)
  obtain ⟨K,h⟩|⟨K,h⟩:=oc h
  ·refine wH J 3 K ?_
   cases h
   exact wr J 6 func195 []
  exact wH J 3 K (wa J 3 (eSub [] (ih3 (vi0_3+(Utf8.decode s_ vi0_3).2) h)))
 exact eSub [] (ih N (0:Nat) h)
theorem z165_9_ct (N:Nat) (s_:ByteArray) (r:Int) (h:z165_9 N s_=some r) :
 Fn Tryz.prog 165 ⟨0,[.c (.s s_),.c (.cl 107 [] [])],[],[],0,.I r,[],[]⟩:=by
 refine eFn func165 rfl (fun E F w=>?_)
 unfold z165_9 at h
 obtain ⟨x1,d,h⟩:=ob h
 refine wa J 8 (eCl (z195_8_ct N s_ true _ d) [] [] ?_)
 cases h
 exact wr J 2 func165 []
theorem z106_10_ct (N:Nat) (s_:ByteArray) (r:Bool) (h:z106_10 N s_=some r) :
 Fn Tryz.prog 106 ⟨0,[.c (.s s_),.c (.cl 107 [] [])],[],[],0,.O r,[],[]⟩:=by
 refine eFn func106 rfl (fun E F w=>?_)
 unfold z106_10 at h
 obtain ⟨x1,d,h⟩:=ob h
 refine wa J 8 (eCl (z165_9_ct N s_ _ d) [] [] ?_)
 cases h
 exact wr J 3 func106 []
theorem z50_ct (N:Nat) (s_:T4) (v_:T5) (r:Bool) (h:z50 N s_ v_=some r) :
 Fn Tryz.prog 50 ⟨0,[.a (cC4 s_),.a (cC5 v_)],[],[],0,.O r,[],[]⟩:=by
 refine eFn func50 rfl (fun E F w=>?_)
 unfold z50 at h
 obtain ⟨K,h⟩|⟨K,h⟩:=oc h
 ·refine wH J 15 K (wa J 13 (eEnd ?_))
  cases h
  exact wr J 5 func50 []
 refine wH J 15 K ?_
 obtain ⟨x1,c,h⟩:=ob h
 refine wa J 1 (eCl (z16_ct N v_ _ c) [] [] ?_)
 obtain ⟨K,h⟩|⟨K,h⟩:=oc h
 ·refine wH J 5 K (wa J 6 (eEnd ?_))
  cases h
  exact wr J 5 func50 []
 refine wH J 5 K ?_
 obtain ⟨x2,d,h⟩:=ob h
 refine wa J 1 (eCl (z16_ct N v_ _ d) [] [] (wa J 4 (eEnd ?_)))
 obtain ⟨K,h⟩|⟨K,h⟩:=oc h
 ·refine eK K ?_
  cases h
  exact wr J 5 func50 []
 refine eK K ?_
 obtain ⟨K,h⟩|⟨K,h⟩:=oc h
 ·refine wH J 9 K ?_
  cases h
  exact wr J 8 func50 []
 refine wH J 9 K ?_
 obtain ⟨K,h⟩|⟨K,h⟩:=oc' h
 ·refine wH J 8 K ?_
  cases h
  exact wr J 7 func50 []
 refine wH J 8 K ?_
 obtain ⟨x3,e,h⟩:=ob h
 refine wa J 2 (eCl (z106_10_ct N v_.S _ e) [] [] ?_)
 cases h
 exact wr J 4 func50 []
theorem z13_ct (N:Nat) (l_:(List T0)) (label_:Int) (known_:(List T5)) (r:Bool) (h:z13 N l_ label_ known_=some r) :
 Fn Tryz.prog 13 ⟨2,[.S 0,.I label_,.S 1],[(0,.sl rR0 l_),(1,.sl rR5 known_)],[],2,.O r,[],[]⟩:=by
 refine eFn func13 rfl (fun E F w=>?_)
 unfold z13 at h
 obtain ⟨K,h⟩|⟨K,h⟩:=oc h
 ·refine wH J 10 K ?_
  cases h
  exact wr J 16 func13 []
 refine wH J 10 K ?_
 obtain ⟨K,h⟩|⟨K,h⟩:=oc h
 ·refine wH J 6 K ?_
  cases h
  exact wr J 10 func13 []
 refine wH J 6 K ?_
 obtain ⟨x1,c,h⟩:=ob h
 refine wa J 1 (eCl (z48_ct N l_ _ c) [] [(0,.sl 0)] ?_)
 obtain ⟨K,h⟩|⟨K,h⟩:=oc h
 ·refine wH J 3 K ?_
  cases h
  exact wr J 5 func13 []
 refine wH J 3 K ?_
 obtain ⟨x2,d,h⟩:=ob h
 refine wa J 5 (eCl (z49_ct N l_ _ d) [] [(0,.sl 0)] ?_)
 obtain ⟨K,h⟩|⟨K,h⟩:=oc h
 ·refine wH J 11 K ?_
  cases h
  exact wr J 5 func13 []
 refine wH J 11 K (wa J 9 (eCut (σ:=Unit) (fun st=>⟨[],[],[(0,.sl rR0 l_),(1,.sl rR5 known_)],3⟩) (fun st=>z13_k1=some r) ?_ (fun j1=>?_)))
 ·intro _ h
  replace h:z13_k1=some r:=h
  unfold z13_k1 at h
  cases h
  exact wr J 4 func13 []
 refine wa J 1 (eLoop (σ:=Int) (fun st=>⟨[(7,.S 2),(30,.S 1),(31,.I (known_.length:Int)),(32,.I st)],[(2,.own rR2 x2 true)],[(0,.sl rR0 l_),(1,.sl rR5 known_)],3⟩) (fun n st=>z13_l2 N known_ x2 n st) (r:=r) (fun _=>rfl) ?_ (fun ih=>?_))
 ·intro n2 ih3
  intro e h
  replace h:z13_l2 N known_ x2 (n2+1) e=some r:=h
  unfold z13_l2 at h
  obtain ⟨K,h⟩|⟨K,h⟩:=oc' h
  ·exact wH J 5 K (wa J 2 (eSub [] (j1 () h)))
  refine wH J 5 K ?_
  obtain ⟨f,g,h⟩:=ob h
  refine wa J 7 (eIx J oO5 g (wa J 9 (eEq ?_)))
  obtain ⟨K,h⟩|⟨K,h⟩:=oc' h
  ·exact wH J 1 K (wa J 9 (eEnd (wa J 7 (eSub [] (ih3 (w64 (e+1)) h)))))
  refine wH J 1 K ?_
  obtain ⟨i,j,h⟩:=ob h
  refine wa J 2 (eIo J rR2 j (wa J 1 (eLd J oO2 j ?_)))
  obtain ⟨k,l,h⟩:=ob h
  refine wa J 1 (eCl (z50_ct N i.Sort' f _ l) [] [] (wa J 2 (eEnd ?_)))
  obtain ⟨K,h⟩|⟨K,h⟩:=oc h
  ·refine eK K ?_
   cases h
   exact wr J 5 func13 []
  exact eK K (wa J 7 (eSub [] (ih3 (w64 (e+1)) h)))
 exact eSub [] (ih N 0 h)
theorem z108_ct (N:Nat) (i_:Int) (j_:Int) (r:Int) (h:z108 N i_ j_=some r) :
 Fn Tryz.prog 108 ⟨0,[.I i_,.I j_],[],[],0,.I r,[],[]⟩:=by
 refine eFn func108 rfl (fun E F w=>?_)
 unfold z108 at h
 obtain ⟨K,h⟩|⟨K,h⟩:=oc h
 ·refine wH J 13 K ?_
  cases h
  exact wr J 5 func108 []
 refine wH J 13 K ?_
 obtain ⟨K,h⟩|⟨K,h⟩:=oc h
 ·refine wH J 6 K ?_
  cases h
  exact wr J 10 func108 []
 refine wH J 6 K ?_
 obtain ⟨K,h⟩|⟨K,h⟩:=oc h
 ·refine wH J 5 K ?_
  cases h
  exact wr J 5 func108 []
 refine wH J 5 K ?_
 cases h
 exact wr J 7 func108 []
theorem z51_ct (N:Nat) (n_:Int) (r:T6) (h:z51 N n_=some r) :
 Fn Tryz.prog 51 ⟨0,[.I n_],[],[],1,.a (cC6 0 r),[(0,.sl (rI .i64) r.B)],[]⟩:=by
 refine eFn func51 rfl (fun E F w=>?_)
 unfold z51 at h
 obtain ⟨x1,c,h⟩:=ob h
 refine wa J 12 (eMk J (oI .i64) c (wa J 11 (eCut (σ:=(List Int)) (fun st=>(zz10 st n_ [(2,.B 0 0),(3,.B 2 0)])) (fun st=>z51_k1 n_ st=some r) ?_ (fun j1=>?_))))
 ·intro d h
  replace h:z51_k1 n_ d=some r:=h
  unfold z51_k1 at h
  refine wa J 5 (eFr [1] ?_)
  cases h
  exact eRet J func51 [(0,.sl 1)]
 refine wa J 1 (eLoop (σ:=(List Int) × Int) (fun st=>(zz10 st.1 n_ [(0,.I n_),(2,.B 0 0),(3,.B 2 0),(15,.I (w64 (n_+1))),(16,.I st.2)])) (fun n st=>z51_l2 N n_ n st.1 st.2) (r:=r) (fun _=>rfl) ?_ (fun ih=>?_))
 ·intro n12 ih12
  rintro ⟨e,f⟩ h
  replace h:z51_l2 N n_ (n12+1) e f=some r:=h
  unfold z51_l2 at h
  obtain ⟨K,h⟩|⟨K,h⟩:=oc' h
  ·exact wH J 5 K (wa J 2 (eSub [] (j1 e h)))
  refine wH J 5 K (wa J 15 (eCut (σ:=(List Int)) (fun st=>(zz10 st n_ [(0,.I n_),(2,.B 0 0),(3,.B 2 0),(15,.I (w64 (n_+1))),(16,.I f)])) (fun st=>z51_k3 f (z51_l2 N n_ n12) st=some r) ?_ (fun j19=>?_)))
  ·intro g h
   replace h:z51_k3 f (z51_l2 N n_ n12) g=some r:=h
   unfold z51_k3 at h
   exact wa J 5 (eSub [] (ih12 (g,(w64 (f+1))) h))
  refine wa J 1 (eLoop (σ:=(List Int) × Int) (fun st=>(zz10 st.1 n_ [(0,.I n_),(2,.B 0 0),(3,.B 2 0),(4,.I f),(15,.I (w64 (n_+1))),(16,.I f),(20,.I (w64 (n_+1))),(21,.I st.2)])) (fun n st=>z51_l4 N n_ f (z51_l2 N n_ n12) n st.1 st.2) (r:=r) (fun _=>rfl) ?_ (fun ih=>?_))
  ·intro n14 ih21
   rintro ⟨i,j⟩ h
   replace h:z51_l4 N n_ f (z51_l2 N n_ n12) (n14+1) i j=some r:=h
   unfold z51_l4 at h
   obtain ⟨K,h⟩|⟨K,h⟩:=oc' h
   ·exact wH J 5 K (wa J 2 (eSub [] (j19 i h)))
   refine wH J 5 K ?_
   obtain ⟨k,l,h⟩:=ob h
   refine wa J 20 (eCl (z108_ct N f j _ l) [] [] ?_)
   obtain ⟨m,o,h⟩:=ob h
   exact eIo J (rI .i64) o (eSt J [] (oI .i64) k o (eEnd (wa J 5 (eSub [] (ih21 ((setL' i (w64 ((w64 (f * (w64 (n_+1))))+j)) k),(w64 (j+1))) h)))))
  exact eSub [] (ih N (e,0) h)
 exact eSub [] (ih N (x1,0) h)
theorem z14_ct (N:Nat) (n_:Int) (r:T6 × Int) (h:z14 N n_=some r) :
 Fn Tryz.prog 14 ⟨0,[.I n_],[],[],1,.t [.inr (cC6 0 r.1),.inl (.I r.2)],[(0,.sl (rI .i64) r.1.B)],[]⟩:=by
 refine eFn func14 rfl (fun E F w=>?_)
 unfold z14 at h
 obtain ⟨K,h⟩|⟨K,h⟩:=oc h
 ·refine wH J 11 K ?_
  cases h
  exact wr J 11 func14 [(0,.nil)]
 refine wH J 11 K ?_
 obtain ⟨K,h⟩|⟨K,h⟩:=oc h
 ·refine wH J 4 K ?_
  cases h
  exact wr J 7 func14 [(0,.nil)]
 refine wH J 4 K ?_
 obtain ⟨x1,c,h⟩:=ob h
 refine wa J 5 (eCl (z51_ct N n_ _ c) [] [] ?_)
 cases h
 exact wr J 3 func14 [(0,.sl 1)]
theorem z15_ct (N:Nat) (d_:T0) (r:(List T1)) (h:z15 N d_=some r) :
 Fn Tryz.prog 15 ⟨3,[.a (cC0 0 1 2 d_)],(vV0 0 1 2 d_ []),[],4,.S 3,[],[(3,.own rR1 r true)]⟩:=by
 refine eFn func15 rfl (fun E F w=>?_)
 unfold z15 at h
 refine wa J 17 (eCut (σ:=(List T1)) (fun st=>⟨[(1,.B 3 0),(3,.S 4)],[(3,.box (cC0 0 1 2 d_) 51),(4,.own rR1 st true)],(vV0 0 1 2 d_ []),5⟩) (fun st=>z15_k3 N d_ st=some r) ?_ (fun j1=>?_))
 ·intro c h
  replace h:z15_k3 N d_ c=some r:=h
  unfold z15_k3 at h
  obtain ⟨x9,d,h⟩:=ob h
  refine wa J 6 (eAp J rR1 d (wa J 11 (eCut (σ:=(List T1)) (fun st=>⟨[(3,.S 6)],[(6,.own rR1 st true)],(vV0 0 1 2 d_ []),7⟩) (fun st=>z15_k1 st=some r) ?_ (fun j3=>?_))))
  ·intro e h
   replace h:z15_k1 e=some r:=h
   unfold z15_k1 at h
   cases h
   exact wr J 5 func15 [(3,.sl 6)]
  refine wa J 1 (eLoop (σ:=(List T1) × Int) (fun st=>⟨[(3,.S 6),(44,.S 2),(45,.I (d_.Guard.Equals.length:Int)),(46,.I st.2)],[(6,.own rR1 st.1 true)],(vV0 0 1 2 d_ []),7⟩) (fun n st=>z15_l2 d_ n st.1 st.2) (r:=r) (fun _=>rfl) ?_ (fun ih=>?_))
  ·intro n3 ih5
   rintro ⟨f,g⟩ h
   replace h:z15_l2 d_ (n3+1) f g=some r:=h
   unfold z15_l2 at h
   obtain ⟨K,h⟩|⟨K,h⟩:=oc' h
   ·exact wH J 5 K (wa J 2 (eSub [] (j3 f h)))
   refine wH J 5 K ?_
   obtain ⟨i,j,h⟩:=ob h
   refine wa J 6 (eIx J (oP (oI .i64) (oI .i64)) j (wa J 6 (eAb 0 rfl (wa J 1 (eAb 1 rfl (wa J 2 (eAb 1 rfl (wa J 1 (eAb 0 rfl (wa J 2 (eBs J [] oO1 ([(⟨i.1,i.2,0⟩:T1),(⟨i.2,i.1,0⟩:T1)]:List T1) ?_)))))))))))
   obtain ⟨k,l,h⟩:=ob h
   exact eAp J rR1 l (wa J 7 (eSub [(6,.sl 10)] (ih5 (k,(w64 (g+1))) h)))
  exact eSub [(6,.sl 5)] (ih N (x9,0) h)
 refine wa J 1 (eLoop (σ:=(List T1) × Int) (fun st=>⟨[(1,.B 3 0),(3,.S 4),(9,.S 0),(10,.I (d_.Fields.length:Int)),(11,.I st.2)],[(3,.box (cC0 0 1 2 d_) 51),(4,.own rR1 st.1 true)],(vV0 0 1 2 d_ []),5⟩) (fun n st=>z15_l4 N d_ n st.1 st.2) (r:=r) (fun _=>rfl) ?_ (fun ih=>?_))
 ·intro n4 ih6
  rintro ⟨m,o⟩ h
  replace h:z15_l4 N d_ (n4+1) m o=some r:=h
  unfold z15_l4 at h
  obtain ⟨K,h⟩|⟨K,h⟩:=oc' h
  ·exact wH J 5 K (wa J 2 (eSub [] (j1 m h)))
  refine wH J 5 K ?_
  obtain ⟨p,q,h⟩:=ob h
  refine wa J 7 (eIx J oO2 q (wa J 24 (eBs J [] oO1 ([(⟨(w64 (d_.First+o)),(-1),p.Sort'.Hi⟩:T1),(⟨(-1),(w64 (d_.First+o)),(w64 (0-p.Sort'.Lo))⟩:T1)]:List T1) ?_)))
  obtain ⟨s,t,h⟩:=ob h
  exact eAp J rR1 t (wa J 7 (eSub [(4,.sl 8)] (ih6 (s,(w64 (o+1))) h)))
 exact eSub [(4,.nil)] (ih N (([]:List T1),0) h)
theorem z109_ct (N:Nat) (x_:(List Int)) (r:Int) (h:z109 N x_=some r) :
 Fn Tryz.prog 109 ⟨1,[.S 0],[(0,.sl (rI .i64) x_)],[],1,.I r,[],[]⟩:=by
 refine eFn func109 rfl (fun E F w=>?_)
 unfold z109 at h
 obtain ⟨K,h⟩|⟨K,h⟩:=oc h
 ·refine wH J 11 K ?_
  cases h
 refine wH J 11 K ?_
 obtain ⟨x1,c,h⟩:=ob h
 refine wa J 5 (eIx J (oI .i64) c (wa J 8 (eCut (σ:=Int) (fun st=>(zz5 x_ [(3,.I st)])) (fun st=>z109_k1 st=some r) ?_ (fun j2=>?_))))
 ·intro d h
  replace h:z109_k1 d=some r:=h
  unfold z109_k1 at h
  cases h
  exact wr J 5 func109 []
 refine wa J 1 (eLoop (σ:=Int × Int) (fun st=>(zz5 x_ [(0,.S 0),(3,.I st.1),(4,.I st.2)])) (fun n st=>z109_l2 x_ n st.1 st.2) (r:=r) (fun _=>rfl) ?_ (fun ih=>?_))
 ·intro n2 ih4
  rintro ⟨e,f⟩ h
  replace h:z109_l2 x_ (n2+1) e f=some r:=h
  unfold z109_l2 at h
  obtain ⟨K,h⟩|⟨K,h⟩:=oc' h
  ·exact wH J 8 K (wa J 2 (eSub [] (j2 e h)))
  refine wH J 8 K ?_
  obtain ⟨g,i,h⟩:=ob h
  exact wa J 8 (eIx J (oI .i64) i (wa J 10 (eSub [] (ih4 ((minI e g),(w64 (f+1))) h))))
 exact eSub [] (ih N (x1,1) h)
theorem z110_ct (N:Nat) (x_:(List Int)) (r:Int) (h:z110 N x_=some r) :
 Fn Tryz.prog 110 ⟨1,[.S 0],[(0,.sl (rI .i64) x_)],[],1,.I r,[],[]⟩:=by
 refine eFn func110 rfl (fun E F w=>?_)
 unfold z110 at h
 obtain ⟨K,h⟩|⟨K,h⟩:=oc h
 ·refine wH J 11 K ?_
  cases h
 refine wH J 11 K ?_
 obtain ⟨x1,c,h⟩:=ob h
 refine wa J 5 (eIx J (oI .i64) c (wa J 8 (eCut (σ:=Int) (fun st=>(zz5 x_ [(3,.I st)])) (fun st=>z110_k1 st=some r) ?_ (fun j2=>?_))))
 ·intro d h
  replace h:z110_k1 d=some r:=h
  unfold z110_k1 at h
  cases h
  exact wr J 5 func110 []
 refine wa J 1 (eLoop (σ:=Int × Int) (fun st=>(zz5 x_ [(0,.S 0),(3,.I st.1),(4,.I st.2)])) (fun n st=>z110_l2 x_ n st.1 st.2) (r:=r) (fun _=>rfl) ?_ (fun ih=>?_))
 ·intro n2 ih4
  rintro ⟨e,f⟩ h
  replace h:z110_l2 x_ (n2+1) e f=some r:=h
  unfold z110_l2 at h
  obtain ⟨K,h⟩|⟨K,h⟩:=oc' h
  ·exact wH J 8 K (wa J 2 (eSub [] (j2 e h)))
  refine wH J 8 K ?_
  obtain ⟨g,i,h⟩:=ob h
  exact wa J 8 (eIx J (oI .i64) i (wa J 10 (eSub [] (ih4 ((maxI e g),(w64 (f+1))) h))))
 exact eSub [] (ih N (x1,1) h)
theorem z52_ct (N:Nat) (z_:T6) (r:Bool) (h:z52 N z_=some r) :
 Fn Tryz.prog 52 ⟨1,[.a (cC6 0 z_)],[(0,.sl (rI .i64) z_.B)],[],1,.O r,[],[]⟩:=by
 refine eFn func52 rfl (fun E F w=>?_)
 unfold z52 at h
 obtain ⟨K,h⟩|⟨K,h⟩:=oc' h
 ·refine wH J 11 K ?_
  cases h
  exact wr J 31 func52 []
 refine wH J 11 K ?_
 obtain ⟨K,h⟩|⟨K,h⟩:=oc' h
 ·refine wH J 5 K ?_
  cases h
  exact wr J 26 func52 []
 refine wH J 5 K ?_
 obtain ⟨K,h⟩|⟨K,h⟩:=oc' h
 ·refine wH J 13 K ?_
  cases h
  exact wr J 13 func52 []
 refine wH J 13 K ?_
 obtain ⟨x1,c,h⟩:=ob h
 refine wa J 2 (eCl (z109_ct N z_.B _ c) [] [(0,.sl 0)] ?_)
 obtain ⟨K,h⟩|⟨K,h⟩:=oc' h
 ·refine wH J 3 K ?_
  cases h
  exact wr J 7 func52 []
 refine wH J 3 K ?_
 obtain ⟨x2,d,h⟩:=ob h
 refine wa J 2 (eCl (z110_ct N z_.B _ d) [] [(0,.sl 0)] ?_)
 cases h
 exact wr J 4 func52 []
theorem z53_ct (N:Nat) (z_:T6) (x_:Int) (r:Bool) (h:z53 N z_ x_=some r) :
 Fn Tryz.prog 53 ⟨1,[.a (cC6 0 z_),.I x_],[(0,.sl (rI .i64) z_.B)],[],1,.O r,[],[]⟩:=by
 refine eFn func53 rfl (fun E F w=>?_)
 unfold z53 at h
 obtain ⟨K,h⟩|⟨K,h⟩:=oc h
 ·refine wH J 10 K ?_
  cases h
  exact wr J 7 func53 []
 refine wH J 10 K ?_
 cases h
 exact wr J 7 func53 []
theorem z54_ct (N:Nat) (s_:(List Int)) (r:(List Int)) (h:z54 N s_=some r) :
 Fn Tryz.prog 54 ⟨1,[.S 0],[(0,.sl (rI .i64) s_)],[],2,.S 1,[],[(1,.own (rI .i64) r true)]⟩:=by
 refine eFn func54 rfl (fun E F w=>?_)
 unfold z54 at h
 refine wa J 8 (eNi (rI .i64) s_ false ?_)
 intro nb hnb
 cases nb
 ·refine wa J 5 (eBs J [] (oI .i64) ([]:List Int) ?_)
  obtain ⟨x1,c,h⟩:=ob h
  refine wa J 1 (eAp J (rI .i64) c ?_)
  cases h
  exact wr J 2 func54 [(1,.sl 2)]
 ·obtain rfl:=hnb rfl
  replace h:(some ([]:List Int):Option (List Int))=some r:=h
  cases h
  exact wr J 6 func54 [(1,.nil)]
theorem z17_ct (N:Nat) (z_:T6) (d_:T1) (r:T6 × Int) (h:z17 N z_ d_=some r) :
 Fn Tryz.prog 17 ⟨1,[.a (cC6 0 z_),.a (cC1 d_)],[(0,.sl (rI .i64) z_.B)],[],2,.t [.inr (cC6 1 r.1),.inl (.I r.2)],[(1,.sl (rI .i64) r.1.B)],[]⟩:=by
 refine eFn func17 rfl (fun E F w=>?_)
 unfold z17 at h
 obtain ⟨x1,c,h⟩:=ob h
 refine wa J 11 (eCl (z52_ct N z_ _ c) [] [(0,.sl 0)] ?_)
 obtain ⟨K,h⟩|⟨K,h⟩:=oc h
 ·refine wH J 2 K ?_
  cases h
  exact wr J 7 func17 [(1,.nil)]
 refine wH J 2 K ?_
 obtain ⟨x2,d,h⟩:=ob h
 refine wa J 8 (eCl (z53_ct N z_ d_.X _ d) [] [(0,.sl 0)] ?_)
 obtain ⟨K,h⟩|⟨K,h⟩:=oc h
 ·refine wH J 2 K ?_
  cases h
  exact wr J 14 func17 [(1,.nil)]
 refine wH J 2 K ?_
 obtain ⟨x3,e,h⟩:=ob h
 refine wa J 3 (eCl (z53_ct N z_ d_.Y _ e) [] [(0,.sl 0)] ?_)
 obtain ⟨K,h⟩|⟨K,h⟩:=oc h
 ·refine wH J 3 K ?_
  cases h
  exact wr J 7 func17 [(1,.nil)]
 refine wH J 3 K ?_
 obtain ⟨x4,f,h⟩:=ob h
 refine wa J 8 (eCl (z54_ct N z_.B _ f) [] [(0,.sl 0)] (wa J 3 (eEnd ?_)))
 obtain ⟨x5,g,h⟩:=ob h
 refine wa J 23 (eIo J (rI .i64) g (eLd J (oI .i64) g ?_))
 obtain ⟨x6,i,h⟩:=ob h
 refine wa J 4 (eIo J (rI .i64) i (eSt J [] (oI .i64) (minI x5 (maxI d_.C (-20001))) i (eEnd (wa J 6 (eFr [4] ?_)))))
 cases h
 exact eRet J func17 [(1,.sl 4)]
theorem z55_ct (N:Nat) (z_:T6) (r:T6 × Bool) (h:z55 N z_=some r) :
 Fn Tryz.prog 55 ⟨1,[.a (cC6 0 z_)],[(0,.sl (rI .i64) z_.B)],[],2,.t [.inr (cC6 1 r.1),.inl (.b r.2)],[(1,.sl (rI .i64) r.1.B)],[]⟩:=by
 refine eFn func55 rfl (fun E F w=>?_)
 unfold z55 at h
 obtain ⟨x1,c,h⟩:=ob h
 refine wa J 10 (eCl (z52_ct N z_ _ c) [] [(0,.sl 0)] ?_)
 obtain ⟨K,h⟩|⟨K,h⟩:=oc h
 ·refine wH J 2 K ?_
  cases h
  exact wr J 7 func55 [(1,.nil)]
 refine wH J 2 K ?_
 obtain ⟨x2,d,h⟩:=ob h
 refine wa J 15 (eCl (z54_ct N z_.B _ d) [] [(0,.sl 0)] (wa J 3 (eEnd (wa J 6 (eCut (σ:=(List Int)) (fun st=>(zz1 st z_ z_.B [(2,.B 2 0),(4,.I (w64 (z_.N+1))),(5,.B 4 0)])) (fun st=>z55_k9 N z_ st=some r) ?_ (fun j1=>?_))))))
 ·intro e h
  replace h:z55_k9 N z_ e=some r:=h
  unfold z55_k9 at h
  refine wa J 6 (eCut (σ:=(List Int)) (fun st=>(zz1 st z_ z_.B [(2,.B 2 0),(5,.B 4 0)])) (fun st=>z55_k1 z_ st=some r) ?_ (fun j12=>?_))
  ·intro f h
   replace h:z55_k1 z_ f=some r:=h
   unfold z55_k1 at h
   refine wa J 6 (eFr [3] ?_)
   cases h
   exact eRet J func55 [(1,.sl 3)]
  refine wa J 1 (eLoop (σ:=(List Int) × Int) (fun st=>(zz1 st.1 z_ z_.B [(2,.B 2 0),(4,.I (w64 (z_.N+1))),(5,.B 4 0),(56,.I (w64 (z_.N+1))),(57,.I st.2)])) (fun n st=>z55_l2 N z_ n st.1 st.2) (r:=r) (fun _=>rfl) ?_ (fun ih=>?_))
  ·intro n89 ih86
   rintro ⟨g,i⟩ h
   replace h:z55_l2 N z_ (n89+1) g i=some r:=h
   unfold z55_l2 at h
   obtain ⟨K,h⟩|⟨K,h⟩:=oc' h
   ·exact wH J 5 K (wa J 2 (eSub [] (j12 g h)))
   refine wH J 5 K (wa J 15 (eCut (σ:=(List Int)) (fun st=>(zz1 st z_ z_.B [(2,.B 2 0),(4,.I (w64 (z_.N+1))),(5,.B 4 0),(56,.I (w64 (z_.N+1))),(57,.I i)])) (fun st=>z55_k5 N z_ i (z55_l2 N z_ n89) st=some r) ?_ (fun j135=>?_)))
   ·intro j h
    replace h:z55_k5 N z_ i (z55_l2 N z_ n89) j=some r:=h
    unfold z55_k5 at h
    refine wa J 5 (eCut (σ:=Unit) (fun st=>(zz1 j z_ z_.B [(2,.B 2 0),(4,.I (w64 (z_.N+1))),(5,.B 4 0),(56,.I (w64 (z_.N+1))),(57,.I i)])) (fun st=>z55_k3 i (z55_l2 N z_ n89) j=some r) ?_ (fun j146=>?_))
    ·intro _ h
     replace h:z55_k3 i (z55_l2 N z_ n89) j=some r:=h
     unfold z55_k3 at h
     exact wa J 5 (eSub [] (ih86 (j,(w64 (i+1))) h))
    refine wa J 1 (eLoop (σ:=Int) (fun st=>(zz1 j z_ z_.B [(2,.B 2 0),(4,.I (w64 (z_.N+1))),(5,.B 4 0),(56,.I (w64 (z_.N+1))),(57,.I i),(107,.I (w64 (z_.N+1))),(108,.I st)])) (fun n st=>z55_l4 z_ i (z55_l2 N z_ n89) j n st) (r:=r) (fun _=>rfl) ?_ (fun ih=>?_))
    ·intro n98 ih148
     intro k h
     replace h:z55_l4 z_ i (z55_l2 N z_ n89) j (n98+1) k=some r:=h
     unfold z55_l4 at h
     obtain ⟨K,h⟩|⟨K,h⟩:=oc' h
     ·exact wH J 5 K (wa J 2 (eSub [] (j146 () h)))
     refine wH J 5 K ?_
     obtain ⟨l,m,h⟩:=ob h
     refine wa J 18 (eIo J (rI .i64) m (eLd J (oI .i64) m ?_))
     obtain ⟨K,h⟩|⟨K,h⟩:=oc h
     ·refine wH J 2 K ?_
      cases h
      exact wr J 7 func55 [(1,.nil)]
     exact wH J 2 K (wa J 7 (eSub [] (ih148 (w64 (k+1)) h)))
    exact eSub [] (ih N 0 h)
   refine wa J 1 (eLoop (σ:=(List Int) × Int) (fun st=>(zz1 st.1 z_ z_.B [(2,.B 2 0),(4,.I (w64 (z_.N+1))),(5,.B 4 0),(8,.I i),(56,.I (w64 (z_.N+1))),(57,.I i),(60,.I (w64 (z_.N+1))),(61,.I st.2)])) (fun n st=>z55_l6 N z_ i (z55_l2 N z_ n89) n st.1 st.2) (r:=r) (fun _=>rfl) ?_ (fun ih=>?_))
   ·intro n103 ih149
    rintro ⟨o,p⟩ h
    replace h:z55_l6 N z_ i (z55_l2 N z_ n89) (n103+1) o p=some r:=h
    unfold z55_l6 at h
    obtain ⟨K,h⟩|⟨K,h⟩:=oc' h
    ·exact wH J 5 K (wa J 2 (eSub [] (j135 o h)))
    refine wH J 5 K (wa J 14 (eCut (σ:=(List Int)) (fun st=>(zz1 st z_ z_.B [(2,.B 2 0),(4,.I (w64 (z_.N+1))),(5,.B 4 0),(8,.I i),(56,.I (w64 (z_.N+1))),(57,.I i),(60,.I (w64 (z_.N+1))),(61,.I p)])) (fun st=>z55_k7 p (z55_l6 N z_ i (z55_l2 N z_ n89) n103) st=some r) ?_ (fun j156=>?_)))
    ·intro q h
     replace h:z55_k7 p (z55_l6 N z_ i (z55_l2 N z_ n89) n103) q=some r:=h
     unfold z55_k7 at h
     exact wa J 5 (eSub [] (ih149 (q,(w64 (p+1))) h))
    refine wa J 1 (eLoop (σ:=(List Int) × Int) (fun st=>(zz1 st.1 z_ z_.B [(2,.B 2 0),(4,.I (w64 (z_.N+1))),(5,.B 4 0),(8,.I i),(9,.I p),(56,.I (w64 (z_.N+1))),(57,.I i),(60,.I (w64 (z_.N+1))),(61,.I p),(64,.I (w64 (z_.N+1))),(65,.I st.2)])) (fun n st=>z55_l8 z_ i p (z55_l6 N z_ i (z55_l2 N z_ n89) n103) n st.1 st.2) (r:=r) (fun _=>rfl) ?_ (fun ih=>?_))
    ·intro n105 ih158
     rintro ⟨s,u⟩ h
     replace h:z55_l8 z_ i p (z55_l6 N z_ i (z55_l2 N z_ n89) n103) (n105+1) s u=some r:=h
     unfold z55_l8 at h
     obtain ⟨K,h⟩|⟨K,h⟩:=oc' h
     ·exact wH J 5 K (wa J 2 (eSub [] (j156 s h)))
     refine wH J 5 K ?_
     obtain ⟨v,x,h⟩:=ob h
     refine wa J 24 (eIo J (rI .i64) x (eLd J (oI .i64) x ?_))
     obtain ⟨y,z,h⟩:=ob h
     refine wa J 7 (eIo J (rI .i64) z (eLd J (oI .i64) z ?_))
     obtain ⟨A,C,h⟩:=ob h
     refine wa J 7 (eIo J (rI .i64) C (eLd J (oI .i64) C ?_))
     obtain ⟨D,G,h⟩:=ob h
     exact wa J 2 (eIo J (rI .i64) G (eSt J [] (oI .i64) (minI v (w64 (y+A))) G (eEnd (wa J 5 (eSub [] (ih158 ((setL' s (w64 ((w64 (p * (w64 (z_.N+1))))+u)) (minI v (w64 (y+A)))),(w64 (u+1))) h))))))
    exact eSub [] (ih N (o,0) h)
   exact eSub [] (ih N (g,0) h)
  exact eSub [] (ih N (e,0) h)
 refine wa J 1 (eLoop (σ:=(List Int) × Int) (fun st=>(zz1 st.1 z_ z_.B [(2,.B 2 0),(4,.I (w64 (z_.N+1))),(5,.B 4 0),(25,.I (w64 (z_.N+1))),(26,.I st.2)])) (fun n st=>z55_l10 N z_ n st.1 st.2) (r:=r) (fun _=>rfl) ?_ (fun ih=>?_))
 ·intro n110 ih159
  rintro ⟨H,R⟩ h
  replace h:z55_l10 N z_ (n110+1) H R=some r:=h
  unfold z55_l10 at h
  obtain ⟨K,h⟩|⟨K,h⟩:=oc' h
  ·exact wH J 5 K (wa J 2 (eSub [] (j1 H h)))
  refine wH J 5 K (wa J 14 (eCut (σ:=(List Int)) (fun st=>(zz1 st z_ z_.B [(2,.B 2 0),(4,.I (w64 (z_.N+1))),(5,.B 4 0),(25,.I (w64 (z_.N+1))),(26,.I R)])) (fun st=>z55_k11 R (z55_l10 N z_ n110) st=some r) ?_ (fun j166=>?_)))
  ·intro T h
   replace h:z55_k11 R (z55_l10 N z_ n110) T=some r:=h
   unfold z55_k11 at h
   exact wa J 5 (eSub [] (ih159 (T,(w64 (R+1))) h))
  refine wa J 1 (eLoop (σ:=(List Int) × Int) (fun st=>(zz1 st.1 z_ z_.B [(2,.B 2 0),(4,.I (w64 (z_.N+1))),(5,.B 4 0),(6,.I R),(25,.I (w64 (z_.N+1))),(26,.I R),(29,.I (w64 (z_.N+1))),(30,.I st.2)])) (fun n st=>z55_l12 N z_ R (z55_l10 N z_ n110) n st.1 st.2) (r:=r) (fun _=>rfl) ?_ (fun ih=>?_))
  ·intro n112 ih168
   rintro ⟨U,X⟩ h
   replace h:z55_l12 N z_ R (z55_l10 N z_ n110) (n112+1) U X=some r:=h
   unfold z55_l12 at h
   obtain ⟨K,h⟩|⟨K,h⟩:=oc' h
   ·exact wH J 5 K (wa J 2 (eSub [] (j166 U h)))
   refine wH J 5 K ?_
   obtain ⟨Y,Z,h⟩:=ob h
   refine wa J 24 (eIo J (rI .i64) Z (eLd J (oI .i64) Z ?_))
   obtain ⟨a0,b0,h⟩:=ob h
   refine wa J 2 (eCl (z108_ct N R X _ b0) [] [] ?_)
   obtain ⟨c0,d0,h⟩:=ob h
   exact wa J 1 (eIo J (rI .i64) d0 (eSt J [] (oI .i64) (minI Y a0) d0 (eEnd (wa J 5 (eSub [] (ih168 ((setL' U (w64 ((w64 (R * (w64 (z_.N+1))))+X)) (minI Y a0)),(w64 (X+1))) h))))))
  exact eSub [] (ih N (H,0) h)
 exact eSub [] (ih N (x2,0) h)
theorem z56_ct (N:Nat) (z_:T6) (i_:Int) (j_:Int) (r:Int) (h:z56 N z_ i_ j_=some r) :
 Fn Tryz.prog 56 ⟨1,[.a (cC6 0 z_),.I i_,.I j_],[(0,.sl (rI .i64) z_.B)],[],1,.I r,[],[]⟩:=by
 refine eFn func56 rfl (fun E F w=>?_)
 unfold z56 at h
 obtain ⟨x1,c,h⟩:=ob h
 refine wa J 16 (eIx J (oI .i64) c ?_)
 cases h
 exact wr J 3 func56 []
theorem z18_ct (N:Nat) (z_:T6) (r:(List Int) × Bool) (h:z18 N z_=some r) :
 Fn Tryz.prog 18 ⟨1,[.a (cC6 0 z_)],[(0,.sl (rI .i64) z_.B)],[],2,.t [.inl (.sl 1),.inl (.b r.2)],[],[(1,.own (rI .i64) r.1 true)]⟩:=by
 refine eFn func18 rfl (fun E F w=>?_)
 unfold z18 at h
 obtain ⟨x1,c,h⟩:=ob h
 refine wa J 9 (eCl (z55_ct N z_ _ c) [] [(0,.sl 0)] ?_)
 obtain ⟨K,h⟩|⟨K,h⟩:=oc h
 ·refine wH J 13 K ?_
  cases h
  exact wr J 6 func18 [(1,.nil)]
 refine wH J 13 K (wa J 4 (eBs J [] (oI .i64) ([]:List Int) (wa J 9 (eCut (σ:=(List Int)) (fun st=>⟨[(6,.S 5)],[(5,.own (rI .i64) st true)],[(0,.sl (rI .i64) z_.B)],6⟩) (fun st=>z18_k1 st=some r) ?_ (fun j1=>?_)))))
 ·intro d h
  replace h:z18_k1 d=some r:=h
  unfold z18_k1 at h
  cases h
  exact wr J 6 func18 [(1,.sl 5)]
 refine wa J 1 (eLoop (σ:=(List Int) × Int) (fun st=>(zz14 x1.1 st.1 z_.B x1.1.B [(4,.B 3 0),(6,.S 5),(20,.I z_.N),(21,.I st.2)])) (fun n st=>z18_l2 N z_ x1 n st.1 st.2) (r:=r) (fun _=>rfl) ?_ (fun ih=>?_))
 ·intro n12 ih12
  rintro ⟨e,f⟩ h
  replace h:z18_l2 N z_ x1 (n12+1) e f=some r:=h
  unfold z18_l2 at h
  obtain ⟨K,h⟩|⟨K,h⟩:=oc' h
  ·exact wH J 5 K (wa J 2 (eSub [] (j1 e h)))
  refine wH J 5 K ?_
  obtain ⟨g,i,h⟩:=ob h
  refine wa J 14 (eCl (z56_ct N x1.1 0 (w64 (f+1)) _ i) [] [(0,.sl 2)] (wa J 10 (eCut (σ:=Int) (fun st=>(zz14 x1.1 e z_.B x1.1.B [(4,.B 3 0),(6,.S 5),(8,.I st),(20,.I z_.N),(21,.I f)])) (fun st=>z18_k3 e f (z18_l2 N z_ x1 n12) st=some r) ?_ (fun j19=>?_))))
  ·intro j h
   replace h:z18_k3 e f (z18_l2 N z_ x1 n12) j=some r:=h
   unfold z18_k3 at h
   refine wa J 3 (eBs J [] (oI .i64) ([j]:List Int) ?_)
   obtain ⟨k,l,h⟩:=ob h
   exact eAp J (rI .i64) l (wa J 7 (eSub [(5,.sl 7)] (ih12 (k,(w64 (f+1))) h)))
  refine wa J 1 (eLoop (σ:=Int × Int) (fun st=>(zz14 x1.1 e z_.B x1.1.B [(4,.B 3 0),(6,.S 5),(7,.I f),(8,.I st.1),(20,.I z_.N),(21,.I f),(29,.S 5),(30,.I (e.length:Int)),(31,.I st.2)])) (fun n st=>z18_l4 N x1 e f (z18_l2 N z_ x1 n12) n st.1 st.2) (r:=r) (fun _=>rfl) ?_ (fun ih=>?_))
  ·intro n14 ih21
   rintro ⟨m,o⟩ h
   replace h:z18_l4 N x1 e f (z18_l2 N z_ x1 n12) (n14+1) m o=some r:=h
   unfold z18_l4 at h
   obtain ⟨K,h⟩|⟨K,h⟩:=oc' h
   ·exact wH J 5 K (wa J 2 (eSub [] (j19 m h)))
   refine wH J 5 K ?_
   obtain ⟨p,q,h⟩:=ob h
   refine wa J 7 (eIo J (rI .i64) q (eLd J (oI .i64) q ?_))
   obtain ⟨s,u,h⟩:=ob h
   exact wa J 11 (eCl (z56_ct N x1.1 (w64 (o+1)) (w64 (f+1)) _ u) [] [(0,.sl 2)] (wa J 9 (eSub [] (ih21 ((maxI m (w64 (p-s))),(w64 (o+1))) h))))
  exact eSub [] (ih N ((w64 (0-g)),0) h)
 exact eSub [(5,.sl 4)] (ih N (([]:List Int),0) h)
theorem repL_eq (l:List UInt8):∀ n:Nat,Go.Lib.repeatL l n=repL l n
 | 0=>rfl
 | n+1=>by show l++Go.Lib.repeatL l n=l++repL l n;rw [repL_eq l n]
theorem z19_ct (N:Nat) (s_:ByteArray) (count_:Int) (r:ByteArray) (h:z19 N s_ count_=some r):Fn Tryz.prog 19 ⟨0,[.c (.s s_),.I count_],[],[],0,.c (.s r),[],[]⟩:=by
 unfold z19 at h
 cases hb:((decide (0≤count_) && decide (count_≤140737488355328)) && decide (s_.size * count_.toNat≤140737488355328)) with
 | false=>rw [hb] at h;cases h
 | true =>
  rw [hb] at h
  simp only [cond_true,Option.some.injEq] at h
  subst h
  simp only [Bool.and_eq_true,decide_eq_true_eq] at hb
  obtain ⟨⟨h1,h2⟩,h3⟩:=hb
  obtain ⟨c,rfl⟩:=Int.eq_ofNat_of_zero_le h1
  have:=repeat_fn s_ c (by omega) h3
  rw [repL_eq] at this
  exact this
theorem z63_ct (N:Nat) (s_:(List T5)) (r:(List T5)) (h:z63 N s_=some r) :
 Fn Tryz.prog 63 ⟨1,[.S 0],[(0,.sl rR5 s_)],[],2,.S 1,[],[(1,.own rR5 r true)]⟩:=by
 refine eFn func63 rfl (fun E F w=>?_)
 unfold z63 at h
 refine wa J 8 (eNi rR5 s_ false ?_)
 intro nb hnb
 cases nb
 ·refine wa J 5 (eBs J [] oO5 ([]:List T5) ?_)
  obtain ⟨x1,c,h⟩:=ob h
  refine wa J 1 (eAp J rR5 c ?_)
  cases h
  exact wr J 2 func63 [(1,.sl 2)]
 ·obtain rfl:=hnb rfl
  replace h:(some ([]:List T5):Option (List T5))=some r:=h
  cases h
  exact wr J 6 func63 [(1,.nil)]
theorem z20_ct (N:Nat) (d_:T0) (values_:(List T5)) (known_:(List T5)) (r:(List T5)) (h:z20 N d_ values_ known_=some r) :
 Fn Tryz.prog 20 ⟨5,[.a (cC0 0 1 2 d_),.S 3,.S 4],(vV0 0 1 2 d_ [(3,.sl rR5 values_),(4,.sl rR5 known_)]),[],6,.S 5,[],[(5,.own rR5 r true)]⟩:=by
 refine eFn func20 rfl (fun E F w=>?_)
 unfold z20 at h
 obtain ⟨x1,c,h⟩:=ob h
 refine wa J 8 (eCl (z63_ct N known_ _ c) [] [(0,.sl 4)] ?_)
 obtain ⟨x2,d,h⟩:=ob h
 refine wa J 7 (eVw J rR5 d ?_)
 obtain ⟨x3,e,h⟩:=ob h
 refine wa J 1 (eCw J rR5 e ?_)
 cases h
 exact wr J 6 func20 [(5,.sl 6)]
theorem z21_ct (N:Nat) (d_:T0) (l_:(List T5)) (r:(List T5)) (h:z21 N d_ l_=some r) :
 Fn Tryz.prog 21 ⟨4,[.a (cC0 0 1 2 d_),.S 3],(vV0 0 1 2 d_ []),[(3,.own rR5 l_ false)],4,.t [],[],[(3,.own rR5 r false)]⟩:=by
 refine eFn func21 rfl (fun E F w=>?_)
 unfold z21 at h
 obtain ⟨x1,c,h⟩:=ob h
 refine wa J 8 (eMk J oB c (wa J 9 (eCut (σ:=(List Bool)) (fun st=>(zz6 l_ d_ st [(1,.S 3),(2,.B 4 0),(4,.S 5)])) (fun st=>z21_k8 N d_ l_ st=some r) ?_ (fun j1=>?_))))
 ·intro d h
  replace h:z21_k8 N d_ l_ d=some r:=h
  unfold z21_k8 at h
  refine wa J 4 (eCut (σ:=(List T5)) (fun st=>⟨[],[(3,.own rR5 st false)],(vV0 0 1 2 d_ []),6⟩) (fun st=>z21_k1 st=some r) ?_ (fun j3=>?_))
  ·intro e h
   replace h:z21_k1 e=some r:=h
   unfold z21_k1 at h
   cases h
   exact eRet J func21 []
  refine wa J 1 (eLoop (σ:=(List T5) × (List Bool) × Bool) (fun st=>(zz6 st.1 d_ st.2.1 [(1,.S 3),(2,.B 4 0),(4,.S 5),(6,.O st.2.2)])) (fun n st=>z21_l2 N d_ n st.1 st.2.1 st.2.2) (r:=r) (fun _=>rfl) ?_ (fun ih=>?_))
  ·intro n73 ih176
   rintro ⟨f,g,j⟩ h
   replace h:z21_l2 N d_ (n73+1) f g j=some r:=h
   unfold z21_l2 at h
   obtain ⟨K,h⟩|⟨K,h⟩:=oc' h
   ·exact wH J 5 K (wa J 2 (eSub [] (j3 f h)))
   refine wH J 5 K (wa J 15 (eCut (σ:=(List T5) × (List Bool) × Bool) (fun st=>(zz6 st.1 d_ st.2.1 [(1,.S 3),(2,.B 4 0),(4,.S 5),(6,.O st.2.2)])) (fun st=>z21_k3 (z21_l2 N d_ n73) st.1 st.2.1 st.2.2=some r) ?_ (fun j291=>?_)))
   ·rintro ⟨k,l,m⟩ h
    replace h:z21_k3 (z21_l2 N d_ n73) k l m=some r:=h
    unfold z21_k3 at h
    exact wa J 1 (eSub [] (ih176 (k,l,m) h))
   refine wa J 1 (eLoop (σ:=(List T5) × (List Bool) × Bool × Int) (fun st=>(zz6 st.1 d_ st.2.1 [(1,.S 3),(2,.B 4 0),(4,.S 5),(6,.O st.2.2.1),(49,.S 2),(50,.I (d_.Guard.Equals.length:Int)),(51,.I st.2.2.2)])) (fun n st=>z21_l4 N d_ (z21_l2 N d_ n73) n st.1 st.2.1 st.2.2.1 st.2.2.2) (r:=r) (fun _=>rfl) ?_ (fun ih=>?_))
   ·intro n85 ih320
    rintro ⟨o,p,q,s⟩ h
    replace h:z21_l4 N d_ (z21_l2 N d_ n73) (n85+1) o p q s=some r:=h
    unfold z21_l4 at h
    obtain ⟨K,h⟩|⟨K,h⟩:=oc' h
    ·exact wH J 5 K (wa J 2 (eSub [] (j291 (o,p,q) h)))
    refine wH J 5 K ?_
    obtain ⟨u,v,h⟩:=ob h
    refine wa J 6 (eIx J (oP (oI .i64) (oI .i64)) v (wa J 9 (eCut (σ:=(List T5) × (List Bool) × Bool) (fun st=>⟨[(1,.S 3),(2,.B 4 0),(4,.S 5),(6,.O st.2.2),(49,.S 2),(50,.I (d_.Guard.Equals.length:Int)),(51,.I s)],[(3,.own rR5 st.1 false),(4,.box (cC0 0 1 2 d_) 51),(5,.own rB st.2.1 true)],(vV0 0 1 2 d_ []),8⟩) (fun st=>z21_k5 s (z21_l4 N d_ (z21_l2 N d_ n73) n85) st.1 st.2.1 st.2.2=some r) ?_ (fun j339=>?_))))
    ·rintro ⟨x,y,z⟩ h
     replace h:z21_k5 s (z21_l4 N d_ (z21_l2 N d_ n73) n85) x y z=some r:=h
     unfold z21_k5 at h
     exact wa J 5 (eSub [] (ih320 (x,y,z,(w64 (s+1))) h))
    refine wa J 1 (eLoop (σ:=(List T5) × (List Bool) × Bool × Int) (fun st=>(zz21 st.1 d_ st.2.1 u.1 u.2 [(1,.S 3),(2,.B 4 0),(4,.S 5),(6,.O st.2.2.1),(8,.B 7 0),(49,.S 2),(50,.I (d_.Guard.Equals.length:Int)),(51,.I s),(55,.a [.I u.1,.I u.2]),(56,.I st.2.2.2)])) (fun n st=>z21_l6 s (z21_l4 N d_ (z21_l2 N d_ n73) n85) u n st.1 st.2.1 st.2.2.1 st.2.2.2) (r:=r) (fun _=>rfl) ?_ (fun ih=>?_))
    ·intro n87 ih344
     rintro ⟨A,C,D,G⟩ h
     replace h:z21_l6 s (z21_l4 N d_ (z21_l2 N d_ n73) n85) u (n87+1) A C D G=some r:=h
     unfold z21_l6 at h
     obtain ⟨K,h⟩|⟨K,h⟩:=oc' h
     ·exact wH J 5 K (wa J 2 (eSub [] (j339 (A,C,D) h)))
     refine wH J 5 K ?_
     obtain ⟨H,R,h⟩:=ob h
     refine wa J 7 (eAx (SC.i .i64) ([u.1,u.2]:List Int) R ?_)
     refine wa J 7 (eCut (σ:=Int) (fun st=>(zz21 A d_ C u.1 u.2 [(1,.S 3),(2,.B 4 0),(4,.S 5),(6,.O D),(8,.B 7 0),(10,.I H),(11,.I st),(49,.S 2),(50,.I (d_.Guard.Equals.length:Int)),(51,.I s),(55,.a [.I u.1,.I u.2]),(56,.I G)])) (fun st=>z21_k7 A C D G (z21_l6 s (z21_l4 N d_ (z21_l2 N d_ n73) n85) u n87) H st=some r) ?_ (fun j347=>?_))
     ·intro T h
      replace h:z21_k7 A C D G (z21_l6 s (z21_l4 N d_ (z21_l2 N d_ n73) n85) u n87) H T=some r:=h
      unfold z21_k7 at h
      obtain ⟨U,X,h⟩:=ob h
      refine wa J 4 (eIo J rB X (eLd J oB X ?_))
      obtain ⟨K,h⟩|⟨K,h⟩:=oc' h
      ·exact wH J 1 K (wa J 14 (eSub [] (ih344 (A,C,D,(w64 (G+1))) h)))
      refine wH J 1 K ?_
      obtain ⟨Y,Z,h⟩:=ob h
      refine wa J 2 (eIo J rB Z (eLd J oB Z ?_))
      obtain ⟨K,h⟩|⟨K,h⟩:=oc' h
      ·exact wH J 3 K (wa J 7 (eSub [] (ih344 (A,C,D,(w64 (G+1))) h)))
      refine wH J 3 K ?_
      obtain ⟨a0,b0,h⟩:=ob h
      refine wa J 8 (eIo J rR5 b0 (wa J 1 (eLd J oO5 b0 ?_)))
      obtain ⟨c0,d0,h⟩:=ob h
      refine eIo J rR5 d0 (wa J 1 (eSt J [] oO5 (⟨c0.Kind,c0.N,a0.S⟩:T5) d0 ?_))
      obtain ⟨e0,f0,h⟩:=ob h
      exact eIo J rB f0 (eSt J [] oB true f0 (wa J 7 (eSub [] (ih344 ((setL' A H (⟨c0.Kind,c0.N,a0.S⟩:T5)),(setL' C H true),true,(w64 (G+1))) h))))
     obtain ⟨K,h⟩|⟨K,h⟩:=oc h
     ·exact eAb 0 (by exact eq_of_beq K) (wa J 3 (eSub [] (j347 u.1 h)))
     obtain ⟨K,h⟩|⟨K,h⟩:=oc h
     ·exact eAb 1 (by exact eq_of_beq K) (wa J 3 (eSub [] (j347 u.2 h)))
     cases h
    exact eSub [] (ih N (o,p,q,0) h)
   exact eSub [] (ih N (f,g,false,0) h)
  exact eSub [] (ih N (l_,d,true) h)
 refine wa J 1 (eLoop (σ:=(List Bool) × Int) (fun st=>(zz6 l_ d_ st.1 [(1,.S 3),(2,.B 4 0),(4,.S 5),(16,.I (l_.length:Int)),(17,.I st.2)])) (fun n st=>z21_l9 N d_ l_ n st.1 st.2) (r:=r) (fun _=>rfl) ?_ (fun ih=>?_))
 ·intro n88 ih348
  rintro ⟨g0,i0⟩ h
  replace h:z21_l9 N d_ l_ (n88+1) g0 i0=some r:=h
  unfold z21_l9 at h
  obtain ⟨K,h⟩|⟨K,h⟩:=oc' h
  ·exact wH J 5 K (wa J 2 (eSub [] (j1 g0 h)))
  refine wH J 5 K ?_
  obtain ⟨K,h⟩|⟨K,h⟩:=oc h
  ·refine wH J 17 K ?_
   obtain ⟨j0,k0,h⟩:=ob h
   refine wa J 12 (eIo J rR5 k0 (wa J 1 (eLd J oO5 k0 ?_)))
   obtain ⟨l0,m0,h⟩:=ob h
   exact wa J 2 (eIo J rB m0 (eSt J [] oB (j0.Kind != 0) m0 (wa J 6 (eSub [] (ih348 ((setL' g0 i0 (j0.Kind != 0)),(w64 (i0+1))) h)))))
  refine wH J 17 K ?_
  obtain ⟨K,h⟩|⟨K,h⟩:=oc' h
  ·refine wH J 10 K ?_
   obtain ⟨o0,p0,h⟩:=ob h
   exact wa J 7 (eIo J rB p0 (eSt J [] oB false p0 (wa J 6 (eSub [] (ih348 ((setL' g0 i0 false),(w64 (i0+1))) h)))))
  refine wH J 10 K ?_
  obtain ⟨q0,s0,h⟩:=ob h
  refine wa J 2 (eIo J rR5 s0 (wa J 1 (eLd J oO5 s0 ?_)))
  obtain ⟨t0,u0,h⟩:=ob h
  exact wa J 2 (eIo J rB u0 (eSt J [] oB (q0.Kind != 0) u0 (wa J 6 (eSub [] (ih348 ((setL' g0 i0 (q0.Kind != 0)),(w64 (i0+1))) h)))))
 exact eSub [] (ih N (x1,0) h)
theorem z22_ct (N:Nat) (g_:T3) (l_:(List T5)) (r:Bool) (h:z22 N g_ l_=some r) :
 Fn Tryz.prog 22 ⟨3,[.a [.sl 0,.sl 1],.S 2],[(0,.sl rR1 g_.Diffs),(1,.sl (rP (rI .i64) (rI .i64)) g_.Equals),(2,.sl rR5 l_)],[],3,.O r,[],[]⟩:=by
 refine eFn func22 rfl (fun E F w=>?_)
 unfold z22 at h
 refine wa J 13 (eCut (σ:=Unit) (fun st=>(zz7 g_.Diffs g_.Equals l_ [(1,.S 2),(2,.B 3 0)])) (fun st=>z22_k3 N g_ l_=some r) ?_ (fun j1=>?_))
 ·intro _ h
  replace h:z22_k3 N g_ l_=some r:=h
  unfold z22_k3 at h
  refine wa J 8 (eCut (σ:=Unit) (fun st=>(zz15 g_.Diffs g_.Equals l_ [])) (fun st=>z22_k1=some r) ?_ (fun j12=>?_))
  ·intro _ h
   replace h:z22_k1=some r:=h
   unfold z22_k1 at h
   cases h
   exact wr J 4 func22 []
  refine wa J 1 (eLoop (σ:=Int) (fun st=>(zz15 g_.Diffs g_.Equals l_ [(1,.S 2),(55,.S 1),(56,.I (g_.Equals.length:Int)),(57,.I st)])) (fun n st=>z22_l2 g_ l_ n st) (r:=r) (fun _=>rfl) ?_ (fun ih=>?_))
  ·intro n9 ih14
   intro c h
   replace h:z22_l2 g_ l_ (n9+1) c=some r:=h
   unfold z22_l2 at h
   obtain ⟨K,h⟩|⟨K,h⟩:=oc' h
   ·exact wH J 5 K (wa J 2 (eSub [] (j12 () h)))
   refine wH J 5 K ?_
   obtain ⟨d,e,h⟩:=ob h
   refine wa J 6 (eIx J (oP (oI .i64) (oI .i64)) e (wa J 7 (eAb 0 rfl ?_)))
   obtain ⟨f,g,h⟩:=ob h
   refine wa J 1 (eIx J oO5 g ?_)
   obtain ⟨K,h⟩|⟨K,h⟩:=oc h
   ·refine wH J 4 K (wa J 23 (eEnd ?_))
    cases h
    exact wr J 5 func22 []
   refine wH J 4 K (wa J 1 (eAb 1 rfl ?_))
   obtain ⟨j,k,h⟩:=ob h
   refine wa J 1 (eIx J oO5 k ?_)
   obtain ⟨K,h⟩|⟨K,h⟩:=oc h
   ·refine wH J 5 K (wa J 14 (eEnd ?_))
    cases h
    exact wr J 5 func22 []
   refine wH J 5 K (wa J 1 (eAb 0 rfl ?_))
   obtain ⟨l,m,h⟩:=ob h
   refine wa J 1 (eIx J oO5 m (wa J 3 (eAb 1 rfl ?_)))
   obtain ⟨o,p,h⟩:=ob h
   refine wa J 1 (eIx J oO5 p (wa J 4 (eEnd ?_)))
   obtain ⟨K,h⟩|⟨K,h⟩:=oc h
   ·refine eK K ?_
    cases h
    exact wr J 5 func22 []
   exact eK K (wa J 7 (eSub [] (ih14 (w64 (c+1)) h)))
  exact eSub [] (ih N 0 h)
 refine wa J 1 (eLoop (σ:=Int) (fun st=>(zz7 g_.Diffs g_.Equals l_ [(1,.S 2),(2,.B 3 0),(13,.S 0),(14,.I (g_.Diffs.length:Int)),(15,.I st)])) (fun n st=>z22_l4 N g_ l_ n st) (r:=r) (fun _=>rfl) ?_ (fun ih=>?_))
 ·intro n14 ih15
  intro q h
  replace h:z22_l4 N g_ l_ (n14+1) q=some r:=h
  unfold z22_l4 at h
  obtain ⟨K,h⟩|⟨K,h⟩:=oc' h
  ·exact wH J 5 K (wa J 2 (eSub [] (j1 () h)))
  refine wH J 5 K ?_
  obtain ⟨s,t,h⟩:=ob h
  refine wa J 6 (eIx J oO1 t (wa J 20 (eCut (σ:=Int × Int) (fun st=>(zz22 s st.1 st.2 g_.Diffs g_.Equals l_ [(1,.S 2),(2,.B 3 0),(6,.B 5 0),(7,.B 6 0),(13,.S 0),(14,.I (g_.Diffs.length:Int)),(15,.I q)])) (fun st=>z22_k5 q (z22_l4 N g_ l_ n14) s st.1 st.2=some r) ?_ (fun j22=>?_))))
  ·rintro ⟨u,v⟩ h
   replace h:z22_k5 q (z22_l4 N g_ l_ n14) s u v=some r:=h
   unfold z22_k5 at h
   refine wa J 2 (eAb 0 rfl (wa J 1 (eAb 1 rfl ?_)))
   obtain ⟨K,h⟩|⟨K,h⟩:=oc h
   ·refine wH J 6 K ?_
    cases h
    exact wr J 5 func22 []
   exact wH J 6 K (wa J 7 (eSub [] (ih15 (w64 (q+1)) h)))
  refine wa J 1 (eLoop (σ:=Int × Int × Int) (fun st=>(zz22 s st.1 st.2.1 g_.Diffs g_.Equals l_ [(1,.S 2),(2,.B 3 0),(6,.B 5 0),(7,.B 6 0),(13,.S 0),(14,.I (g_.Diffs.length:Int)),(15,.I q),(24,.a [.I s.X,.I s.Y]),(25,.I st.2.2)])) (fun n st=>z22_l6 N l_ q (z22_l4 N g_ l_ n14) s n st.1 st.2.1 st.2.2) (r:=r) (fun _=>rfl) ?_ (fun ih=>?_))
  ·intro n16 ih24
   rintro ⟨x,y,z⟩ h
   replace h:z22_l6 N l_ q (z22_l4 N g_ l_ n14) s (n16+1) x y z=some r:=h
   unfold z22_l6 at h
   obtain ⟨K,h⟩|⟨K,h⟩:=oc' h
   ·exact wH J 5 K (wa J 2 (eSub [] (j22 (x,y) h)))
   refine wH J 5 K ?_
   obtain ⟨A,C,h⟩:=ob h
   refine wa J 7 (eAx (SC.i .i64) ([s.X,s.Y]:List Int) C ?_)
   obtain ⟨K,h⟩|⟨K,h⟩:=oc h
   ·exact wH J 9 K (wa J 6 (eSub [] (ih24 (x,y,(w64 (z+1))) h)))
   refine wH J 9 K ?_
   obtain ⟨D,G,h⟩:=ob h
   refine wa J 7 (eIx J oO5 G ?_)
   obtain ⟨K,h⟩|⟨K,h⟩:=oc h
   ·refine wH J 4 K ?_
    cases h
    exact wr J 5 func22 []
   refine wH J 4 K ?_
   obtain ⟨H,R,h⟩:=ob h
   refine wa J 6 (eIx J oO5 R ?_)
   obtain ⟨T,U,h⟩:=ob h
   refine wa J 1 (eCl (z16_ct N H _ U) [] [] ?_)
   obtain ⟨K,h⟩|⟨K,h⟩:=oc h
   ·exact eAb 0 (by exact eq_of_beq K) (wa J 7 (eSub [] (ih24 (T,y,(w64 (z+1))) h)))
   obtain ⟨K,h⟩|⟨K,h⟩:=oc h
   ·exact eAb 1 (by exact eq_of_beq K) (wa J 7 (eSub [] (ih24 (x,T,(w64 (z+1))) h)))
   cases h
  exact eSub [] (ih N (0,0,0) h)
 exact eSub [] (ih N 0 h)
theorem z23_ct (N:Nat) (l_:(List T2)) (values_:(List T5)) (r:Bool) (h:z23 N l_ values_=some r) :
 Fn Tryz.prog 23 ⟨2,[.S 0,.S 1],[(0,.sl rR2 l_),(1,.sl rR5 values_)],[],2,.O r,[],[]⟩:=by
 refine eFn func23 rfl (fun E F w=>?_)
 unfold z23 at h
 obtain ⟨K,h⟩|⟨K,h⟩:=oc h
 ·refine wH J 13 K ?_
  cases h
  exact wr J 5 func23 []
 refine wH J 13 K (wa J 9 (eCut (σ:=Unit) (fun st=>⟨[],[],[(0,.sl rR2 l_),(1,.sl rR5 values_)],2⟩) (fun st=>z23_k1=some r) ?_ (fun j1=>?_)))
 ·intro _ h
  replace h:z23_k1=some r:=h
  unfold z23_k1 at h
  cases h
  exact wr J 4 func23 []
 refine wa J 1 (eLoop (σ:=Int) (fun st=>⟨[(1,.S 1),(12,.S 0),(13,.I (l_.length:Int)),(14,.I st)],[],[(0,.sl rR2 l_),(1,.sl rR5 values_)],2⟩) (fun n st=>z23_l2 N l_ values_ n st) (r:=r) (fun _=>rfl) ?_ (fun ih=>?_))
 ·intro n2 ih3
  intro c h
  replace h:z23_l2 N l_ values_ (n2+1) c=some r:=h
  unfold z23_l2 at h
  obtain ⟨K,h⟩|⟨K,h⟩:=oc' h
  ·exact wH J 5 K (wa J 2 (eSub [] (j1 () h)))
  refine wH J 5 K ?_
  obtain ⟨d,e,h⟩:=ob h
  refine wa J 7 (eIx J oO2 e ?_)
  obtain ⟨f,g,h⟩:=ob h
  refine wa J 11 (eIx J oO5 g ?_)
  obtain ⟨i,j,h⟩:=ob h
  refine wa J 1 (eCl (z50_ct N d.Sort' f _ j) [] [] (wa J 1 (eEnd ?_)))
  obtain ⟨K,h⟩|⟨K,h⟩:=oc h
  ·refine eK K ?_
   cases h
   exact wr J 5 func23 []
  exact eK K (wa J 7 (eSub [] (ih3 (w64 (c+1)) h)))
 exact eSub [] (ih N 0 h)
theorem z6_ct (N:Nat) (decls_:(List T0)) (label_:Int) (known_:(List T5)) (r:(List T5) × Bool) (h:z6 N decls_ label_ known_=some r) :
 Fn Tryz.prog 6 ⟨2,[.S 0,.I label_,.S 1],[(0,.sl rR0 decls_),(1,.sl rR5 known_)],[],3,.t [.inl (.sl 2),.inl (.b r.2)],[],[(2,.own rR5 r.1 true)]⟩:=by
 refine eFn func6 rfl (fun E F w=>?_)
 unfold z6 at h
 obtain ⟨x1,c,h⟩:=ob h
 refine wa J 11 (eCl (z13_ct N decls_ label_ known_ _ c) [] [(0,.sl 0),(1,.sl 1)] ?_)
 obtain ⟨K,h⟩|⟨K,h⟩:=oc h
 ·refine wH J 2 K ?_
  cases h
  exact wr J 6 func6 [(2,.nil)]
 refine wH J 2 K ?_
 obtain ⟨x2,d,h⟩:=ob h
 refine wa J 6 (eIx J oO0 d ?_)
 obtain ⟨x3,e,h⟩:=ob h
 refine wa J 14 (eCl (z14_ct N (x2.Fields.length:Int) _ e) [] [] ?_)
 obtain ⟨x4,f,h⟩:=ob h
 refine wa J 11 (eCl (z15_ct N x2 _ f) [] [(0,.sl 3),(1,.sl 4),(2,.sl 5)] (wa J 3 (eCut (σ:=Int × (List Int)) (fun st=>⟨[(2,.S 1),(8,.B 6 0),(9,.I (x2.Fields.length:Int)),(10,.B 8 0)],[(6,.box (cC0 3 4 5 x2) 51),(8,.box [.I st.1,.sl 10] 54)],((0,.sl rR0 decls_)::(1,.sl rR5 known_)::vV0 3 4 5 x2 [(10,.sl (rI .i64) st.2)]),11⟩) (fun st=>z6_k3 N known_ x2 st.1 st.2=some r) ?_ (fun j1=>?_))))
 ·rintro ⟨g,j⟩ h
  replace h:z6_k3 N known_ x2 g j=some r:=h
  unfold z6_k3 at h
  obtain ⟨k,l,h⟩:=ob h
  refine wa J 3 (eCl (z18_ct N (⟨g,j⟩:T6) _ l) [] [(0,.sl 10)] ?_)
  obtain ⟨K,h⟩|⟨K,h⟩:=oc h
  ·refine wH J 12 K ?_
   cases h
   exact wr J 6 func6 [(2,.nil)]
  refine wH J 12 K ?_
  obtain ⟨m,o,h⟩:=ob h
  refine wa J 5 (eMk J oO5 o (wa J 10 (eCut (σ:=(List T5)) (fun st=>⟨[(2,.S 1),(8,.B 6 0),(9,.I (x2.Fields.length:Int)),(20,.S 12)],[(6,.box (cC0 3 4 5 x2) 51),(12,.own rR5 st true)],((0,.sl rR0 decls_)::(1,.sl rR5 known_)::vV0 3 4 5 x2 []),13⟩) (fun st=>z6_k1 N known_ x2 st=some r) ?_ (fun j36=>?_))))
  ·intro p h
   replace h:z6_k1 N known_ x2 p=some r:=h
   unfold z6_k1 at h
   obtain ⟨q,s,h⟩:=ob h
   refine wa J 5 (eCb (z20_ct N x2 p known_ _ s) [] [(0,.sl 3),(1,.sl 4),(2,.sl 5),(3,.sl 12),(4,.sl 1)] [12] (.inr ⟨rfl,⟨(rM_flat (rP_flat (rI_flat _) (rP_flat (rI_flat _) rS_flat))),trivial⟩⟩) ?_)
   obtain ⟨u,v,h⟩:=ob h
   refine wa J 6 (eCl (z21_ct N x2 q _ v) [] [(0,.sl 3),(1,.sl 4),(2,.sl 5),(3,.sl 13)] ?_)
   obtain ⟨x,y,h⟩:=ob h
   refine wa J 11 (eVw J rR5 y ?_)
   obtain ⟨z,A,h⟩:=ob h
   refine eDp J rR5 y A ?_
   obtain ⟨D,G,h⟩:=ob h
   refine wa J 7 (eCb (z22_ct N x2.Guard u _ G) [] [(0,.sl 4),(1,.sl 5),(2,.sl 13)] [13] (.inr ⟨rfl,trivial⟩) ?_)
   obtain ⟨K,h⟩|⟨K,h⟩:=oc h
   ·refine wH J 2 K ?_
    cases h
    exact wr J 13 func6 [(2,.nil)]
   refine wH J 2 K ?_
   obtain ⟨H,R,h⟩:=ob h
   refine wa J 3 (eCb (z23_ct N x2.Fields z.1 _ R) [] [(0,.sl 3),(1,.sl 12)] [12] (.inr ⟨rfl,trivial⟩) ?_)
   obtain ⟨K,h⟩|⟨K,h⟩:=oc h
   ·refine wH J 3 K ?_
    cases h
    exact wr J 6 func6 [(2,.nil)]
   refine wH J 3 K ?_
   cases h
   exact wr J 8 func6 [(2,.sl 12)]
  refine wa J 1 (eLoop (σ:=(List T5) × Int) (fun st=>⟨[(2,.S 1),(8,.B 6 0),(9,.I (x2.Fields.length:Int)),(18,.S 11),(20,.S 12),(129,.S 3),(130,.I (x2.Fields.length:Int)),(131,.I st.2)],[(6,.box (cC0 3 4 5 x2) 51),(11,.own (rI .i64) k.1 true),(12,.own rR5 st.1 true)],((0,.sl rR0 decls_)::(1,.sl rR5 known_)::vV0 3 4 5 x2 []),13⟩) (fun n st=>z6_l2 N known_ x2 k n st.1 st.2) (r:=r) (fun _=>rfl) ?_ (fun ih=>?_))
  ·intro n9 ih38
   rintro ⟨T,U⟩ h
   replace h:z6_l2 N known_ x2 k (n9+1) T U=some r:=h
   unfold z6_l2 at h
   obtain ⟨K,h⟩|⟨K,h⟩:=oc' h
   ·exact wH J 5 K (wa J 2 (eSub [] (j36 T h)))
   refine wH J 5 K ?_
   obtain ⟨Z,a0,h⟩:=ob h
   refine wa J 7 (eIx J oO2 a0 ?_)
   obtain ⟨b0,c0,h⟩:=ob h
   refine wa J 14 (eIo J (rI .i64) c0 (eLd J (oI .i64) c0 ?_))
   obtain ⟨d0,e0,h⟩:=ob h
   refine wa J 1 (eIo J rR5 e0 (eSt J [] oO5 (⟨Z.Sort'.Kind,b0,(str [])⟩:T5) e0 (eEnd ?_)))
   obtain ⟨K,h⟩|⟨K,h⟩:=oc' h
   ·exact wH J 7 K (wa J 7 (eSub [] (ih38 ((setL' T U (⟨Z.Sort'.Kind,b0,(str [])⟩:T5)),(w64 (U+1))) h)))
   refine wH J 7 K ?_
   obtain ⟨f0,g0,h⟩:=ob h
   refine wa J 6 (eIo J (rI .i64) g0 (eLd J (oI .i64) g0 ?_))
   obtain ⟨i0,j0,h⟩:=ob h
   refine eCl (z19_ct N (str [97]) f0 _ j0) [] [] ?_
   obtain ⟨k0,l0,h⟩:=ob h
   exact wa J 1 (eIo J rR5 l0 (eSt J [] oO5 (⟨2,0,i0⟩:T5) l0 (wa J 6 (eSub [] (ih38 ((setL' (setL' T U (⟨Z.Sort'.Kind,b0,(str [])⟩:T5)) U (⟨2,0,i0⟩:T5)),(w64 (U+1))) h)))))
  exact eSub [] (ih N (m,0) h)
 refine wa J 1 (eLoop (σ:=Int × (List Int) × Int) (fun st=>⟨[(2,.S 1),(8,.B 6 0),(9,.I (x2.Fields.length:Int)),(10,.B 8 0),(42,.S 9),(43,.I (x4.length:Int)),(44,.I st.2.2)],[(6,.box (cC0 3 4 5 x2) 51),(8,.box [.I st.1,.sl 10] 54),(9,.own rR1 x4 true)],((0,.sl rR0 decls_)::(1,.sl rR5 known_)::vV0 3 4 5 x2 [(10,.sl (rI .i64) st.2.1)]),11⟩) (fun n st=>z6_l4 N known_ x2 x4 n st.1 st.2.1 st.2.2) (r:=r) (fun _=>rfl) ?_ (fun ih=>?_))
 ·intro n14 ih39
  rintro ⟨m0,o0,p0⟩ h
  replace h:z6_l4 N known_ x2 x4 (n14+1) m0 o0 p0=some r:=h
  unfold z6_l4 at h
  obtain ⟨K,h⟩|⟨K,h⟩:=oc' h
  ·exact wH J 5 K (wa J 2 (eSub [] (j1 (m0,o0) h)))
  refine wH J 5 K ?_
  obtain ⟨q0,s0,h⟩:=ob h
  refine wa J 6 (eIo J rR1 s0 (eLd J oO1 s0 (wa J 25 (eCut (σ:=Int × Int × Int) (fun st=>(zz16 x2 m0 x4 st.2.1 st.2.2 decls_ known_ o0 [(2,.S 1),(8,.B 6 0),(9,.I (x2.Fields.length:Int)),(10,.B 8 0),(14,.I st.1),(15,.B 13 0),(42,.S 9),(43,.I (x4.length:Int)),(44,.I p0)])) (fun st=>z6_k5 N m0 o0 p0 (z6_l4 N known_ x2 x4 n14) st.1 st.2.1 st.2.2=some r) ?_ (fun j62=>?_)))))
  ·rintro ⟨t0,u0,v0⟩ h
   replace h:z6_k5 N m0 o0 p0 (z6_l4 N known_ x2 x4 n14) t0 u0 v0=some r:=h
   unfold z6_k5 at h
   refine wa J 2 (eAb 0 rfl (wa J 1 (eAb 1 rfl ?_)))
   obtain ⟨x0,y0,h⟩:=ob h
   exact wa J 3 (eCl (z17_ct N (⟨m0,o0⟩:T6) (⟨u0,v0,t0⟩:T1) _ y0) [] [(0,.sl 10)] (wa J 10 (eSub [(10,.sl 14)] (ih39 (x0.1.N,x0.1.B,(w64 (p0+1))) h))))
  refine wa J 1 (eLoop (σ:=Int × Int × Int × Int) (fun st=>(zz16 x2 m0 x4 st.2.1 st.2.2.1 decls_ known_ o0 [(2,.S 1),(8,.B 6 0),(9,.I (x2.Fields.length:Int)),(10,.B 8 0),(14,.I st.1),(15,.B 13 0),(42,.S 9),(43,.I (x4.length:Int)),(44,.I p0),(55,.a [.I q0.X,.I q0.Y]),(56,.I st.2.2.2)])) (fun n st=>z6_l6 N known_ x2 m0 o0 p0 (z6_l4 N known_ x2 x4 n14) q0 n st.1 st.2.1 st.2.2.1 st.2.2.2) (r:=r) (fun _=>rfl) ?_ (fun ih=>?_))
  ·intro n16 ih68
   rintro ⟨z0,A0,B0,C0⟩ h
   replace h:z6_l6 N known_ x2 m0 o0 p0 (z6_l4 N known_ x2 x4 n14) q0 (n16+1) z0 A0 B0 C0=some r:=h
   unfold z6_l6 at h
   obtain ⟨K,h⟩|⟨K,h⟩:=oc' h
   ·exact wH J 5 K (wa J 2 (eSub [] (j62 (z0,A0,B0) h)))
   refine wH J 5 K ?_
   obtain ⟨D0,G0,h⟩:=ob h
   refine wa J 7 (eAx (SC.i .i64) ([q0.X,q0.Y]:List Int) G0 ?_)
   obtain ⟨K,h⟩|⟨K,h⟩:=oc h
   ·exact wH J 10 K (wa J 8 (eSub [] (ih68 (z0,A0,B0,(w64 (C0+1))) h)))
   refine wH J 10 K ?_
   refine wa J 8 (eCut (σ:=Bool) (fun st=>(zz16 x2 m0 x4 A0 B0 decls_ known_ o0 [(2,.S 1),(8,.B 6 0),(9,.I (x2.Fields.length:Int)),(10,.B 8 0),(14,.I z0),(15,.B 13 0),(16,.I C0),(17,.I D0),(42,.S 9),(43,.I (x4.length:Int)),(44,.I p0),(55,.a [.I q0.X,.I q0.Y]),(56,.I C0),(70,.O st)])) (fun st=>z6_k7 N known_ x2 z0 A0 B0 C0 (z6_l6 N known_ x2 m0 o0 p0 (z6_l4 N known_ x2 x4 n14) q0 n16) D0 st=some r) ?_ (fun j72=>?_))
   ·intro H0 h
    replace h:z6_k7 N known_ x2 z0 A0 B0 C0 (z6_l6 N known_ x2 m0 o0 p0 (z6_l4 N known_ x2 x4 n14) q0 n16) D0 H0=some r:=h
    unfold z6_k7 at h
    obtain ⟨K,h⟩|⟨K,h⟩:=oc h
    ·refine eK K ?_
     obtain ⟨K,h⟩|⟨K,h⟩:=oc h
     ·exact wa J 7 (eAb 0 (by exact eq_of_beq K) (wa J 8 (eSub [] (ih68 (z0,(w64 (D0-x2.First)),B0,(w64 (C0+1))) h))))
     obtain ⟨K,h⟩|⟨K,h⟩:=oc h
     ·exact wa J 7 (eAb 1 (by exact eq_of_beq K) (wa J 8 (eSub [] (ih68 (z0,A0,(w64 (D0-x2.First)),(w64 (C0+1))) h))))
     cases h
    refine eK K ?_
    obtain ⟨I0,L0,h⟩:=ob h
    refine wa J 5 (eIx J oO5 L0 ?_)
    obtain ⟨K,h⟩|⟨K,h⟩:=oc h
    ·refine wH J 5 K ?_
     cases h
     exact wr J 6 func6 [(2,.nil)]
    refine wH J 5 K ?_
    obtain ⟨K,h⟩|⟨K,h⟩:=oc h
    ·refine wH J 7 K ?_
     obtain ⟨M0,O0,h⟩:=ob h
     refine wa J 5 (eIx J oO5 O0 ?_)
     obtain ⟨R0,S0,h⟩:=ob h
     exact wa J 1 (eCl (z16_ct N M0 _ S0) [] [] (wa J 9 (eSub [] (ih68 ((w64 (z0-R0)),A0,B0,(w64 (C0+1))) h))))
    refine wH J 7 K ?_
    obtain ⟨T0,U0,h⟩:=ob h
    refine wa J 5 (eIx J oO5 U0 ?_)
    obtain ⟨V0,X0,h⟩:=ob h
    exact wa J 1 (eCl (z16_ct N T0 _ X0) [] [] (wa J 9 (eSub [] (ih68 ((w64 (z0+V0)),A0,B0,(w64 (C0+1))) h))))
   obtain ⟨K,h⟩|⟨K,h⟩:=oc h
   ·exact eK K (wa J 9 (eSub [] (j72 (decide (D0 < (w64 (x2.First+(x2.Fields.length:Int))))) h)))
   exact eK K (wa J 9 (eSub [] (j72 false h)))
  exact eSub [] (ih N (q0.C,(-1),(-1),0) h)
 exact eSub [(10,.sl 7)] (ih N (x3.1.N,x3.1.B,0) h)
theorem z65_ct (N:Nat) (decls_:(List T0)) (r:Int) (h:z65 N decls_=some r) :
 Fn Tryz.prog 65 ⟨1,[.S 0],[(0,.sl rR0 decls_)],[],1,.I r,[],[]⟩:=by
 refine eFn func65 rfl (fun E F w=>?_)
 unfold z65 at h
 refine wa J 13 (eCut (σ:=Int) (fun st=>(zz3 decls_ [(3,.I st)])) (fun st=>z65_k1 st=some r) ?_ (fun j1=>?_))
 ·intro c h
  replace h:z65_k1 c=some r:=h
  unfold z65_k1 at h
  cases h
  exact wr J 5 func65 []
 refine wa J 1 (eLoop (σ:=Int × Int) (fun st=>(zz3 decls_ [(0,.S 0),(3,.I st.1),(4,.I st.2)])) (fun n st=>z65_l2 decls_ n st.1 st.2) (r:=r) (fun _=>rfl) ?_ (fun ih=>?_))
 ·intro n2 ih3
  rintro ⟨d,e⟩ h
  replace h:z65_l2 decls_ (n2+1) d e=some r:=h
  unfold z65_l2 at h
  obtain ⟨K,h⟩|⟨K,h⟩:=oc' h
  ·exact wH J 8 K (wa J 2 (eSub [] (j1 d h)))
  refine wH J 8 K ?_
  obtain ⟨x9,f,h⟩:=ob h
  exact wa J 8 (eIx J oO0 f (wa J 12 (eSub [] (ih3 ((w64 (d+(x9.Fields.length:Int))),(w64 (e+1))) h))))
 exact eSub [] (ih N (0,0) h)
theorem z116_ct (N:Nat) (s_:T4) (r:Bool) (h:z116 N s_=some r) :
 Fn Tryz.prog 116 ⟨0,[.a (cC4 s_)],[],[],0,.O r,[],[]⟩:=by
 refine eFn func116 rfl (fun E F w=>?_)
 unfold z116 at h
 refine wa J 17 (eCut (σ:=Int × Int) (fun st=>⟨[(1,.B 0 0),(3,.I st.1),(4,.I st.2)],[(0,.box (cC4 s_) 66)],[],1⟩) (fun st=>z116_k1 s_ st.1 st.2=some r) ?_ (fun j1=>?_))
 ·rintro ⟨c,d⟩ h
  replace h:z116_k1 s_ c d=some r:=h
  unfold z116_k1 at h
  obtain ⟨K,h⟩|⟨K,h⟩:=oc h
  ·refine wH J 6 K ?_
   obtain ⟨K,h⟩|⟨K,h⟩:=oc' h
   ·refine wH J 11 K ?_
    cases h
    exact wr J 14 func116 []
   refine wH J 11 K ?_
   obtain ⟨K,h⟩|⟨K,h⟩:=oc h
   ·refine wH J 6 K ?_
    cases h
    exact wr J 8 func116 []
   refine wH J 6 K ?_
   cases h
   exact wr J 8 func116 []
  refine wH J 6 K ?_
  obtain ⟨K,h⟩|⟨K,h⟩:=oc' h
  ·refine wH J 5 K ?_
   cases h
   exact wr J 20 func116 []
  refine wH J 5 K ?_
  obtain ⟨K,h⟩|⟨K,h⟩:=oc' h
  ·refine wH J 6 K ?_
   cases h
   exact wr J 14 func116 []
  refine wH J 6 K ?_
  obtain ⟨K,h⟩|⟨K,h⟩:=oc h
  ·refine wH J 6 K ?_
   cases h
   exact wr J 8 func116 []
  refine wH J 6 K ?_
  cases h
  exact wr J 8 func116 []
 obtain ⟨K,h⟩|⟨K,h⟩:=oc h
 ·exact eK K (wa J 5 (eSub [] (j1 (0,40) h)))
 exact eK K (wa J 2 (eSub [] (j1 ((-1000),1000) h)))
theorem z196_ct (N:Nat) (c_:Int) (r:Bool) (h:z196 N c_=some r) :
 Fn Tryz.prog 196 ⟨0,[.c (.i .u8 c_)],[],[],0,.O r,[],[]⟩:=by
 refine eFn func196 rfl (fun E F w=>?_)
 unfold z196 at h
 obtain ⟨K,h⟩|⟨K,h⟩:=oc' h
 ·refine wH J 9 K ?_
  obtain ⟨K,h⟩|⟨K,h⟩:=oc h
  ·refine wH J 7 K ?_
   cases h
   exact wr J 6 func196 []
  refine wH J 7 K ?_
  cases h
  exact wr J 6 func196 []
 refine wH J 9 K ?_
 obtain ⟨K,h⟩|⟨K,h⟩:=oc h
 ·refine wH J 4 K ?_
  cases h
  exact wr J 9 func196 []
 refine wH J 4 K ?_
 obtain ⟨K,h⟩|⟨K,h⟩:=oc h
 ·refine wH J 3 K ?_
  cases h
  exact wr J 6 func196 []
 refine wH J 3 K ?_
 cases h
 exact wr J 6 func196 []
theorem z218_ct (N:Nat) (c_:Int) (r:Bool) (h:z218 N c_=some r) :
 Fn Tryz.prog 218 ⟨0,[.c (.i .u8 c_)],[],[],0,.O r,[],[]⟩:=by
 refine eFn func218 rfl (fun E F w=>?_)
 unfold z218 at h
 obtain ⟨K,h⟩|⟨K,h⟩:=oc h
 ·refine wH J 9 K ?_
  cases h
  exact wr J 5 func218 []
 refine wH J 9 K ?_
 cases h
 exact wr J 5 func218 []
theorem z197_ct (N:Nat) (c_:Int) (r:Bool) (h:z197 N c_=some r) :
 Fn Tryz.prog 197 ⟨0,[.c (.i .u8 c_)],[],[],0,.O r,[],[]⟩:=by
 refine eFn func197 rfl (fun E F w=>?_)
 unfold z197 at h
 obtain ⟨x1,d,h⟩:=ob h
 refine wa J 7 (eCl (z196_ct N c_ _ d) [] [] ?_)
 obtain ⟨K,h⟩|⟨K,h⟩:=oc h
 ·refine wH J 1 K ?_
  cases h
  exact wr J 9 func197 []
 refine wH J 1 K ?_
 obtain ⟨x2,e,h⟩:=ob h
 refine wa J 1 (eCl (z218_ct N c_ _ e) [] [] ?_)
 obtain ⟨K,h⟩|⟨K,h⟩:=oc h
 ·refine wH J 2 K ?_
  cases h
  exact wr J 5 func197 []
 refine wH J 2 K ?_
 cases h
 exact wr J 5 func197 []
theorem z168_ct (N:Nat) (s_:ByteArray) (r:Bool) (h:z168 N s_=some r) :
 Fn Tryz.prog 168 ⟨0,[.c (.s s_)],[],[],0,.O r,[],[]⟩:=by
 refine eFn func168 rfl (fun E F w=>?_)
 unfold z168 at h
 obtain ⟨K,h⟩|⟨K,h⟩:=oc h
 ·refine wH J 10 K ?_
  cases h
  exact wr J 16 func168 []
 refine wH J 10 K ?_
 obtain ⟨x1,d,h⟩:=ob h
 refine wa J 1 (eSx J d ?_)
 obtain ⟨x2,e,h⟩:=ob h
 refine eCl (z196_ct N x1 _ e) [] [] ?_
 obtain ⟨K,h⟩|⟨K,h⟩:=oc h
 ·refine wH J 3 K ?_
  cases h
  exact wr J 10 func168 []
 refine wH J 3 K ?_
 obtain ⟨K,h⟩|⟨K,h⟩:=oc h
 ·refine wH J 5 K ?_
  cases h
  exact wr J 5 func168 []
 refine wH J 5 K (wa J 7 (eCut (σ:=Unit) (fun st=>(zz0 [])) (fun st=>z168_k1=some r) ?_ (fun j1=>?_)))
 ·intro _ h
  replace h:z168_k1=some r:=h
  unfold z168_k1 at h
  cases h
  exact wr J 4 func168 []
 refine wa J 1 (eLoop (σ:=Int) (fun st=>(zz0 [(0,.c (.s s_)),(3,.I st)])) (fun n st=>z168_l2 N s_ n st) (r:=r) (fun _=>rfl) ?_ (fun ih=>?_))
 ·intro n2 ih3
  intro f h
  replace h:z168_l2 N s_ (n2+1) f=some r:=h
  unfold z168_l2 at h
  obtain ⟨K,h⟩|⟨K,h⟩:=oc' h
  ·exact wH J 8 K (wa J 2 (eSub [] (j1 () h)))
  refine wH J 8 K ?_
  obtain ⟨g,i,h⟩:=ob h
  refine wa J 8 (eSx J i ?_)
  obtain ⟨j,k,h⟩:=ob h
  refine eCl (z197_ct N g _ k) [] [] ?_
  obtain ⟨K,h⟩|⟨K,h⟩:=oc h
  ·refine wH J 2 K ?_
   cases h
   exact wr J 5 func168 []
  exact wH J 2 K (wa J 8 (eSub [] (ih3 (w64 (f+1)) h)))
 exact eSub [] (ih N 0 h)
theorem z170_ct (N:Nat) (r:(List ByteArray)) (h:z170 N=some r) :
 Fn Tryz.prog 170 ⟨0,[],[],[],1,.S 0,[],[(0,.own rS r true)]⟩:=by
 refine eFn func170 rfl (fun E F w=>?_)
 unfold z170 at h
 refine wa J 6 (eBs J [] oS ([(str [97,103,97,105,110]),(str [97,110,100]),(str [97,115]),(str [97,116]),(str [99,97,108,108]),(str [99,104,111,105,99,101]),(str [101,108,115,101]),(str [102,114,111,109]),(str [105,102]),(str [105,110,116]),(str [108,101,110]),(str [108,111,111,112]),(str [109,101,115,115,97,103,101]),(str [111,102]),(str [111,102,102,101,114]),(str [111,110]),(str [111,114]),(str [112,97,114]),(str [112,108,97,121,115]),(str [112,114,111,116,111,99,111,108]),(str [115,101,114,118,105,99,101]),(str [116,101,120,116]),(str [116,105,109,101,115]),(str [116,111]),(str [118,97,114]),(str [119,104,101,114,101]),(str [119,104,105,108,101]),(str [119,105,116,104,105,110])]:List ByteArray) ?_)
 cases h
 exact wr J 2 func170 [(0,.sl 0)]
theorem z169_ct (N:Nat) (l_:(List ByteArray)) (s_:ByteArray) (r:Bool) (h:z169 N l_ s_=some r) :
 Fn Tryz.prog 169 ⟨1,[.S 0,.c (.s s_)],[(0,.sl rS l_)],[],1,.O r,[],[]⟩:=by
 refine eFn func169 rfl (fun E F w=>?_)
 unfold z169 at h
 refine wa J 9 (eCut (σ:=Unit) (fun st=>(zz4 l_ [])) (fun st=>z169_k1=some r) ?_ (fun j1=>?_))
 ·intro _ h
  replace h:z169_k1=some r:=h
  unfold z169_k1 at h
  cases h
  exact wr J 4 func169 []
 refine wa J 1 (eLoop (σ:=Int) (fun st=>(zz4 l_ [(0,.S 0),(1,.c (.s s_)),(5,.I st)])) (fun n st=>z169_l2 l_ s_ n st) (r:=r) (fun _=>rfl) ?_ (fun ih=>?_))
 ·intro n2 ih3
  intro d h
  replace h:z169_l2 l_ s_ (n2+1) d=some r:=h
  unfold z169_l2 at h
  obtain ⟨K,h⟩|⟨K,h⟩:=oc' h
  ·exact wH J 8 K (wa J 2 (eSub [] (j1 () h)))
  refine wH J 8 K ?_
  obtain ⟨x9,e,h⟩:=ob h
  refine wa J 8 (eIx J oS e ?_)
  obtain ⟨K,h⟩|⟨K,h⟩:=oc h
  ·refine wH J 4 K ?_
   cases h
   exact wr J 5 func169 []
  exact wH J 4 K (wa J 8 (eSub [] (ih3 (w64 (d+1)) h)))
 exact eSub [] (ih N 0 h)
theorem z117_ct (N:Nat) (s_:ByteArray) (r:Bool) (h:z117 N s_=some r) :
 Fn Tryz.prog 117 ⟨0,[.c (.s s_)],[],[],0,.O r,[],[]⟩:=by
 refine eFn func117 rfl (fun E F w=>?_)
 unfold z117 at h
 obtain ⟨x1,d,h⟩:=ob h
 refine wa J 7 (eCl (z168_ct N s_ _ d) [] [] ?_)
 obtain ⟨K,h⟩|⟨K,h⟩:=oc' h
 ·refine wH J 1 K ?_
  cases h
  exact wr J 7 func117 []
 refine wH J 1 K ?_
 obtain ⟨x2,e,h⟩:=ob h
 refine eCl (z170_ct N _ e) [] [] ?_
 obtain ⟨x3,f,h⟩:=ob h
 refine wa J 1 (eCb (z169_ct N x2 s_ _ f) [] [(0,.sl 0)] [0] (.inr ⟨rfl,trivial⟩) ?_)
 cases h
 exact wr J 4 func117 []
theorem z171_ct (N:Nat) (s_:ByteArray) (r:Bool) (h:z171 N s_=some r) :
 Fn Tryz.prog 171 ⟨0,[.c (.s s_)],[],[],0,.O r,[],[]⟩:=by
 refine eFn func171 rfl (fun E F w=>?_)
 unfold z171 at h
 obtain ⟨x1,d,h⟩:=ob h
 refine wa J 7 (eCl (z117_ct N s_ _ d) [] [] ?_)
 cases h
 exact wr J 2 func171 []
theorem z118_ct (N:Nat) (s_:ByteArray) (r:Bool) (h:z118 N s_=some r) :
 Fn Tryz.prog 118 ⟨0,[.c (.s s_)],[],[],0,.O r,[],[]⟩:=by
 refine eFn func118 rfl (fun E F w=>?_)
 unfold z118 at h
 refine wa J 13 (eCut (σ:=Unit) (fun st=>(zz0 [(0,.c (.s s_))])) (fun st=>z118_k1 s_=some r) ?_ (fun j1=>?_))
 ·intro _ h
  replace h:z118_k1 s_=some r:=h
  unfold z118_k1 at h
  cases h
  exact wr J 7 func118 []
 refine wa J 1 (eLoop (σ:=Int × Int) (fun st=>(zz0 [(0,.c (.s s_)),(3,.I st.1),(4,.I st.2)])) (fun n st=>z118_l2 N s_ n st.1 st.2) (r:=r) (fun _=>rfl) ?_ (fun ih=>?_))
 ·intro n2 ih6
  rintro ⟨d,e⟩ h
  replace h:z118_l2 N s_ (n2+1) d e=some r:=h
  unfold z118_l2 at h
  obtain ⟨K,h⟩|⟨K,h⟩:=oc' h
  ·exact wH J 8 K (wa J 2 (eSub [] (j1 () h)))
  refine wH J 8 K ?_
  refine wa J 11 (eCut (σ:=Bool) (fun st=>(zz0 [(0,.c (.s s_)),(3,.I d),(4,.I e),(20,.O st)])) (fun st=>z118_k3 N s_ d e (z118_l2 N s_ n2) st=some r) ?_ (fun j9=>?_))
  ·intro f h
   replace h:z118_k3 N s_ d e (z118_l2 N s_ n2) f=some r:=h
   unfold z118_k3 at h
   obtain ⟨K,h⟩|⟨K,h⟩:=oc' h
   ·exact eK K (wa J 8 (eSub [] (ih6 (d,(w64 (e+1))) h)))
   refine eK K ?_
   obtain ⟨g,i,h⟩:=ob h
   refine wa J 7 (eSs J i ?_)
   obtain ⟨j,k,h⟩:=ob h
   refine eCl (z171_ct N g _ k) [] [] ?_
   obtain ⟨K,h⟩|⟨K,h⟩:=oc h
   ·refine wH J 2 K ?_
    cases h
    exact wr J 5 func118 []
   exact wH J 2 K (wa J 13 (eSub [] (ih6 ((w64 (e+1)),(w64 (e+1))) h)))
  obtain ⟨K,h⟩|⟨K,h⟩:=oc h
  ·exact eK K (wa J 6 (eSub [] (j9 true h)))
  refine eK K ?_
  obtain ⟨l,m,h⟩:=ob h
  exact wa J 2 (eSx J m (wa J 3 (eSub [] (j9 (l==46) h))))
 exact eSub [] (ih N (0,0) h)
theorem z67_ct (N:Nat) (decls_:(List T0)) (x_:Int) (r:T2) (h:z67 N decls_ x_=some r) :
 Fn Tryz.prog 67 ⟨1,[.S 0,.I x_],[(0,.sl rR0 decls_)],[],1,.a (cC2 r),[],[]⟩:=by
 refine eFn func67 rfl (fun E F w=>?_)
 unfold z67 at h
 refine wa J 9 (eCut (σ:=Unit) (fun st=>⟨[(4,.B 1 0)],[(1,.box [.s (str []),.I 0,.I 0,.I 0] 68)],[(0,.sl rR0 decls_)],2⟩) (fun st=>z67_k1=some r) ?_ (fun j1=>?_))
 ·intro _ h
  replace h:z67_k1=some r:=h
  unfold z67_k1 at h
  cases h
  exact wr J 5 func67 []
 refine wa J 1 (eLoop (σ:=Int × Int) (fun st=>⟨[(0,.S 0),(1,.I st.1),(4,.B 1 0),(5,.I st.2)],[(1,.box [.s (str []),.I 0,.I 0,.I 0] 68)],[(0,.sl rR0 decls_)],2⟩) (fun n st=>z67_l2 decls_ n st.1 st.2) (r:=r) (fun _=>rfl) ?_ (fun ih=>?_))
 ·intro n2 ih3
  rintro ⟨c,d⟩ h
  replace h:z67_l2 decls_ (n2+1) c d=some r:=h
  unfold z67_l2 at h
  obtain ⟨K,h⟩|⟨K,h⟩:=oc' h
  ·exact wH J 8 K (wa J 2 (eSub [] (j1 () h)))
  refine wH J 8 K ?_
  obtain ⟨e,f,h⟩:=ob h
  refine wa J 10 (eIx J oO0 f ?_)
  obtain ⟨K,h⟩|⟨K,h⟩:=oc' h
  ·refine wH J 5 K ?_
   obtain ⟨g,i,h⟩:=ob h
   exact wa J 6 (eIx J oO0 i (wa J 12 (eSub [] (ih3 ((w64 (c-(g.Fields.length:Int))),(w64 (d+1))) h))))
  refine wH J 5 K ?_
  obtain ⟨j,k,h⟩:=ob h
  refine wa J 5 (eIx J oO0 k ?_)
  obtain ⟨l,m,h⟩:=ob h
  refine wa J 3 (eIx J oO2 m ?_)
  cases h
  exact wr J 3 func67 []
 exact eSub [] (ih N (x_,0) h)
theorem z172_ct (N:Nat) (decls_:(List T0)) (x_:Int) (r:Bool) (h:z172 N decls_ x_=some r) :
 Fn Tryz.prog 172 ⟨1,[.S 0,.I x_],[(0,.sl rR0 decls_)],[],1,.O r,[],[]⟩:=by
 refine eFn func172 rfl (fun E F w=>?_)
 unfold z172 at h
 obtain ⟨K,h⟩|⟨K,h⟩:=oc' h
 ·refine wH J 9 K ?_
  cases h
  exact wr J 15 func172 []
 refine wH J 9 K ?_
 obtain ⟨x1,c,h⟩:=ob h
 refine wa J 2 (eCl (z65_ct N decls_ _ c) [] [(0,.sl 0)] ?_)
 obtain ⟨K,h⟩|⟨K,h⟩:=oc' h
 ·refine wH J 3 K ?_
  cases h
  exact wr J 9 func172 []
 refine wH J 3 K ?_
 obtain ⟨x2,d,h⟩:=ob h
 refine wa J 2 (eCl (z67_ct N decls_ x_ _ d) [] [(0,.sl 0)] ?_)
 cases h
 exact wr J 6 func172 []
theorem z119_ct (N:Nat) (decls_:(List T0)) (g_:T3) (r:Bool) (h:z119 N decls_ g_=some r) :
 Fn Tryz.prog 119 ⟨3,[.S 0,.a [.sl 1,.sl 2]],[(0,.sl rR0 decls_),(1,.sl rR1 g_.Diffs),(2,.sl (rP (rI .i64) (rI .i64)) g_.Equals)],[],3,.O r,[],[]⟩:=by
 refine eFn func119 rfl (fun E F w=>?_)
 unfold z119 at h
 obtain ⟨x1,c,h⟩:=ob h
 refine wa J 8 (eCl (z65_ct N decls_ _ c) [] [(0,.sl 0)] (wa J 7 (eCut (σ:=Unit) (fun st=>(zz11 decls_ g_.Diffs g_.Equals [(0,.S 0),(3,.B 3 0)])) (fun st=>z119_k3 N decls_ g_=some r) ?_ (fun j1=>?_))))
 ·intro _ h
  replace h:z119_k3 N decls_ g_=some r:=h
  unfold z119_k3 at h
  refine wa J 5 (eCut (σ:=Unit) (fun st=>(zz11 decls_ g_.Diffs g_.Equals [(3,.B 3 0)])) (fun st=>z119_k1 g_=some r) ?_ (fun j3=>?_))
  ·intro _ h
   replace h:z119_k1 g_=some r:=h
   unfold z119_k1 at h
   obtain ⟨K,h⟩|⟨K,h⟩:=oc h
   ·refine wH J 7 K ?_
    cases h
    exact wr J 7 func119 []
   refine wH J 7 K ?_
   cases h
   exact wr J 7 func119 []
  refine wa J 1 (eLoop (σ:=Int) (fun st=>(zz11 decls_ g_.Diffs g_.Equals [(0,.S 0),(3,.B 3 0),(8,.I st)])) (fun n st=>z119_l2 N decls_ g_ n st) (r:=r) (fun _=>rfl) ?_ (fun ih=>?_))
  ·intro n3 ih5
   intro d h
   replace h:z119_l2 N decls_ g_ (n3+1) d=some r:=h
   unfold z119_l2 at h
   obtain ⟨K,h⟩|⟨K,h⟩:=oc' h
   ·exact wH J 9 K (wa J 2 (eSub [] (j3 () h)))
   refine wH J 9 K ?_
   obtain ⟨e,f,h⟩:=ob h
   refine wa J 10 (eIx J (oP (oI .i64) (oI .i64)) f (eAq 0 rfl ?_))
   obtain ⟨g,i,h⟩:=ob h
   refine wa J 1 (eCl (z172_ct N decls_ e.1 _ i) [] [(0,.sl 0)] ?_)
   obtain ⟨K,h⟩|⟨K,h⟩:=oc h
   ·refine wH J 2 K ?_
    cases h
    exact wr J 16 func119 []
   refine wH J 2 K ?_
   obtain ⟨j,k,h⟩:=ob h
   refine wa J 4 (eIx J (oP (oI .i64) (oI .i64)) k (eAq 1 rfl ?_))
   obtain ⟨l,m,h⟩:=ob h
   refine wa J 1 (eCl (z172_ct N decls_ j.2 _ m) [] [(0,.sl 0)] ?_)
   obtain ⟨K,h⟩|⟨K,h⟩:=oc h
   ·refine wH J 3 K ?_
    cases h
    exact wr J 5 func119 []
   exact wH J 3 K (wa J 8 (eSub [] (ih5 (w64 (d+1)) h)))
  exact eSub [] (ih N 0 h)
 refine wa J 1 (eLoop (σ:=Int) (fun st=>(zz11 decls_ g_.Diffs g_.Equals [(0,.S 0),(3,.B 3 0),(5,.I x1),(6,.I st)])) (fun n st=>z119_l4 N decls_ g_ x1 n st) (r:=r) (fun _=>rfl) ?_ (fun ih=>?_))
 ·intro n4 ih6
  intro o h
  replace h:z119_l4 N decls_ g_ x1 (n4+1) o=some r:=h
  unfold z119_l4 at h
  obtain ⟨K,h⟩|⟨K,h⟩:=oc' h
  ·exact wH J 9 K (wa J 2 (eSub [] (j1 () h)))
  refine wH J 9 K ?_
  obtain ⟨p,q,h⟩:=ob h
  refine wa J 9 (eIx J oO1 q ?_)
  obtain ⟨K,h⟩|⟨K,h⟩:=oc h
  ·refine wH J 10 K ?_
   cases h
   exact wr J 32 func119 []
  refine wH J 10 K ?_
  obtain ⟨K,h⟩|⟨K,h⟩:=oc h
  ·refine wH J 6 K ?_
   cases h
   exact wr J 26 func119 []
  refine wH J 6 K ?_
  obtain ⟨K,h⟩|⟨K,h⟩:=oc h
  ·refine wH J 5 K ?_
   cases h
   exact wr J 21 func119 []
  refine wH J 5 K ?_
  obtain ⟨K,h⟩|⟨K,h⟩:=oc h
  ·refine wH J 6 K ?_
   cases h
   exact wr J 15 func119 []
  refine wH J 6 K ?_
  obtain ⟨K,h⟩|⟨K,h⟩:=oc h
  ·refine wH J 5 K ?_
   cases h
   exact wr J 10 func119 []
  refine wH J 5 K ?_
  obtain ⟨K,h⟩|⟨K,h⟩:=oc h
  ·refine wH J 5 K ?_
   cases h
   exact wr J 5 func119 []
  exact wH J 5 K (wa J 8 (eSub [] (ih6 (w64 (o+1)) h)))
 exact eSub [] (ih N 0 h)
theorem z64_ct (N:Nat) (decls_:(List T0)) (r:Bool) (h:z64 N decls_=some r) :
 Fn Tryz.prog 64 ⟨1,[.S 0],[(0,.sl rR0 decls_)],[],1,.O r,[],[]⟩:=by
 refine eFn func64 rfl (fun E F w=>?_)
 unfold z64 at h
 obtain ⟨K,h⟩|⟨K,h⟩:=oc h
 ·refine wH J 11 K ?_
  cases h
  exact wr J 10 func64 []
 refine wH J 11 K ?_
 obtain ⟨x1,c,h⟩:=ob h
 refine wa J 1 (eCl (z65_ct N decls_ _ c) [] [(0,.sl 0)] ?_)
 obtain ⟨K,h⟩|⟨K,h⟩:=oc h
 ·refine wH J 3 K ?_
  cases h
  exact wr J 5 func64 []
 refine wH J 3 K (wa J 11 (eCut (σ:=Unit) (fun st=>(zz3 decls_ [])) (fun st=>z64_k1=some r) ?_ (fun j1=>?_)))
 ·intro _ h
  replace h:z64_k1=some r:=h
  unfold z64_k1 at h
  cases h
  exact wr J 4 func64 []
 refine wa J 1 (eLoop (σ:=Int × Int) (fun st=>(zz3 decls_ [(0,.S 0),(3,.I st.1),(4,.I st.2)])) (fun n st=>z64_l2 N decls_ n st.1 st.2) (r:=r) (fun _=>rfl) ?_ (fun ih=>?_))
 ·intro n82 ih75
  rintro ⟨d,e⟩ h
  replace h:z64_l2 N decls_ (n82+1) d e=some r:=h
  unfold z64_l2 at h
  obtain ⟨K,h⟩|⟨K,h⟩:=oc' h
  ·exact wH J 8 K (wa J 2 (eSub [] (j1 () h)))
  refine wH J 8 K ?_
  obtain ⟨f,g,h⟩:=ob h
  refine wa J 8 (eIx J oO0 g (wa J 9 (eCut (σ:=Unit) (fun st=>(zz12 f decls_ [(0,.S 0),(3,.I d),(4,.I e),(5,.B 5 0)])) (fun st=>z64_k7 N decls_ d e (z64_l2 N decls_ n82) f=some r) ?_ (fun j124=>?_))))
  ·intro _ h
   replace h:z64_k7 N decls_ d e (z64_l2 N decls_ n82) f=some r:=h
   unfold z64_k7 at h
   refine wa J 5 (eCut (σ:=Unit) (fun st=>(zz12 f decls_ [(0,.S 0),(3,.I d),(4,.I e),(5,.B 5 0)])) (fun st=>z64_k3 N decls_ d e (z64_l2 N decls_ n82) f=some r) ?_ (fun j126=>?_))
   ·intro _ h
    replace h:z64_k3 N decls_ d e (z64_l2 N decls_ n82) f=some r:=h
    unfold z64_k3 at h
    obtain ⟨i,j,h⟩:=ob h
    refine wa J 5 (eCl (z118_ct N f.Name _ j) [] [] ?_)
    obtain ⟨K,h⟩|⟨K,h⟩:=oc h
    ·refine wH J 2 K ?_
     cases h
     exact wr J 24 func64 []
    refine wH J 2 K ?_
    obtain ⟨K,h⟩|⟨K,h⟩:=oc h
    ·refine wH J 6 K ?_
     cases h
     exact wr J 18 func64 []
    refine wH J 6 K ?_
    obtain ⟨K,h⟩|⟨K,h⟩:=oc h
    ·refine wH J 6 K ?_
     cases h
     exact wr J 12 func64 []
    refine wH J 6 K ?_
    obtain ⟨k,l,h⟩:=ob h
    refine wa J 3 (eCl (z119_ct N decls_ f.Guard _ l) [] [(0,.sl 0),(1,.sl 3),(2,.sl 4)] ?_)
    obtain ⟨K,h⟩|⟨K,h⟩:=oc h
    ·refine wH J 3 K ?_
     cases h
     exact wr J 5 func64 []
    exact wH J 3 K (wa J 16 (eSub [] (ih75 ((w64 (d+(f.Fields.length:Int))),(w64 (e+1))) h)))
   refine wa J 1 (eLoop (σ:=Int) (fun st=>(zz12 f decls_ [(0,.S 0),(3,.I d),(4,.I e),(5,.B 5 0),(7,.I st)])) (fun n st=>z64_l4 N decls_ d e (z64_l2 N decls_ n82) f n st) (r:=r) (fun _=>rfl) ?_ (fun ih=>?_))
   ·intro n95 ih137
    intro m h
    replace h:z64_l4 N decls_ d e (z64_l2 N decls_ n82) f (n95+1) m=some r:=h
    unfold z64_l4 at h
    obtain ⟨K,h⟩|⟨K,h⟩:=oc' h
    ·exact wH J 9 K (wa J 2 (eSub [] (j126 () h)))
    refine wH J 9 K ?_
    obtain ⟨o,p,h⟩:=ob h
    refine wa J 10 (eIx J oO2 p ?_)
    obtain ⟨q,s,h⟩:=ob h
    refine wa J 2 (eCl (z116_ct N o.Sort' _ s) [] [] ?_)
    obtain ⟨K,h⟩|⟨K,h⟩:=oc h
    ·refine wH J 2 K ?_
     cases h
     exact wr J 15 func64 []
    refine wH J 2 K ?_
    obtain ⟨t,u,h⟩:=ob h
    refine wa J 3 (eIx J oO2 u ?_)
    obtain ⟨v,x,h⟩:=ob h
    refine wa J 2 (eCl (z117_ct N t.Name _ x) [] [] ?_)
    obtain ⟨K,h⟩|⟨K,h⟩:=oc h
    ·refine wH J 3 K ?_
     cases h
     exact wr J 5 func64 []
    refine wH J 3 K (wa J 6 (eCut (σ:=Unit) (fun st=>⟨[(0,.S 0),(3,.I d),(4,.I e),(5,.B 5 0),(7,.I m)],[(5,.box (cC0 2 3 4 f) 51)],((0,.sl rR0 decls_)::vV0 2 3 4 f []),8⟩) (fun st=>z64_k5 m (z64_l4 N decls_ d e (z64_l2 N decls_ n82) f n95)=some r) ?_ (fun j144=>?_)))
    ·intro _ h
     replace h:z64_k5 m (z64_l4 N decls_ d e (z64_l2 N decls_ n82) f n95)=some r:=h
     unfold z64_k5 at h
     exact wa J 6 (eSub [] (ih137 (w64 (m+1)) h))
    refine wa J 1 (eLoop (σ:=Int) (fun st=>⟨[(0,.S 0),(3,.I d),(4,.I e),(5,.B 5 0),(7,.I m),(8,.I st)],[(5,.box (cC0 2 3 4 f) 51)],((0,.sl rR0 decls_)::vV0 2 3 4 f []),8⟩) (fun n st=>z64_l6 f m (z64_l4 N decls_ d e (z64_l2 N decls_ n82) f n95) n st) (r:=r) (fun _=>rfl) ?_ (fun ih=>?_))
    ·intro n97 ih146
     intro y h
     replace h:z64_l6 f m (z64_l4 N decls_ d e (z64_l2 N decls_ n82) f n95) (n97+1) y=some r:=h
     unfold z64_l6 at h
     obtain ⟨K,h⟩|⟨K,h⟩:=oc' h
     ·exact wH J 7 K (wa J 2 (eSub [] (j144 () h)))
     refine wH J 7 K ?_
     obtain ⟨z,A,h⟩:=ob h
     refine wa J 9 (eIx J oO2 A ?_)
     obtain ⟨C,D,h⟩:=ob h
     refine wa J 5 (eIx J oO2 D (wa J 3 (eEnd ?_)))
     obtain ⟨K,h⟩|⟨K,h⟩:=oc h
     ·refine eK K ?_
      cases h
      exact wr J 5 func64 []
     exact eK K (wa J 8 (eSub [] (ih146 (w64 (y+1)) h)))
    exact eSub [] (ih N 0 h)
   exact eSub [] (ih N 0 h)
  refine wa J 1 (eLoop (σ:=Int) (fun st=>(zz12 f decls_ [(0,.S 0),(3,.I d),(4,.I e),(5,.B 5 0),(6,.I st)])) (fun n st=>z64_l8 N decls_ d e (z64_l2 N decls_ n82) f n st) (r:=r) (fun _=>rfl) ?_ (fun ih=>?_))
  ·intro n98 ih147
   intro G h
   replace h:z64_l8 N decls_ d e (z64_l2 N decls_ n82) f (n98+1) G=some r:=h
   unfold z64_l8 at h
   obtain ⟨K,h⟩|⟨K,h⟩:=oc' h
   ·exact wH J 7 K (wa J 2 (eSub [] (j124 () h)))
   refine wH J 7 K ?_
   obtain ⟨H,R,h⟩:=ob h
   refine wa J 8 (eIx J oO0 R (wa J 5 (eEnd ?_)))
   obtain ⟨K,h⟩|⟨K,h⟩:=oc h
   ·refine eK K ?_
    cases h
    exact wr J 5 func64 []
   exact eK K (wa J 8 (eSub [] (ih147 (w64 (G+1)) h)))
  exact eSub [] (ih N 0 h)
 exact eSub [] (ih N (0,0) h)
theorem z24_ct (N:Nat) (decls_:(List T0)) (label_:Int) (r:Bool) (h:z24 N decls_ label_=some r) :
 Fn Tryz.prog 24 ⟨1,[.S 0,.I label_],[(0,.sl rR0 decls_)],[],1,.O r,[],[]⟩:=by
 refine eFn func24 rfl (fun E F w=>?_)
 unfold z24 at h
 obtain ⟨x1,c,h⟩:=ob h
 refine wa J 7 (eCl (z64_ct N decls_ _ c) [] [(0,.sl 0)] ?_)
 obtain ⟨K,h⟩|⟨K,h⟩:=oc' h
 ·refine wH J 1 K ?_
  cases h
  exact wr J 11 func24 []
 refine wH J 1 K ?_
 obtain ⟨K,h⟩|⟨K,h⟩:=oc h
 ·refine wH J 4 K ?_
  cases h
  exact wr J 7 func24 []
 refine wH J 4 K ?_
 cases h
 exact wr J 7 func24 []
theorem z31_ct (N:Nat) (v_:T5) (r:Int) (h:z31 N v_=some r) :
 Fn Tryz.prog 31 ⟨0,[.a (cC5 v_)],[],[],0,.I r,[],[]⟩:=by
 refine eFn func31 rfl (fun E F w=>?_)
 unfold z31 at h
 obtain ⟨K,h⟩|⟨K,h⟩:=oc h
 ·refine wH J 12 K ?_
  cases h
  exact wr J 8 func31 []
 refine wH J 12 K ?_
 cases h
 exact wr J 8 func31 []
theorem z66_ct (N:Nat) (s_:T4) (v_:T5) (r:Bool) (h:z66 N s_ v_=some r) :
 Fn Tryz.prog 66 ⟨0,[.a (cC4 s_),.a (cC5 v_)],[],[],0,.O r,[],[]⟩:=by
 refine eFn func66 rfl (fun E F w=>?_)
 unfold z66 at h
 refine wa J 11 (eCut (σ:=Unit) (fun st=>(zz17 s_ v_ [(2,.B 0 0),(3,.B 1 0)])) (fun st=>z66_k2 N s_ v_=some r) ?_ (fun j1=>?_))
 ·intro _ h
  replace h:z66_k2 N s_ v_=some r:=h
  unfold z66_k2 at h
  refine wa J 7 (eCut (σ:=Bool) (fun st=>(zz17 s_ v_ [(2,.B 0 0),(3,.B 1 0),(42,.O st)])) (fun st=>z66_k1 N s_ v_ st=some r) ?_ (fun j3=>?_))
  ·intro c h
   replace h:z66_k1 N s_ v_ c=some r:=h
   unfold z66_k1 at h
   obtain ⟨K,h⟩|⟨K,h⟩:=oc h
   ·refine eK K ?_
    cases h
    exact wr J 5 func66 []
   refine eK K ?_
   obtain ⟨K,h⟩|⟨K,h⟩:=oc' h
   ·refine wH J 10 K (wa J 14 (eEnd ?_))
    cases h
    exact eRet J func66 []
   refine wH J 10 K ?_
   obtain ⟨x9,d,h⟩:=ob h
   refine wa J 1 (eCl (z31_ct N v_ _ d) [] [] ?_)
   obtain ⟨K,h⟩|⟨K,h⟩:=oc' h
   ·refine wH J 5 K (wa J 7 (eEnd ?_))
    cases h
    exact eRet J func66 []
   refine wH J 5 K ?_
   obtain ⟨e,f,h⟩:=ob h
   refine wa J 1 (eCl (z31_ct N v_ _ f) [] [] (wa J 5 (eEnd ?_)))
   cases h
   exact eRet J func66 []
  obtain ⟨K,h⟩|⟨K,h⟩:=oc' h
  ·refine eK K ?_
   obtain ⟨K,h⟩|⟨K,h⟩:=oc h
   ·exact wH J 9 K (wa J 6 (eSub [] (j3 (!(v_.S.toList==(str []).toList)) h)))
   exact wH J 9 K (wa J 6 (eSub [] (j3 false h)))
  refine eK K ?_
  obtain ⟨K,h⟩|⟨K,h⟩:=oc h
  ·exact wH J 5 K (wa J 10 (eSub [] (j3 true h)))
  refine wH J 5 K ?_
  obtain ⟨K,h⟩|⟨K,h⟩:=oc h
  ·exact wH J 4 K (wa J 6 (eSub [] (j3 (!(v_.S.toList==(str []).toList)) h)))
  exact wH J 4 K (wa J 6 (eSub [] (j3 false h)))
 refine wa J 1 (eLoop (σ:=Int) (fun st=>(zz17 s_ v_ [(2,.B 0 0),(3,.B 1 0),(5,.I st)])) (fun n st=>z66_l3 N s_ v_ n st) (r:=r) (fun _=>rfl) ?_ (fun ih=>?_))
 ·intro n2 ih4
  intro g h
  replace h:z66_l3 N s_ v_ (n2+1) g=some r:=h
  unfold z66_l3 at h
  obtain ⟨K,h⟩|⟨K,h⟩:=oc' h
  ·exact wH J 9 K (wa J 2 (eSub [] (j1 () h)))
  refine wH J 9 K ?_
  obtain ⟨i,j,h⟩:=ob h
  refine wa J 9 (eSx J j ?_)
  obtain ⟨K,h⟩|⟨K,h⟩:=oc h
  ·refine wH J 2 K ?_
   cases h
   exact wr J 12 func66 []
  refine wH J 2 K ?_
  obtain ⟨k,l,h⟩:=ob h
  refine wa J 3 (eSx J l ?_)
  obtain ⟨K,h⟩|⟨K,h⟩:=oc h
  ·refine wH J 3 K ?_
   cases h
   exact wr J 5 func66 []
  exact wH J 3 K (wa J 8 (eSub [] (ih4 (w64 (g+1)) h)))
 exact eSub [] (ih N 0 h)
theorem z25_ct (N:Nat) (decls_:(List T0)) (known_:(List T5)) (r:Bool) (h:z25 N decls_ known_=some r) :
 Fn Tryz.prog 25 ⟨2,[.S 0,.S 1],[(0,.sl rR0 decls_),(1,.sl rR5 known_)],[],2,.O r,[],[]⟩:=by
 refine eFn func25 rfl (fun E F w=>?_)
 unfold z25 at h
 obtain ⟨x1,c,h⟩:=ob h
 refine wa J 10 (eCl (z65_ct N decls_ _ c) [] [(0,.sl 0)] ?_)
 obtain ⟨K,h⟩|⟨K,h⟩:=oc h
 ·refine wH J 2 K ?_
  cases h
  exact wr J 5 func25 []
 refine wH J 2 K (wa J 7 (eCut (σ:=Unit) (fun st=>⟨[],[],[(0,.sl rR0 decls_),(1,.sl rR5 known_)],2⟩) (fun st=>z25_k1=some r) ?_ (fun j1=>?_)))
 ·intro _ h
  replace h:z25_k1=some r:=h
  unfold z25_k1 at h
  cases h
  exact wr J 4 func25 []
 refine wa J 1 (eLoop (σ:=Int) (fun st=>⟨[(0,.S 0),(1,.S 1),(5,.I st)],[],[(0,.sl rR0 decls_),(1,.sl rR5 known_)],2⟩) (fun n st=>z25_l2 N decls_ known_ n st) (r:=r) (fun _=>rfl) ?_ (fun ih=>?_))
 ·intro n2 ih3
  intro d h
  replace h:z25_l2 N decls_ known_ (n2+1) d=some r:=h
  unfold z25_l2 at h
  obtain ⟨K,h⟩|⟨K,h⟩:=oc' h
  ·exact wH J 8 K (wa J 2 (eSub [] (j1 () h)))
  refine wH J 8 K ?_
  obtain ⟨e,f,h⟩:=ob h
  refine wa J 8 (eIx J oO5 f (wa J 2 (eEq ?_)))
  obtain ⟨K,h⟩|⟨K,h⟩:=oc' h
  ·exact wH J 1 K (wa J 11 (eEnd (wa J 8 (eSub [] (ih3 (w64 (d+1)) h)))))
  refine wH J 1 K ?_
  obtain ⟨g,i,h⟩:=ob h
  refine wa J 2 (eCl (z67_ct N decls_ d _ i) [] [(0,.sl 0)] ?_)
  obtain ⟨j,k,h⟩:=ob h
  refine wa J 3 (eIx J oO5 k ?_)
  obtain ⟨l,m,h⟩:=ob h
  refine wa J 1 (eCl (z66_ct N g.Sort' j _ m) [] [] (wa J 2 (eEnd ?_)))
  obtain ⟨K,h⟩|⟨K,h⟩:=oc h
  ·refine eK K ?_
   cases h
   exact wr J 5 func25 []
  exact eK K (wa J 8 (eSub [] (ih3 (w64 (d+1)) h)))
 exact eSub [] (ih N 0 h)
theorem z26_ct (N:Nat) (decls_:(List T0)) (label_:Int) (r:(List T1) × Int) (h:z26 N decls_ label_=some r) :
 Fn Tryz.prog 26 ⟨1,[.S 0,.I label_],[(0,.sl rR0 decls_)],[],2,.t [.inl (.sl 1),.inl (.I r.2)],[],[(1,.own rR1 r.1 true)]⟩:=by
 refine eFn func26 rfl (fun E F w=>?_)
 unfold z26 at h
 obtain ⟨x1,c,h⟩:=ob h
 refine wa J 10 (eCl (z24_ct N decls_ label_ _ c) [] [(0,.sl 0)] ?_)
 obtain ⟨K,h⟩|⟨K,h⟩:=oc h
 ·refine wH J 2 K ?_
  cases h
  exact wr J 6 func26 [(1,.nil)]
 refine wH J 2 K ?_
 obtain ⟨x2,d,h⟩:=ob h
 refine wa J 10 (eIx J oO0 d (wa J 9 (eCut (σ:=(List T1)) (fun st=>(zz23 x2 st decls_ [(6,.S 6),(7,.B 5 0)])) (fun st=>z26_k3 N x2 st=some r) ?_ (fun j1=>?_))))
 ·intro e h
  replace h:z26_k3 N x2 e=some r:=h
  unfold z26_k3 at h
  obtain ⟨f,g,h⟩:=ob h
  refine wa J 6 (eAp J rR1 g (wa J 7 (eCut (σ:=(List T1)) (fun st=>⟨[(6,.S 8)],[(8,.own rR1 st true)],[(0,.sl rR0 decls_)],9⟩) (fun st=>z26_k1 st=some r) ?_ (fun j3=>?_))))
  ·intro i h
   replace h:z26_k1 i=some r:=h
   unfold z26_k1 at h
   cases h
   exact wr J 6 func26 [(1,.sl 8)]
  refine wa J 1 (eLoop (σ:=(List T1) × Int) (fun st=>⟨[(6,.S 8),(7,.B 5 0),(10,.I st.2)],[(5,.box (cC0 2 3 4 x2) 51),(8,.own rR1 st.1 true)],((0,.sl rR0 decls_)::vV0 2 3 4 x2 []),9⟩) (fun n st=>z26_l2 x2 n st.1 st.2) (r:=r) (fun _=>rfl) ?_ (fun ih=>?_))
  ·intro n3 ih5
   rintro ⟨j,k⟩ h
   replace h:z26_l2 x2 (n3+1) j k=some r:=h
   unfold z26_l2 at h
   obtain ⟨K,h⟩|⟨K,h⟩:=oc' h
   ·exact wH J 10 K (wa J 2 (eSub [] (j3 j h)))
   refine wH J 10 K ?_
   obtain ⟨l,m,h⟩:=ob h
   refine wa J 10 (eIx J (oP (oI .i64) (oI .i64)) m (eAq 0 rfl ?_))
   obtain ⟨o,p,h⟩:=ob h
   refine wa J 5 (eIx J (oP (oI .i64) (oI .i64)) p (eAq 1 rfl (wa J 3 (eEnd (wa J 8 (eBs J [] oO1 ([(⟨l.1,o.2,0⟩:T1),(⟨o.2,l.1,0⟩:T1)]:List T1) ?_))))))
   obtain ⟨q,s,h⟩:=ob h
   exact eAp J rR1 s (wa J 8 (eSub [(8,.sl 12)] (ih5 (q,(w64 (k+1))) h)))
  exact eSub [(8,.sl 7)] (ih N (f,0) h)
 refine wa J 1 (eLoop (σ:=(List T1) × Int) (fun st=>(zz23 x2 st.1 decls_ [(6,.S 6),(7,.B 5 0),(8,.I st.2)])) (fun n st=>z26_l4 N x2 n st.1 st.2) (r:=r) (fun _=>rfl) ?_ (fun ih=>?_))
 ·intro n4 ih6
  rintro ⟨u,v⟩ h
  replace h:z26_l4 N x2 (n4+1) u v=some r:=h
  unfold z26_l4 at h
  obtain ⟨K,h⟩|⟨K,h⟩:=oc' h
  ·exact wH J 9 K (wa J 2 (eSub [] (j1 u h)))
  refine wH J 9 K ?_
  obtain ⟨x,y,h⟩:=ob h
  refine wa J 18 (eIx J oO2 y ?_)
  obtain ⟨z,A,h⟩:=ob h
  refine wa J 8 (eIx J oO2 A (wa J 5 (eBs J [] oO1 ([(⟨(w64 (x2.First+v)),(-1),x.Sort'.Hi⟩:T1),(⟨(-1),(w64 (x2.First+v)),(w64 (0-z.Sort'.Lo))⟩:T1)]:List T1) ?_)))
  obtain ⟨C,D,h⟩:=ob h
  exact eAp J rR1 D (wa J 1 (eEnd (wa J 6 (eSub [(6,.sl 10)] (ih6 (C,(w64 (v+1))) h)))))
 exact eSub [(6,.nil)] (ih N (([]:List T1),0) h)
theorem z32_ct (N:Nat) (d_:T0) (x_:Int) (r:Bool) (h:z32 N d_ x_=some r) :
 Fn Tryz.prog 32 ⟨3,[.a (cC0 0 1 2 d_),.I x_],(vV0 0 1 2 d_ []),[],3,.O r,[],[]⟩:=by
 refine eFn func32 rfl (fun E F w=>?_)
 unfold z32 at h
 obtain ⟨K,h⟩|⟨K,h⟩:=oc h
 ·refine wH J 12 K ?_
  cases h
  exact wr J 11 func32 []
 refine wH J 12 K ?_
 cases h
 exact wr J 11 func32 []
theorem z27_ct (N:Nat) (d_:T0) (known_:(List T5)) (x_:Int) (r:Bool) (h:z27 N d_ known_ x_=some r) :
 Fn Tryz.prog 27 ⟨4,[.a (cC0 0 1 2 d_),.S 3,.I x_],(vV0 0 1 2 d_ [(3,.sl rR5 known_)]),[],4,.O r,[],[]⟩:=by
 refine eFn func27 rfl (fun E F w=>?_)
 unfold z27 at h
 obtain ⟨K,h⟩|⟨K,h⟩:=oc' h
 ·refine wH J 10 K ?_
  cases h
  exact wr J 15 func27 []
 refine wH J 10 K ?_
 obtain ⟨x1,c,h⟩:=ob h
 refine wa J 2 (eCl (z32_ct N d_ x_ _ c) [] [(0,.sl 0),(1,.sl 1),(2,.sl 2)] ?_)
 obtain ⟨K,h⟩|⟨K,h⟩:=oc' h
 ·refine wH J 3 K ?_
  cases h
  exact wr J 9 func27 []
 refine wH J 3 K ?_
 obtain ⟨x2,d,h⟩:=ob h
 refine wa J 2 (eIx J oO5 d ?_)
 cases h
 exact wr J 6 func27 []
theorem z28_ct (N:Nat) (d_:T0) (known_:(List T5)) (r:(List ByteArray) × (List Bool) × Bool) (h:z28 N d_ known_=some r) :
 Fn Tryz.prog 28 ⟨4,[.a (cC0 0 1 2 d_),.S 3],(vV0 0 1 2 d_ [(3,.sl rR5 known_)]),[],6,.t [.inl (.sl 4),.inl (.sl 5),.inl (.b r.2.2)],[],[(4,.own rS r.1 true),(5,.own rB r.2.1 true)]⟩:=by
 refine eFn func28 rfl (fun E F w=>?_)
 unfold z28 at h
 obtain ⟨x1,d,h⟩:=ob h
 refine wa J 12 (eMk J oS d ?_)
 obtain ⟨x2,e,h⟩:=ob h
 refine wa J 3 (eMk J oB e (wa J 2 (eEnd (wa J 5 (eCut (σ:=(List ByteArray) × (List Bool)) (fun st=>⟨[(7,.S 5),(8,.S 6)],[(5,.own rS st.1 true),(6,.own rB st.2 true)],(vV0 0 1 2 d_ [(3,.sl rR5 known_)]),7⟩) (fun st=>z28_k1 st.1 st.2=some r) ?_ (fun j1=>?_))))))
 ·rintro ⟨f,g⟩ h
  replace h:z28_k1 f g=some r:=h
  unfold z28_k1 at h
  cases h
  exact wr J 8 func28 [(4,.sl 5),(5,.sl 6)]
 refine wa J 1 (eLoop (σ:=(List ByteArray) × (List Bool) × Int) (fun st=>(zz8 d_ st.1 st.2.1 known_ [(1,.S 3),(2,.B 4 0),(7,.S 5),(8,.S 6),(9,.I st.2.2)])) (fun n st=>z28_l2 N d_ known_ n st.1 st.2.1 st.2.2) (r:=r) (fun _=>rfl) ?_ (fun ih=>?_))
 ·intro n72 ih390
  rintro ⟨i,j,k⟩ h
  replace h:z28_l2 N d_ known_ (n72+1) i j k=some r:=h
  unfold z28_l2 at h
  obtain ⟨K,h⟩|⟨K,h⟩:=oc' h
  ·exact wH J 9 K (wa J 2 (eSub [] (j1 (i,j) h)))
  refine wH J 9 K (wa J 8 (eCut (σ:=(List ByteArray) × (List Bool)) (fun st=>(zz8 d_ st.1 st.2 known_ [(1,.S 3),(2,.B 4 0),(7,.S 5),(8,.S 6),(9,.I k)])) (fun st=>z28_k3 k (z28_l2 N d_ known_ n72) st.1 st.2=some r) ?_ (fun j649=>?_)))
  ·rintro ⟨l,m⟩ h
   replace h:z28_k3 k (z28_l2 N d_ known_ n72) l m=some r:=h
   unfold z28_k3 at h
   exact wa J 6 (eSub [] (ih390 (l,m,(w64 (k+1))) h))
  refine wa J 1 (eLoop (σ:=(List ByteArray) × (List Bool) × Int) (fun st=>(zz8 d_ st.1 st.2.1 known_ [(1,.S 3),(2,.B 4 0),(7,.S 5),(8,.S 6),(9,.I k),(10,.I st.2.2)])) (fun n st=>z28_l4 N d_ known_ k (z28_l2 N d_ known_ n72) n st.1 st.2.1 st.2.2) (r:=r) (fun _=>rfl) ?_ (fun ih=>?_))
  ·intro n84 ih714
   rintro ⟨o,p,q⟩ h
   replace h:z28_l4 N d_ known_ k (z28_l2 N d_ known_ n72) (n84+1) o p q=some r:=h
   unfold z28_l4 at h
   obtain ⟨K,h⟩|⟨K,h⟩:=oc' h
   ·exact wH J 10 K (wa J 2 (eSub [] (j649 (o,p) h)))
   refine wH J 10 K (wa J 8 (eCut (σ:=(List ByteArray) × (List Bool)) (fun st=>(zz8 d_ st.1 st.2 known_ [(1,.S 3),(2,.B 4 0),(7,.S 5),(8,.S 6),(9,.I k),(10,.I q)])) (fun st=>z28_k5 q (z28_l4 N d_ known_ k (z28_l2 N d_ known_ n72) n84) st.1 st.2=some r) ?_ (fun j757=>?_)))
   ·rintro ⟨u,v⟩ h
    replace h:z28_k5 q (z28_l4 N d_ known_ k (z28_l2 N d_ known_ n72) n84) u v=some r:=h
    unfold z28_k5 at h
    exact wa J 6 (eSub [] (ih714 (u,v,(w64 (q+1))) h))
   refine wa J 1 (eLoop (σ:=(List ByteArray) × (List Bool) × Int) (fun st=>(zz8 d_ st.1 st.2.1 known_ [(1,.S 3),(2,.B 4 0),(7,.S 5),(8,.S 6),(9,.I k),(10,.I q),(11,.I st.2.2)])) (fun n st=>z28_l6 N d_ known_ q (z28_l4 N d_ known_ k (z28_l2 N d_ known_ n72) n84) n st.1 st.2.1 st.2.2) (r:=r) (fun _=>rfl) ?_ (fun ih=>?_))
   ·intro n86 ih768
    rintro ⟨x,y,z⟩ h
    replace h:z28_l6 N d_ known_ q (z28_l4 N d_ known_ k (z28_l2 N d_ known_ n72) n84) (n86+1) x y z=some r:=h
    unfold z28_l6 at h
    obtain ⟨K,h⟩|⟨K,h⟩:=oc' h
    ·exact wH J 6 K (wa J 2 (eSub [] (j757 (x,y) h)))
    refine wH J 6 K ?_
    obtain ⟨A,C,h⟩:=ob h
    refine wa J 11 (eIx J (oP (oI .i64) (oI .i64)) C ?_)
    refine eCut (σ:=Int × Int) (fun st=>(zz18 d_ x y known_ [(1,.S 3),(2,.B 4 0),(7,.S 5),(8,.S 6),(9,.I k),(10,.I q),(11,.I z),(12,.I st.1),(13,.I st.2)])) (fun st=>z28_k9 N d_ known_ x y z (z28_l6 N d_ known_ q (z28_l4 N d_ known_ k (z28_l2 N d_ known_ n72) n84) n86) st.1 st.2=some r) ?_ (fun j775=>?_)
    ·rintro ⟨D,G⟩ h
     replace h:z28_k9 N d_ known_ x y z (z28_l6 N d_ known_ q (z28_l4 N d_ known_ k (z28_l2 N d_ known_ n72) n84) n86) D G=some r:=h
     unfold z28_k9 at h
     obtain ⟨H,R,h⟩:=ob h
     refine wa J 5 (eCl (z32_ct N d_ D _ R) [] [(0,.sl 0),(1,.sl 1),(2,.sl 2)] ?_)
     obtain ⟨K,h⟩|⟨K,h⟩:=oc h
     ·exact wH J 2 K (wa J 7 (eSub [] (ih768 (x,y,(w64 (z+1))) h)))
     refine wH J 2 K ?_
     obtain ⟨T,U,h⟩:=ob h
     refine wa J 12 (eCl (z32_ct N d_ G _ U) [] [(0,.sl 0),(1,.sl 1),(2,.sl 2)] (wa J 1 (eCut (σ:=ByteArray × Bool) (fun st=>(zz18 d_ x y known_ [(1,.S 3),(2,.B 4 0),(7,.S 5),(8,.S 6),(9,.I k),(10,.I q),(11,.I z),(12,.I D),(14,.c (.s st.1)),(15,.O st.2)])) (fun st=>z28_k8 d_ x y z (z28_l6 N d_ known_ q (z28_l4 N d_ known_ k (z28_l2 N d_ known_ n72) n84) n86) D st.1 st.2=some r) ?_ (fun j776=>?_))))
     ·rintro ⟨X,Y⟩ h
      replace h:z28_k8 d_ x y z (z28_l6 N d_ known_ q (z28_l4 N d_ known_ k (z28_l2 N d_ known_ n72) n84) n86) D X Y=some r:=h
      unfold z28_k8 at h
      refine wa J 5 (eCut (σ:=Bool) (fun st=>(zz18 d_ x y known_ [(1,.S 3),(2,.B 4 0),(7,.S 5),(8,.S 6),(9,.I k),(10,.I q),(11,.I z),(12,.I D),(14,.c (.s X)),(15,.O Y),(106,.O st)])) (fun st=>z28_k7 d_ x y z (z28_l6 N d_ known_ q (z28_l4 N d_ known_ k (z28_l2 N d_ known_ n72) n84) n86) D X Y st=some r) ?_ (fun j777=>?_))
      ·intro Z h
       replace h:z28_k7 d_ x y z (z28_l6 N d_ known_ q (z28_l4 N d_ known_ k (z28_l2 N d_ known_ n72) n84) n86) D X Y Z=some r:=h
       unfold z28_k7 at h
       obtain ⟨K,h⟩|⟨K,h⟩:=oc h
       ·refine eK K ?_
        cases h
        exact wr J 7 func28 [(4,.nil),(5,.nil)]
       refine eK K ?_
       obtain ⟨K,h⟩|⟨K,h⟩:=oc' h
       ·exact wH J 6 K (wa J 8 (eSub [] (ih768 (x,y,(w64 (z+1))) h)))
       refine wH J 6 K ?_
       obtain ⟨a0,b0,h⟩:=ob h
       refine wa J 13 (eIo J rS b0 (eSt J [] oS X b0 ?_))
       obtain ⟨c0,d0,h⟩:=ob h
       exact eIo J rB d0 (eSt J [] oB true d0 (eEnd (wa J 6 (eSub [] (ih768 ((setL' x (w64 (D-d_.First)) X),(setL' y (w64 (D-d_.First)) true),(w64 (z+1))) h)))))
      obtain ⟨K,h⟩|⟨K,h⟩:=oc' h
      ·exact eK K (wa J 20 (eSub [] (j777 false h)))
      refine eK K ?_
      obtain ⟨e0,f0,h⟩:=ob h
      refine wa J 5 (eIo J rB f0 (eLd J oB f0 ?_))
      obtain ⟨K,h⟩|⟨K,h⟩:=oc' h
      ·exact wH J 2 K (wa J 11 (eSub [] (j777 false h)))
      refine wH J 2 K ?_
      obtain ⟨g0,i0,h⟩:=ob h
      exact wa J 5 (eIo J rS i0 (eLd J oS i0 (wa J 4 (eSub [] (j777 (!(g0.toList==X.toList)) h)))))
     obtain ⟨K,h⟩|⟨K,h⟩:=oc' h
     ·refine eK K ?_
      obtain ⟨j0,k0,h⟩:=ob h
      exact wa J 4 (eIx J oO5 k0 (wa J 5 (eSub [] (j776 (j0.S,true) h))))
     refine eK K ?_
     obtain ⟨l0,m0,h⟩:=ob h
     refine wa J 7 (eIo J rS m0 (eLd J oS m0 ?_))
     obtain ⟨o0,p0,h⟩:=ob h
     exact wa J 5 (eIo J rB p0 (eLd J oB p0 (wa J 2 (eEnd (eSub [] (j776 (l0,o0) h))))))
    obtain ⟨K,h⟩|⟨K,h⟩:=oc h
    ·refine eAq 0 (by exact eq_of_beq K) ?_
     obtain ⟨q0,s0,h⟩:=ob h
     refine wa J 7 (eIx J (oP (oI .i64) (oI .i64)) s0 ?_)
     obtain ⟨K,h⟩|⟨K,h⟩:=oc h
     ·exact eAq 0 (by exact eq_of_beq K) (wa J 3 (eEnd (eSub [] (j775 (A.1,q0.1) h))))
     obtain ⟨K,h⟩|⟨K,h⟩:=oc h
     ·exact eAq 1 (by exact eq_of_beq K) (wa J 3 (eEnd (eSub [] (j775 (A.1,q0.2) h))))
     cases h
    obtain ⟨K,h⟩|⟨K,h⟩:=oc' h
    ·cases h
    refine eAq 1 (by exact eq_of_beq K) ?_
    obtain ⟨t0,u0,h⟩:=ob h
    refine wa J 7 (eIx J (oP (oI .i64) (oI .i64)) u0 ?_)
    obtain ⟨K,h⟩|⟨K,h⟩:=oc h
    ·exact eAq 0 (by exact eq_of_beq K) (wa J 3 (eEnd (eSub [] (j775 (A.2,t0.1) h))))
    obtain ⟨K,h⟩|⟨K,h⟩:=oc h
    ·exact eAq 1 (by exact eq_of_beq K) (wa J 3 (eEnd (eSub [] (j775 (A.2,t0.2) h))))
    cases h
   exact eSub [] (ih N (o,p,0) h)
  exact eSub [] (ih N (i,j,0) h)
 exact eSub [] (ih N (x1,x2,0) h)
theorem z68_ct (N:Nat) (i_:Int) (j_:Int) (r:Int) (h:z68 N i_ j_=some r) :
 Fn Tryz.prog 68 ⟨0,[.I i_,.I j_],[],[],0,.I r,[],[]⟩:=by
 refine eFn func68 rfl (fun E F w=>?_)
 unfold z68 at h
 obtain ⟨K,h⟩|⟨K,h⟩:=oc h
 ·refine wH J 13 K ?_
  cases h
  exact wr J 5 func68 []
 refine wH J 13 K ?_
 obtain ⟨K,h⟩|⟨K,h⟩:=oc h
 ·refine wH J 6 K ?_
  cases h
  exact wr J 10 func68 []
 refine wH J 6 K ?_
 obtain ⟨K,h⟩|⟨K,h⟩:=oc h
 ·refine wH J 5 K ?_
  cases h
  exact wr J 5 func68 []
 refine wH J 5 K ?_
 cases h
 exact wr J 7 func68 []
theorem z29_ct (N:Nat) (n_:Int) (r:T6 × Int) (h:z29 N n_=some r) :
 Fn Tryz.prog 29 ⟨0,[.I n_],[],[],1,.t [.inr (cC6 0 r.1),.inl (.I r.2)],[(0,.sl (rI .i64) r.1.B)],[]⟩:=by
 refine eFn func29 rfl (fun E F w=>?_)
 unfold z29 at h
 obtain ⟨K,h⟩|⟨K,h⟩:=oc h
 ·refine wH J 11 K ?_
  cases h
  exact wr J 11 func29 [(0,.nil)]
 refine wH J 11 K ?_
 obtain ⟨K,h⟩|⟨K,h⟩:=oc h
 ·refine wH J 4 K ?_
  cases h
  exact wr J 7 func29 [(0,.nil)]
 refine wH J 4 K (wa J 14 (eCut (σ:=(List Int)) (fun st=>(zz24 n_ st [(2,.B 0 0),(4,.B 1 0)])) (fun st=>z29_k1 n_ st=some r) ?_ (fun j1=>?_)))
 ·intro c h
  replace h:z29_k1 n_ c=some r:=h
  unfold z29_k1 at h
  refine wa J 6 (eFr [2] ?_)
  cases h
  exact eRet J func29 [(0,.sl 2)]
 refine wa J 1 (eLoop (σ:=(List Int) × Int) (fun st=>(zz24 n_ st.1 [(0,.I n_),(2,.B 0 0),(4,.B 1 0),(5,.I st.2)])) (fun n st=>z29_l2 N n_ n st.1 st.2) (r:=r) (fun _=>rfl) ?_ (fun ih=>?_))
 ·intro n12 ih12
  rintro ⟨d,e⟩ h
  replace h:z29_l2 N n_ (n12+1) d e=some r:=h
  unfold z29_l2 at h
  obtain ⟨K,h⟩|⟨K,h⟩:=oc' h
  ·exact wH J 7 K (wa J 2 (eSub [] (j1 d h)))
  refine wH J 7 K (wa J 8 (eCut (σ:=(List Int)) (fun st=>(zz25 n_ st [(0,.I n_),(2,.B 0 0),(4,.B 1 0),(5,.I e)])) (fun st=>z29_k3 e (z29_l2 N n_ n12) st=some r) ?_ (fun j19=>?_)))
  ·intro f h
   replace h:z29_k3 e (z29_l2 N n_ n12) f=some r:=h
   unfold z29_k3 at h
   exact wa J 6 (eSub [(2,.sl 3)] (ih12 (f,(w64 (e+1))) h))
  refine wa J 1 (eLoop (σ:=(List Int) × Int) (fun st=>(zz25 n_ st.1 [(0,.I n_),(2,.B 0 0),(4,.B 1 0),(5,.I e),(6,.I st.2)])) (fun n st=>z29_l4 N n_ e (z29_l2 N n_ n12) n st.1 st.2) (r:=r) (fun _=>rfl) ?_ (fun ih=>?_))
  ·intro n14 ih21
   rintro ⟨g,i⟩ h
   replace h:z29_l4 N n_ e (z29_l2 N n_ n12) (n14+1) g i=some r:=h
   unfold z29_l4 at h
   obtain ⟨K,h⟩|⟨K,h⟩:=oc' h
   ·exact wH J 7 K (wa J 2 (eSub [] (j19 g h)))
   refine wH J 7 K ?_
   obtain ⟨j,k,h⟩:=ob h
   refine wa J 9 (eCl (z68_ct N e i _ k) [] [] (eBs J [] (oI .i64) ([j]:List Int) ?_))
   obtain ⟨l,m,h⟩:=ob h
   exact eAp J (rI .i64) m (wa J 2 (eEnd (wa J 6 (eSub [(3,.sl 5)] (ih21 (l,(w64 (i+1))) h)))))
  exact eSub [(3,.sl 2)] (ih N (d,0) h)
 exact eSub [(2,.nil)] (ih N (([]:List Int),0) h)
theorem z69_ct (N:Nat) (z_:T6) (r:Bool) (h:z69 N z_=some r) :
 Fn Tryz.prog 69 ⟨1,[.a (cC6 0 z_)],[(0,.sl (rI .i64) z_.B)],[],1,.O r,[],[]⟩:=by
 refine eFn func69 rfl (fun E F w=>?_)
 unfold z69 at h
 obtain ⟨K,h⟩|⟨K,h⟩:=oc h
 ·refine wH J 12 K ?_
  cases h
  exact wr J 23 func69 []
 refine wH J 12 K ?_
 obtain ⟨K,h⟩|⟨K,h⟩:=oc h
 ·refine wH J 5 K ?_
  cases h
  exact wr J 18 func69 []
 refine wH J 5 K ?_
 obtain ⟨K,h⟩|⟨K,h⟩:=oc h
 ·refine wH J 13 K ?_
  cases h
  exact wr J 5 func69 []
 refine wH J 13 K (wa J 7 (eCut (σ:=Unit) (fun st=>(zz5 z_.B [])) (fun st=>z69_k1=some r) ?_ (fun j1=>?_)))
 ·intro _ h
  replace h:z69_k1=some r:=h
  unfold z69_k1 at h
  cases h
  exact wr J 4 func69 []
 refine wa J 1 (eLoop (σ:=Int) (fun st=>⟨[(1,.B 1 0),(3,.I st)],[(1,.box (cC6 0 z_) 82)],[(0,.sl (rI .i64) z_.B)],2⟩) (fun n st=>z69_l2 z_ n st) (r:=r) (fun _=>rfl) ?_ (fun ih=>?_))
 ·intro n2 ih3
  intro c h
  replace h:z69_l2 z_ (n2+1) c=some r:=h
  unfold z69_l2 at h
  obtain ⟨K,h⟩|⟨K,h⟩:=oc' h
  ·exact wH J 9 K (wa J 2 (eSub [] (j1 () h)))
  refine wH J 9 K ?_
  obtain ⟨d,e,h⟩:=ob h
  refine wa J 9 (eIx J (oI .i64) e ?_)
  obtain ⟨K,h⟩|⟨K,h⟩:=oc h
  ·refine wH J 3 K ?_
   cases h
   exact wr J 13 func69 []
  refine wH J 3 K ?_
  obtain ⟨f,g,h⟩:=ob h
  refine wa J 3 (eIx J (oI .i64) g ?_)
  obtain ⟨K,h⟩|⟨K,h⟩:=oc h
  ·refine wH J 4 K ?_
   cases h
   exact wr J 5 func69 []
  exact wH J 4 K (wa J 8 (eSub [] (ih3 (w64 (c+1)) h)))
 exact eSub [] (ih N 0 h)
theorem z70_ct (N:Nat) (z_:T6) (x_:Int) (r:Bool) (h:z70 N z_ x_=some r) :
 Fn Tryz.prog 70 ⟨1,[.a (cC6 0 z_),.I x_],[(0,.sl (rI .i64) z_.B)],[],1,.O r,[],[]⟩:=by
 refine eFn func70 rfl (fun E F w=>?_)
 unfold z70 at h
 obtain ⟨K,h⟩|⟨K,h⟩:=oc h
 ·refine wH J 10 K ?_
  cases h
  exact wr J 7 func70 []
 refine wH J 10 K ?_
 cases h
 exact wr J 7 func70 []
theorem z30_ct (N:Nat) (z_:T6) (d_:T1) (r:T6 × Int) (h:z30 N z_ d_=some r) :
 Fn Tryz.prog 30 ⟨1,[.a (cC6 0 z_),.a (cC1 d_)],[(0,.sl (rI .i64) z_.B)],[],2,.t [.inr (cC6 1 r.1),.inl (.I r.2)],[(1,.sl (rI .i64) r.1.B)],[]⟩:=by
 refine eFn func30 rfl (fun E F w=>?_)
 unfold z30 at h
 obtain ⟨x1,c,h⟩:=ob h
 refine wa J 12 (eCl (z69_ct N z_ _ c) [] [(0,.sl 0)] ?_)
 obtain ⟨K,h⟩|⟨K,h⟩:=oc h
 ·refine wH J 3 K ?_
  cases h
  exact wr J 7 func30 [(1,.nil)]
 refine wH J 3 K ?_
 obtain ⟨x2,d,h⟩:=ob h
 refine wa J 6 (eCl (z70_ct N z_ d_.X _ d) [] [(0,.sl 0)] ?_)
 obtain ⟨K,h⟩|⟨K,h⟩:=oc h
 ·refine wH J 2 K ?_
  cases h
  exact wr J 15 func30 [(1,.nil)]
 refine wH J 2 K ?_
 obtain ⟨x3,e,h⟩:=ob h
 refine wa J 3 (eCl (z70_ct N z_ d_.Y _ e) [] [(0,.sl 0)] ?_)
 obtain ⟨K,h⟩|⟨K,h⟩:=oc h
 ·refine wH J 4 K ?_
  cases h
  exact wr J 7 func30 [(1,.nil)]
 refine wH J 4 K (wa J 7 (eBs J [] (oI .i64) ([]:List Int) ?_))
 obtain ⟨x4,f,h⟩:=ob h
 refine wa J 2 (eAp J (rI .i64) f (wa J 3 (eEnd ?_)))
 obtain ⟨x5,g,h⟩:=ob h
 refine wa J 23 (eIo J (rI .i64) g (eLd J (oI .i64) g ?_))
 obtain ⟨x6,i,h⟩:=ob h
 refine wa J 4 (eIo J (rI .i64) i (eSt J [] (oI .i64) (minI x5 (maxI d_.C (-20001))) i (eEnd (wa J 6 (eFr [5] ?_)))))
 cases h
 exact eRet J func30 [(1,.sl 5)]
theorem z71_ct (N:Nat) (z_:T6) (r:T6 × Bool) (h:z71 N z_=some r) :
 Fn Tryz.prog 71 ⟨1,[.a (cC6 0 z_)],[(0,.sl (rI .i64) z_.B)],[],2,.t [.inr (cC6 1 r.1),.inl (.b r.2)],[(1,.sl (rI .i64) r.1.B)],[]⟩:=by
 refine eFn func71 rfl (fun E F w=>?_)
 unfold z71 at h
 obtain ⟨x1,c,h⟩:=ob h
 refine wa J 10 (eCl (z69_ct N z_ _ c) [] [(0,.sl 0)] ?_)
 obtain ⟨K,h⟩|⟨K,h⟩:=oc h
 ·refine wH J 2 K ?_
  cases h
  exact wr J 7 func71 [(1,.nil)]
 refine wH J 2 K (wa J 13 (eBs J [] (oI .i64) ([]:List Int) ?_))
 obtain ⟨x2,d,h⟩:=ob h
 refine wa J 2 (eAp J (rI .i64) d (wa J 3 (eEnd (wa J 5 (eCut (σ:=(List Int)) (fun st=>(zz2 st z_ z_.B [(2,.B 2 0),(4,.I (w64 (z_.N+1))),(5,.B 5 0)])) (fun st=>z71_k9 N z_ st=some r) ?_ (fun j1=>?_))))))
 ·intro e h
  replace h:z71_k9 N z_ e=some r:=h
  unfold z71_k9 at h
  refine wa J 5 (eCut (σ:=(List Int)) (fun st=>(zz2 st z_ z_.B [(2,.B 2 0),(4,.I (w64 (z_.N+1))),(5,.B 5 0)])) (fun st=>z71_k3 N z_ st=some r) ?_ (fun j12=>?_))
  ·intro f h
   replace h:z71_k3 N z_ f=some r:=h
   unfold z71_k3 at h
   refine wa J 5 (eCut (σ:=Unit) (fun st=>(zz2 f z_ z_.B [(2,.B 2 0),(5,.B 5 0)])) (fun st=>z71_k1 z_ f=some r) ?_ (fun j77=>?_))
   ·intro _ h
    replace h:z71_k1 z_ f=some r:=h
    unfold z71_k1 at h
    refine wa J 6 (eFr [4] ?_)
    cases h
    exact eRet J func71 [(1,.sl 4)]
   refine wa J 1 (eLoop (σ:=Int) (fun st=>(zz2 f z_ z_.B [(2,.B 2 0),(4,.I (w64 (z_.N+1))),(5,.B 5 0),(11,.I st)])) (fun n st=>z71_l2 z_ f n st) (r:=r) (fun _=>rfl) ?_ (fun ih=>?_))
   ·intro n52 ih79
    intro g h
    replace h:z71_l2 z_ f (n52+1) g=some r:=h
    unfold z71_l2 at h
    obtain ⟨K,h⟩|⟨K,h⟩:=oc' h
    ·exact wH J 7 K (wa J 2 (eSub [] (j77 () h)))
    refine wH J 7 K ?_
    obtain ⟨i,j,h⟩:=ob h
    refine wa J 13 (eIo J (rI .i64) j (eLd J (oI .i64) j ?_))
    obtain ⟨K,h⟩|⟨K,h⟩:=oc h
    ·refine wH J 2 K ?_
     cases h
     exact wr J 7 func71 [(1,.nil)]
    exact wH J 2 K (wa J 8 (eSub [] (ih79 (w64 (g+1)) h)))
   exact eSub [] (ih N 0 h)
  refine wa J 1 (eLoop (σ:=(List Int) × Int) (fun st=>(zz2 st.1 z_ z_.B [(2,.B 2 0),(4,.I (w64 (z_.N+1))),(5,.B 5 0),(8,.I st.2)])) (fun n st=>z71_l4 N z_ n st.1 st.2) (r:=r) (fun _=>rfl) ?_ (fun ih=>?_))
  ·intro n81 ih80
   rintro ⟨k,l⟩ h
   replace h:z71_l4 N z_ (n81+1) k l=some r:=h
   unfold z71_l4 at h
   obtain ⟨K,h⟩|⟨K,h⟩:=oc' h
   ·exact wH J 7 K (wa J 2 (eSub [] (j12 k h)))
   refine wH J 7 K (wa J 8 (eCut (σ:=(List Int)) (fun st=>(zz2 st z_ z_.B [(2,.B 2 0),(4,.I (w64 (z_.N+1))),(5,.B 5 0),(8,.I l)])) (fun st=>z71_k5 l (z71_l4 N z_ n81) st=some r) ?_ (fun j123=>?_)))
   ·intro m h
    replace h:z71_k5 l (z71_l4 N z_ n81) m=some r:=h
    unfold z71_k5 at h
    exact wa J 6 (eSub [] (ih80 (m,(w64 (l+1))) h))
   refine wa J 1 (eLoop (σ:=(List Int) × Int) (fun st=>(zz2 st.1 z_ z_.B [(2,.B 2 0),(4,.I (w64 (z_.N+1))),(5,.B 5 0),(8,.I l),(9,.I st.2)])) (fun n st=>z71_l6 N z_ l (z71_l4 N z_ n81) n st.1 st.2) (r:=r) (fun _=>rfl) ?_ (fun ih=>?_))
   ·intro n93 ih134
    rintro ⟨o,p⟩ h
    replace h:z71_l6 N z_ l (z71_l4 N z_ n81) (n93+1) o p=some r:=h
    unfold z71_l6 at h
    obtain ⟨K,h⟩|⟨K,h⟩:=oc' h
    ·exact wH J 7 K (wa J 2 (eSub [] (j123 o h)))
    refine wH J 7 K (wa J 8 (eCut (σ:=(List Int)) (fun st=>(zz2 st z_ z_.B [(2,.B 2 0),(4,.I (w64 (z_.N+1))),(5,.B 5 0),(8,.I l),(9,.I p)])) (fun st=>z71_k7 p (z71_l6 N z_ l (z71_l4 N z_ n81) n93) st=some r) ?_ (fun j141=>?_)))
    ·intro q h
     replace h:z71_k7 p (z71_l6 N z_ l (z71_l4 N z_ n81) n93) q=some r:=h
     unfold z71_k7 at h
     exact wa J 6 (eSub [] (ih134 (q,(w64 (p+1))) h))
    refine wa J 1 (eLoop (σ:=(List Int) × Int) (fun st=>(zz2 st.1 z_ z_.B [(2,.B 2 0),(4,.I (w64 (z_.N+1))),(5,.B 5 0),(8,.I l),(9,.I p),(10,.I st.2)])) (fun n st=>z71_l8 z_ l p (z71_l6 N z_ l (z71_l4 N z_ n81) n93) n st.1 st.2) (r:=r) (fun _=>rfl) ?_ (fun ih=>?_))
    ·intro n95 ih143
     rintro ⟨s,u⟩ h
     replace h:z71_l8 z_ l p (z71_l6 N z_ l (z71_l4 N z_ n81) n93) (n95+1) s u=some r:=h
     unfold z71_l8 at h
     obtain ⟨K,h⟩|⟨K,h⟩:=oc' h
     ·exact wH J 7 K (wa J 2 (eSub [] (j141 s h)))
     refine wH J 7 K ?_
     obtain ⟨v,x,h⟩:=ob h
     refine wa J 19 (eIo J (rI .i64) x (eLd J (oI .i64) x ?_))
     obtain ⟨y,z,h⟩:=ob h
     refine wa J 7 (eIo J (rI .i64) z (eLd J (oI .i64) z ?_))
     obtain ⟨A,C,h⟩:=ob h
     refine wa J 7 (eIo J (rI .i64) C (eLd J (oI .i64) C ?_))
     obtain ⟨D,G,h⟩:=ob h
     exact wa J 3 (eIo J (rI .i64) G (eSt J [] (oI .i64) (minI v (maxI (-20001) (w64 (y+A)))) G (eEnd (wa J 6 (eSub [] (ih143 ((setL' s (w64 ((w64 (p * (w64 (z_.N+1))))+u)) (minI v (maxI (-20001) (w64 (y+A))))),(w64 (u+1))) h))))))
    exact eSub [] (ih N (o,0) h)
   exact eSub [] (ih N (k,0) h)
  exact eSub [] (ih N (e,0) h)
 refine wa J 1 (eLoop (σ:=(List Int) × Int) (fun st=>(zz2 st.1 z_ z_.B [(2,.B 2 0),(4,.I (w64 (z_.N+1))),(5,.B 5 0),(6,.I st.2)])) (fun n st=>z71_l10 N z_ n st.1 st.2) (r:=r) (fun _=>rfl) ?_ (fun ih=>?_))
 ·intro n100 ih144
  rintro ⟨H,R⟩ h
  replace h:z71_l10 N z_ (n100+1) H R=some r:=h
  unfold z71_l10 at h
  obtain ⟨K,h⟩|⟨K,h⟩:=oc' h
  ·exact wH J 7 K (wa J 2 (eSub [] (j1 H h)))
  refine wH J 7 K (wa J 8 (eCut (σ:=(List Int)) (fun st=>(zz2 st z_ z_.B [(2,.B 2 0),(4,.I (w64 (z_.N+1))),(5,.B 5 0),(6,.I R)])) (fun st=>z71_k11 R (z71_l10 N z_ n100) st=some r) ?_ (fun j151=>?_)))
  ·intro T h
   replace h:z71_k11 R (z71_l10 N z_ n100) T=some r:=h
   unfold z71_k11 at h
   exact wa J 6 (eSub [] (ih144 (T,(w64 (R+1))) h))
  refine wa J 1 (eLoop (σ:=(List Int) × Int) (fun st=>(zz2 st.1 z_ z_.B [(2,.B 2 0),(4,.I (w64 (z_.N+1))),(5,.B 5 0),(6,.I R),(7,.I st.2)])) (fun n st=>z71_l12 N z_ R (z71_l10 N z_ n100) n st.1 st.2) (r:=r) (fun _=>rfl) ?_ (fun ih=>?_))
  ·intro n102 ih153
   rintro ⟨U,X⟩ h
   replace h:z71_l12 N z_ R (z71_l10 N z_ n100) (n102+1) U X=some r:=h
   unfold z71_l12 at h
   obtain ⟨K,h⟩|⟨K,h⟩:=oc' h
   ·exact wH J 7 K (wa J 2 (eSub [] (j151 U h)))
   refine wH J 7 K ?_
   obtain ⟨Y,Z,h⟩:=ob h
   refine wa J 19 (eIo J (rI .i64) Z (eLd J (oI .i64) Z ?_))
   obtain ⟨a0,b0,h⟩:=ob h
   refine wa J 2 (eCl (z68_ct N R X _ b0) [] [] ?_)
   obtain ⟨c0,d0,h⟩:=ob h
   exact wa J 1 (eIo J (rI .i64) d0 (eSt J [] (oI .i64) (minI Y a0) d0 (eEnd (wa J 6 (eSub [] (ih153 ((setL' U (w64 ((w64 (R * (w64 (z_.N+1))))+X)) (minI Y a0)),(w64 (X+1))) h))))))
  exact eSub [] (ih N (H,0) h)
 exact eSub [] (ih N (x2,0) h)
theorem z33_ct (N:Nat) (z_:T6) (r:(List Int) × Bool) (h:z33 N z_=some r) :
 Fn Tryz.prog 33 ⟨1,[.a (cC6 0 z_)],[(0,.sl (rI .i64) z_.B)],[],2,.t [.inl (.sl 1),.inl (.b r.2)],[],[(1,.own (rI .i64) r.1 true)]⟩:=by
 refine eFn func33 rfl (fun E F w=>?_)
 unfold z33 at h
 obtain ⟨x1,c,h⟩:=ob h
 refine wa J 9 (eCl (z71_ct N z_ _ c) [] [(0,.sl 0)] ?_)
 obtain ⟨K,h⟩|⟨K,h⟩:=oc h
 ·refine wH J 13 K ?_
  cases h
  exact wr J 6 func33 [(1,.nil)]
 refine wH J 13 K (wa J 11 (eCut (σ:=(List Int)) (fun st=>⟨[(6,.S 4)],[(4,.own (rI .i64) st true)],[(0,.sl (rI .i64) z_.B)],5⟩) (fun st=>z33_k1 st=some r) ?_ (fun j1=>?_)))
 ·intro d h
  replace h:z33_k1 d=some r:=h
  unfold z33_k1 at h
  cases h
  exact wr J 6 func33 [(1,.sl 4)]
 refine wa J 1 (eLoop (σ:=Int × (List Int) × (List Int) × Int) (fun st=>⟨[(1,.B 1 0),(4,.B 3 0),(6,.S 5),(7,.I st.2.2.2)],[(1,.box (cC6 0 z_) 82),(3,.box [.I st.1,.sl 4] 82),(5,.own (rI .i64) st.2.2.1 true)],[(0,.sl (rI .i64) z_.B),(4,.sl (rI .i64) st.2.1)],6⟩) (fun n st=>z33_l2 N z_ n st.1 st.2.1 st.2.2.1 st.2.2.2) (r:=r) (fun _=>rfl) ?_ (fun ih=>?_))
 ·intro n2 ih3
  rintro ⟨e,f,g,i⟩ h
  replace h:z33_l2 N z_ (n2+1) e f g i=some r:=h
  unfold z33_l2 at h
  obtain ⟨K,h⟩|⟨K,h⟩:=oc' h
  ·exact wH J 8 K (wa J 2 (eSub [(4,.sl 5)] (j1 g h)))
  refine wH J 8 K ?_
  obtain ⟨j,k,h⟩:=ob h
  refine wa J 10 (eIx J (oI .i64) k (wa J 8 (eBs J [] (oI .i64) ([(w64 (0-j))]:List Int) ?_)))
  obtain ⟨l,m,h⟩:=ob h
  refine eAp J (rI .i64) m ?_
  obtain ⟨o,p,h⟩:=ob h
  refine wa J 8 (eCl (z30_ct N (⟨e,f⟩:T6) (⟨i,(-1),(w64 (0-j))⟩:T1) _ p) [] [(0,.sl 4)] ?_)
  obtain ⟨q,s,h⟩:=ob h
  exact wa J 7 (eCl (z71_ct N o.1 _ s) [] [(0,.sl 9)] (wa J 11 (eSub [(4,.sl 10),(5,.sl 8)] (ih3 (q.1.N,q.1.B,l,(w64 (i+1))) h))))
 exact eSub [(4,.sl 2),(5,.nil)] (ih N (x1.1.N,x1.1.B,([]:List Int),0) h)
theorem z34_ct (N:Nat) (n_:Int) (r:ByteArray) (h:z34 N n_=some r) :
 Fn Tryz.prog 34 ⟨0,[.I n_],[],[],0,.c (.s r),[],[]⟩:=by
 refine eFn func34 rfl (fun E F w=>?_)
 unfold z34 at h
 refine wa J 13 (eCut (σ:=ByteArray) (fun st=>(zz0 [(3,.c (.s st))])) (fun st=>z34_k1 st=some r) ?_ (fun j1=>?_))
 ·intro d h
  replace h:z34_k1 d=some r:=h
  unfold z34_k1 at h
  cases h
  exact wr J 5 func34 []
 refine wa J 1 (eLoop (σ:=ByteArray × Int) (fun st=>(zz0 [(0,.I n_),(3,.c (.s st.1)),(4,.I st.2)])) (fun n st=>z34_l2 n_ n st.1 st.2) (r:=r) (fun _=>rfl) ?_ (fun ih=>?_))
 ·intro n2 ih3
  rintro ⟨e,f⟩ h
  replace h:z34_l2 n_ (n2+1) e f=some r:=h
  unfold z34_l2 at h
  obtain ⟨K,h⟩|⟨K,h⟩:=oc' h
  ·exact wH J 7 K (wa J 2 (eSub [] (j1 e h)))
  refine wH J 7 K ?_
  obtain ⟨x9,g,h⟩:=ob h
  exact wa J 6 (eCa g (wa J 8 (eSub [] (ih3 (x9,(w64 (f+1))) h))))
 exact eSub [] (ih N ((str []),0) h)
theorem z36_ct (N:Nat) (d_:T0) (values_:(List T5)) (known_:(List T5)) (r:(List T5)) (h:z36 N d_ values_ known_=some r) :
 Fn Tryz.prog 36 ⟨5,[.a (cC0 0 1 2 d_),.S 3,.S 4],(vV0 0 1 2 d_ [(3,.sl rR5 values_),(4,.sl rR5 known_)]),[],6,.S 5,[],[(5,.own rR5 r true)]⟩:=by
 refine eFn func36 rfl (fun E F w=>?_)
 unfold z36 at h
 refine wa J 7 (eBs J [] oO5 ([]:List T5) ?_)
 obtain ⟨x1,c,h⟩:=ob h
 refine wa J 1 (eAp J rR5 c (wa J 7 (eCut (σ:=(List T5)) (fun st=>⟨[(7,.S 7)],[(7,.own rR5 st true)],(vV0 0 1 2 d_ [(3,.sl rR5 values_),(4,.sl rR5 known_)]),8⟩) (fun st=>z36_k1 st=some r) ?_ (fun j1=>?_))))
 ·intro d h
  replace h:z36_k1 d=some r:=h
  unfold z36_k1 at h
  cases h
  exact wr J 5 func36 [(5,.sl 7)]
 refine wa J 1 (eLoop (σ:=(List T5) × Int) (fun st=>⟨[(1,.S 3),(3,.B 5 0),(7,.S 7),(8,.I st.2)],[(5,.box (cC0 0 1 2 d_) 51),(7,.own rR5 st.1 true)],(vV0 0 1 2 d_ [(3,.sl rR5 values_),(4,.sl rR5 known_)]),8⟩) (fun n st=>z36_l2 d_ values_ n st.1 st.2) (r:=r) (fun _=>rfl) ?_ (fun ih=>?_))
 ·intro n2 ih3
  rintro ⟨e,f⟩ h
  replace h:z36_l2 d_ values_ (n2+1) e f=some r:=h
  unfold z36_l2 at h
  obtain ⟨K,h⟩|⟨K,h⟩:=oc' h
  ·exact wH J 8 K (wa J 2 (eSub [] (j1 e h)))
  refine wH J 8 K ?_
  obtain ⟨g,i,h⟩:=ob h
  refine wa J 12 (eIx J oO5 i ?_)
  obtain ⟨j,k,h⟩:=ob h
  exact wa J 1 (eIo J rR5 k (eSt J [] oO5 g k (eEnd (wa J 6 (eSub [] (ih3 ((setL' e (w64 (d_.First+f)) g),(w64 (f+1))) h))))))
 exact eSub [] (ih N (x1,0) h)
theorem z35_ct (N:Nat) (g_:T3) (all_:(List T5)) (r:Bool) (h:z35 N g_ all_=some r) :
 Fn Tryz.prog 35 ⟨3,[.a [.sl 0,.sl 1],.S 2],[(0,.sl rR1 g_.Diffs),(1,.sl (rP (rI .i64) (rI .i64)) g_.Equals),(2,.sl rR5 all_)],[],3,.O r,[],[]⟩:=by
 refine eFn func35 rfl (fun E F w=>?_)
 unfold z35 at h
 refine wa J 10 (eCut (σ:=Unit) (fun st=>(zz7 g_.Diffs g_.Equals all_ [(1,.S 2),(2,.B 3 0)])) (fun st=>z35_k3 N g_ all_=some r) ?_ (fun j1=>?_))
 ·intro _ h
  replace h:z35_k3 N g_ all_=some r:=h
  unfold z35_k3 at h
  refine wa J 5 (eCut (σ:=Unit) (fun st=>(zz15 g_.Diffs g_.Equals all_ [])) (fun st=>z35_k1=some r) ?_ (fun j9=>?_))
  ·intro _ h
   replace h:z35_k1=some r:=h
   unfold z35_k1 at h
   cases h
   exact wr J 4 func35 []
  refine wa J 1 (eLoop (σ:=Int) (fun st=>(zz7 g_.Diffs g_.Equals all_ [(1,.S 2),(2,.B 3 0),(9,.I st)])) (fun n st=>z35_l2 g_ all_ n st) (r:=r) (fun _=>rfl) ?_ (fun ih=>?_))
  ·intro n3 ih11
   intro c h
   replace h:z35_l2 g_ all_ (n3+1) c=some r:=h
   unfold z35_l2 at h
   obtain ⟨K,h⟩|⟨K,h⟩:=oc' h
   ·exact wH J 9 K (wa J 2 (eSub [] (j9 () h)))
   refine wH J 9 K ?_
   obtain ⟨d,e,h⟩:=ob h
   refine wa J 10 (eIx J (oP (oI .i64) (oI .i64)) e (eAq 0 rfl ?_))
   obtain ⟨f,g,h⟩:=ob h
   refine wa J 1 (eIx J oO5 g ?_)
   obtain ⟨i,j,h⟩:=ob h
   refine wa J 5 (eIx J (oP (oI .i64) (oI .i64)) j (eAq 1 rfl ?_))
   obtain ⟨k,l,h⟩:=ob h
   refine wa J 1 (eIx J oO5 l (wa J 5 (eEnd ?_)))
   obtain ⟨K,h⟩|⟨K,h⟩:=oc h
   ·refine wH J 6 K ?_
    cases h
    exact wr J 17 func35 []
   refine wH J 6 K ?_
   obtain ⟨K,h⟩|⟨K,h⟩:=oc h
   ·refine wH J 5 K ?_
    cases h
    exact wr J 12 func35 []
   refine wH J 5 K ?_
   obtain ⟨K,h⟩|⟨K,h⟩:=oc h
   ·refine wH J 7 K ?_
    cases h
    exact wr J 5 func35 []
   exact wH J 7 K (wa J 8 (eSub [] (ih11 (w64 (c+1)) h)))
  exact eSub [] (ih N 0 h)
 refine wa J 1 (eLoop (σ:=Int) (fun st=>(zz7 g_.Diffs g_.Equals all_ [(1,.S 2),(2,.B 3 0),(5,.I st)])) (fun n st=>z35_l4 N g_ all_ n st) (r:=r) (fun _=>rfl) ?_ (fun ih=>?_))
 ·intro n4 ih12
  intro m h
  replace h:z35_l4 N g_ all_ (n4+1) m=some r:=h
  unfold z35_l4 at h
  obtain ⟨K,h⟩|⟨K,h⟩:=oc' h
  ·exact wH J 9 K (wa J 2 (eSub [] (j1 () h)))
  refine wH J 9 K ?_
  obtain ⟨o,p,h⟩:=ob h
  refine wa J 9 (eIx J oO1 p (wa J 16 (eCut (σ:=Int) (fun st=>(zz26 o g_.Diffs g_.Equals all_ [(1,.S 2),(2,.B 3 0),(5,.I m),(6,.B 5 0),(7,.I st),(8,.I 0)])) (fun st=>z35_k6 N all_ m (z35_l4 N g_ all_ n4) o st=some r) ?_ (fun j17=>?_))))
  ·intro q h
   replace h:z35_k6 N all_ m (z35_l4 N g_ all_ n4) o q=some r:=h
   unfold z35_k6 at h
   refine wa J 7 (eCut (σ:=Int) (fun st=>(zz26 o g_.Diffs g_.Equals all_ [(1,.S 2),(2,.B 3 0),(5,.I m),(6,.B 5 0),(7,.I q),(8,.I st)])) (fun st=>z35_k5 all_ m (z35_l4 N g_ all_ n4) o q st=some r) ?_ (fun j18=>?_))
   ·intro s h
    replace h:z35_k5 all_ m (z35_l4 N g_ all_ n4) o q s=some r:=h
    unfold z35_k5 at h
    obtain ⟨K,h⟩|⟨K,h⟩:=oc' h
    ·refine wH J 6 K ?_
     obtain ⟨K,h⟩|⟨K,h⟩:=oc' h
     ·refine wH J 13 K ?_
      obtain ⟨K,h⟩|⟨K,h⟩:=oc h
      ·refine wH J 18 K ?_
       cases h
       exact wr J 5 func35 []
      exact wH J 18 K (wa J 8 (eSub [] (ih12 (w64 (m+1)) h)))
     refine wH J 13 K ?_
     obtain ⟨t,u,h⟩:=ob h
     refine wa J 3 (eIx J oO5 u ?_)
     obtain ⟨K,h⟩|⟨K,h⟩:=oc h
     ·refine wH J 6 K ?_
      cases h
      exact wr J 13 func35 []
     refine wH J 6 K ?_
     obtain ⟨K,h⟩|⟨K,h⟩:=oc h
     ·refine wH J 8 K ?_
      cases h
      exact wr J 5 func35 []
     exact wH J 8 K (wa J 8 (eSub [] (ih12 (w64 (m+1)) h)))
    refine wH J 6 K ?_
    obtain ⟨v,x,h⟩:=ob h
    refine wa J 3 (eIx J oO5 x ?_)
    obtain ⟨K,h⟩|⟨K,h⟩:=oc h
    ·refine wH J 5 K ?_
     cases h
     exact wr J 27 func35 []
    refine wH J 5 K ?_
    obtain ⟨K,h⟩|⟨K,h⟩:=oc' h
    ·refine wH J 4 K ?_
     obtain ⟨K,h⟩|⟨K,h⟩:=oc h
     ·refine wH J 18 K ?_
      cases h
      exact wr J 5 func35 []
     exact wH J 18 K (wa J 8 (eSub [] (ih12 (w64 (m+1)) h)))
    refine wH J 4 K ?_
    obtain ⟨y,z,h⟩:=ob h
    refine wa J 3 (eIx J oO5 z ?_)
    obtain ⟨K,h⟩|⟨K,h⟩:=oc h
    ·refine wH J 6 K ?_
     cases h
     exact wr J 13 func35 []
    refine wH J 6 K ?_
    obtain ⟨K,h⟩|⟨K,h⟩:=oc h
    ·refine wH J 8 K ?_
     cases h
     exact wr J 5 func35 []
    exact wH J 8 K (wa J 8 (eSub [] (ih12 (w64 (m+1)) h)))
   obtain ⟨K,h⟩|⟨K,h⟩:=oc' h
   ·exact eK K (wa J 2 (eSub [] (j18 0 h)))
   refine eK K ?_
   obtain ⟨A,C,h⟩:=ob h
   refine wa J 5 (eIx J oO5 C ?_)
   obtain ⟨D,G,h⟩:=ob h
   exact wa J 1 (eCl (z31_ct N A _ G) [] [] (wa J 2 (eSub [] (j18 D h))))
  obtain ⟨K,h⟩|⟨K,h⟩:=oc' h
  ·exact eK K (wa J 2 (eSub [] (j17 0 h)))
  refine eK K ?_
  obtain ⟨H,R,h⟩:=ob h
  refine wa J 5 (eIx J oO5 R ?_)
  obtain ⟨T,U,h⟩:=ob h
  exact wa J 1 (eCl (z31_ct N H _ U) [] [] (wa J 2 (eSub [] (j17 T h))))
 exact eSub [] (ih N 0 h)
theorem z7_ct (N:Nat) (decls_:(List T0)) (label_:Int) (known_:(List T5)) (r:(List T5) × Bool) (h:z7 N decls_ label_ known_=some r) :
 Fn Tryz.prog 7 ⟨2,[.S 0,.I label_,.S 1],[(0,.sl rR0 decls_),(1,.sl rR5 known_)],[],3,.t [.inl (.sl 2),.inl (.b r.2)],[],[(2,.own rR5 r.1 true)]⟩:=by
 refine eFn func7 rfl (fun E F w=>?_)
 unfold z7 at h
 obtain ⟨x1,c,h⟩:=ob h
 refine wa J 10 (eCl (z24_ct N decls_ label_ _ c) [] [(0,.sl 0)] ?_)
 obtain ⟨K,h⟩|⟨K,h⟩:=oc h
 ·refine wH J 2 K ?_
  cases h
  exact wr J 12 func7 [(2,.nil)]
 refine wH J 2 K ?_
 obtain ⟨x2,d,h⟩:=ob h
 refine wa J 2 (eCl (z25_ct N decls_ known_ _ d) [] [(0,.sl 0),(1,.sl 1)] ?_)
 obtain ⟨K,h⟩|⟨K,h⟩:=oc h
 ·refine wH J 3 K ?_
  cases h
  exact wr J 6 func7 [(2,.nil)]
 refine wH J 3 K ?_
 obtain ⟨x3,e,h⟩:=ob h
 refine wa J 6 (eIx J oO0 e ?_)
 obtain ⟨x4,f,h⟩:=ob h
 refine wa J 8 (eCl (z26_ct N decls_ label_ _ f) [] [(0,.sl 0)] (wa J 11 (eCut (σ:=Unit) (fun st=>(zz27 x3 x4.1 decls_ known_ [(2,.S 1),(8,.B 6 0),(9,.S 7)])) (fun st=>z7_k9 N known_ x3 x4=some r) ?_ (fun j1=>?_))))
 ·intro _ h
  replace h:z7_k9 N known_ x3 x4=some r:=h
  unfold z7_k9 at h
  obtain ⟨g,i,h⟩:=ob h
  refine wa J 4 (eCl (z28_ct N x3 known_ _ i) [] [(0,.sl 3),(1,.sl 4),(2,.sl 5),(3,.sl 1)] ?_)
  obtain ⟨K,h⟩|⟨K,h⟩:=oc h
  ·refine wH J 14 K ?_
   cases h
   exact wr J 6 func7 [(2,.nil)]
  refine wH J 14 K ?_
  obtain ⟨j,k,h⟩:=ob h
  refine wa J 6 (eCl (z29_ct N (known_.length:Int) _ k) [] [] (wa J 12 (eCut (σ:=Int × (List Int)) (fun st=>⟨[(2,.S 1),(8,.B 6 0),(12,.S 8),(13,.S 9),(15,.B 11 0)],[(6,.box (cC0 3 4 5 x3) 51),(8,.own rS g.1 true),(9,.own rB g.2.1 true),(11,.box [.I st.1,.sl 12] 82)],((0,.sl rR0 decls_)::(1,.sl rR5 known_)::vV0 3 4 5 x3 [(12,.sl (rI .i64) st.2)]),13⟩) (fun st=>z7_k7 N known_ x3 g st.1 st.2=some r) ?_ (fun j3=>?_))))
  ·rintro ⟨l,m⟩ h
   replace h:z7_k7 N known_ x3 g l m=some r:=h
   unfold z7_k7 at h
   refine wa J 5 (eCut (σ:=Int × (List Int)) (fun st=>(zz28 x3 g.1 g.2.1 st.1 decls_ known_ st.2 [(2,.S 1),(8,.B 6 0),(12,.S 8),(13,.S 9),(15,.B 11 0)])) (fun st=>z7_k3 N known_ x3 g st.1 st.2=some r) ?_ (fun j5=>?_))
   ·rintro ⟨o,p⟩ h
    replace h:z7_k3 N known_ x3 g o p=some r:=h
    unfold z7_k3 at h
    obtain ⟨q,s,h⟩:=ob h
    refine wa J 3 (eCl (z33_ct N (⟨o,p⟩:T6) _ s) [] [(0,.sl 13)] ?_)
    obtain ⟨K,h⟩|⟨K,h⟩:=oc h
    ·refine wH J 12 K ?_
     cases h
     exact wr J 6 func7 [(2,.nil)]
    refine wH J 12 K (wa J 11 (eCut (σ:=(List T5)) (fun st=>⟨[(2,.S 1),(8,.B 6 0),(23,.S 15)],[(6,.box (cC0 3 4 5 x3) 51),(15,.own rR5 st true)],((0,.sl rR0 decls_)::(1,.sl rR5 known_)::vV0 3 4 5 x3 []),16⟩) (fun st=>z7_k1 N known_ x3 st=some r) ?_ (fun j13=>?_)))
    ·intro u h
     replace h:z7_k1 N known_ x3 u=some r:=h
     unfold z7_k1 at h
     obtain ⟨v,x,h⟩:=ob h
     refine wa J 8 (eCb (z36_ct N x3 u known_ _ x) [] [(0,.sl 3),(1,.sl 4),(2,.sl 5),(3,.sl 15),(4,.sl 1)] [15] (.inr ⟨rfl,⟨(rM_flat (rP_flat (rI_flat _) (rP_flat (rI_flat _) rS_flat))),trivial⟩⟩) ?_)
     obtain ⟨y,z,h⟩:=ob h
     refine eCb (z35_ct N x3.Guard v _ z) [] [(0,.sl 4),(1,.sl 5),(2,.sl 16)] [16] (.inr ⟨rfl,trivial⟩) (wa J 1 (eEnd ?_))
     obtain ⟨K,h⟩|⟨K,h⟩:=oc h
     ·refine eK K ?_
      cases h
      exact wr J 6 func7 [(2,.nil)]
     refine eK K ?_
     cases h
     exact wr J 8 func7 [(2,.sl 15)]
    refine wa J 1 (eLoop (σ:=(List T5) × Int) (fun st=>⟨[(2,.S 1),(8,.B 6 0),(12,.S 8),(13,.S 9),(21,.S 14),(23,.S 15),(24,.I st.2)],[(6,.box (cC0 3 4 5 x3) 51),(8,.own rS g.1 true),(9,.own rB g.2.1 true),(14,.own (rI .i64) q.1 true),(15,.own rR5 st.1 true)],((0,.sl rR0 decls_)::(1,.sl rR5 known_)::vV0 3 4 5 x3 []),16⟩) (fun n st=>z7_l2 N known_ x3 g q n st.1 st.2) (r:=r) (fun _=>rfl) ?_ (fun ih=>?_))
    ·intro n5 ih15
     rintro ⟨A,C⟩ h
     replace h:z7_l2 N known_ x3 g q (n5+1) A C=some r:=h
     unfold z7_l2 at h
     obtain ⟨K,h⟩|⟨K,h⟩:=oc' h
     ·exact wH J 9 K (wa J 2 (eSub [] (j13 A h)))
     refine wH J 9 K ?_
     obtain ⟨D,G,h⟩:=ob h
     refine wa J 9 (eIx J oO2 G ?_)
     obtain ⟨K,h⟩|⟨K,h⟩:=oc h
     ·refine wH J 16 K ?_
      obtain ⟨H,R,h⟩:=ob h
      refine wa J 7 (eIo J (rI .i64) R (eLd J (oI .i64) R (wa J 7 (eBs J [] oO5 ([(⟨D.Sort'.Kind,H,(str [])⟩:T5)]:List T5) ?_))))
      obtain ⟨T,U,h⟩:=ob h
      exact eAp J rR5 U (wa J 8 (eSub [(15,.sl 20)] (ih15 (T,(w64 (C+1))) h)))
     refine wH J 16 K ?_
     obtain ⟨Z,a0,h⟩:=ob h
     refine wa J 5 (eIo J rB a0 (eLd J oB a0 ?_))
     obtain ⟨K,h⟩|⟨K,h⟩:=oc h
     ·refine wH J 2 K ?_
      obtain ⟨b0,c0,h⟩:=ob h
      refine wa J 4 (eIo J rS c0 (eLd J oS c0 (wa J 7 (eBs J [] oO5 ([(⟨D.Sort'.Kind,0,b0⟩:T5)]:List T5) ?_))))
      obtain ⟨d0,e0,h⟩:=ob h
      exact eAp J rR5 e0 (wa J 8 (eSub [(15,.sl 21)] (ih15 (d0,(w64 (C+1))) h)))
     refine wH J 2 K ?_
     obtain ⟨f0,g0,h⟩:=ob h
     refine wa J 7 (eIo J (rI .i64) g0 (eLd J (oI .i64) g0 ?_))
     obtain ⟨i0,j0,h⟩:=ob h
     refine eCl (z34_ct N f0 _ j0) [] [] (wa J 7 (eBs J [] oO5 ([(⟨D.Sort'.Kind,0,i0⟩:T5)]:List T5) ?_))
     obtain ⟨k0,l0,h⟩:=ob h
     exact eAp J rR5 l0 (wa J 8 (eSub [(15,.sl 21)] (ih15 (k0,(w64 (C+1))) h)))
    exact eSub [(15,.nil)] (ih N (([]:List T5),0) h)
   refine wa J 1 (eLoop (σ:=Int × (List Int) × Int) (fun st=>(zz28 x3 g.1 g.2.1 st.1 decls_ known_ st.2.1 [(2,.S 1),(8,.B 6 0),(12,.S 8),(13,.S 9),(15,.B 11 0),(18,.I st.2.2)])) (fun n st=>z7_l4 N known_ x3 g n st.1 st.2.1 st.2.2) (r:=r) (fun _=>rfl) ?_ (fun ih=>?_))
   ·intro n6 ih16
    rintro ⟨m0,o0,p0⟩ h
    replace h:z7_l4 N known_ x3 g (n6+1) m0 o0 p0=some r:=h
    unfold z7_l4 at h
    obtain ⟨K,h⟩|⟨K,h⟩:=oc' h
    ·exact wH J 8 K (wa J 2 (eSub [] (j5 (m0,o0) h)))
    refine wH J 8 K ?_
    obtain ⟨q0,s0,h⟩:=ob h
    refine wa J 8 (eIx J oO5 s0 ?_)
    obtain ⟨t0,u0,h⟩:=ob h
    refine wa J 1 (eCl (z31_ct N q0 _ u0) [] [] ?_)
    obtain ⟨v0,x0,h⟩:=ob h
    refine wa J 2 (eCl (z32_ct N x3 p0 _ x0) [] [(0,.sl 3),(1,.sl 4),(2,.sl 5)] ?_)
    obtain ⟨K,h⟩|⟨K,h⟩:=oc' h
    ·refine wH J 2 K (wa J 9 (eEnd ?_))
     obtain ⟨y0,z0,h⟩:=ob h
     refine wa J 5 (eCl (z32_ct N x3 p0 _ z0) [] [(0,.sl 3),(1,.sl 4),(2,.sl 5)] ?_)
     obtain ⟨K,h⟩|⟨K,h⟩:=oc' h
     ·exact wH J 1 K (wa J 23 (eSub [] (ih16 (m0,o0,(w64 (p0+1))) h)))
     refine wH J 1 K ?_
     obtain ⟨A0,B0,h⟩:=ob h
     refine wa J 5 (eIo J rB B0 (eLd J oB B0 (wa J 2 (eCut (σ:=Int × Bool) (fun st=>⟨[(2,.S 1),(8,.B 6 0),(12,.S 8),(13,.S 9),(15,.B 11 0),(18,.I p0),(19,.I st.1),(20,.O st.2)],[(6,.box (cC0 3 4 5 x3) 51),(8,.own rS g.1 true),(9,.own rB g.2.1 true),(11,.box [.I m0,.sl 13] 82)],((0,.sl rR0 decls_)::(1,.sl rR5 known_)::vV0 3 4 5 x3 [(13,.sl (rI .i64) o0)]),16⟩) (fun st=>z7_k6 N m0 o0 p0 (z7_l4 N known_ x3 g n6) st.1 st.2=some r) ?_ (fun j22=>?_)))))
     ·rintro ⟨C0,D0⟩ h
      replace h:z7_k6 N m0 o0 p0 (z7_l4 N known_ x3 g n6) C0 D0=some r:=h
      unfold z7_k6 at h
      obtain ⟨K,h⟩|⟨K,h⟩:=oc' h
      ·exact wH J 4 K (wa J 8 (eSub [] (ih16 (m0,o0,(w64 (p0+1))) h)))
      refine wH J 4 K ?_
      obtain ⟨G0,H0,h⟩:=ob h
      refine wa J 7 (eCl (z30_ct N (⟨m0,o0⟩:T6) (⟨p0,(-1),C0⟩:T1) _ H0) [] [(0,.sl 13)] ?_)
      obtain ⟨I0,L0,h⟩:=ob h
      exact wa J 11 (eCl (z30_ct N G0.1 (⟨(-1),p0,(w64 (0-C0))⟩:T1) _ L0) [] [(0,.sl 16)] (wa J 11 (eSub [(13,.sl 17)] (ih16 (I0.1.N,I0.1.B,(w64 (p0+1))) h))))
     obtain ⟨K,h⟩|⟨K,h⟩:=oc' h
     ·exact eK K (wa J 2 (eSub [] (j22 (t0,false) h)))
     refine eK K ?_
     obtain ⟨M0,O0,h⟩:=ob h
     exact wa J 7 (eIo J rS O0 (eLd J oS O0 (wa J 4 (eSub [] (j22 ((M0.size:Int),true) h)))))
    refine wH J 2 K ?_
    obtain ⟨R0,S0,h⟩:=ob h
    refine wa J 2 (eIx J oO5 S0 (wa J 6 (eEnd ?_)))
    obtain ⟨T0,U0,h⟩:=ob h
    refine wa J 5 (eCl (z32_ct N x3 p0 _ U0) [] [(0,.sl 3),(1,.sl 4),(2,.sl 5)] ?_)
    obtain ⟨K,h⟩|⟨K,h⟩:=oc' h
    ·refine wH J 1 K ?_
     obtain ⟨K,h⟩|⟨K,h⟩:=oc' h
     ·exact wH J 15 K (wa J 8 (eSub [] (ih16 (m0,o0,(w64 (p0+1))) h)))
     refine wH J 15 K ?_
     obtain ⟨V0,X0,h⟩:=ob h
     refine wa J 7 (eCl (z30_ct N (⟨m0,o0⟩:T6) (⟨p0,(-1),t0⟩:T1) _ X0) [] [(0,.sl 13)] ?_)
     obtain ⟨Y0,Z0,h⟩:=ob h
     exact wa J 11 (eCl (z30_ct N V0.1 (⟨(-1),p0,(w64 (0-t0))⟩:T1) _ Z0) [] [(0,.sl 16)] (wa J 11 (eSub [(13,.sl 17)] (ih16 (Y0.1.N,Y0.1.B,(w64 (p0+1))) h))))
    refine wH J 1 K ?_
    obtain ⟨a1,b1,h⟩:=ob h
    refine wa J 5 (eIo J rB b1 (eLd J oB b1 (wa J 2 (eCut (σ:=Int × Bool) (fun st=>⟨[(2,.S 1),(8,.B 6 0),(12,.S 8),(13,.S 9),(15,.B 11 0),(18,.I p0),(19,.I st.1),(20,.O st.2)],[(6,.box (cC0 3 4 5 x3) 51),(8,.own rS g.1 true),(9,.own rB g.2.1 true),(11,.box [.I m0,.sl 13] 82)],((0,.sl rR0 decls_)::(1,.sl rR5 known_)::vV0 3 4 5 x3 [(13,.sl (rI .i64) o0)]),17⟩) (fun st=>z7_k5 N m0 o0 p0 (z7_l4 N known_ x3 g n6) st.1 st.2=some r) ?_ (fun j21=>?_)))))
    ·rintro ⟨c1,d1⟩ h
     replace h:z7_k5 N m0 o0 p0 (z7_l4 N known_ x3 g n6) c1 d1=some r:=h
     unfold z7_k5 at h
     obtain ⟨K,h⟩|⟨K,h⟩:=oc' h
     ·exact wH J 4 K (wa J 8 (eSub [] (ih16 (m0,o0,(w64 (p0+1))) h)))
     refine wH J 4 K ?_
     obtain ⟨e1,f1,h⟩:=ob h
     refine wa J 7 (eCl (z30_ct N (⟨m0,o0⟩:T6) (⟨p0,(-1),c1⟩:T1) _ f1) [] [(0,.sl 13)] ?_)
     obtain ⟨g1,i1,h⟩:=ob h
     exact wa J 11 (eCl (z30_ct N e1.1 (⟨(-1),p0,(w64 (0-c1))⟩:T1) _ i1) [] [(0,.sl 17)] (wa J 11 (eSub [(13,.sl 18)] (ih16 (g1.1.N,g1.1.B,(w64 (p0+1))) h))))
    obtain ⟨K,h⟩|⟨K,h⟩:=oc' h
    ·exact eK K (wa J 2 (eSub [] (j21 (t0,(R0.Kind != 0)) h)))
    refine eK K ?_
    obtain ⟨k1,l1,h⟩:=ob h
    exact wa J 7 (eIo J rS l1 (eLd J oS l1 (wa J 4 (eSub [] (j21 ((k1.size:Int),true) h)))))
   exact eSub [(13,.sl 12)] (ih N (l,m,0) h)
  refine wa J 1 (eLoop (σ:=Int × (List Int) × Int) (fun st=>⟨[(2,.S 1),(8,.B 6 0),(9,.S 7),(12,.S 8),(13,.S 9),(15,.B 11 0),(17,.I st.2.2)],[(6,.box (cC0 3 4 5 x3) 51),(7,.own rR1 x4.1 true),(8,.own rS g.1 true),(9,.own rB g.2.1 true),(11,.box [.I st.1,.sl 12] 82)],((0,.sl rR0 decls_)::(1,.sl rR5 known_)::vV0 3 4 5 x3 [(12,.sl (rI .i64) st.2.1)]),13⟩) (fun n st=>z7_l8 N known_ x3 x4 g n st.1 st.2.1 st.2.2) (r:=r) (fun _=>rfl) ?_ (fun ih=>?_))
  ·intro n7 ih23
   rintro ⟨m1,o1,p1⟩ h
   replace h:z7_l8 N known_ x3 x4 g (n7+1) m1 o1 p1=some r:=h
   unfold z7_l8 at h
   obtain ⟨K,h⟩|⟨K,h⟩:=oc' h
   ·exact wH J 8 K (wa J 2 (eSub [] (j3 (m1,o1) h)))
   refine wH J 8 K ?_
   obtain ⟨q1,s1,h⟩:=ob h
   refine wa J 8 (eIo J rR1 s1 (eLd J oO1 s1 ?_))
   obtain ⟨t1,u1,h⟩:=ob h
   exact eCl (z30_ct N (⟨m1,o1⟩:T6) q1 _ u1) [] [(0,.sl 12)] (wa J 4 (eEnd (wa J 6 (eSub [(12,.sl 14)] (ih23 (t1.1.N,t1.1.B,(w64 (p1+1))) h)))))
  exact eSub [(12,.sl 10)] (ih N (j.1.N,j.1.B,0) h)
 refine wa J 1 (eLoop (σ:=Int) (fun st=>(zz27 x3 x4.1 decls_ known_ [(2,.S 1),(8,.B 6 0),(9,.S 7),(11,.I st)])) (fun n st=>z7_l10 N known_ x3 x4 n st) (r:=r) (fun _=>rfl) ?_ (fun ih=>?_))
 ·intro n8 ih24
  intro v1 h
  replace h:z7_l10 N known_ x3 x4 (n8+1) v1=some r:=h
  unfold z7_l10 at h
  obtain ⟨K,h⟩|⟨K,h⟩:=oc' h
  ·exact wH J 8 K (wa J 2 (eSub [] (j1 () h)))
  refine wH J 8 K ?_
  obtain ⟨y1,z1,h⟩:=ob h
  refine wa J 10 (eIo J rR1 z1 (wa J 1 (eLd J oO1 z1 ?_)))
  obtain ⟨A1,B1,h⟩:=ob h
  refine eCl (z27_ct N x3 known_ y1.X _ B1) [] [(0,.sl 3),(1,.sl 4),(2,.sl 5),(3,.sl 1)] ?_
  obtain ⟨K,h⟩|⟨K,h⟩:=oc h
  ·refine wH J 1 K (wa J 9 (eEnd ?_))
   cases h
   exact wr J 6 func7 [(2,.nil)]
  refine wH J 1 K ?_
  obtain ⟨C1,D1,h⟩:=ob h
  refine wa J 4 (eIo J rR1 D1 (wa J 1 (eLd J oO1 D1 ?_)))
  obtain ⟨G1,H1,h⟩:=ob h
  refine eCl (z27_ct N x3 known_ C1.Y _ H1) [] [(0,.sl 3),(1,.sl 4),(2,.sl 5),(3,.sl 1)] (wa J 1 (eEnd ?_))
  obtain ⟨K,h⟩|⟨K,h⟩:=oc h
  ·refine eK K ?_
   cases h
   exact wr J 6 func7 [(2,.nil)]
  exact eK K (wa J 8 (eSub [] (ih24 (w64 (v1+1)) h)))
 exact eSub [] (ih N 0 h)
theorem z8_ct (N:Nat) (a_:(List T5)) (b_:(List T5)) (r:Bool) (h:z8 N a_ b_=some r) :
 Fn Tryz.prog 8 ⟨2,[.S 0,.S 1],[(0,.sl rR5 a_),(1,.sl rR5 b_)],[],2,.O r,[],[]⟩:=by
 refine eFn func8 rfl (fun E F w=>?_)
 unfold z8 at h
 obtain ⟨K,h⟩|⟨K,h⟩:=oc h
 ·refine wH J 13 K ?_
  cases h
  exact wr J 5 func8 []
 refine wH J 13 K (wa J 7 (eCut (σ:=Unit) (fun st=>⟨[],[],[(0,.sl rR5 a_),(1,.sl rR5 b_)],2⟩) (fun st=>z8_k1=some r) ?_ (fun j1=>?_)))
 ·intro _ h
  replace h:z8_k1=some r:=h
  unfold z8_k1 at h
  cases h
  exact wr J 4 func8 []
 refine wa J 1 (eLoop (σ:=Int) (fun st=>⟨[(0,.S 0),(1,.S 1),(5,.I st)],[],[(0,.sl rR5 a_),(1,.sl rR5 b_)],2⟩) (fun n st=>z8_l2 a_ b_ n st) (r:=r) (fun _=>rfl) ?_ (fun ih=>?_))
 ·intro n2 ih3
  intro c h
  replace h:z8_l2 a_ b_ (n2+1) c=some r:=h
  unfold z8_l2 at h
  obtain ⟨K,h⟩|⟨K,h⟩:=oc' h
  ·exact wH J 8 K (wa J 2 (eSub [] (j1 () h)))
  refine wH J 8 K ?_
  obtain ⟨d,e,h⟩:=ob h
  refine wa J 8 (eIx J oO5 e ?_)
  obtain ⟨f,g,h⟩:=ob h
  refine wa J 3 (eIx J oO5 g (wa J 1 (eEq (eEnd ?_))))
  obtain ⟨K,h⟩|⟨K,h⟩:=oc h
  ·refine eK K ?_
   cases h
   exact wr J 5 func8 []
  exact eK K (wa J 8 (eSub [] (ih3 (w64 (c+1)) h)))
 exact eSub [] (ih N 0 h)
theorem law14_GuardFill_ct (N:Nat) (d_:(List T0)) (label_:Int) (known_:(List T5)) (r:Bool) (h:law14_GuardFill N d_ label_ known_=some r) :
 Fn Tryz.prog 3 ⟨2,[.S 0,.I label_,.S 1],[(0,.sl rR0 d_),(1,.sl rR5 known_)],[],2,.O r,[],[]⟩:=by
 refine eFn func3 rfl (fun E F w=>?_)
 unfold law14_GuardFill at h
 obtain ⟨x1,c,h⟩:=ob h
 refine wa J 7 (eCl (z4_ct N _ c) [] [] ?_)
 obtain ⟨K,h⟩|⟨K,h⟩:=oc h
 ·refine wH J 2 K ?_
  obtain ⟨x2,d,h⟩:=ob h
  refine wa J 9 (eCl (z4_ct N _ d) [] [] ?_)
  cases h
  exact wr J 2 func3 []
 refine wH J 2 K ?_
 obtain ⟨x3,e,h⟩:=ob h
 refine wa J 2 (eCl (z5_ct N d_ ([]:List T5) known_ _ e) [] [(0,.sl 0),(1,.nil),(2,.sl 1)] ?_)
 obtain ⟨K,h⟩|⟨K,h⟩:=oc h
 ·refine wH J 3 K ?_
  obtain ⟨x4,f,h⟩:=ob h
  refine wa J 3 (eCl (z4_ct N _ f) [] [] ?_)
  cases h
  exact wr J 2 func3 []
 refine wH J 3 K ?_
 obtain ⟨x5,g,h⟩:=ob h
 refine wa J 7 (eCl (z6_ct N d_ label_ known_ _ g) [] [(0,.sl 0),(1,.sl 1)] ?_)
 obtain ⟨x6,i,h⟩:=ob h
 refine wa J 11 (eCl (z7_ct N d_ label_ known_ _ i) [] [(0,.sl 0),(1,.sl 1)] ?_)
 obtain ⟨K,h⟩|⟨K,h⟩:=oc' h
 ·refine wH J 12 K ?_
  cases h
  exact wr J 6 func3 []
 refine wH J 12 K ?_
 obtain ⟨x7,j,h⟩:=ob h
 refine wa J 2 (eCb (z8_ct N x5.1 x6.1 _ j) [] [(0,.sl 2),(1,.sl 3)] [2,3] (.inr ⟨rfl,trivial⟩) ?_)
 cases h
 exact wr J 3 func3 []
end Gx
end
