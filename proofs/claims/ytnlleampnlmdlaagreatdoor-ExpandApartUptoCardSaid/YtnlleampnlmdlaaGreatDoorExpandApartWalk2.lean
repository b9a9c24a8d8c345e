/- Each function of the statement computes what its plain definition says, part 2. -/
import Derived.Test.YtnlleampnlmdlaaGreatDoorExpandApartWalk1
set_option linter.all false
section
set_option maxRecDepth 10000
set_option maxHeartbeats 4000000
open Go Go.Kx Go.Proofs Tryz
namespace Gx
theorem z28_b_ct (N:Nat) (rc:T7→(List T15)→(List T8)→Option T7) (rc_Pnames_checker_items_ct:(∀ (c_:T7) (l_:(List T15)) (loops_:(List T8)) (r:T7),rc c_ l_ loops_=some r→Fn Tryz.prog 28 ⟨8,[.B 0 0,.S 6,.S 7],((1,.sl rR17 c_.all')::vV17 2 3 4 c_.p' [(6,.sl rR15 l_),(7,.sl rR8 loops_)]),[(0,.box (cC7 1 2 3 4 5 c_) 86),(5,.own rS c_.calls' false)],13,.t [],((8,.sl rR17 r.all')::vV17 9 10 11 r.p' []),[(5,.gone),(12,.own rS r.calls' false),(0,.box (cC7 8 9 10 11 12 r) 86)]⟩)) (c_:T7) (l_:(List T15)) (loops_:(List T8)) (r:T7) (h:z28_b N rc c_ l_ loops_=some r) :
 Fn Tryz.prog 28 ⟨8,[.B 0 0,.S 6,.S 7],((1,.sl rR17 c_.all')::vV17 2 3 4 c_.p' [(6,.sl rR15 l_),(7,.sl rR8 loops_)]),[(0,.box (cC7 1 2 3 4 5 c_) 86),(5,.own rS c_.calls' false)],13,.t [],((8,.sl rR17 r.all')::vV17 9 10 11 r.p' []),[(5,.gone),(12,.own rS r.calls' false),(0,.box (cC7 8 9 10 11 12 r) 86)]⟩:=by
 refine eFn func28 rfl (fun E F w=>?_)
 unfold z28_b at h
 refine wa J 6 (eCut (σ:=(List T17) × ByteArray × (List ByteArray) × (List T16) × (List T15) × (List ByteArray) × ByteArray × ByteArray × Int) (fun st=>(zz23 st.2.1 st.2.2.2.2.2.2.1 st.2.2.2.2.2.2.2.1 st.2.2.2.2.2.2.2.2 st.2.2.2.2.2.1 c_.all' c_.p' l_ loops_ st.1 st.2.2.1 st.2.2.2.1 st.2.2.2.2.1 [])) (fun st=>z28_k1 st.1 st.2.1 st.2.2.1 st.2.2.2.1 st.2.2.2.2.1 st.2.2.2.2.2.1 st.2.2.2.2.2.2.1 st.2.2.2.2.2.2.2.1 st.2.2.2.2.2.2.2.2=some r) ?_ (fun j1=>?_))
 ·rintro ⟨vbk0_0_0_1,vbk0_0_1_1,vbk0_0_2_1,vbk0_0_3_1,vbk0_0_4_1,vbk0_0_5_1,vbk0_0_6_1,vbk0_0_7_1,vbk0_0_8_1⟩ h
  replace h:z28_k1 vbk0_0_0_1 vbk0_0_1_1 vbk0_0_2_1 vbk0_0_3_1 vbk0_0_4_1 vbk0_0_5_1 vbk0_0_6_1 vbk0_0_7_1 vbk0_0_8_1=some r:=h
  unfold z28_k1 at h
  cases h
  exact eRet J func28 [(8,.sl 8),(9,.sl 9),(10,.sl 10),(11,.sl 11),(12,.sl 12)]
 refine wa J 1 (eLoop (σ:=(List T17) × ByteArray × (List ByteArray) × (List T16) × (List T15) × (List ByteArray) × ByteArray × ByteArray × Int × Int) (fun st=>(zz23 st.2.1 st.2.2.2.2.2.2.1 st.2.2.2.2.2.2.2.1 st.2.2.2.2.2.2.2.2.1 st.2.2.2.2.2.1 c_.all' c_.p' l_ loops_ st.1 st.2.2.1 st.2.2.2.1 st.2.2.2.2.1 [(0,.B 0 0),(1,.S 6),(2,.S 7),(14,.S 6),(15,.I (l_.length:Int)),(16,.I st.2.2.2.2.2.2.2.2.2)])) (fun n st=>z28_l2 N rc l_ loops_ n st.1 st.2.1 st.2.2.1 st.2.2.2.1 st.2.2.2.2.1 st.2.2.2.2.2.1 st.2.2.2.2.2.2.1 st.2.2.2.2.2.2.2.1 st.2.2.2.2.2.2.2.2.1 st.2.2.2.2.2.2.2.2.2) (r:=r) (fun _=>rfl) ?_ (fun ih=>?_))
 ·intro n32 ih33
  rintro ⟨vbk0_0_0_33,vbk0_0_1_33,vbk0_0_2_33,vbk0_0_3_33,vbk0_0_4_33,vbk0_0_5_33,vbk0_0_6_33,vbk0_0_7_33,vbk0_0_8_33,c⟩ h
  replace h:z28_l2 N rc l_ loops_ (n32+1) vbk0_0_0_33 vbk0_0_1_33 vbk0_0_2_33 vbk0_0_3_33 vbk0_0_4_33 vbk0_0_5_33 vbk0_0_6_33 vbk0_0_7_33 vbk0_0_8_33 c=some r:=h
  unfold z28_l2 at h
  refine wB' J 5 h (fun h=>wa J 2 (eSub [] (j1 (vbk0_0_0_33,vbk0_0_1_33,vbk0_0_2_33,vbk0_0_3_33,vbk0_0_4_33,vbk0_0_5_33,vbk0_0_6_33,vbk0_0_7_33,vbk0_0_8_33) h))) fun h=>?_
  refine wO J 7 h fun d e h=>eIx J oO15 e ?_
  refine wO J 8 h fun f g h=>eCl (z60_ct N loops_ _ g) [] [(0,.sl 7)] (wa J 9 (eCut (σ:=(List T8)) (fun st=>(zz24 vbk0_0_1_33 vbk0_0_6_33 vbk0_0_7_33 vbk0_0_8_33 vbk0_0_5_33 d.Kind d.From d.Name d.As d.Ticks st c_.all' c_.p' l_ loops_ vbk0_0_0_33 vbk0_0_2_33 vbk0_0_3_33 vbk0_0_4_33 d.To d.Blocks [(0,.B 0 0),(1,.S 6),(2,.S 7),(7,.B 16 0),(8,.S 17),(14,.S 6),(15,.I (l_.length:Int)),(16,.I c)])) (fun st=>z28_k8 N rc vbk0_0_0_33 vbk0_0_1_33 vbk0_0_2_33 vbk0_0_3_33 vbk0_0_4_33 vbk0_0_5_33 vbk0_0_6_33 vbk0_0_7_33 vbk0_0_8_33 c (z28_l2 N rc l_ loops_ n32) d st=some r) ?_ (fun j54=>?_)))
  ·intro i h
   replace h:z28_k8 N rc vbk0_0_0_33 vbk0_0_1_33 vbk0_0_2_33 vbk0_0_3_33 vbk0_0_4_33 vbk0_0_5_33 vbk0_0_6_33 vbk0_0_7_33 vbk0_0_8_33 c (z28_l2 N rc l_ loops_ n32) d i=some r:=h
   unfold z28_k8 at h
   refine wa J 12 (eCut (σ:=(List T17) × ByteArray × (List ByteArray) × (List T16) × (List T15) × (List ByteArray) × ByteArray × ByteArray × Int × (List T8)) (fun st=>(zz9 st.2.1 st.2.2.2.2.2.2.1 st.2.2.2.2.2.2.2.1 st.2.2.2.2.2.2.2.2.1 d.Kind d.From d.Name d.As d.Ticks st.2.2.2.2.2.1 st.2.2.2.2.2.2.2.2.2 c_.all' c_.p' l_ loops_ d.To d.Blocks st.1 st.2.2.1 st.2.2.2.1 st.2.2.2.2.1 [(0,.B 0 0),(1,.S 6),(2,.S 7),(7,.B 16 0),(8,.S 23),(14,.S 6),(15,.I (l_.length:Int)),(16,.I c)])) (fun st=>z28_k7 N rc c (z28_l2 N rc l_ loops_ n32) d st.1 st.2.1 st.2.2.1 st.2.2.2.1 st.2.2.2.2.1 st.2.2.2.2.2.1 st.2.2.2.2.2.2.1 st.2.2.2.2.2.2.2.1 st.2.2.2.2.2.2.2.2.1 st.2.2.2.2.2.2.2.2.2=some r) ?_ (fun j56=>?_))
   ·rintro ⟨vbk0_0_0_56,vbk0_0_1_56,vbk0_0_2_56,vbk0_0_3_56,vbk0_0_4_56,vbk0_0_5_56,vbk0_0_6_56,vbk0_0_7_56,vbk0_0_8_56,j⟩ h
    replace h:z28_k7 N rc c (z28_l2 N rc l_ loops_ n32) d vbk0_0_0_56 vbk0_0_1_56 vbk0_0_2_56 vbk0_0_3_56 vbk0_0_4_56 vbk0_0_5_56 vbk0_0_6_56 vbk0_0_7_56 vbk0_0_8_56 j=some r:=h
    unfold z28_k7 at h
    refine wa J 8 (eCut (σ:=(List T8)) (fun st=>(zz9 vbk0_0_1_56 vbk0_0_6_56 vbk0_0_7_56 vbk0_0_8_56 d.Kind d.From d.Name d.As d.Ticks vbk0_0_5_56 st c_.all' c_.p' l_ loops_ d.To d.Blocks vbk0_0_0_56 vbk0_0_2_56 vbk0_0_3_56 vbk0_0_4_56 [(0,.B 0 0),(1,.S 6),(2,.S 7),(7,.B 16 0),(8,.S 23),(14,.S 6),(15,.I (l_.length:Int)),(16,.I c)])) (fun st=>z28_k5 N rc c (z28_l2 N rc l_ loops_ n32) d vbk0_0_0_56 vbk0_0_1_56 vbk0_0_2_56 vbk0_0_3_56 vbk0_0_4_56 vbk0_0_5_56 vbk0_0_6_56 vbk0_0_7_56 vbk0_0_8_56 st=some r) ?_ (fun j57=>?_))
    ·intro k h
     replace h:z28_k5 N rc c (z28_l2 N rc l_ loops_ n32) d vbk0_0_0_56 vbk0_0_1_56 vbk0_0_2_56 vbk0_0_3_56 vbk0_0_4_56 vbk0_0_5_56 vbk0_0_6_56 vbk0_0_7_56 vbk0_0_8_56 k=some r:=h
     unfold z28_k5 at h
     refine wa J 7 (eCut (σ:=(List T17) × ByteArray × (List ByteArray) × (List T16) × (List T15) × (List ByteArray) × ByteArray × ByteArray × Int) (fun st=>⟨[(0,.B 0 0),(1,.S 6),(2,.S 7),(14,.S 6),(15,.I (l_.length:Int)),(16,.I c)],[(0,.box [.sl 24,.s st.2.1,.sl 25,.sl 26,.sl 27,.sl 28,.s st.2.2.2.2.2.2.1,.s st.2.2.2.2.2.2.2.1,.I st.2.2.2.2.2.2.2.2] 86),(28,.own rS st.2.2.2.2.2.1 false)],((1,.sl rR17 c_.all')::vV17 2 3 4 c_.p' [(6,.sl rR15 l_),(7,.sl rR8 loops_),(24,.sl rR17 st.1),(25,.sl rS st.2.2.1),(26,.sl rR16 st.2.2.2.1),(27,.sl rR15 st.2.2.2.2.1)]),29⟩) (fun st=>z28_k3 c (z28_l2 N rc l_ loops_ n32) st.1 st.2.1 st.2.2.1 st.2.2.2.1 st.2.2.2.2.1 st.2.2.2.2.2.1 st.2.2.2.2.2.2.1 st.2.2.2.2.2.2.2.1 st.2.2.2.2.2.2.2.2=some r) ?_ (fun j59=>?_))
     ·rintro ⟨vbk0_0_0_59,vbk0_0_1_59,vbk0_0_2_59,vbk0_0_3_59,vbk0_0_4_59,vbk0_0_5_59,vbk0_0_6_59,vbk0_0_7_59,vbk0_0_8_59⟩ h
      replace h:z28_k3 c (z28_l2 N rc l_ loops_ n32) vbk0_0_0_59 vbk0_0_1_59 vbk0_0_2_59 vbk0_0_3_59 vbk0_0_4_59 vbk0_0_5_59 vbk0_0_6_59 vbk0_0_7_59 vbk0_0_8_59=some r:=h
      unfold z28_k3 at h
      exact wa J 5 (eSub [(8,.sl 24),(9,.sl 25),(10,.sl 26),(11,.sl 27),(12,.sl 28)] (ih33 (vbk0_0_0_59,vbk0_0_1_59,vbk0_0_2_59,vbk0_0_3_59,vbk0_0_4_59,vbk0_0_5_59,vbk0_0_6_59,vbk0_0_7_59,vbk0_0_8_59,(w64 (c+1))) h))
     refine wa J 1 (eLoop (σ:=(List T17) × ByteArray × (List ByteArray) × (List T16) × (List T15) × (List ByteArray) × ByteArray × ByteArray × Int × Int) (fun st=>⟨[(0,.B 0 0),(1,.S 6),(2,.S 7),(8,.S 23),(14,.S 6),(15,.I (l_.length:Int)),(16,.I c),(123,.S 15),(124,.I (d.Blocks.length:Int)),(125,.I st.2.2.2.2.2.2.2.2.2)],[(0,.box [.sl 24,.s st.2.1,.sl 25,.sl 26,.sl 27,.sl 28,.s st.2.2.2.2.2.2.1,.s st.2.2.2.2.2.2.2.1,.I st.2.2.2.2.2.2.2.2.1] 86),(28,.own rS st.2.2.2.2.2.1 false)],((1,.sl rR17 c_.all')::vV17 2 3 4 c_.p' [(6,.sl rR15 l_),(7,.sl rR8 loops_),(15,.sl (rSl rR15) d.Blocks),(23,.sl rR8 k),(24,.sl rR17 st.1),(25,.sl rS st.2.2.1),(26,.sl rR16 st.2.2.2.1),(27,.sl rR15 st.2.2.2.2.1)]),29⟩) (fun n st=>z28_l4 rc c (z28_l2 N rc l_ loops_ n32) d k n st.1 st.2.1 st.2.2.1 st.2.2.2.1 st.2.2.2.2.1 st.2.2.2.2.2.1 st.2.2.2.2.2.2.1 st.2.2.2.2.2.2.2.1 st.2.2.2.2.2.2.2.2.1 st.2.2.2.2.2.2.2.2.2) (r:=r) (fun _=>rfl) ?_ (fun ih=>?_))
     ·intro n36 ih61
      rintro ⟨vbk0_0_0_61,vbk0_0_1_61,vbk0_0_2_61,vbk0_0_3_61,vbk0_0_4_61,vbk0_0_5_61,vbk0_0_6_61,vbk0_0_7_61,vbk0_0_8_61,l⟩ h
      replace h:z28_l4 rc c (z28_l2 N rc l_ loops_ n32) d k (n36+1) vbk0_0_0_61 vbk0_0_1_61 vbk0_0_2_61 vbk0_0_3_61 vbk0_0_4_61 vbk0_0_5_61 vbk0_0_6_61 vbk0_0_7_61 vbk0_0_8_61 l=some r:=h
      unfold z28_l4 at h
      refine wB' J 5 h (fun h=>wa J 2 (eSub [] (j59 (vbk0_0_0_61,vbk0_0_1_61,vbk0_0_2_61,vbk0_0_3_61,vbk0_0_4_61,vbk0_0_5_61,vbk0_0_6_61,vbk0_0_7_61,vbk0_0_8_61) h))) fun h=>?_
      refine wO J 6 h fun m o h=>eIx J (oSl rR15) o ?_
      exact wO J 7 h fun p q h=>eCl (rc_Pnames_checker_items_ct (⟨vbk0_0_0_61,(⟨vbk0_0_1_61,vbk0_0_2_61,vbk0_0_3_61,vbk0_0_4_61⟩:T17),vbk0_0_5_61,(⟨vbk0_0_6_61,vbk0_0_7_61,vbk0_0_8_61⟩:T6)⟩:T7) m k _ q) [] [(0,.bp 0 0),(1,.sl 24),(2,.sl 25),(3,.sl 26),(4,.sl 27),(5,.sl 28),(6,.sl 30),(7,.sl 23)] (wa J 6 (eSub [(24,.sl 31),(25,.sl 32),(26,.sl 33),(27,.sl 34),(28,.sl 35)] (ih61 (p.all',p.p'.Name,p.p'.Roles,p.p'.Messages,p.p'.Body,p.calls',p.out'.Protocol,p.out'.Name,p.out'.Err,(w64 (l+1))) h)))
     exact eFr [23] (eSub [(24,.sl 18),(25,.sl 19),(26,.sl 20),(27,.sl 21),(28,.sl 22)] (ih N (vbk0_0_0_56,vbk0_0_1_56,vbk0_0_2_56,vbk0_0_3_56,vbk0_0_4_56,vbk0_0_5_56,vbk0_0_6_56,vbk0_0_7_56,vbk0_0_8_56,0) h))
    refine wa J 1 (eLoop (σ:=(List T8) × Int) (fun st=>(zz9 vbk0_0_1_56 vbk0_0_6_56 vbk0_0_7_56 vbk0_0_8_56 d.Kind d.From d.Name d.As d.Ticks vbk0_0_5_56 st.1 c_.all' c_.p' l_ loops_ d.To d.Blocks vbk0_0_0_56 vbk0_0_2_56 vbk0_0_3_56 vbk0_0_4_56 [(0,.B 0 0),(1,.S 6),(2,.S 7),(7,.B 16 0),(8,.S 23),(14,.S 6),(15,.I (l_.length:Int)),(16,.I c),(103,.I (j.length:Int)),(104,.I st.2)])) (fun n st=>z28_l6 N rc c (z28_l2 N rc l_ loops_ n32) d vbk0_0_0_56 vbk0_0_1_56 vbk0_0_2_56 vbk0_0_3_56 vbk0_0_4_56 vbk0_0_5_56 vbk0_0_6_56 vbk0_0_7_56 vbk0_0_8_56 j n st.1 st.2) (r:=r) (fun _=>rfl) ?_ (fun ih=>?_))
    ·intro n37 ih62
     rintro ⟨u,v⟩ h
     replace h:z28_l6 N rc c (z28_l2 N rc l_ loops_ n32) d vbk0_0_0_56 vbk0_0_1_56 vbk0_0_2_56 vbk0_0_3_56 vbk0_0_4_56 vbk0_0_5_56 vbk0_0_6_56 vbk0_0_7_56 vbk0_0_8_56 j (n37+1) u v=some r:=h
     unfold z28_l6 at h
     refine wB' J 5 h (fun h=>wa J 2 (eSub [] (j57 u h))) fun h=>?_
     refine wO J 14 h fun x y h=>eIo J rR8 y (wa J 1 (eLd J oO8 y ?_))
     refine wB J 1 h (fun h=>?_) fun h=>?_
     ·exact wO J 4 h fun z A h=>eIo J rR8 A (wa J 1 (eSt J [] oO8 (⟨z.name',z.tail',true⟩:T8) A (wa J 6 (eSub [] (ih62 ((setL' u v (⟨z.name',z.tail',true⟩:T8)),(w64 (v+1))) h)))))
     exact wO J 4 h fun C D h=>eIo J rR8 D (wa J 1 (eSt J [] oO8 (⟨C.name',C.tail',(d.Kind==5)⟩:T8) D (wa J 6 (eSub [] (ih62 ((setL' u v (⟨C.name',C.tail',(d.Kind==5)⟩:T8)),(w64 (v+1))) h)))))
    exact eSub [] (ih N (j,0) h)
   refine eB h (fun h=>?_) fun h=>?_
   ·exact wO J 4 h fun G H h=>eCl (z61_ct N (⟨vbk0_0_0_33,(⟨vbk0_0_1_33,vbk0_0_2_33,vbk0_0_3_33,vbk0_0_4_33⟩:T17),vbk0_0_5_33,(⟨vbk0_0_6_33,vbk0_0_7_33,vbk0_0_8_33⟩:T6)⟩:T7) d _ H) [] [(0,.bp 0 0),(1,.sl 8),(2,.sl 9),(3,.sl 10),(4,.sl 11),(5,.sl 12),(6,.sl 14),(7,.sl 15)] (wa J 1 (eSub [(23,.sl 17)] (j56 (G.all',G.p'.Name,G.p'.Roles,G.p'.Messages,G.p'.Body,G.calls',G.out'.Protocol,G.out'.Name,G.out'.Err,i) h)))
   refine wB J 6 h (fun h=>wa J 5 (eBs J [] oS ([d.From]:List ByteArray) ?_)) fun h=>?_
   ·obtain ⟨R,T,h⟩:=ob h
    exact eCl (z62_ct N (⟨vbk0_0_0_33,(⟨vbk0_0_1_33,vbk0_0_2_33,vbk0_0_3_33,vbk0_0_4_33⟩:T17),vbk0_0_5_33,(⟨vbk0_0_6_33,vbk0_0_7_33,vbk0_0_8_33⟩:T6)⟩:T7) ([d.From]:List ByteArray) 0 _ T) [18] [(0,.bp 0 0),(1,.sl 8),(2,.sl 9),(3,.sl 10),(4,.sl 11),(5,.sl 12),(6,.sl 18)] (wa J 1 (eSub [(18,.sl 19),(19,.sl 20),(20,.sl 21),(21,.sl 22),(22,.sl 23),(23,.sl 17)] (j56 (R.all',R.p'.Name,R.p'.Roles,R.p'.Messages,R.p'.Body,R.calls',R.out'.Protocol,R.out'.Name,R.out'.Err,i) h)))
   refine wB J 6 h (fun h=>?_) fun h=>?_
   ·refine wO J 6 h fun U X h=>eCb (z63_35_ct N i d _ X) [] [(0,.sl 17),(1,.bp 16 0),(2,.sl 14),(3,.sl 15)] [17] (.inr ⟨rfl,trivial⟩) ?_
    refine wB' J 1 h (fun h=>wa J 7 (eBs J [] oO8 ([(⟨d.Name,true,false⟩:T8)]:List T8) ?_)) fun h=>?_
    ·obtain ⟨Y,Z,h⟩:=ob h
     exact eAp J rR8 Z (wa J 2 (eSub [(18,.sl 8),(19,.sl 9),(20,.sl 10),(21,.sl 11),(22,.sl 12),(23,.sl 19)] (j56 (vbk0_0_0_33,vbk0_0_1_33,vbk0_0_2_33,vbk0_0_3_33,vbk0_0_4_33,vbk0_0_5_33,vbk0_0_6_33,vbk0_0_7_33,vbk0_0_8_33,Y) h)))
    refine wO J 5 h fun a0 b0 h=>eCl (z24_ct N (⟨vbk0_0_0_33,(⟨vbk0_0_1_33,vbk0_0_2_33,vbk0_0_3_33,vbk0_0_4_33⟩:T17),vbk0_0_5_33,(⟨vbk0_0_6_33,vbk0_0_7_33,vbk0_0_8_33⟩:T6)⟩:T7) d.Name 9 _ b0) [] [(0,.bp 0 0),(1,.sl 8),(2,.sl 9),(3,.sl 10),(4,.sl 11),(5,.sl 12)] (wa J 6 (eBs J [] oO8 ([(⟨d.Name,true,false⟩:T8)]:List T8) ?_))
    obtain ⟨c0,d0,h⟩:=ob h
    exact eAp J rR8 d0 (wa J 2 (eSub [(23,.sl 24)] (j56 (a0.all',a0.p'.Name,a0.p'.Roles,a0.p'.Messages,a0.p'.Body,a0.calls',a0.out'.Protocol,a0.out'.Name,a0.out'.Err,c0) h)))
   refine wB' J 6 h (fun h=>?_) fun h=>?_
   ·refine wB' J 6 h (fun h=>wa J 2 (eSub [(18,.sl 8),(19,.sl 9),(20,.sl 10),(21,.sl 11),(22,.sl 12),(23,.sl 17)] (j56 (vbk0_0_0_33,vbk0_0_1_33,vbk0_0_2_33,vbk0_0_3_33,vbk0_0_4_33,vbk0_0_5_33,vbk0_0_6_33,vbk0_0_7_33,vbk0_0_8_33,i) h))) fun h=>?_
    exact wO J 4 h fun e0 f0 h=>eCl (z67_ct N (⟨vbk0_0_0_33,(⟨vbk0_0_1_33,vbk0_0_2_33,vbk0_0_3_33,vbk0_0_4_33⟩:T17),vbk0_0_5_33,(⟨vbk0_0_6_33,vbk0_0_7_33,vbk0_0_8_33⟩:T6)⟩:T7) d _ f0) [] [(0,.bp 0 0),(1,.sl 8),(2,.sl 9),(3,.sl 10),(4,.sl 11),(5,.sl 12),(6,.sl 14),(7,.sl 15)] (wa J 1 (eSub [(23,.sl 17)] (j56 (e0.all',e0.p'.Name,e0.p'.Roles,e0.p'.Messages,e0.p'.Body,e0.calls',e0.out'.Protocol,e0.out'.Name,e0.out'.Err,i) h)))
   refine wO J 5 h fun g0 i0 h=>eCb (z65_37_ct N i d _ i0) [] [(0,.sl 17),(1,.bp 16 0),(2,.sl 14),(3,.sl 15)] [17] (.inr ⟨rfl,trivial⟩) ?_
   refine wB J 9 h (fun h=>?_) fun h=>?_
   ·exact wO J 5 h fun j0 k0 h=>eCl (z24_ct N (⟨vbk0_0_0_33,(⟨vbk0_0_1_33,vbk0_0_2_33,vbk0_0_3_33,vbk0_0_4_33⟩:T17),vbk0_0_5_33,(⟨vbk0_0_6_33,vbk0_0_7_33,vbk0_0_8_33⟩:T6)⟩:T7) d.Name 10 _ k0) [] [(0,.bp 0 0),(1,.sl 8),(2,.sl 9),(3,.sl 10),(4,.sl 11),(5,.sl 12)] (wa J 2 (eSub [(23,.sl 17)] (j56 (j0.all',j0.p'.Name,j0.p'.Roles,j0.p'.Messages,j0.p'.Body,j0.calls',j0.out'.Protocol,j0.out'.Name,j0.out'.Err,i) h)))
   refine wO J 5 h fun l0 m0 h=>eIo J rR8 m0 (wa J 1 (eLd J oO8 m0 ?_))
   refine wB' J 3 h (fun h=>wa J 3 (eSub [(18,.sl 8),(19,.sl 9),(20,.sl 10),(21,.sl 11),(22,.sl 12),(23,.sl 17)] (j56 (vbk0_0_0_33,vbk0_0_1_33,vbk0_0_2_33,vbk0_0_3_33,vbk0_0_4_33,vbk0_0_5_33,vbk0_0_6_33,vbk0_0_7_33,vbk0_0_8_33,i) h))) fun h=>?_
   exact wO J 5 h fun o0 p0 h=>eCl (z24_ct N (⟨vbk0_0_0_33,(⟨vbk0_0_1_33,vbk0_0_2_33,vbk0_0_3_33,vbk0_0_4_33⟩:T17),vbk0_0_5_33,(⟨vbk0_0_6_33,vbk0_0_7_33,vbk0_0_8_33⟩:T6)⟩:T7) d.Name 7 _ p0) [] [(0,.bp 0 0),(1,.sl 8),(2,.sl 9),(3,.sl 10),(4,.sl 11),(5,.sl 12)] (wa J 2 (eSub [(18,.sl 19),(19,.sl 20),(20,.sl 21),(21,.sl 22),(22,.sl 23),(23,.sl 17)] (j56 (o0.all',o0.p'.Name,o0.p'.Roles,o0.p'.Messages,o0.p'.Body,o0.calls',o0.out'.Protocol,o0.out'.Name,o0.out'.Err,i) h)))
  refine wa J 1 (eLoop (σ:=(List T8) × Int) (fun st=>(zz24 vbk0_0_1_33 vbk0_0_6_33 vbk0_0_7_33 vbk0_0_8_33 vbk0_0_5_33 d.Kind d.From d.Name d.As d.Ticks st.1 c_.all' c_.p' l_ loops_ vbk0_0_0_33 vbk0_0_2_33 vbk0_0_3_33 vbk0_0_4_33 d.To d.Blocks [(0,.B 0 0),(1,.S 6),(2,.S 7),(6,.I c),(7,.B 16 0),(8,.S 17),(14,.S 6),(15,.I (l_.length:Int)),(16,.I c),(24,.I (f.length:Int)),(25,.I st.2)])) (fun n st=>z28_l9 N rc l_ vbk0_0_0_33 vbk0_0_1_33 vbk0_0_2_33 vbk0_0_3_33 vbk0_0_4_33 vbk0_0_5_33 vbk0_0_6_33 vbk0_0_7_33 vbk0_0_8_33 c (z28_l2 N rc l_ loops_ n32) d f n st.1 st.2) (r:=r) (fun _=>rfl) ?_ (fun ih=>?_))
  ·intro n38 ih63
   rintro ⟨q0,s0⟩ h
   replace h:z28_l9 N rc l_ vbk0_0_0_33 vbk0_0_1_33 vbk0_0_2_33 vbk0_0_3_33 vbk0_0_4_33 vbk0_0_5_33 vbk0_0_6_33 vbk0_0_7_33 vbk0_0_8_33 c (z28_l2 N rc l_ loops_ n32) d f (n38+1) q0 s0=some r:=h
   unfold z28_l9 at h
   refine wB' J 5 h (fun h=>wa J 2 (eSub [] (j54 q0 h))) fun h=>?_
   refine wO J 14 h fun t0 u0 h=>eIo J rR8 u0 (wa J 1 (eLd J oO8 u0 ?_))
   refine wB J 1 h (fun h=>?_) fun h=>?_
   ·exact wO J 6 h fun v0 x0 h=>eIo J rR8 x0 (wa J 1 (eSt J [] oO8 (⟨v0.name',(c==(w64 ((l_.length:Int)-1))),v0.hidden'⟩:T8) x0 (wa J 6 (eSub [] (ih63 ((setL' q0 s0 (⟨v0.name',(c==(w64 ((l_.length:Int)-1))),v0.hidden'⟩:T8)),(w64 (s0+1))) h)))))
   exact wO J 6 h fun y0 z0 h=>eIo J rR8 z0 (wa J 1 (eSt J [] oO8 (⟨y0.name',false,y0.hidden'⟩:T8) z0 (wa J 6 (eSub [] (ih63 ((setL' q0 s0 (⟨y0.name',false,y0.hidden'⟩:T8)),(w64 (s0+1))) h)))))
  exact eSub [] (ih N (f,0) h)
 exact eSub [(8,.sl 1),(9,.sl 2),(10,.sl 3),(11,.sl 4),(12,.sl 5)] (ih N (c_.all',c_.p'.Name,c_.p'.Roles,c_.p'.Messages,c_.p'.Body,c_.calls',c_.out'.Protocol,c_.out'.Name,c_.out'.Err,0) h)
theorem z28_rct:∀ (N:Nat) (c_:T7) (l_:(List T15)) (loops_:(List T8)) (r:T7) (h:z28_r N c_ l_ loops_=some r),Fn Tryz.prog 28 ⟨8,[.B 0 0,.S 6,.S 7],((1,.sl rR17 c_.all')::vV17 2 3 4 c_.p' [(6,.sl rR15 l_),(7,.sl rR8 loops_)]),[(0,.box (cC7 1 2 3 4 5 c_) 86),(5,.own rS c_.calls' false)],13,.t [],((8,.sl rR17 r.all')::vV17 9 10 11 r.p' []),[(5,.gone),(12,.own rS r.calls' false),(0,.box (cC7 8 9 10 11 12 r) 86)]⟩:=by
 intro N
 induction N with
 | zero=>intros;rename_i h;cases h
 | succ N ih=>intro c_ l_ loops_ r h;exact z28_b_ct N (z28_r N) ih c_ l_ loops_ r h
theorem z28_ct (N:Nat) (c_:T7) (l_:(List T15)) (loops_:(List T8)) (r:T7) (h:z28 N c_ l_ loops_=some r):Fn Tryz.prog 28 ⟨8,[.B 0 0,.S 6,.S 7],((1,.sl rR17 c_.all')::vV17 2 3 4 c_.p' [(6,.sl rR15 l_),(7,.sl rR8 loops_)]),[(0,.box (cC7 1 2 3 4 5 c_) 86),(5,.own rS c_.calls' false)],13,.t [],((8,.sl rR17 r.all')::vV17 9 10 11 r.p' []),[(5,.gone),(12,.own rS r.calls' false),(0,.box (cC7 8 9 10 11 12 r) 86)]⟩:=z28_rct N c_ l_ loops_ r h
theorem z26_ct (N:Nat) (c_:T7) (r:T7) (h:z26 N c_=some r) :
 Fn Tryz.prog 26 ⟨6,[.B 0 0],((1,.sl rR17 c_.all')::vV17 2 3 4 c_.p' []),[(0,.box (cC7 1 2 3 4 5 c_) 86),(5,.own rS c_.calls' false)],11,.t [],((6,.sl rR17 r.all')::vV17 7 8 9 r.p' []),[(5,.gone),(10,.own rS r.calls' false),(0,.box (cC7 6 7 8 9 10 r) 86)]⟩:=by
 refine eFn func26 rfl (fun E F w=>?_)
 unfold z26 at h
 refine wa J 10 (eCut (σ:=(List T17) × ByteArray × (List ByteArray) × (List T16) × (List T15) × (List ByteArray) × ByteArray × ByteArray × Int) (fun st=>(zz8 st.2.1 st.2.2.2.2.2.2.1 st.2.2.2.2.2.2.2.1 st.2.2.2.2.2.2.2.2 st.2.2.2.2.2.1 c_.all' c_.p' st.1 st.2.2.1 st.2.2.2.1 st.2.2.2.2.1 [])) (fun st=>z26_k1 st.1 st.2.1 st.2.2.1 st.2.2.2.1 st.2.2.2.2.1 st.2.2.2.2.2.1 st.2.2.2.2.2.2.1 st.2.2.2.2.2.2.2.1 st.2.2.2.2.2.2.2.2=some r) ?_ (fun j1=>?_))
 ·rintro ⟨vbk0_0_0_1,vbk0_0_1_1,vbk0_0_2_1,vbk0_0_3_1,vbk0_0_4_1,vbk0_0_5_1,vbk0_0_6_1,vbk0_0_7_1,vbk0_0_8_1⟩ h
  replace h:z26_k1 vbk0_0_0_1 vbk0_0_1_1 vbk0_0_2_1 vbk0_0_3_1 vbk0_0_4_1 vbk0_0_5_1 vbk0_0_6_1 vbk0_0_7_1 vbk0_0_8_1=some r:=h
  unfold z26_k1 at h
  cases h
  exact eRet J func26 [(6,.sl 6),(7,.sl 7),(8,.sl 8),(9,.sl 9),(10,.sl 10)]
 refine wa J 1 (eLoop (σ:=(List T17) × ByteArray × (List ByteArray) × (List T16) × (List T15) × (List ByteArray) × ByteArray × ByteArray × Int × Int) (fun st=>(zz8 st.2.1 st.2.2.2.2.2.2.1 st.2.2.2.2.2.2.2.1 st.2.2.2.2.2.2.2.2.1 st.2.2.2.2.2.1 c_.all' c_.p' st.1 st.2.2.1 st.2.2.2.1 st.2.2.2.2.1 [(0,.B 0 0),(12,.S 3),(13,.I (c_.p'.Messages.length:Int)),(14,.I st.2.2.2.2.2.2.2.2.2)])) (fun n st=>z26_l2 N c_ n st.1 st.2.1 st.2.2.1 st.2.2.2.1 st.2.2.2.2.1 st.2.2.2.2.2.1 st.2.2.2.2.2.2.1 st.2.2.2.2.2.2.2.1 st.2.2.2.2.2.2.2.2.1 st.2.2.2.2.2.2.2.2.2) (r:=r) (fun _=>rfl) ?_ (fun ih=>?_))
 ·intro n12 ih51
  rintro ⟨vbk0_0_0_51,vbk0_0_1_51,vbk0_0_2_51,vbk0_0_3_51,vbk0_0_4_51,vbk0_0_5_51,vbk0_0_6_51,vbk0_0_7_51,vbk0_0_8_51,c⟩ h
  replace h:z26_l2 N c_ (n12+1) vbk0_0_0_51 vbk0_0_1_51 vbk0_0_2_51 vbk0_0_3_51 vbk0_0_4_51 vbk0_0_5_51 vbk0_0_6_51 vbk0_0_7_51 vbk0_0_8_51 c=some r:=h
  unfold z26_l2 at h
  refine wB' J 5 h (fun h=>wa J 2 (eSub [] (j1 (vbk0_0_0_51,vbk0_0_1_51,vbk0_0_2_51,vbk0_0_3_51,vbk0_0_4_51,vbk0_0_5_51,vbk0_0_6_51,vbk0_0_7_51,vbk0_0_8_51) h))) fun h=>?_
  refine wO J 7 h fun d e h=>eIx J oO16 e ?_
  refine wO J 14 h fun f g h=>eIs J rR16 g ?_
  refine wO J 1 h fun i j h=>eCl (z55_22_ct N f d _ j) [] [(0,.sl 15),(1,.bp 14 0),(2,.sl 12),(3,.sl 13)] (wa J 1 (eCut (σ:=(List T17) × ByteArray × (List ByteArray) × (List T16) × (List T15) × (List ByteArray) × ByteArray × ByteArray × Int) (fun st=>⟨[(0,.B 0 0),(3,.B 14 0),(12,.S 3),(13,.I (c_.p'.Messages.length:Int)),(14,.I c)],[(0,.box [.sl 16,.s st.2.1,.sl 17,.sl 18,.sl 19,.sl 20,.s st.2.2.2.2.2.2.1,.s st.2.2.2.2.2.2.2.1,.I st.2.2.2.2.2.2.2.2] 86),(14,.box [.s d.Name,.sl 12,.sl 13] 32),(20,.own rS st.2.2.2.2.2.1 false)],((1,.sl rR17 c_.all')::vV17 2 3 4 c_.p' (vV16 12 13 d [(16,.sl rR17 st.1),(17,.sl rS st.2.2.1),(18,.sl rR16 st.2.2.2.1),(19,.sl rR15 st.2.2.2.2.1)])),21⟩) (fun st=>z26_k7 N c (z26_l2 N c_ n12) d st.1 st.2.1 st.2.2.1 st.2.2.2.1 st.2.2.2.2.1 st.2.2.2.2.2.1 st.2.2.2.2.2.2.1 st.2.2.2.2.2.2.2.1 st.2.2.2.2.2.2.2.2=some r) ?_ (fun j84=>?_)))
  ·rintro ⟨vbk0_0_0_84,vbk0_0_1_84,vbk0_0_2_84,vbk0_0_3_84,vbk0_0_4_84,vbk0_0_5_84,vbk0_0_6_84,vbk0_0_7_84,vbk0_0_8_84⟩ h
   replace h:z26_k7 N c (z26_l2 N c_ n12) d vbk0_0_0_84 vbk0_0_1_84 vbk0_0_2_84 vbk0_0_3_84 vbk0_0_4_84 vbk0_0_5_84 vbk0_0_6_84 vbk0_0_7_84 vbk0_0_8_84=some r:=h
   unfold z26_k7 at h
   refine wa J 7 (eCut (σ:=(List T17) × ByteArray × (List ByteArray) × (List T16) × (List T15) × (List ByteArray) × ByteArray × ByteArray × Int) (fun st=>⟨[(0,.B 0 0),(12,.S 3),(13,.I (c_.p'.Messages.length:Int)),(14,.I c)],[(0,.box [.sl 21,.s st.2.1,.sl 22,.sl 23,.sl 24,.sl 25,.s st.2.2.2.2.2.2.1,.s st.2.2.2.2.2.2.2.1,.I st.2.2.2.2.2.2.2.2] 86),(25,.own rS st.2.2.2.2.2.1 false)],((1,.sl rR17 c_.all')::vV17 2 3 4 c_.p' [(21,.sl rR17 st.1),(22,.sl rS st.2.2.1),(23,.sl rR16 st.2.2.2.1),(24,.sl rR15 st.2.2.2.2.1)]),26⟩) (fun st=>z26_k3 c (z26_l2 N c_ n12) st.1 st.2.1 st.2.2.1 st.2.2.2.1 st.2.2.2.2.1 st.2.2.2.2.2.1 st.2.2.2.2.2.2.1 st.2.2.2.2.2.2.2.1 st.2.2.2.2.2.2.2.2=some r) ?_ (fun j85=>?_))
   ·rintro ⟨vbk0_0_0_85,vbk0_0_1_85,vbk0_0_2_85,vbk0_0_3_85,vbk0_0_4_85,vbk0_0_5_85,vbk0_0_6_85,vbk0_0_7_85,vbk0_0_8_85⟩ h
    replace h:z26_k3 c (z26_l2 N c_ n12) vbk0_0_0_85 vbk0_0_1_85 vbk0_0_2_85 vbk0_0_3_85 vbk0_0_4_85 vbk0_0_5_85 vbk0_0_6_85 vbk0_0_7_85 vbk0_0_8_85=some r:=h
    unfold z26_k3 at h
    exact wa J 5 (eSub [(6,.sl 21),(7,.sl 22),(8,.sl 23),(9,.sl 24),(10,.sl 25)] (ih51 (vbk0_0_0_85,vbk0_0_1_85,vbk0_0_2_85,vbk0_0_3_85,vbk0_0_4_85,vbk0_0_5_85,vbk0_0_6_85,vbk0_0_7_85,vbk0_0_8_85,(w64 (c+1))) h))
   refine wa J 1 (eLoop (σ:=(List T17) × ByteArray × (List ByteArray) × (List T16) × (List T15) × (List ByteArray) × ByteArray × ByteArray × Int × Int) (fun st=>⟨[(0,.B 0 0),(3,.B 14 0),(12,.S 3),(13,.I (c_.p'.Messages.length:Int)),(14,.I c),(33,.S 12),(34,.I (d.Fields.length:Int)),(35,.I st.2.2.2.2.2.2.2.2.2)],[(0,.box [.sl 21,.s st.2.1,.sl 22,.sl 23,.sl 24,.sl 25,.s st.2.2.2.2.2.2.1,.s st.2.2.2.2.2.2.2.1,.I st.2.2.2.2.2.2.2.2.1] 86),(14,.box [.s d.Name,.sl 12,.sl 13] 32),(25,.own rS st.2.2.2.2.2.1 false)],((1,.sl rR17 c_.all')::vV17 2 3 4 c_.p' (vV16 12 13 d [(21,.sl rR17 st.1),(22,.sl rS st.2.2.1),(23,.sl rR16 st.2.2.2.1),(24,.sl rR15 st.2.2.2.2.1)])),26⟩) (fun n st=>z26_l4 N c (z26_l2 N c_ n12) d n st.1 st.2.1 st.2.2.1 st.2.2.2.1 st.2.2.2.2.1 st.2.2.2.2.2.1 st.2.2.2.2.2.2.1 st.2.2.2.2.2.2.2.1 st.2.2.2.2.2.2.2.2.1 st.2.2.2.2.2.2.2.2.2) (r:=r) (fun _=>rfl) ?_ (fun ih=>?_))
   ·intro n14 ih93
    rintro ⟨vbk0_0_0_93,vbk0_0_1_93,vbk0_0_2_93,vbk0_0_3_93,vbk0_0_4_93,vbk0_0_5_93,vbk0_0_6_93,vbk0_0_7_93,vbk0_0_8_93,k⟩ h
    replace h:z26_l4 N c (z26_l2 N c_ n12) d (n14+1) vbk0_0_0_93 vbk0_0_1_93 vbk0_0_2_93 vbk0_0_3_93 vbk0_0_4_93 vbk0_0_5_93 vbk0_0_6_93 vbk0_0_7_93 vbk0_0_8_93 k=some r:=h
    unfold z26_l4 at h
    refine wB' J 5 h (fun h=>wa J 2 (eSub [] (j85 (vbk0_0_0_93,vbk0_0_1_93,vbk0_0_2_93,vbk0_0_3_93,vbk0_0_4_93,vbk0_0_5_93,vbk0_0_6_93,vbk0_0_7_93,vbk0_0_8_93) h))) fun h=>?_
    refine wO J 7 h fun l m h=>eIx J oO0 m ?_
    refine wO J 11 h fun o p h=>eIs J rR0 p ?_
    refine wO J 1 h fun q u h=>eCl (z57_25_ct N o l _ u) [] [(0,.sl 28),(1,.bp 27 0)] (wa J 1 (eCut (σ:=(List T17) × ByteArray × (List ByteArray) × (List T16) × (List T15) × (List ByteArray) × ByteArray × ByteArray × Int) (fun st=>(zz25 st.2.1 st.2.2.2.2.2.2.1 st.2.2.2.2.2.2.2.1 st.2.2.2.2.2.2.2.2 d.Name l st.2.2.2.2.2.1 c_.all' c_.p' d st.1 st.2.2.1 st.2.2.2.1 st.2.2.2.2.1 [(0,.B 0 0),(3,.B 14 0),(5,.B 27 0),(12,.S 3),(13,.I (c_.p'.Messages.length:Int)),(14,.I c),(33,.S 12),(34,.I (d.Fields.length:Int)),(35,.I k)])) (fun st=>z26_k6 N k (z26_l4 N c (z26_l2 N c_ n12) d n14) l st.1 st.2.1 st.2.2.1 st.2.2.2.1 st.2.2.2.2.1 st.2.2.2.2.2.1 st.2.2.2.2.2.2.1 st.2.2.2.2.2.2.2.1 st.2.2.2.2.2.2.2.2=some r) ?_ (fun j98=>?_)))
    ·rintro ⟨vbk0_0_0_98,vbk0_0_1_98,vbk0_0_2_98,vbk0_0_3_98,vbk0_0_4_98,vbk0_0_5_98,vbk0_0_6_98,vbk0_0_7_98,vbk0_0_8_98⟩ h
     replace h:z26_k6 N k (z26_l4 N c (z26_l2 N c_ n12) d n14) l vbk0_0_0_98 vbk0_0_1_98 vbk0_0_2_98 vbk0_0_3_98 vbk0_0_4_98 vbk0_0_5_98 vbk0_0_6_98 vbk0_0_7_98 vbk0_0_8_98=some r:=h
     unfold z26_k6 at h
     refine wa J 13 (eCut (σ:=Int × Int) (fun st=>(zz25 vbk0_0_1_98 vbk0_0_6_98 vbk0_0_7_98 vbk0_0_8_98 d.Name l vbk0_0_5_98 c_.all' c_.p' d vbk0_0_0_98 vbk0_0_2_98 vbk0_0_3_98 vbk0_0_4_98 [(0,.B 0 0),(3,.B 14 0),(5,.B 27 0),(6,.I st.1),(7,.I st.2),(12,.S 3),(13,.I (c_.p'.Messages.length:Int)),(14,.I c),(33,.S 12),(34,.I (d.Fields.length:Int)),(35,.I k)])) (fun st=>z26_k5 N k (z26_l4 N c (z26_l2 N c_ n12) d n14) l vbk0_0_0_98 vbk0_0_1_98 vbk0_0_2_98 vbk0_0_3_98 vbk0_0_4_98 vbk0_0_5_98 vbk0_0_6_98 vbk0_0_7_98 vbk0_0_8_98 st.1 st.2=some r) ?_ (fun j99=>?_))
     ·rintro ⟨v,x⟩ h
      replace h:z26_k5 N k (z26_l4 N c (z26_l2 N c_ n12) d n14) l vbk0_0_0_98 vbk0_0_1_98 vbk0_0_2_98 vbk0_0_3_98 vbk0_0_4_98 vbk0_0_5_98 vbk0_0_6_98 vbk0_0_7_98 vbk0_0_8_98 v x=some r:=h
      unfold z26_k5 at h
      refine wB J 10 h (fun h=>?_) fun h=>?_
      ·exact wO J 19 h fun y z h=>eCl (z24_ct N (⟨vbk0_0_0_98,(⟨vbk0_0_1_98,vbk0_0_2_98,vbk0_0_3_98,vbk0_0_4_98⟩:T17),vbk0_0_5_98,(⟨vbk0_0_6_98,vbk0_0_7_98,vbk0_0_8_98⟩:T6)⟩:T7) l.Name 2 _ z) [] [(0,.bp 0 0),(1,.sl 29),(2,.sl 30),(3,.sl 31),(4,.sl 32),(5,.sl 33)] (wa J 6 (eSub [(21,.sl 34),(22,.sl 35),(23,.sl 36),(24,.sl 37),(25,.sl 38)] (ih93 (y.all',y.p'.Name,y.p'.Roles,y.p'.Messages,y.p'.Body,y.calls',y.out'.Protocol,y.out'.Name,y.out'.Err,(w64 (k+1))) h)))
      refine wB J 7 h (fun h=>?_) fun h=>?_
      ·exact wO J 12 h fun A C h=>eCl (z24_ct N (⟨vbk0_0_0_98,(⟨vbk0_0_1_98,vbk0_0_2_98,vbk0_0_3_98,vbk0_0_4_98⟩:T17),vbk0_0_5_98,(⟨vbk0_0_6_98,vbk0_0_7_98,vbk0_0_8_98⟩:T6)⟩:T7) l.Name 2 _ C) [] [(0,.bp 0 0),(1,.sl 29),(2,.sl 30),(3,.sl 31),(4,.sl 32),(5,.sl 33)] (wa J 6 (eSub [(21,.sl 34),(22,.sl 35),(23,.sl 36),(24,.sl 37),(25,.sl 38)] (ih93 (A.all',A.p'.Name,A.p'.Roles,A.p'.Messages,A.p'.Body,A.calls',A.out'.Protocol,A.out'.Name,A.out'.Err,(w64 (k+1))) h)))
      refine wB' J 7 h (fun h=>wa J 7 (eSub [(21,.sl 29),(22,.sl 30),(23,.sl 31),(24,.sl 32),(25,.sl 33)] (ih93 (vbk0_0_0_98,vbk0_0_1_98,vbk0_0_2_98,vbk0_0_3_98,vbk0_0_4_98,vbk0_0_5_98,vbk0_0_6_98,vbk0_0_7_98,vbk0_0_8_98,(w64 (k+1))) h))) fun h=>?_
      exact wO J 5 h fun D G h=>eCl (z24_ct N (⟨vbk0_0_0_98,(⟨vbk0_0_1_98,vbk0_0_2_98,vbk0_0_3_98,vbk0_0_4_98⟩:T17),vbk0_0_5_98,(⟨vbk0_0_6_98,vbk0_0_7_98,vbk0_0_8_98⟩:T6)⟩:T7) l.Name 2 _ G) [] [(0,.bp 0 0),(1,.sl 29),(2,.sl 30),(3,.sl 31),(4,.sl 32),(5,.sl 33)] (wa J 6 (eSub [(21,.sl 34),(22,.sl 35),(23,.sl 36),(24,.sl 37),(25,.sl 38)] (ih93 (D.all',D.p'.Name,D.p'.Roles,D.p'.Messages,D.p'.Body,D.calls',D.out'.Protocol,D.out'.Name,D.out'.Err,(w64 (k+1))) h)))
     exact eB h (fun h=>wa J 5 (eSub [] (j99 (0,40) h))) fun h=>wa J 2 (eSub [] (j99 ((-1000),1000) h))
    refine eB' h (fun h=>wa J 2 (eSub [(29,.sl 21),(30,.sl 22),(31,.sl 23),(32,.sl 24),(33,.sl 25)] (j98 (vbk0_0_0_93,vbk0_0_1_93,vbk0_0_2_93,vbk0_0_3_93,vbk0_0_4_93,vbk0_0_5_93,vbk0_0_6_93,vbk0_0_7_93,vbk0_0_8_93) h))) fun h=>?_
    exact wO J 5 h fun H R h=>eCl (z24_ct N (⟨vbk0_0_0_93,(⟨vbk0_0_1_93,vbk0_0_2_93,vbk0_0_3_93,vbk0_0_4_93⟩:T17),vbk0_0_5_93,(⟨vbk0_0_6_93,vbk0_0_7_93,vbk0_0_8_93⟩:T6)⟩:T7) l.Name 9 _ R) [] [(0,.bp 0 0),(1,.sl 21),(2,.sl 22),(3,.sl 23),(4,.sl 24),(5,.sl 25)] (wa J 1 (eSub [] (j98 (H.all',H.p'.Name,H.p'.Roles,H.p'.Messages,H.p'.Body,H.calls',H.out'.Protocol,H.out'.Name,H.out'.Err) h)))
   exact eSub [(21,.sl 16),(22,.sl 17),(23,.sl 18),(24,.sl 19),(25,.sl 20)] (ih N (vbk0_0_0_84,vbk0_0_1_84,vbk0_0_2_84,vbk0_0_3_84,vbk0_0_4_84,vbk0_0_5_84,vbk0_0_6_84,vbk0_0_7_84,vbk0_0_8_84,0) h)
  refine eB' h (fun h=>wa J 2 (eSub [(16,.sl 6),(17,.sl 7),(18,.sl 8),(19,.sl 9),(20,.sl 10)] (j84 (vbk0_0_0_51,vbk0_0_1_51,vbk0_0_2_51,vbk0_0_3_51,vbk0_0_4_51,vbk0_0_5_51,vbk0_0_6_51,vbk0_0_7_51,vbk0_0_8_51) h))) fun h=>?_
  exact wO J 5 h fun T U h=>eCl (z24_ct N (⟨vbk0_0_0_51,(⟨vbk0_0_1_51,vbk0_0_2_51,vbk0_0_3_51,vbk0_0_4_51⟩:T17),vbk0_0_5_51,(⟨vbk0_0_6_51,vbk0_0_7_51,vbk0_0_8_51⟩:T6)⟩:T7) d.Name 9 _ U) [] [(0,.bp 0 0),(1,.sl 6),(2,.sl 7),(3,.sl 8),(4,.sl 9),(5,.sl 10)] (wa J 1 (eSub [] (j84 (T.all',T.p'.Name,T.p'.Roles,T.p'.Messages,T.p'.Body,T.calls',T.out'.Protocol,T.out'.Name,T.out'.Err) h)))
 exact eSub [(6,.sl 1),(7,.sl 2),(8,.sl 3),(9,.sl 4),(10,.sl 5)] (ih N (c_.all',c_.p'.Name,c_.p'.Roles,c_.p'.Messages,c_.p'.Body,c_.calls',c_.out'.Protocol,c_.out'.Name,c_.out'.Err,0) h)
theorem z27_ct (N:Nat) (c_:T7) (r:T7) (h:z27 N c_=some r) :
 Fn Tryz.prog 27 ⟨6,[.B 0 0],((1,.sl rR17 c_.all')::vV17 2 3 4 c_.p' []),[(0,.box (cC7 1 2 3 4 5 c_) 86),(5,.own rS c_.calls' false)],11,.t [],((6,.sl rR17 r.all')::vV17 7 8 9 r.p' []),[(5,.gone),(10,.own rS r.calls' false),(0,.box (cC7 6 7 8 9 10 r) 86)]⟩:=by
 refine eFn func27 rfl (fun E F w=>?_)
 unfold z27 at h
 refine wa J 10 (eCut (σ:=(List T17) × ByteArray × (List ByteArray) × (List T16) × (List T15) × (List ByteArray) × ByteArray × ByteArray × Int) (fun st=>(zz8 st.2.1 st.2.2.2.2.2.2.1 st.2.2.2.2.2.2.2.1 st.2.2.2.2.2.2.2.2 st.2.2.2.2.2.1 c_.all' c_.p' st.1 st.2.2.1 st.2.2.2.1 st.2.2.2.2.1 [])) (fun st=>z27_k1 st.1 st.2.1 st.2.2.1 st.2.2.2.1 st.2.2.2.2.1 st.2.2.2.2.2.1 st.2.2.2.2.2.2.1 st.2.2.2.2.2.2.2.1 st.2.2.2.2.2.2.2.2=some r) ?_ (fun j1=>?_))
 ·rintro ⟨vbk0_0_0_1,vbk0_0_1_1,vbk0_0_2_1,vbk0_0_3_1,vbk0_0_4_1,vbk0_0_5_1,vbk0_0_6_1,vbk0_0_7_1,vbk0_0_8_1⟩ h
  replace h:z27_k1 vbk0_0_0_1 vbk0_0_1_1 vbk0_0_2_1 vbk0_0_3_1 vbk0_0_4_1 vbk0_0_5_1 vbk0_0_6_1 vbk0_0_7_1 vbk0_0_8_1=some r:=h
  unfold z27_k1 at h
  cases h
  exact eRet J func27 [(6,.sl 6),(7,.sl 7),(8,.sl 8),(9,.sl 9),(10,.sl 10)]
 refine wa J 1 (eLoop (σ:=(List T17) × ByteArray × (List ByteArray) × (List T16) × (List T15) × (List ByteArray) × ByteArray × ByteArray × Int × Int) (fun st=>(zz8 st.2.1 st.2.2.2.2.2.2.1 st.2.2.2.2.2.2.2.1 st.2.2.2.2.2.2.2.2.1 st.2.2.2.2.2.1 c_.all' c_.p' st.1 st.2.2.1 st.2.2.2.1 st.2.2.2.2.1 [(0,.B 0 0),(17,.S 3),(18,.I (c_.p'.Messages.length:Int)),(19,.I st.2.2.2.2.2.2.2.2.2)])) (fun n st=>z27_l2 N c_ n st.1 st.2.1 st.2.2.1 st.2.2.2.1 st.2.2.2.2.1 st.2.2.2.2.2.1 st.2.2.2.2.2.2.1 st.2.2.2.2.2.2.2.1 st.2.2.2.2.2.2.2.2.1 st.2.2.2.2.2.2.2.2.2) (r:=r) (fun _=>rfl) ?_ (fun ih=>?_))
 ·intro n132 ih516
  rintro ⟨vbk0_0_0_516,vbk0_0_1_516,vbk0_0_2_516,vbk0_0_3_516,vbk0_0_4_516,vbk0_0_5_516,vbk0_0_6_516,vbk0_0_7_516,vbk0_0_8_516,c⟩ h
  replace h:z27_l2 N c_ (n132+1) vbk0_0_0_516 vbk0_0_1_516 vbk0_0_2_516 vbk0_0_3_516 vbk0_0_4_516 vbk0_0_5_516 vbk0_0_6_516 vbk0_0_7_516 vbk0_0_8_516 c=some r:=h
  unfold z27_l2 at h
  refine wB' J 5 h (fun h=>wa J 2 (eSub [] (j1 (vbk0_0_0_516,vbk0_0_1_516,vbk0_0_2_516,vbk0_0_3_516,vbk0_0_4_516,vbk0_0_5_516,vbk0_0_6_516,vbk0_0_7_516,vbk0_0_8_516) h))) fun h=>?_
  refine wO J 6 h fun d e h=>eIx J oO16 e (wa J 11 (eCut (σ:=(List T17) × ByteArray × (List ByteArray) × (List T16) × (List T15) × (List ByteArray) × ByteArray × ByteArray × Int) (fun st=>⟨[(0,.B 0 0),(17,.S 3),(18,.I (c_.p'.Messages.length:Int)),(19,.I c)],[(0,.box [.sl 15,.s st.2.1,.sl 16,.sl 17,.sl 18,.sl 19,.s st.2.2.2.2.2.2.1,.s st.2.2.2.2.2.2.2.1,.I st.2.2.2.2.2.2.2.2] 86),(19,.own rS st.2.2.2.2.2.1 false)],((1,.sl rR17 c_.all')::vV17 2 3 4 c_.p' [(15,.sl rR17 st.1),(16,.sl rS st.2.2.1),(17,.sl rR16 st.2.2.2.1),(18,.sl rR15 st.2.2.2.2.1)]),20⟩) (fun st=>z27_k3 c (z27_l2 N c_ n132) st.1 st.2.1 st.2.2.1 st.2.2.2.1 st.2.2.2.2.1 st.2.2.2.2.2.1 st.2.2.2.2.2.2.1 st.2.2.2.2.2.2.2.1 st.2.2.2.2.2.2.2.2=some r) ?_ (fun j859=>?_)))
  ·rintro ⟨vbk0_0_0_859,vbk0_0_1_859,vbk0_0_2_859,vbk0_0_3_859,vbk0_0_4_859,vbk0_0_5_859,vbk0_0_6_859,vbk0_0_7_859,vbk0_0_8_859⟩ h
   replace h:z27_k3 c (z27_l2 N c_ n132) vbk0_0_0_859 vbk0_0_1_859 vbk0_0_2_859 vbk0_0_3_859 vbk0_0_4_859 vbk0_0_5_859 vbk0_0_6_859 vbk0_0_7_859 vbk0_0_8_859=some r:=h
   unfold z27_k3 at h
   exact wa J 5 (eSub [(6,.sl 15),(7,.sl 16),(8,.sl 17),(9,.sl 18),(10,.sl 19)] (ih516 (vbk0_0_0_859,vbk0_0_1_859,vbk0_0_2_859,vbk0_0_3_859,vbk0_0_4_859,vbk0_0_5_859,vbk0_0_6_859,vbk0_0_7_859,vbk0_0_8_859,(w64 (c+1))) h))
  refine wa J 1 (eLoop (σ:=(List T17) × ByteArray × (List ByteArray) × (List T16) × (List T15) × (List ByteArray) × ByteArray × ByteArray × Int × Int) (fun st=>⟨[(0,.B 0 0),(3,.B 14 0),(17,.S 3),(18,.I (c_.p'.Messages.length:Int)),(19,.I c),(24,.S 13),(25,.I (d.Where.length:Int)),(26,.I st.2.2.2.2.2.2.2.2.2)],[(0,.box [.sl 15,.s st.2.1,.sl 16,.sl 17,.sl 18,.sl 19,.s st.2.2.2.2.2.2.1,.s st.2.2.2.2.2.2.2.1,.I st.2.2.2.2.2.2.2.2.1] 86),(14,.box [.s d.Name,.sl 12,.sl 13] 32),(19,.own rS st.2.2.2.2.2.1 false)],((1,.sl rR17 c_.all')::vV17 2 3 4 c_.p' (vV16 12 13 d [(15,.sl rR17 st.1),(16,.sl rS st.2.2.1),(17,.sl rR16 st.2.2.2.1),(18,.sl rR15 st.2.2.2.2.1)])),20⟩) (fun n st=>z27_l4 N c (z27_l2 N c_ n132) d n st.1 st.2.1 st.2.2.1 st.2.2.2.1 st.2.2.2.2.1 st.2.2.2.2.2.1 st.2.2.2.2.2.2.1 st.2.2.2.2.2.2.2.1 st.2.2.2.2.2.2.2.2.1 st.2.2.2.2.2.2.2.2.2) (r:=r) (fun _=>rfl) ?_ (fun ih=>?_))
  ·intro n154 ih945
   rintro ⟨vbk0_0_0_945,vbk0_0_1_945,vbk0_0_2_945,vbk0_0_3_945,vbk0_0_4_945,vbk0_0_5_945,vbk0_0_6_945,vbk0_0_7_945,vbk0_0_8_945,f⟩ h
   replace h:z27_l4 N c (z27_l2 N c_ n132) d (n154+1) vbk0_0_0_945 vbk0_0_1_945 vbk0_0_2_945 vbk0_0_3_945 vbk0_0_4_945 vbk0_0_5_945 vbk0_0_6_945 vbk0_0_7_945 vbk0_0_8_945 f=some r:=h
   unfold z27_l4 at h
   refine wB' J 5 h (fun h=>wa J 2 (eSub [] (j859 (vbk0_0_0_945,vbk0_0_1_945,vbk0_0_2_945,vbk0_0_3_945,vbk0_0_4_945,vbk0_0_5_945,vbk0_0_6_945,vbk0_0_7_945,vbk0_0_8_945) h))) fun h=>?_
   refine wO J 6 h fun g i h=>eIx J oO14 i (wa J 24 (eCut (σ:=(List T17) × ByteArray × (List ByteArray) × (List T16) × (List T15) × (List ByteArray) × ByteArray × ByteArray × Int × Int × Int) (fun st=>(zz26 st.2.1 st.2.2.2.2.2.2.1 st.2.2.2.2.2.2.2.1 st.2.2.2.2.2.2.2.2.1 d.Name g.Left.Kind g.Left.Message g.Left.Field g.Left.N g.Op g.Right.Kind g.Right.Message g.Right.Field g.Right.N st.2.2.2.2.2.2.2.2.2.1 st.2.2.2.2.2.2.2.2.2.2 st.2.2.2.2.2.1 c_.all' c_.p' d st.1 st.2.2.1 st.2.2.2.1 st.2.2.2.2.1 [(0,.B 0 0),(3,.B 14 0),(5,.B 21 0),(6,.B 22 0),(7,.B 23 0),(17,.S 3),(18,.I (c_.p'.Messages.length:Int)),(19,.I c),(24,.S 13),(25,.I (d.Where.length:Int)),(26,.I f)])) (fun st=>z27_k10 N d f (z27_l4 N c (z27_l2 N c_ n132) d n154) g st.1 st.2.1 st.2.2.1 st.2.2.2.1 st.2.2.2.2.1 st.2.2.2.2.2.1 st.2.2.2.2.2.2.1 st.2.2.2.2.2.2.2.1 st.2.2.2.2.2.2.2.2.1 st.2.2.2.2.2.2.2.2.2.1 st.2.2.2.2.2.2.2.2.2.2=some r) ?_ (fun j1002=>?_)))
   ·rintro ⟨vbk0_0_0_1002,vbk0_0_1_1002,vbk0_0_2_1002,vbk0_0_3_1002,vbk0_0_4_1002,vbk0_0_5_1002,vbk0_0_6_1002,vbk0_0_7_1002,vbk0_0_8_1002,j,k⟩ h
    replace h:z27_k10 N d f (z27_l4 N c (z27_l2 N c_ n132) d n154) g vbk0_0_0_1002 vbk0_0_1_1002 vbk0_0_2_1002 vbk0_0_3_1002 vbk0_0_4_1002 vbk0_0_5_1002 vbk0_0_6_1002 vbk0_0_7_1002 vbk0_0_8_1002 j k=some r:=h
    unfold z27_k10 at h
    refine wa J 10 (eCut (σ:=(List T17) × ByteArray × (List ByteArray) × (List T16) × (List T15) × (List ByteArray) × ByteArray × ByteArray × Int × Int) (fun st=>⟨[(0,.B 0 0),(3,.B 14 0),(5,.B 21 0),(10,.I st.2.2.2.2.2.2.2.2.2),(17,.S 3),(18,.I (c_.p'.Messages.length:Int)),(19,.I c),(24,.S 13),(25,.I (d.Where.length:Int)),(26,.I f)],[(0,.box [.sl 29,.s st.2.1,.sl 30,.sl 31,.sl 32,.sl 33,.s st.2.2.2.2.2.2.1,.s st.2.2.2.2.2.2.2.1,.I st.2.2.2.2.2.2.2.2.1] 86),(14,.box [.s d.Name,.sl 12,.sl 13] 32),(21,.box [.I g.Left.Kind,.s g.Left.Message,.s g.Left.Field,.I g.Left.N,.s g.Op,.I g.Right.Kind,.s g.Right.Message,.s g.Right.Field,.I g.Right.N] 78),(33,.own rS st.2.2.2.2.2.1 false)],((1,.sl rR17 c_.all')::vV17 2 3 4 c_.p' (vV16 12 13 d [(29,.sl rR17 st.1),(30,.sl rS st.2.2.1),(31,.sl rR16 st.2.2.2.1),(32,.sl rR15 st.2.2.2.2.1)])),34⟩) (fun st=>z27_k5 N d f (z27_l4 N c (z27_l2 N c_ n132) d n154) g st.1 st.2.1 st.2.2.1 st.2.2.2.1 st.2.2.2.2.1 st.2.2.2.2.2.1 st.2.2.2.2.2.2.1 st.2.2.2.2.2.2.2.1 st.2.2.2.2.2.2.2.2.1 st.2.2.2.2.2.2.2.2.2=some r) ?_ (fun j1007=>?_))
    ·rintro ⟨vbk0_0_0_1007,vbk0_0_1_1007,vbk0_0_2_1007,vbk0_0_3_1007,vbk0_0_4_1007,vbk0_0_5_1007,vbk0_0_6_1007,vbk0_0_7_1007,vbk0_0_8_1007,l⟩ h
     replace h:z27_k5 N d f (z27_l4 N c (z27_l2 N c_ n132) d n154) g vbk0_0_0_1007 vbk0_0_1_1007 vbk0_0_2_1007 vbk0_0_3_1007 vbk0_0_4_1007 vbk0_0_5_1007 vbk0_0_6_1007 vbk0_0_7_1007 vbk0_0_8_1007 l=some r:=h
     unfold z27_k5 at h
     refine wB J 5 h (fun h=>?_) fun h=>?_
     ·exact wO J 26 h fun m o h=>eCl (z24_ct N (⟨vbk0_0_0_1007,(⟨vbk0_0_1_1007,vbk0_0_2_1007,vbk0_0_3_1007,vbk0_0_4_1007⟩:T17),vbk0_0_5_1007,(⟨vbk0_0_6_1007,vbk0_0_7_1007,vbk0_0_8_1007⟩:T6)⟩:T7) d.Name 11 _ o) [] [(0,.bp 0 0),(1,.sl 29),(2,.sl 30),(3,.sl 31),(4,.sl 32),(5,.sl 33)] (wa J 6 (eSub [(15,.sl 34),(16,.sl 35),(17,.sl 36),(18,.sl 37),(19,.sl 38)] (ih945 (m.all',m.p'.Name,m.p'.Roles,m.p'.Messages,m.p'.Body,m.calls',m.out'.Protocol,m.out'.Name,m.out'.Err,(w64 (f+1))) h)))
     refine wB' J 3 h (fun h=>wa J 25 (eSub [(15,.sl 29),(16,.sl 30),(17,.sl 31),(18,.sl 32),(19,.sl 33)] (ih945 (vbk0_0_0_1007,vbk0_0_1_1007,vbk0_0_2_1007,vbk0_0_3_1007,vbk0_0_4_1007,vbk0_0_5_1007,vbk0_0_6_1007,vbk0_0_7_1007,vbk0_0_8_1007,(w64 (f+1))) h))) fun h=>?_
     refine wB J 4 h (fun h=>?_) fun h=>?_
     ·exact wO J 19 h fun p q h=>eCl (z24_ct N (⟨vbk0_0_0_1007,(⟨vbk0_0_1_1007,vbk0_0_2_1007,vbk0_0_3_1007,vbk0_0_4_1007⟩:T17),vbk0_0_5_1007,(⟨vbk0_0_6_1007,vbk0_0_7_1007,vbk0_0_8_1007⟩:T6)⟩:T7) d.Name 11 _ q) [] [(0,.bp 0 0),(1,.sl 29),(2,.sl 30),(3,.sl 31),(4,.sl 32),(5,.sl 33)] (wa J 6 (eSub [(15,.sl 34),(16,.sl 35),(17,.sl 36),(18,.sl 37),(19,.sl 38)] (ih945 (p.all',p.p'.Name,p.p'.Roles,p.p'.Messages,p.p'.Body,p.calls',p.out'.Protocol,p.out'.Name,p.out'.Err,(w64 (f+1))) h)))
     refine wB J 6 h (fun h=>?_) fun h=>?_
     ·exact wO J 13 h fun u v h=>eCl (z24_ct N (⟨vbk0_0_0_1007,(⟨vbk0_0_1_1007,vbk0_0_2_1007,vbk0_0_3_1007,vbk0_0_4_1007⟩:T17),vbk0_0_5_1007,(⟨vbk0_0_6_1007,vbk0_0_7_1007,vbk0_0_8_1007⟩:T6)⟩:T7) d.Name 11 _ v) [] [(0,.bp 0 0),(1,.sl 29),(2,.sl 30),(3,.sl 31),(4,.sl 32),(5,.sl 33)] (wa J 6 (eSub [(15,.sl 34),(16,.sl 35),(17,.sl 36),(18,.sl 37),(19,.sl 38)] (ih945 (u.all',u.p'.Name,u.p'.Roles,u.p'.Messages,u.p'.Body,u.calls',u.out'.Protocol,u.out'.Name,u.out'.Err,(w64 (f+1))) h)))
     refine wB' J 8 h (fun h=>wa J 7 (eSub [(15,.sl 29),(16,.sl 30),(17,.sl 31),(18,.sl 32),(19,.sl 33)] (ih945 (vbk0_0_0_1007,vbk0_0_1_1007,vbk0_0_2_1007,vbk0_0_3_1007,vbk0_0_4_1007,vbk0_0_5_1007,vbk0_0_6_1007,vbk0_0_7_1007,vbk0_0_8_1007,(w64 (f+1))) h))) fun h=>?_
     exact wO J 5 h fun x y h=>eCl (z24_ct N (⟨vbk0_0_0_1007,(⟨vbk0_0_1_1007,vbk0_0_2_1007,vbk0_0_3_1007,vbk0_0_4_1007⟩:T17),vbk0_0_5_1007,(⟨vbk0_0_6_1007,vbk0_0_7_1007,vbk0_0_8_1007⟩:T6)⟩:T7) d.Name 11 _ y) [] [(0,.bp 0 0),(1,.sl 29),(2,.sl 30),(3,.sl 31),(4,.sl 32),(5,.sl 33)] (wa J 6 (eSub [(15,.sl 34),(16,.sl 35),(17,.sl 36),(18,.sl 37),(19,.sl 38)] (ih945 (x.all',x.p'.Name,x.p'.Roles,x.p'.Messages,x.p'.Body,x.calls',x.out'.Protocol,x.out'.Name,x.out'.Err,(w64 (f+1))) h)))
    refine wa J 1 (eLoop (σ:=(List T17) × ByteArray × (List ByteArray) × (List T16) × (List T15) × (List ByteArray) × ByteArray × ByteArray × Int × Int × Int) (fun st=>⟨[(0,.B 0 0),(3,.B 14 0),(5,.B 21 0),(7,.B 23 0),(10,.I st.2.2.2.2.2.2.2.2.2.1),(17,.S 3),(18,.I (c_.p'.Messages.length:Int)),(19,.I c),(24,.S 13),(25,.I (d.Where.length:Int)),(26,.I f),(58,.a [.I g.Left.Kind,.s g.Left.Message,.s g.Left.Field,.I g.Left.N,.I g.Right.Kind,.s g.Right.Message,.s g.Right.Field,.I g.Right.N]),(59,.I st.2.2.2.2.2.2.2.2.2.2)],[(0,.box [.sl 29,.s st.2.1,.sl 30,.sl 31,.sl 32,.sl 33,.s st.2.2.2.2.2.2.1,.s st.2.2.2.2.2.2.2.1,.I st.2.2.2.2.2.2.2.2.1] 86),(14,.box [.s d.Name,.sl 12,.sl 13] 32),(21,.box [.I g.Left.Kind,.s g.Left.Message,.s g.Left.Field,.I g.Left.N,.s g.Op,.I g.Right.Kind,.s g.Right.Message,.s g.Right.Field,.I g.Right.N] 78),(23,.box [.I j,.I k] 132),(33,.own rS st.2.2.2.2.2.1 false)],((1,.sl rR17 c_.all')::vV17 2 3 4 c_.p' (vV16 12 13 d [(29,.sl rR17 st.1),(30,.sl rS st.2.2.1),(31,.sl rR16 st.2.2.2.1),(32,.sl rR15 st.2.2.2.2.1)])),34⟩) (fun n st=>z27_l6 N d f (z27_l4 N c (z27_l2 N c_ n132) d n154) g j k n st.1 st.2.1 st.2.2.1 st.2.2.2.1 st.2.2.2.2.1 st.2.2.2.2.2.1 st.2.2.2.2.2.2.1 st.2.2.2.2.2.2.2.1 st.2.2.2.2.2.2.2.2.1 st.2.2.2.2.2.2.2.2.2.1 st.2.2.2.2.2.2.2.2.2.2) (r:=r) (fun _=>rfl) ?_ (fun ih=>?_))
    ·intro n157 ih1017
     rintro ⟨vbk0_0_0_1017,vbk0_0_1_1017,vbk0_0_2_1017,vbk0_0_3_1017,vbk0_0_4_1017,vbk0_0_5_1017,vbk0_0_6_1017,vbk0_0_7_1017,vbk0_0_8_1017,z,A⟩ h
     replace h:z27_l6 N d f (z27_l4 N c (z27_l2 N c_ n132) d n154) g j k (n157+1) vbk0_0_0_1017 vbk0_0_1_1017 vbk0_0_2_1017 vbk0_0_3_1017 vbk0_0_4_1017 vbk0_0_5_1017 vbk0_0_6_1017 vbk0_0_7_1017 vbk0_0_8_1017 z A=some r:=h
     unfold z27_l6 at h
     refine wB' J 5 h (fun h=>wa J 2 (eSub [] (j1007 (vbk0_0_0_1017,vbk0_0_1_1017,vbk0_0_2_1017,vbk0_0_3_1017,vbk0_0_4_1017,vbk0_0_5_1017,vbk0_0_6_1017,vbk0_0_7_1017,vbk0_0_8_1017,z) h))) fun h=>?_
     refine wa J 7 (eCut (σ:=Int × ByteArray × ByteArray × Int) (fun st=>(zz27 vbk0_0_1_1017 vbk0_0_6_1017 vbk0_0_7_1017 vbk0_0_8_1017 d.Name g.Left.Kind g.Left.Message g.Left.Field g.Left.N g.Op g.Right.Kind g.Right.Message g.Right.Field g.Right.N j k vbk0_0_5_1017 st.1 st.2.1 st.2.2.1 st.2.2.2 c_.all' c_.p' d vbk0_0_0_1017 vbk0_0_2_1017 vbk0_0_3_1017 vbk0_0_4_1017 [(0,.B 0 0),(3,.B 14 0),(5,.B 21 0),(7,.B 23 0),(10,.I z),(11,.I A),(12,.B 34 0),(17,.S 3),(18,.I (c_.p'.Messages.length:Int)),(19,.I c),(24,.S 13),(25,.I (d.Where.length:Int)),(26,.I f),(58,.a [.I g.Left.Kind,.s g.Left.Message,.s g.Left.Field,.I g.Left.N,.I g.Right.Kind,.s g.Right.Message,.s g.Right.Field,.I g.Right.N]),(59,.I A)])) (fun st=>z27_k9 N d j k vbk0_0_0_1017 vbk0_0_1_1017 vbk0_0_2_1017 vbk0_0_3_1017 vbk0_0_4_1017 vbk0_0_5_1017 vbk0_0_6_1017 vbk0_0_7_1017 vbk0_0_8_1017 z A (z27_l6 N d f (z27_l4 N c (z27_l2 N c_ n132) d n154) g j k n157) st.1 st.2.1 st.2.2.1 st.2.2.2=some r) ?_ (fun j1023=>?_))
     ·rintro ⟨C,D,G,H⟩ h
      replace h:z27_k9 N d j k vbk0_0_0_1017 vbk0_0_1_1017 vbk0_0_2_1017 vbk0_0_3_1017 vbk0_0_4_1017 vbk0_0_5_1017 vbk0_0_6_1017 vbk0_0_7_1017 vbk0_0_8_1017 z A (z27_l6 N d f (z27_l4 N c (z27_l2 N c_ n132) d n154) g j k n157) C D G H=some r:=h
      unfold z27_k9 at h
      refine wa J 7 (eCut (σ:=Bool) (fun st=>(zz27 vbk0_0_1_1017 vbk0_0_6_1017 vbk0_0_7_1017 vbk0_0_8_1017 d.Name g.Left.Kind g.Left.Message g.Left.Field g.Left.N g.Op g.Right.Kind g.Right.Message g.Right.Field g.Right.N j k vbk0_0_5_1017 C D G H c_.all' c_.p' d vbk0_0_0_1017 vbk0_0_2_1017 vbk0_0_3_1017 vbk0_0_4_1017 [(0,.B 0 0),(3,.B 14 0),(5,.B 21 0),(7,.B 23 0),(10,.I z),(11,.I A),(12,.B 34 0),(17,.S 3),(18,.I (c_.p'.Messages.length:Int)),(19,.I c),(24,.S 13),(25,.I (d.Where.length:Int)),(26,.I f),(58,.a [.I g.Left.Kind,.s g.Left.Message,.s g.Left.Field,.I g.Left.N,.I g.Right.Kind,.s g.Right.Message,.s g.Right.Field,.I g.Right.N]),(59,.I A),(71,.O st)])) (fun st=>z27_k8 N d j k vbk0_0_0_1017 vbk0_0_1_1017 vbk0_0_2_1017 vbk0_0_3_1017 vbk0_0_4_1017 vbk0_0_5_1017 vbk0_0_6_1017 vbk0_0_7_1017 vbk0_0_8_1017 z A (z27_l6 N d f (z27_l4 N c (z27_l2 N c_ n132) d n154) g j k n157) C st=some r) ?_ (fun j1024=>?_))
      ·intro R h
       replace h:z27_k8 N d j k vbk0_0_0_1017 vbk0_0_1_1017 vbk0_0_2_1017 vbk0_0_3_1017 vbk0_0_4_1017 vbk0_0_5_1017 vbk0_0_6_1017 vbk0_0_7_1017 vbk0_0_8_1017 z A (z27_l6 N d f (z27_l4 N c (z27_l2 N c_ n132) d n154) g j k n157) C R=some r:=h
       unfold z27_k8 at h
       refine eCut (σ:=(List T17) × ByteArray × (List ByteArray) × (List T16) × (List T15) × (List ByteArray) × ByteArray × ByteArray × Int) (fun st=>⟨[(0,.B 0 0),(3,.B 14 0),(5,.B 21 0),(7,.B 23 0),(10,.I z),(11,.I A),(12,.B 34 0),(17,.S 3),(18,.I (c_.p'.Messages.length:Int)),(19,.I c),(24,.S 13),(25,.I (d.Where.length:Int)),(26,.I f),(58,.a [.I g.Left.Kind,.s g.Left.Message,.s g.Left.Field,.I g.Left.N,.I g.Right.Kind,.s g.Right.Message,.s g.Right.Field,.I g.Right.N]),(59,.I A)],[(0,.box [.sl 35,.s st.2.1,.sl 36,.sl 37,.sl 38,.sl 39,.s st.2.2.2.2.2.2.1,.s st.2.2.2.2.2.2.2.1,.I st.2.2.2.2.2.2.2.2] 86),(14,.box [.s d.Name,.sl 12,.sl 13] 32),(21,.box [.I g.Left.Kind,.s g.Left.Message,.s g.Left.Field,.I g.Left.N,.s g.Op,.I g.Right.Kind,.s g.Right.Message,.s g.Right.Field,.I g.Right.N] 78),(23,.box [.I j,.I k] 132),(34,.box [.I C,.s D,.s G,.I H] 76),(39,.own rS st.2.2.2.2.2.1 false)],((1,.sl rR17 c_.all')::vV17 2 3 4 c_.p' (vV16 12 13 d [(35,.sl rR17 st.1),(36,.sl rS st.2.2.1),(37,.sl rR16 st.2.2.2.1),(38,.sl rR15 st.2.2.2.2.1)])),40⟩) (fun st=>z27_k7 j k z A (z27_l6 N d f (z27_l4 N c (z27_l2 N c_ n132) d n154) g j k n157) C st.1 st.2.1 st.2.2.1 st.2.2.2.1 st.2.2.2.2.1 st.2.2.2.2.2.1 st.2.2.2.2.2.2.1 st.2.2.2.2.2.2.2.1 st.2.2.2.2.2.2.2.2=some r) ?_ (fun j1025=>?_)
       ·rintro ⟨vbk0_0_0_1025,vbk0_0_1_1025,vbk0_0_2_1025,vbk0_0_3_1025,vbk0_0_4_1025,vbk0_0_5_1025,vbk0_0_6_1025,vbk0_0_7_1025,vbk0_0_8_1025⟩ h
        replace h:z27_k7 j k z A (z27_l6 N d f (z27_l4 N c (z27_l2 N c_ n132) d n154) g j k n157) C vbk0_0_0_1025 vbk0_0_1_1025 vbk0_0_2_1025 vbk0_0_3_1025 vbk0_0_4_1025 vbk0_0_5_1025 vbk0_0_6_1025 vbk0_0_7_1025 vbk0_0_8_1025=some r:=h
        unfold z27_k7 at h
        refine wB' J 6 h (fun h=>wa J 13 (eSub [(29,.sl 35),(30,.sl 36),(31,.sl 37),(32,.sl 38),(33,.sl 39)] (ih1017 (vbk0_0_0_1025,vbk0_0_1_1025,vbk0_0_2_1025,vbk0_0_3_1025,vbk0_0_4_1025,vbk0_0_5_1025,vbk0_0_6_1025,vbk0_0_7_1025,vbk0_0_8_1025,z,(w64 (A+1))) h))) fun h=>?_
        obtain ⟨K,h⟩|⟨K,h⟩:=oc h
        ·refine wa J 1 (eAb 0 (by exact eq_of_beq K) ?_)
         exact wB J 4 h (fun h=>wa J 11 (eSub [(29,.sl 35),(30,.sl 36),(31,.sl 37),(32,.sl 38),(33,.sl 39)] (ih1017 (vbk0_0_0_1025,vbk0_0_1_1025,vbk0_0_2_1025,vbk0_0_3_1025,vbk0_0_4_1025,vbk0_0_5_1025,vbk0_0_6_1025,vbk0_0_7_1025,vbk0_0_8_1025,(w64 (z+1)),(w64 (A+1))) h))) fun h=>wa J 7 (eSub [(29,.sl 35),(30,.sl 36),(31,.sl 37),(32,.sl 38),(33,.sl 39)] (ih1017 (vbk0_0_0_1025,vbk0_0_1_1025,vbk0_0_2_1025,vbk0_0_3_1025,vbk0_0_4_1025,vbk0_0_5_1025,vbk0_0_6_1025,vbk0_0_7_1025,vbk0_0_8_1025,z,(w64 (A+1))) h))
        obtain ⟨K,h⟩|⟨K,h⟩:=oc' h
        ·cases h
        refine wa J 1 (eAb 1 (by exact eq_of_beq K) ?_)
        exact wB J 4 h (fun h=>wa J 11 (eSub [(29,.sl 35),(30,.sl 36),(31,.sl 37),(32,.sl 38),(33,.sl 39)] (ih1017 (vbk0_0_0_1025,vbk0_0_1_1025,vbk0_0_2_1025,vbk0_0_3_1025,vbk0_0_4_1025,vbk0_0_5_1025,vbk0_0_6_1025,vbk0_0_7_1025,vbk0_0_8_1025,(w64 (z+1)),(w64 (A+1))) h))) fun h=>wa J 7 (eSub [(29,.sl 35),(30,.sl 36),(31,.sl 37),(32,.sl 38),(33,.sl 39)] (ih1017 (vbk0_0_0_1025,vbk0_0_1_1025,vbk0_0_2_1025,vbk0_0_3_1025,vbk0_0_4_1025,vbk0_0_5_1025,vbk0_0_6_1025,vbk0_0_7_1025,vbk0_0_8_1025,z,(w64 (A+1))) h))
       refine eB' h (fun h=>wa J 2 (eSub [(35,.sl 29),(36,.sl 30),(37,.sl 31),(38,.sl 32),(39,.sl 33)] (j1025 (vbk0_0_0_1017,vbk0_0_1_1017,vbk0_0_2_1017,vbk0_0_3_1017,vbk0_0_4_1017,vbk0_0_5_1017,vbk0_0_6_1017,vbk0_0_7_1017,vbk0_0_8_1017) h))) fun h=>?_
       exact wO J 5 h fun T U h=>eCl (z24_ct N (⟨vbk0_0_0_1017,(⟨vbk0_0_1_1017,vbk0_0_2_1017,vbk0_0_3_1017,vbk0_0_4_1017⟩:T17),vbk0_0_5_1017,(⟨vbk0_0_6_1017,vbk0_0_7_1017,vbk0_0_8_1017⟩:T6)⟩:T7) d.Name 11 _ U) [] [(0,.bp 0 0),(1,.sl 29),(2,.sl 30),(3,.sl 31),(4,.sl 32),(5,.sl 33)] (wa J 1 (eSub [] (j1025 (T.all',T.p'.Name,T.p'.Roles,T.p'.Messages,T.p'.Body,T.calls',T.out'.Protocol,T.out'.Name,T.out'.Err) h)))
      refine eB' h (fun h=>wa J 6 (eSub [] (j1024 false h))) fun h=>?_
      obtain ⟨K,h⟩|⟨K,h⟩:=oc h
      ·exact wa J 1 (eAb 0 (by exact eq_of_beq K) (wa J 4 (eSub [] (j1024 (j != 2) h))))
      obtain ⟨K,h⟩|⟨K,h⟩:=oc h
      ·exact wa J 1 (eAb 1 (by exact eq_of_beq K) (wa J 4 (eSub [] (j1024 (k != 2) h))))
      cases h
     obtain ⟨K,h⟩|⟨K,h⟩:=oc h
     ·exact eAa 0 (by exact eq_of_beq K) (wa J 4 (eSub [] (j1023 (g.Left.Kind,g.Left.Message,g.Left.Field,g.Left.N) h)))
     obtain ⟨K,h⟩|⟨K,h⟩:=oc h
     ·exact eAa 1 (by exact eq_of_beq K) (wa J 4 (eSub [] (j1023 (g.Right.Kind,g.Right.Message,g.Right.Field,g.Right.N) h)))
     cases h
    exact eSub [(29,.sl 24),(30,.sl 25),(31,.sl 26),(32,.sl 27),(33,.sl 28)] (ih N (vbk0_0_0_1002,vbk0_0_1_1002,vbk0_0_2_1002,vbk0_0_3_1002,vbk0_0_4_1002,vbk0_0_5_1002,vbk0_0_6_1002,vbk0_0_7_1002,vbk0_0_8_1002,0,0) h)
   refine wa J 1 (eLoop (σ:=(List T17) × ByteArray × (List ByteArray) × (List T16) × (List T15) × (List ByteArray) × ByteArray × ByteArray × Int × Int × Int × Int) (fun st=>(zz26 st.2.1 st.2.2.2.2.2.2.1 st.2.2.2.2.2.2.2.1 st.2.2.2.2.2.2.2.2.1 d.Name g.Left.Kind g.Left.Message g.Left.Field g.Left.N g.Op g.Right.Kind g.Right.Message g.Right.Field g.Right.N st.2.2.2.2.2.2.2.2.2.1 st.2.2.2.2.2.2.2.2.2.2.1 st.2.2.2.2.2.1 c_.all' c_.p' d st.1 st.2.2.1 st.2.2.2.1 st.2.2.2.2.1 [(0,.B 0 0),(3,.B 14 0),(5,.B 21 0),(6,.B 22 0),(7,.B 23 0),(17,.S 3),(18,.I (c_.p'.Messages.length:Int)),(19,.I c),(24,.S 13),(25,.I (d.Where.length:Int)),(26,.I f),(35,.a [.I g.Left.Kind,.s g.Left.Message,.s g.Left.Field,.I g.Left.N,.I g.Right.Kind,.s g.Right.Message,.s g.Right.Field,.I g.Right.N]),(36,.I st.2.2.2.2.2.2.2.2.2.2.2)])) (fun n st=>z27_l11 N d f (z27_l4 N c (z27_l2 N c_ n132) d n154) g n st.1 st.2.1 st.2.2.1 st.2.2.2.1 st.2.2.2.2.1 st.2.2.2.2.2.1 st.2.2.2.2.2.2.1 st.2.2.2.2.2.2.2.1 st.2.2.2.2.2.2.2.2.1 st.2.2.2.2.2.2.2.2.2.1 st.2.2.2.2.2.2.2.2.2.2.1 st.2.2.2.2.2.2.2.2.2.2.2) (r:=r) (fun _=>rfl) ?_ (fun ih=>?_))
   ·intro n158 ih1026
    rintro ⟨vbk0_0_0_1026,vbk0_0_1_1026,vbk0_0_2_1026,vbk0_0_3_1026,vbk0_0_4_1026,vbk0_0_5_1026,vbk0_0_6_1026,vbk0_0_7_1026,vbk0_0_8_1026,X,Y,Z⟩ h
    replace h:z27_l11 N d f (z27_l4 N c (z27_l2 N c_ n132) d n154) g (n158+1) vbk0_0_0_1026 vbk0_0_1_1026 vbk0_0_2_1026 vbk0_0_3_1026 vbk0_0_4_1026 vbk0_0_5_1026 vbk0_0_6_1026 vbk0_0_7_1026 vbk0_0_8_1026 X Y Z=some r:=h
    unfold z27_l11 at h
    refine wB' J 5 h (fun h=>wa J 2 (eSub [] (j1002 (vbk0_0_0_1026,vbk0_0_1_1026,vbk0_0_2_1026,vbk0_0_3_1026,vbk0_0_4_1026,vbk0_0_5_1026,vbk0_0_6_1026,vbk0_0_7_1026,vbk0_0_8_1026,X,Y) h))) fun h=>?_
    refine wa J 7 (eCut (σ:=Int × ByteArray × ByteArray × Int) (fun st=>⟨[(0,.B 0 0),(3,.B 14 0),(5,.B 21 0),(6,.B 22 0),(7,.B 23 0),(8,.I Z),(9,.B 29 0),(17,.S 3),(18,.I (c_.p'.Messages.length:Int)),(19,.I c),(24,.S 13),(25,.I (d.Where.length:Int)),(26,.I f),(35,.a [.I g.Left.Kind,.s g.Left.Message,.s g.Left.Field,.I g.Left.N,.I g.Right.Kind,.s g.Right.Message,.s g.Right.Field,.I g.Right.N]),(36,.I Z)],[(0,.box [.sl 24,.s vbk0_0_1_1026,.sl 25,.sl 26,.sl 27,.sl 28,.s vbk0_0_6_1026,.s vbk0_0_7_1026,.I vbk0_0_8_1026] 86),(14,.box [.s d.Name,.sl 12,.sl 13] 32),(21,.box [.I g.Left.Kind,.s g.Left.Message,.s g.Left.Field,.I g.Left.N,.s g.Op,.I g.Right.Kind,.s g.Right.Message,.s g.Right.Field,.I g.Right.N] 78),(22,.box [.I g.Left.Kind,.s g.Left.Message,.s g.Left.Field,.I g.Left.N,.I g.Right.Kind,.s g.Right.Message,.s g.Right.Field,.I g.Right.N] 131),(23,.box [.I X,.I Y] 132),(28,.own rS vbk0_0_5_1026 false),(29,.box [.I st.1,.s st.2.1,.s st.2.2.1,.I st.2.2.2] 76)],((1,.sl rR17 c_.all')::vV17 2 3 4 c_.p' (vV16 12 13 d [(24,.sl rR17 vbk0_0_0_1026),(25,.sl rS vbk0_0_2_1026),(26,.sl rR16 vbk0_0_3_1026),(27,.sl rR15 vbk0_0_4_1026)])),30⟩) (fun st=>z27_k12 N d vbk0_0_0_1026 vbk0_0_1_1026 vbk0_0_2_1026 vbk0_0_3_1026 vbk0_0_4_1026 vbk0_0_5_1026 vbk0_0_6_1026 vbk0_0_7_1026 vbk0_0_8_1026 X Y Z (z27_l11 N d f (z27_l4 N c (z27_l2 N c_ n132) d n154) g n158) st.1 st.2.1 st.2.2.1 st.2.2.2=some r) ?_ (fun j1029=>?_))
    ·rintro ⟨a0,b0,c0,d0⟩ h
     replace h:z27_k12 N d vbk0_0_0_1026 vbk0_0_1_1026 vbk0_0_2_1026 vbk0_0_3_1026 vbk0_0_4_1026 vbk0_0_5_1026 vbk0_0_6_1026 vbk0_0_7_1026 vbk0_0_8_1026 X Y Z (z27_l11 N d f (z27_l4 N c (z27_l2 N c_ n132) d n154) g n158) a0 b0 c0 d0=some r:=h
     unfold z27_k12 at h
     refine wB J 7 h (fun h=>wa J 6 (eSub [] (ih1026 (vbk0_0_0_1026,vbk0_0_1_1026,vbk0_0_2_1026,vbk0_0_3_1026,vbk0_0_4_1026,vbk0_0_5_1026,vbk0_0_6_1026,vbk0_0_7_1026,vbk0_0_8_1026,X,Y,(w64 (Z+1))) h))) fun h=>?_
     refine wO J 8 h fun e0 f0 h=>eCb (z59_ct N (⟨vbk0_0_0_1026,(⟨vbk0_0_1_1026,vbk0_0_2_1026,vbk0_0_3_1026,vbk0_0_4_1026⟩:T17),vbk0_0_5_1026,(⟨vbk0_0_6_1026,vbk0_0_7_1026,vbk0_0_8_1026⟩:T6)⟩:T7) d (⟨a0,b0,c0,d0⟩:T18) _ f0) [] [(0,.bp 0 0),(1,.sl 24),(2,.sl 25),(3,.sl 26),(4,.sl 27),(5,.sl 28),(6,.sl 12),(7,.sl 13)] [28] (.inr ⟨rfl,trivial⟩) ?_
     obtain ⟨K,h⟩|⟨K,h⟩:=oc h
     ·refine eAb 0 (by exact eq_of_beq K) ?_
      obtain ⟨K,h⟩|⟨K,h⟩:=oc h
      ·refine wa J 5 (eAb 0 (by exact eq_of_beq K) ?_)
       refine wB' J 3 h (fun h=>wa J 7 (eSub [] (ih1026 (vbk0_0_0_1026,vbk0_0_1_1026,vbk0_0_2_1026,vbk0_0_3_1026,vbk0_0_4_1026,vbk0_0_5_1026,vbk0_0_6_1026,vbk0_0_7_1026,vbk0_0_8_1026,e0,Y,(w64 (Z+1))) h))) fun h=>?_
       exact wO J 5 h fun g0 i0 h=>eCl (z24_ct N (⟨vbk0_0_0_1026,(⟨vbk0_0_1_1026,vbk0_0_2_1026,vbk0_0_3_1026,vbk0_0_4_1026⟩:T17),vbk0_0_5_1026,(⟨vbk0_0_6_1026,vbk0_0_7_1026,vbk0_0_8_1026⟩:T6)⟩:T7) d.Name 10 _ i0) [] [(0,.bp 0 0),(1,.sl 24),(2,.sl 25),(3,.sl 26),(4,.sl 27),(5,.sl 28)] (wa J 6 (eSub [(24,.sl 30),(25,.sl 31),(26,.sl 32),(27,.sl 33),(28,.sl 34)] (ih1026 (g0.all',g0.p'.Name,g0.p'.Roles,g0.p'.Messages,g0.p'.Body,g0.calls',g0.out'.Protocol,g0.out'.Name,g0.out'.Err,e0,Y,(w64 (Z+1))) h)))
      obtain ⟨K,h⟩|⟨K,h⟩:=oc' h
      ·cases h
      refine wa J 5 (eAb 1 (by exact eq_of_beq K) ?_)
      refine wB' J 3 h (fun h=>wa J 7 (eSub [] (ih1026 (vbk0_0_0_1026,vbk0_0_1_1026,vbk0_0_2_1026,vbk0_0_3_1026,vbk0_0_4_1026,vbk0_0_5_1026,vbk0_0_6_1026,vbk0_0_7_1026,vbk0_0_8_1026,e0,Y,(w64 (Z+1))) h))) fun h=>?_
      exact wO J 5 h fun j0 k0 h=>eCl (z24_ct N (⟨vbk0_0_0_1026,(⟨vbk0_0_1_1026,vbk0_0_2_1026,vbk0_0_3_1026,vbk0_0_4_1026⟩:T17),vbk0_0_5_1026,(⟨vbk0_0_6_1026,vbk0_0_7_1026,vbk0_0_8_1026⟩:T6)⟩:T7) d.Name 10 _ k0) [] [(0,.bp 0 0),(1,.sl 24),(2,.sl 25),(3,.sl 26),(4,.sl 27),(5,.sl 28)] (wa J 6 (eSub [(24,.sl 30),(25,.sl 31),(26,.sl 32),(27,.sl 33),(28,.sl 34)] (ih1026 (j0.all',j0.p'.Name,j0.p'.Roles,j0.p'.Messages,j0.p'.Body,j0.calls',j0.out'.Protocol,j0.out'.Name,j0.out'.Err,e0,Y,(w64 (Z+1))) h)))
     obtain ⟨K,h⟩|⟨K,h⟩:=oc' h
     ·cases h
     refine eAb 1 (by exact eq_of_beq K) ?_
     obtain ⟨K,h⟩|⟨K,h⟩:=oc h
     ·refine wa J 5 (eAb 0 (by exact eq_of_beq K) ?_)
      refine wB' J 3 h (fun h=>wa J 7 (eSub [] (ih1026 (vbk0_0_0_1026,vbk0_0_1_1026,vbk0_0_2_1026,vbk0_0_3_1026,vbk0_0_4_1026,vbk0_0_5_1026,vbk0_0_6_1026,vbk0_0_7_1026,vbk0_0_8_1026,X,e0,(w64 (Z+1))) h))) fun h=>?_
      exact wO J 5 h fun l0 m0 h=>eCl (z24_ct N (⟨vbk0_0_0_1026,(⟨vbk0_0_1_1026,vbk0_0_2_1026,vbk0_0_3_1026,vbk0_0_4_1026⟩:T17),vbk0_0_5_1026,(⟨vbk0_0_6_1026,vbk0_0_7_1026,vbk0_0_8_1026⟩:T6)⟩:T7) d.Name 10 _ m0) [] [(0,.bp 0 0),(1,.sl 24),(2,.sl 25),(3,.sl 26),(4,.sl 27),(5,.sl 28)] (wa J 6 (eSub [(24,.sl 30),(25,.sl 31),(26,.sl 32),(27,.sl 33),(28,.sl 34)] (ih1026 (l0.all',l0.p'.Name,l0.p'.Roles,l0.p'.Messages,l0.p'.Body,l0.calls',l0.out'.Protocol,l0.out'.Name,l0.out'.Err,X,e0,(w64 (Z+1))) h)))
     obtain ⟨K,h⟩|⟨K,h⟩:=oc' h
     ·cases h
     refine wa J 5 (eAb 1 (by exact eq_of_beq K) ?_)
     refine wB' J 3 h (fun h=>wa J 7 (eSub [] (ih1026 (vbk0_0_0_1026,vbk0_0_1_1026,vbk0_0_2_1026,vbk0_0_3_1026,vbk0_0_4_1026,vbk0_0_5_1026,vbk0_0_6_1026,vbk0_0_7_1026,vbk0_0_8_1026,X,e0,(w64 (Z+1))) h))) fun h=>?_
     exact wO J 5 h fun o0 p0 h=>eCl (z24_ct N (⟨vbk0_0_0_1026,(⟨vbk0_0_1_1026,vbk0_0_2_1026,vbk0_0_3_1026,vbk0_0_4_1026⟩:T17),vbk0_0_5_1026,(⟨vbk0_0_6_1026,vbk0_0_7_1026,vbk0_0_8_1026⟩:T6)⟩:T7) d.Name 10 _ p0) [] [(0,.bp 0 0),(1,.sl 24),(2,.sl 25),(3,.sl 26),(4,.sl 27),(5,.sl 28)] (wa J 6 (eSub [(24,.sl 30),(25,.sl 31),(26,.sl 32),(27,.sl 33),(28,.sl 34)] (ih1026 (o0.all',o0.p'.Name,o0.p'.Roles,o0.p'.Messages,o0.p'.Body,o0.calls',o0.out'.Protocol,o0.out'.Name,o0.out'.Err,X,e0,(w64 (Z+1))) h)))
    obtain ⟨K,h⟩|⟨K,h⟩:=oc h
    ·exact eAa 0 (by exact eq_of_beq K) (wa J 4 (eSub [] (j1029 (g.Left.Kind,g.Left.Message,g.Left.Field,g.Left.N) h)))
    obtain ⟨K,h⟩|⟨K,h⟩:=oc h
    ·exact eAa 1 (by exact eq_of_beq K) (wa J 4 (eSub [] (j1029 (g.Right.Kind,g.Right.Message,g.Right.Field,g.Right.N) h)))
    cases h
   exact eSub [(24,.sl 15),(25,.sl 16),(26,.sl 17),(27,.sl 18),(28,.sl 19)] (ih N (vbk0_0_0_945,vbk0_0_1_945,vbk0_0_2_945,vbk0_0_3_945,vbk0_0_4_945,vbk0_0_5_945,vbk0_0_6_945,vbk0_0_7_945,vbk0_0_8_945,0,0,0) h)
  exact eSub [(15,.sl 6),(16,.sl 7),(17,.sl 8),(18,.sl 9),(19,.sl 10)] (ih N (vbk0_0_0_516,vbk0_0_1_516,vbk0_0_2_516,vbk0_0_3_516,vbk0_0_4_516,vbk0_0_5_516,vbk0_0_6_516,vbk0_0_7_516,vbk0_0_8_516,0) h)
 exact eSub [(6,.sl 1),(7,.sl 2),(8,.sl 3),(9,.sl 4),(10,.sl 5)] (ih N (c_.all',c_.p'.Name,c_.p'.Roles,c_.p'.Messages,c_.p'.Body,c_.calls',c_.out'.Protocol,c_.out'.Name,c_.out'.Err,0) h)
theorem z68_40_ct (N:Nat) (q_:T17) (c0_:T17) (r:Bool) (h:z68_40 N q_ c0_=some r) :
 Fn Tryz.prog 68 ⟨7,[.a [.s q_.Name,.sl 0,.sl 1,.sl 2],.B 3 0],(vV17 0 1 2 q_ (vV17 4 5 6 c0_ [])),[(3,.box [.s c0_.Name,.sl 4,.sl 5,.sl 6] 35)],7,.O r,[],[(3,.box [.s c0_.Name,.sl 4,.sl 5,.sl 6] 35)]⟩:=by
 refine eFn func68 rfl (fun E F w=>?_)
 unfold z68_40 at h
 cases h
 exact wr J 14 func68 []
theorem z53_41_ct (N:Nat) (s_:(List T17)) (c0_:T17) (r:Int) (h:z53_41 N s_ c0_=some r) :
 Fn Tryz.prog 53 ⟨5,[.S 0,.c (.cl 68 [] [1])],((0,.sl rR17 s_)::vV17 2 3 4 c0_ []),[(1,.box [.s c0_.Name,.sl 2,.sl 3,.sl 4] 35)],5,.I r,[],[(1,.box [.s c0_.Name,.sl 2,.sl 3,.sl 4] 35)]⟩:=by
 refine eFn func53 rfl (fun E F w=>?_)
 unfold z53_41 at h
 refine wa J 11 (eCut (σ:=Unit) (fun st=>(zz6 c0_.Name s_ c0_ [])) (fun st=>z53_41_k1=some r) ?_ (fun j1=>?_))
 ·intro _ h
  replace h:z53_41_k1=some r:=h
  unfold z53_41_k1 at h
  cases h
  exact wr J 4 func53 []
 refine wa J 1 (eLoop (σ:=Int) (fun st=>(zz6 c0_.Name s_ c0_ [(0,.S 0),(1,.c (.cl 68 [] [1])),(7,.I (s_.length:Int)),(8,.I st)])) (fun n st=>z53_41_l2 N s_ c0_ n st) (r:=r) (fun _=>rfl) ?_ (fun ih=>?_))
 ·intro n2 ih3
  intro d h
  replace h:z53_41_l2 N s_ c0_ (n2+1) d=some r:=h
  unfold z53_41_l2 at h
  refine wB' J 5 h (fun h=>wa J 2 (eSub [] (j1 () h))) fun h=>?_
  refine wO J 14 h fun e f h=>eIx J oO17 f ?_
  refine wO J 1 h fun g i h=>eCl (z68_40_ct N e c0_ _ i) [] [(0,.sl 6),(1,.sl 7),(2,.sl 8),(3,.bp 1 0),(4,.sl 2),(5,.sl 3),(6,.sl 4)] ?_
  refine wB J 1 h (fun h=>?_) fun h=>wa J 7 (eSub [] (ih3 (w64 (d+1)) h))
  cases h
  exact wr J 6 func53 []
 exact eSub [] (ih N 0 h)
theorem z69_b_ct (N:Nat) (rc:(List T15)→Option (List ByteArray)) (rc_names_called_ct:(∀ (l_:(List T15)) (r:(List ByteArray)),rc l_=some r→Fn Tryz.prog 69 ⟨1,[.S 0],[(0,.sl rR15 l_)],[],2,.S 1,[],[(1,.own rS r true)]⟩)) (l_:(List T15)) (r:(List ByteArray)) (h:z69_b N rc l_=some r) :
 Fn Tryz.prog 69 ⟨1,[.S 0],[(0,.sl rR15 l_)],[],2,.S 1,[],[(1,.own rS r true)]⟩:=by
 refine eFn func69 rfl (fun E F w=>?_)
 unfold z69_b at h
 refine wa J 15 (eCut (σ:=(List ByteArray)) (fun st=>⟨[(3,.S 1)],[(1,.own rS st true)],[(0,.sl rR15 l_)],2⟩) (fun st=>z69_k1 st=some r) ?_ (fun j1=>?_))
 ·intro c h
  replace h:z69_k1 c=some r:=h
  unfold z69_k1 at h
  cases h
  exact wr J 5 func69 [(1,.sl 1)]
 refine wa J 1 (eLoop (σ:=(List ByteArray) × Int) (fun st=>⟨[(3,.S 1),(8,.S 0),(9,.I (l_.length:Int)),(10,.I st.2)],[(1,.own rS st.1 true)],[(0,.sl rR15 l_)],2⟩) (fun n st=>z69_l2 N rc l_ n st.1 st.2) (r:=r) (fun _=>rfl) ?_ (fun ih=>?_))
 ·intro n12 ih15
  rintro ⟨d,e⟩ h
  replace h:z69_l2 N rc l_ (n12+1) d e=some r:=h
  unfold z69_l2 at h
  refine wB' J 5 h (fun h=>wa J 2 (eSub [] (j1 d h))) fun h=>?_
  refine wO J 6 h fun f g h=>eIx J oO15 g (wa J 11 (eCut (σ:=(List ByteArray)) (fun st=>⟨[(3,.S 6),(5,.B 5 0),(8,.S 0),(9,.I (l_.length:Int)),(10,.I e)],[(5,.box [.I f.Kind,.s f.From,.sl 3,.s f.Name,.s f.As,.I f.Ticks,.sl 4] 27),(6,.own rS st true)],[(0,.sl rR15 l_),(3,.sl rS f.To),(4,.sl (rSl rR15) f.Blocks)],7⟩) (fun st=>z69_k5 N rc e (z69_l2 N rc l_ n12) f st=some r) ?_ (fun j24=>?_)))
  ·intro i h
   replace h:z69_k5 N rc e (z69_l2 N rc l_ n12) f i=some r:=h
   unfold z69_k5 at h
   refine wa J 7 (eCut (σ:=(List ByteArray)) (fun st=>⟨[(3,.S 7),(8,.S 0),(9,.I (l_.length:Int)),(10,.I e)],[(7,.own rS st true)],[(0,.sl rR15 l_)],8⟩) (fun st=>z69_k3 e (z69_l2 N rc l_ n12) st=some r) ?_ (fun j25=>?_))
   ·intro j h
    replace h:z69_k3 e (z69_l2 N rc l_ n12) j=some r:=h
    unfold z69_k3 at h
    exact wa J 5 (eSub [(1,.sl 7)] (ih15 (j,(w64 (e+1))) h))
   refine wa J 1 (eLoop (σ:=(List ByteArray) × Int) (fun st=>⟨[(3,.S 7),(8,.S 0),(9,.I (l_.length:Int)),(10,.I e),(23,.S 4),(24,.I (f.Blocks.length:Int)),(25,.I st.2)],[(7,.own rS st.1 true)],[(0,.sl rR15 l_),(4,.sl (rSl rR15) f.Blocks)],8⟩) (fun n st=>z69_l4 rc e (z69_l2 N rc l_ n12) f n st.1 st.2) (r:=r) (fun _=>rfl) ?_ (fun ih=>?_))
   ·intro n14 ih27
    rintro ⟨k,l⟩ h
    replace h:z69_l4 rc e (z69_l2 N rc l_ n12) f (n14+1) k l=some r:=h
    unfold z69_l4 at h
    refine wB' J 5 h (fun h=>wa J 2 (eSub [] (j25 k h))) fun h=>?_
    refine wO J 6 h fun m o h=>eIx J (oSl rR15) o ?_
    refine wO J 6 h fun p q h=>eCl (rc_names_called_ct m _ q) [] [(0,.sl 9)] ?_
    obtain ⟨t,u,h⟩:=ob h
    exact eAp J rS u (wa J 7 (eSub [(7,.sl 11)] (ih27 (t,(w64 (l+1))) h)))
   exact eSub [(7,.sl 6)] (ih N (i,0) h)
  refine eB' h (fun h=>wa J 2 (eSub [(6,.sl 1)] (j24 d h))) fun h=>wa J 5 (eBs J [] oS ([f.Name]:List ByteArray) ?_)
  obtain ⟨v,x,h⟩:=ob h
  exact eAp J rS x (wa J 2 (eSub [(6,.sl 7)] (j24 v h)))
 exact eSub [(1,.nil)] (ih N (([]:List ByteArray),0) h)
theorem z69_rct:∀ (N:Nat) (l_:(List T15)) (r:(List ByteArray)) (h:z69_r N l_=some r),Fn Tryz.prog 69 ⟨1,[.S 0],[(0,.sl rR15 l_)],[],2,.S 1,[],[(1,.own rS r true)]⟩:=by
 intro N
 induction N with
 | zero=>intros;rename_i h;cases h
 | succ N ih=>intro l_ r h;exact z69_b_ct N (z69_r N) ih l_ r h
theorem z69_ct (N:Nat) (l_:(List T15)) (r:(List ByteArray)) (h:z69 N l_=some r):Fn Tryz.prog 69 ⟨1,[.S 0],[(0,.sl rR15 l_)],[],2,.S 1,[],[(1,.own rS r true)]⟩:=z69_rct N l_ r h
theorem z70_ct (N:Nat) (x_:List ByteArray) (r:List ByteArray) (h:z70 N x_=some r):Fn Tryz.prog 70 ⟨1,[.S 0],[],[(0,.own rS x_ false)],1,.t [],[],[(0,.own rS r false)]⟩:=by
 unfold z70 at h
 cases hb:(decide ((x_.length:Int)≤4611686018427387903)) with
 | false=>rw [hb] at h;cases h
 | true =>
  rw [hb] at h
  simp only [cond_true,Option.some.injEq] at h
  subst h
  simp only [decide_eq_true_eq] at hb
  exact sort_fn x_ (by omega)
theorem z71_ct (N:Nat) (s_:List ByteArray) (r:List ByteArray) (h:z71 N s_=some r):Fn Tryz.prog 71 ⟨1,[.S 0],[],[(0,.own rS s_ false)],2,.S 1,[],[(1,.own rS r false),(0,.gone)]⟩:=by
 unfold z71 at h
 cases hb:(decide ((s_.length:Int)≤4611686018427387903)) with
 | false=>rw [hb] at h;cases h
 | true =>
  rw [hb] at h
  simp only [cond_true,Option.some.injEq] at h
  subst h
  simp only [decide_eq_true_eq] at hb
  exact compact_fn s_ (by omega)
theorem z74_42_ct (N:Nat) (p_:T17) (c0_:ByteArray) (r:Bool) (h:z74_42 N p_ c0_=some r) :
 Fn Tryz.prog 74 ⟨4,[.a [.s p_.Name,.sl 0,.sl 1,.sl 2],.B 3 0],(vV17 0 1 2 p_ []),[(3,.box [.s c0_] 9)],4,.O r,[],[(3,.box [.s c0_] 9)]⟩:=by
 refine eFn func74 rfl (fun E F w=>?_)
 unfold z74_42 at h
 cases h
 exact wr J 13 func74 []
theorem z53_43_ct (N:Nat) (s_:(List T17)) (c0_:ByteArray) (r:Int) (h:z53_43 N s_ c0_=some r) :
 Fn Tryz.prog 53 ⟨2,[.S 0,.c (.cl 74 [] [1])],[(0,.sl rR17 s_)],[(1,.box [.s c0_] 9)],2,.I r,[],[(1,.box [.s c0_] 9)]⟩:=by
 refine eFn func53 rfl (fun E F w=>?_)
 unfold z53_43 at h
 refine wa J 11 (eCut (σ:=Unit) (fun st=>⟨[],[(1,.box [.s c0_] 9)],[(0,.sl rR17 s_)],2⟩) (fun st=>z53_43_k1=some r) ?_ (fun j1=>?_))
 ·intro _ h
  replace h:z53_43_k1=some r:=h
  unfold z53_43_k1 at h
  cases h
  exact wr J 4 func53 []
 refine wa J 1 (eLoop (σ:=Int) (fun st=>⟨[(0,.S 0),(1,.c (.cl 74 [] [1])),(7,.I (s_.length:Int)),(8,.I st)],[(1,.box [.s c0_] 9)],[(0,.sl rR17 s_)],2⟩) (fun n st=>z53_43_l2 N s_ c0_ n st) (r:=r) (fun _=>rfl) ?_ (fun ih=>?_))
 ·intro n2 ih3
  intro d h
  replace h:z53_43_l2 N s_ c0_ (n2+1) d=some r:=h
  unfold z53_43_l2 at h
  refine wB' J 5 h (fun h=>wa J 2 (eSub [] (j1 () h))) fun h=>?_
  refine wO J 14 h fun e f h=>eIx J oO17 f ?_
  refine wO J 1 h fun g i h=>eCl (z74_42_ct N e c0_ _ i) [] [(0,.sl 3),(1,.sl 4),(2,.sl 5),(3,.bp 1 0)] ?_
  refine wB J 1 h (fun h=>?_) fun h=>wa J 7 (eSub [] (ih3 (w64 (d+1)) h))
  cases h
  exact wr J 6 func53 []
 exact eSub [] (ih N 0 h)
theorem z22_44_ct (N:Nat) (s_:(List T17)) (c0_:ByteArray) (r:Bool) (h:z22_44 N s_ c0_=some r) :
 Fn Tryz.prog 22 ⟨2,[.S 0,.c (.cl 74 [] [1])],[(0,.sl rR17 s_)],[(1,.box [.s c0_] 9)],2,.O r,[],[(1,.box [.s c0_] 9)]⟩:=by
 refine eFn func22 rfl (fun E F w=>?_)
 unfold z22_44 at h
 refine wO J 8 h fun x1 d h=>eCl (z53_43_ct N s_ c0_ _ d) [] [(0,.sl 0),(1,.bp 1 0)] ?_
 cases h
 exact wr J 3 func22 []
theorem z73_45_ct (N:Nat) (s_:ByteArray) (c0_:T7) (r:Bool) (h:z73_45 N s_ c0_=some r) :
 Fn Tryz.prog 73 ⟨7,[.c (.s s_),.B 6 0],(vV7 1 2 3 4 5 c0_ []),[(0,.box (cC7 1 2 3 4 5 c0_) 86),(6,.box [.bp 0 0] 84)],7,.O r,[],[(0,.box (cC7 1 2 3 4 5 c0_) 86),(6,.box [.bp 0 0] 84)]⟩:=by
 refine eFn func73 rfl (fun E F w=>?_)
 unfold z73_45 at h
 refine wO J 12 h fun x1 d h=>eCl (z22_44_ct N c0_.all' s_ _ d) [] [(0,.sl 1),(1,.bp 7 0)] ?_
 cases h
 exact wr J 3 func73 []
theorem z131_46_ct (N:Nat) (s_:(List ByteArray)) (c0_:T7) (r:Int) (h:z131_46 N s_ c0_=some r) :
 Fn Tryz.prog 131 ⟨8,[.S 0,.c (.cl 73 [] [7])],((0,.sl rS s_)::vV7 2 3 4 5 6 c0_ []),[(1,.box (cC7 2 3 4 5 6 c0_) 86),(7,.box [.bp 1 0] 84)],8,.I r,[],[(1,.box (cC7 2 3 4 5 6 c0_) 86),(7,.box [.bp 1 0] 84)]⟩:=by
 refine eFn func131 rfl (fun E F w=>?_)
 unfold z131_46 at h
 refine wa J 11 (eCut (σ:=Unit) (fun st=>(zz28 c0_ s_ [])) (fun st=>z131_46_k1=some r) ?_ (fun j1=>?_))
 ·intro _ h
  replace h:z131_46_k1=some r:=h
  unfold z131_46_k1 at h
  cases h
  exact wr J 4 func131 []
 refine wa J 1 (eLoop (σ:=Int) (fun st=>(zz28 c0_ s_ [(0,.S 0),(1,.c (.cl 73 [] [7])),(7,.I (s_.length:Int)),(8,.I st)])) (fun n st=>z131_46_l2 N s_ c0_ n st) (r:=r) (fun _=>rfl) ?_ (fun ih=>?_))
 ·intro n2 ih3
  intro d h
  replace h:z131_46_l2 N s_ c0_ (n2+1) d=some r:=h
  unfold z131_46_l2 at h
  refine wB' J 5 h (fun h=>wa J 2 (eSub [] (j1 () h))) fun h=>?_
  refine wO J 14 h fun e f h=>eIx J oS f ?_
  refine wO J 1 h fun g i h=>eCl (z73_45_ct N e c0_ _ i) [] [(0,.bp 1 0),(1,.sl 2),(2,.sl 3),(3,.sl 4),(4,.sl 5),(5,.sl 6),(6,.bp 7 0)] ?_
  refine wB J 1 h (fun h=>?_) fun h=>wa J 7 (eSub [] (ih3 (w64 (d+1)) h))
  cases h
  exact wr J 6 func131 []
 exact eSub [] (ih N 0 h)
theorem z72_47_ct (N:Nat) (s_:(List ByteArray)) (c0_:T7) (r:(List ByteArray)) (h:z72_47 N s_ c0_=some r) :
 Fn Tryz.prog 72 ⟨8,[.S 0,.c (.cl 73 [] [7])],(vV7 2 3 4 5 6 c0_ []),[(0,.own rS s_ false),(1,.box (cC7 2 3 4 5 6 c0_) 86),(7,.box [.bp 1 0] 84)],9,.S 8,[],[(8,.own rS r false),(0,.gone),(1,.box (cC7 2 3 4 5 6 c0_) 86),(7,.box [.bp 1 0] 84)]⟩:=by
 refine eFn func72 rfl (fun E F w=>?_)
 unfold z72_47 at h
 refine wO J 8 h fun x1 d h=>eCb (z131_46_ct N s_ c0_ _ d) [] [(0,.sl 0),(1,.bp 1 0),(2,.sl 2),(3,.sl 3),(4,.sl 4),(5,.sl 5),(6,.sl 6),(7,.bp 7 0)] [0] (.inr ⟨rfl,trivial⟩) ?_
 refine wB J 8 h (fun h=>?_) fun h=>wa J 9 (eCut (σ:=(List ByteArray) × Int) (fun st=>(zz29 st.1 c0_ [(0,.S 0),(5,.I st.2)])) (fun st=>z72_47_k1 st.1 st.2=some r) ?_ (fun j1=>?_))
 ·cases h
  exact wr J 6 func72 [(8,.sl 0)]
 ·rintro ⟨e,f⟩ h
  replace h:z72_47_k1 e f=some r:=h
  unfold z72_47_k1 at h
  refine wO J 4 h fun g i h=>eVw J rS i ?_
  obtain ⟨j,k,h⟩:=ob h
  refine eCe J k ?_
  refine wO J 5 h fun l m h=>eVw J rS m (wa J 2 (eSl rS 9 m ?_))
  cases h
  exact eRet J func72 [(8,.sl 9)]
 refine wa J 1 (eLoop (σ:=(List ByteArray) × Int × Int) (fun st=>(zz29 st.1 c0_ [(0,.S 0),(1,.c (.cl 73 [] [7])),(5,.I st.2.1),(6,.I st.2.2)])) (fun n st=>z72_47_l2 N c0_ n st.1 st.2.1 st.2.2) (r:=r) (fun _=>rfl) ?_ (fun ih=>?_))
 ·intro n2 ih3
  rintro ⟨o,p,q⟩ h
  replace h:z72_47_l2 N c0_ (n2+1) o p q=some r:=h
  unfold z72_47_l2 at h
  refine wB' J 8 h (fun h=>wa J 2 (eSub [] (j1 (o,p) h))) fun h=>?_
  refine wO J 8 h fun s t h=>eIo J rS t (eLd J oS t ?_)
  refine wO J 6 h fun u v h=>eCl (z73_45_ct N s c0_ _ v) [] [(0,.bp 1 0),(1,.sl 2),(2,.sl 3),(3,.sl 4),(4,.sl 5),(5,.sl 6),(6,.bp 7 0)] ?_
  refine wB' J 2 h (fun h=>wa J 8 (eSub [] (ih3 (o,p,(w64 (q+1))) h))) fun h=>?_
  exact wO J 6 h fun x y h=>eIo J rS y (eSt J [] oS s y (wa J 12 (eSub [] (ih3 ((setL' o p s),(w64 (p+1)),(w64 (q+1))) h))))
 exact eSub [] (ih N (s_,x1,(w64 (x1+1))) h)
theorem z29_ct (N:Nat) (c_:T7) (r:T7) (h:z29 N c_=some r) :
 Fn Tryz.prog 29 ⟨6,[.B 0 0],((1,.sl rR17 c_.all')::vV17 2 3 4 c_.p' []),[(0,.box (cC7 1 2 3 4 5 c_) 86),(5,.own rS c_.calls' false)],11,.t [],((6,.sl rR17 r.all')::vV17 7 8 9 r.p' []),[(5,.gone),(10,.own rS r.calls' false),(0,.box (cC7 6 7 8 9 10 r) 86)]⟩:=by
 refine eFn func29 rfl (fun E F w=>?_)
 unfold z29 at h
 refine wa J 11 (eBs J [] oS ([c_.p'.Name]:List ByteArray) (wa J 7 (eCut (σ:=(List ByteArray)) (fun st=>(zz30 c_ c_.calls' st c_.all' c_.p' [(1,.B 6 0),(2,.S 8)])) (fun st=>z29_k1 N c_ st=some r) ?_ (fun j1=>?_))))
 ·intro c h
  replace h:z29_k1 N c_ c=some r:=h
  unfold z29_k1 at h
  refine wB' J 6 h (fun h=>?_) fun h=>?_
  ·cases h
   exact wr J 2 func29 [(6,.sl 1),(7,.sl 2),(8,.sl 3),(9,.sl 4),(10,.sl 5)]
  refine wO J 8 h fun d e h=>eCl (z24_ct N c_ c_.p'.Name 6 _ e) [] [(0,.bp 0 0),(1,.sl 1),(2,.sl 2),(3,.sl 3),(4,.sl 4),(5,.sl 5)] (eEnd ?_)
  cases h
  exact eRet J func29 [(6,.sl 9),(7,.sl 10),(8,.sl 11),(9,.sl 12),(10,.sl 13)]
 refine wa J 1 (eLoop (σ:=(List ByteArray) × Int) (fun st=>(zz30 c_ c_.calls' st.1 c_.all' c_.p' [(1,.B 6 0),(2,.S 8),(13,.I st.2)])) (fun n st=>z29_l2 N c_ n st.1 st.2) (r:=r) (fun _=>rfl) ?_ (fun ih=>?_))
 ·intro n12 ih12
  rintro ⟨f,g⟩ h
  replace h:z29_l2 N c_ (n12+1) f g=some r:=h
  unfold z29_l2 at h
  refine wB' J 5 h (fun h=>wa J 2 (eSub [] (j1 f h))) fun h=>wa J 18 (eCut (σ:=(List ByteArray)) (fun st=>⟨[(1,.B 6 0),(3,.S 9),(13,.I g)],[(0,.box (cC7 1 2 3 4 5 c_) 86),(5,.own rS c_.calls' false),(6,.box [.bp 0 0] 84),(9,.own rS st true)],((1,.sl rR17 c_.all')::vV17 2 3 4 c_.p' []),10⟩) (fun st=>z29_k3 N c_ g (z29_l2 N c_ n12) st=some r) ?_ (fun j19=>?_))
  ·intro i h
   replace h:z29_k3 N c_ g (z29_l2 N c_ n12) i=some r:=h
   unfold z29_k3 at h
   refine wO J 3 h fun j k h=>eCl (z70_ct N i _ k) [] [(0,.sl 9)] ?_
   refine wO J 4 h fun l m h=>eCl (z71_ct N j _ m) [] [(0,.sl 9)] ?_
   exact wO J 5 h fun o p h=>eCb (z72_47_ct N l c_ _ p) [] [(0,.sl 10),(1,.bp 0 0),(2,.sl 1),(3,.sl 2),(4,.sl 3),(5,.sl 4),(6,.sl 5),(7,.bp 6 0)] [5] (.inr ⟨rfl,⟨rS_flat,trivial⟩⟩) (wa J 7 (eSub [(8,.sl 11)] (ih12 (o,(w64 (g+1))) h)))
  refine wa J 1 (eLoop (σ:=(List ByteArray) × Int) (fun st=>⟨[(1,.B 6 0),(2,.S 8),(3,.S 9),(13,.I g),(18,.S 1),(19,.I (c_.all'.length:Int)),(20,.I st.2)],[(0,.box (cC7 1 2 3 4 5 c_) 86),(5,.own rS c_.calls' false),(6,.box [.bp 0 0] 84),(8,.own rS f true),(9,.own rS st.1 true)],((1,.sl rR17 c_.all')::vV17 2 3 4 c_.p' []),10⟩) (fun n st=>z29_l4 N c_ f g (z29_l2 N c_ n12) n st.1 st.2) (r:=r) (fun _=>rfl) ?_ (fun ih=>?_))
  ·intro n14 ih21
   rintro ⟨q,s⟩ h
   replace h:z29_l4 N c_ f g (z29_l2 N c_ n12) (n14+1) q s=some r:=h
   unfold z29_l4 at h
   refine wB' J 5 h (fun h=>wa J 2 (eSub [] (j19 q h))) fun h=>?_
   refine wO J 7 h fun u v h=>eIx J oO17 v ?_
   refine wO J 12 h fun x y h=>eCl (z53_41_ct N c_.all' u _ y) [] [(0,.sl 1),(1,.bp 14 0),(2,.sl 11),(3,.sl 12),(4,.sl 13)] ?_
   refine wB' J 8 h (fun h=>wa J 13 (eSub [] (ih21 (q,(w64 (s+1))) h))) fun h=>?_
   refine wO J 3 h fun z A h=>eCb (z54_ct N f u.Name _ A) [] [(0,.sl 8)] [8] (.inr ⟨rfl,trivial⟩) ?_
   refine wB' J 2 h (fun h=>wa J 7 (eSub [] (ih21 (q,(w64 (s+1))) h))) fun h=>?_
   refine wO J 5 h fun C D h=>eCl (z69_ct N u.Body _ D) [] [(0,.sl 13)] ?_
   obtain ⟨G,H,h⟩:=ob h
   exact eAp J rS H (wa J 7 (eSub [(9,.sl 16)] (ih21 (G,(w64 (s+1))) h)))
  exact eSub [(9,.nil)] (ih N (([]:List ByteArray),0) h)
 exact eSub [(8,.sl 7)] (ih N (([c_.p'.Name]:List ByteArray),0) h)
theorem z13_ct (N:Nat) (l_:(List T17)) (r:T6) (h:z13 N l_=some r) :
 Fn Tryz.prog 13 ⟨2,[.S 0],[(0,.sl rR17 l_)],[(1,.abs powT)],2,.a (cC6 r),[],[(1,.abs powT)]⟩:=by
 refine eFn func13 rfl (fun E F w=>?_)
 unfold z13 at h
 refine wO J 8 h fun x1 c h=>eCl (z18_ct N l_ _ c) [] [(0,.sl 0),(1,.sl 1)] ?_
 refine wB J 2 h (fun h=>?_) fun h=>wa J 9 (eCut (σ:=Unit) (fun st=>(zz31 powT l_ [(2,.B 2 0)])) (fun st=>z13_k1=some r) ?_ (fun j1=>?_))
 ·cases h
  exact wr J 6 func13 []
 ·intro _ h
  replace h:z13_k1=some r:=h
  unfold z13_k1 at h
  cases h
  exact wr J 5 func13 []
 refine wa J 1 (eLoop (σ:=Int) (fun st=>(zz31 powT l_ [(0,.S 0),(2,.B 2 0),(11,.S 0),(12,.I (l_.length:Int)),(13,.I st)])) (fun n st=>z13_l2 N l_ n st) (r:=r) (fun _=>rfl) ?_ (fun ih=>?_))
 ·intro n12 ih15
  intro d h
  replace h:z13_l2 N l_ (n12+1) d=some r:=h
  unfold z13_l2 at h
  refine wB' J 5 h (fun h=>wa J 2 (eSub [] (j1 () h))) fun h=>?_
  refine wO J 7 h fun e f h=>eIx J oO17 f ?_
  refine wO J 18 h fun g i h=>eIs J rR17 i ?_
  refine wO J 1 h fun j k h=>eCl (z22_19_ct N g e _ k) [] [(0,.sl 9),(1,.bp 7 0),(2,.sl 4),(3,.sl 5),(4,.sl 6)] (wa J 1 (eCut (σ:=(List T17) × ByteArray × (List ByteArray) × (List T16) × (List T15) × (List ByteArray) × ByteArray × ByteArray × Int) (fun st=>⟨[(0,.S 0),(2,.B 2 0),(4,.B 7 0),(5,.B 8 0),(11,.S 0),(12,.I (l_.length:Int)),(13,.I d)],[(1,.abs powT),(2,.box [.s (str []),.s (str []),.I 0] 52),(7,.box [.s e.Name,.sl 4,.sl 5,.sl 6] 35),(8,.box [.sl 10,.s st.2.1,.sl 11,.sl 12,.sl 13,.sl 14,.s st.2.2.2.2.2.2.1,.s st.2.2.2.2.2.2.2.1,.I st.2.2.2.2.2.2.2.2] 86),(14,.own rS st.2.2.2.2.2.1 true)],((0,.sl rR17 l_)::vV17 4 5 6 e [(10,.sl rR17 st.1),(11,.sl rS st.2.2.1),(12,.sl rR16 st.2.2.2.1),(13,.sl rR15 st.2.2.2.2.1)]),15⟩) (fun st=>z13_k5 N d (z13_l2 N l_ n12) e st.1 st.2.1 st.2.2.1 st.2.2.2.1 st.2.2.2.2.1 st.2.2.2.2.2.1 st.2.2.2.2.2.2.1 st.2.2.2.2.2.2.2.1 st.2.2.2.2.2.2.2.2=some r) ?_ (fun j24=>?_)))
  ·rintro ⟨l,m,o,p,q,t,u,v,x⟩ h
   replace h:z13_k5 N d (z13_l2 N l_ n12) e l m o p q t u v x=some r:=h
   unfold z13_k5 at h
   refine wa J 8 (eCut (σ:=(List T17) × ByteArray × (List ByteArray) × (List T16) × (List T15) × (List ByteArray) × ByteArray × ByteArray × Int) (fun st=>(zz32 powT e.Name st.2.1 st.2.2.2.2.2.2.1 st.2.2.2.2.2.2.2.1 st.2.2.2.2.2.2.2.2 st.2.2.2.2.2.1 l_ e st.1 st.2.2.1 st.2.2.2.1 st.2.2.2.2.1 [(0,.S 0),(2,.B 2 0),(4,.B 7 0),(5,.B 8 0),(11,.S 0),(12,.I (l_.length:Int)),(13,.I d)])) (fun st=>z13_k3 N d (z13_l2 N l_ n12) e st.1 st.2.1 st.2.2.1 st.2.2.2.1 st.2.2.2.2.1 st.2.2.2.2.2.1 st.2.2.2.2.2.2.1 st.2.2.2.2.2.2.2.1 st.2.2.2.2.2.2.2.2=some r) ?_ (fun j25=>?_))
   ·rintro ⟨y,z,A,C,D,G,H,R,T⟩ h
    replace h:z13_k3 N d (z13_l2 N l_ n12) e y z A C D G H R T=some r:=h
    unfold z13_k3 at h
    refine wO J 3 h fun U X h=>eCl (z26_ct N (⟨y,(⟨z,A,C,D⟩:T17),G,(⟨H,R,T⟩:T6)⟩:T7) _ X) [] [(0,.bp 8 0),(1,.sl 15),(2,.sl 16),(3,.sl 17),(4,.sl 18),(5,.sl 19)] ?_
    refine wO J 4 h fun Y Z h=>eCl (z27_ct N U _ Z) [] [(0,.bp 8 0),(1,.sl 20),(2,.sl 21),(3,.sl 22),(4,.sl 23),(5,.sl 24)] ?_
    refine wO J 6 h fun a0 b0 h=>eCl (z28_ct N Y e.Body ([]:List T8) _ b0) [] [(0,.bp 8 0),(1,.sl 25),(2,.sl 26),(3,.sl 27),(4,.sl 28),(5,.sl 29),(6,.sl 6),(7,.nil)] ?_
    refine wO J 4 h fun c0 d0 h=>eCl (z29_ct N a0 _ d0) [] [(0,.bp 8 0),(1,.sl 30),(2,.sl 31),(3,.sl 32),(4,.sl 33),(5,.sl 34)] ?_
    refine wB J 10 h (fun h=>?_) fun h=>wa J 7 (eSub [] (ih15 (w64 (d+1)) h))
    cases h
    exact wr J 9 func13 []
   refine wa J 1 (eLoop (σ:=(List T17) × ByteArray × (List ByteArray) × (List T16) × (List T15) × (List ByteArray) × ByteArray × ByteArray × Int × Int) (fun st=>(zz32 powT e.Name st.2.1 st.2.2.2.2.2.2.1 st.2.2.2.2.2.2.2.1 st.2.2.2.2.2.2.2.2.1 st.2.2.2.2.2.1 l_ e st.1 st.2.2.1 st.2.2.2.1 st.2.2.2.2.1 [(0,.S 0),(2,.B 2 0),(4,.B 7 0),(5,.B 8 0),(11,.S 0),(12,.I (l_.length:Int)),(13,.I d),(33,.I (e.Roles.length:Int)),(34,.I st.2.2.2.2.2.2.2.2.2)])) (fun n st=>z13_l4 N d (z13_l2 N l_ n12) e n st.1 st.2.1 st.2.2.1 st.2.2.2.1 st.2.2.2.2.1 st.2.2.2.2.2.1 st.2.2.2.2.2.2.1 st.2.2.2.2.2.2.2.1 st.2.2.2.2.2.2.2.2.1 st.2.2.2.2.2.2.2.2.2) (r:=r) (fun _=>rfl) ?_ (fun ih=>?_))
   ·intro n14 ih27
    rintro ⟨e0,f0,g0,i0,j0,k0,l0,m0,o0,p0⟩ h
    replace h:z13_l4 N d (z13_l2 N l_ n12) e (n14+1) e0 f0 g0 i0 j0 k0 l0 m0 o0 p0=some r:=h
    unfold z13_l4 at h
    refine wB' J 5 h (fun h=>wa J 2 (eSub [] (j25 (e0,f0,g0,i0,j0,k0,l0,m0,o0) h))) fun h=>?_
    refine wO J 14 h fun q0 s0 h=>eCl (z25_ct N e.Roles p0 _ s0) [] [(0,.sl 4)] ?_
    refine wB' J 1 h (fun h=>wa J 7 (eSub [] (ih27 (e0,f0,g0,i0,j0,k0,l0,m0,o0,(w64 (p0+1))) h))) fun h=>?_
    refine wO J 6 h fun t0 u0 h=>eIx J oS u0 ?_
    exact wO J 1 h fun v0 x0 h=>eCl (z24_ct N (⟨e0,(⟨f0,g0,i0,j0⟩:T17),k0,(⟨l0,m0,o0⟩:T6)⟩:T7) t0 9 _ x0) [] [(0,.bp 8 0),(1,.sl 15),(2,.sl 16),(3,.sl 17),(4,.sl 18),(5,.sl 19)] (wa J 6 (eSub [(15,.sl 21),(16,.sl 22),(17,.sl 23),(18,.sl 24),(19,.sl 25)] (ih27 (v0.all',v0.p'.Name,v0.p'.Roles,v0.p'.Messages,v0.p'.Body,v0.calls',v0.out'.Protocol,v0.out'.Name,v0.out'.Err,(w64 (p0+1))) h)))
   exact eSub [(15,.sl 10),(16,.sl 11),(17,.sl 12),(18,.sl 13),(19,.sl 14)] (ih N (l,m,o,p,q,t,u,v,x,0) h)
  refine eB' h (fun h=>wa J 2 (eSub [(10,.sl 0),(11,.sl 4),(12,.sl 5),(13,.sl 6),(14,.nil)] (j24 (l_,e.Name,e.Roles,e.Messages,e.Body,([]:List ByteArray),(str []),(str []),0) h))) fun h=>?_
  exact wO J 5 h fun y0 z0 h=>eCl (z24_ct N (⟨l_,e,([]:List ByteArray),(⟨(str []),(str []),0⟩:T6)⟩:T7) e.Name 9 _ z0) [] [(0,.bp 8 0),(1,.sl 0),(2,.sl 4),(3,.sl 5),(4,.sl 6),(5,.nil)] (wa J 1 (eSub [] (j24 (y0.all',y0.p'.Name,y0.p'.Roles,y0.p'.Messages,y0.p'.Body,y0.calls',y0.out'.Protocol,y0.out'.Name,y0.out'.Err) h)))
 exact eSub [] (ih N 0 h)
theorem z93_b_ct (N:Nat) (rc:(List T15)→(List ByteArray)→Option (List ByteArray)) (rc_names_collect_ct:(∀ (items_:(List T15)) (out_:(List ByteArray)) (r:(List ByteArray)),rc items_ out_=some r→Fn Tryz.prog 93 ⟨2,[.S 0,.S 1],[(0,.sl rR15 items_)],[(1,.own rS out_ false)],3,.S 2,[],[(2,.own rS r false),(1,.gone)]⟩)) (items_:(List T15)) (out_:(List ByteArray)) (r:(List ByteArray)) (h:z93_b N rc items_ out_=some r) :
 Fn Tryz.prog 93 ⟨2,[.S 0,.S 1],[(0,.sl rR15 items_)],[(1,.own rS out_ false)],3,.S 2,[],[(2,.own rS r false),(1,.gone)]⟩:=by
 refine eFn func93 rfl (fun E F w=>?_)
 unfold z93_b at h
 refine wa J 11 (eCut (σ:=(List ByteArray)) (fun st=>⟨[(1,.S 2)],[(2,.own rS st false)],[(0,.sl rR15 items_)],3⟩) (fun st=>z93_k1 st=some r) ?_ (fun j1=>?_))
 ·intro c h
  replace h:z93_k1 c=some r:=h
  unfold z93_k1 at h
  cases h
  exact wr J 5 func93 [(2,.sl 2)]
 refine wa J 1 (eLoop (σ:=(List ByteArray) × Int) (fun st=>⟨[(1,.S 2),(9,.S 0),(10,.I (items_.length:Int)),(11,.I st.2)],[(2,.own rS st.1 false)],[(0,.sl rR15 items_)],3⟩) (fun n st=>z93_l2 N rc items_ n st.1 st.2) (r:=r) (fun _=>rfl) ?_ (fun ih=>?_))
 ·intro n12 ih24
  rintro ⟨d,e⟩ h
  replace h:z93_l2 N rc items_ (n12+1) d e=some r:=h
  unfold z93_l2 at h
  refine wB' J 5 h (fun h=>wa J 2 (eSub [] (j1 d h))) fun h=>?_
  refine wO J 6 h fun f g h=>eIx J oO15 g ?_
  refine wa J 11 (eCut (σ:=Bool) (fun st=>⟨[(1,.S 2),(6,.B 6 0),(9,.S 0),(10,.I (items_.length:Int)),(11,.I e),(22,.O st)],[(2,.own rS d false),(6,.box [.I f.Kind,.s f.From,.sl 4,.s f.Name,.s f.As,.I f.Ticks,.sl 5] 27)],[(0,.sl rR15 items_),(4,.sl rS f.To),(5,.sl (rSl rR15) f.Blocks)],7⟩) (fun st=>z93_k8 N rc d e (z93_l2 N rc items_ n12) f st=some r) ?_ (fun j39=>?_))
  ·intro i h
   replace h:z93_k8 N rc d e (z93_l2 N rc items_ n12) f i=some r:=h
   unfold z93_k8 at h
   refine eCut (σ:=(List ByteArray)) (fun st=>(zz33 f.Kind f.From f.Name f.As f.Ticks st items_ f.To f.Blocks [(1,.S 7),(6,.B 6 0),(9,.S 0),(10,.I (items_.length:Int)),(11,.I e)])) (fun st=>z93_k7 N rc e (z93_l2 N rc items_ n12) f st=some r) ?_ (fun j40=>?_)
   ·intro j h
    replace h:z93_k7 N rc e (z93_l2 N rc items_ n12) f j=some r:=h
    unfold z93_k7 at h
    refine wa J 7 (eCut (σ:=Bool) (fun st=>(zz33 f.Kind f.From f.Name f.As f.Ticks j items_ f.To f.Blocks [(1,.S 7),(6,.B 6 0),(9,.S 0),(10,.I (items_.length:Int)),(11,.I e),(35,.O st)])) (fun st=>z93_k6 N rc e (z93_l2 N rc items_ n12) f j st=some r) ?_ (fun j41=>?_))
    ·intro k h
     replace h:z93_k6 N rc e (z93_l2 N rc items_ n12) f j k=some r:=h
     unfold z93_k6 at h
     refine eCut (σ:=(List ByteArray)) (fun st=>⟨[(1,.S 8),(6,.B 6 0),(9,.S 0),(10,.I (items_.length:Int)),(11,.I e)],[(6,.box [.I f.Kind,.s f.From,.sl 4,.s f.Name,.s f.As,.I f.Ticks,.sl 5] 27),(8,.own rS st false)],[(0,.sl rR15 items_),(4,.sl rS f.To),(5,.sl (rSl rR15) f.Blocks)],9⟩) (fun st=>z93_k5 N rc e (z93_l2 N rc items_ n12) f st=some r) ?_ (fun j42=>?_)
     ·intro l h
      replace h:z93_k5 N rc e (z93_l2 N rc items_ n12) f l=some r:=h
      unfold z93_k5 at h
      refine wa J 7 (eCut (σ:=(List ByteArray)) (fun st=>⟨[(1,.S 9),(9,.S 0),(10,.I (items_.length:Int)),(11,.I e)],[(9,.own rS st false)],[(0,.sl rR15 items_)],10⟩) (fun st=>z93_k3 e (z93_l2 N rc items_ n12) st=some r) ?_ (fun j43=>?_))
      ·intro m h
       replace h:z93_k3 e (z93_l2 N rc items_ n12) m=some r:=h
       unfold z93_k3 at h
       exact wa J 5 (eSub [(2,.sl 9)] (ih24 (m,(w64 (e+1))) h))
      refine wa J 1 (eLoop (σ:=(List ByteArray) × Int) (fun st=>⟨[(1,.S 9),(9,.S 0),(10,.I (items_.length:Int)),(11,.I e),(41,.S 5),(42,.I (f.Blocks.length:Int)),(43,.I st.2)],[(9,.own rS st.1 false)],[(0,.sl rR15 items_),(5,.sl (rSl rR15) f.Blocks)],10⟩) (fun n st=>z93_l4 rc e (z93_l2 N rc items_ n12) f n st.1 st.2) (r:=r) (fun _=>rfl) ?_ (fun ih=>?_))
      ·intro n14 ih45
       rintro ⟨o,p⟩ h
       replace h:z93_l4 rc e (z93_l2 N rc items_ n12) f (n14+1) o p=some r:=h
       unfold z93_l4 at h
       refine wB' J 5 h (fun h=>wa J 2 (eSub [] (j43 o h))) fun h=>?_
       refine wO J 6 h fun q t h=>eIx J (oSl rR15) t ?_
       exact wO J 6 h fun u v h=>eCl (rc_names_collect_ct q o _ v) [] [(0,.sl 11),(1,.sl 9)] (wa J 7 (eSub [(9,.sl 12)] (ih45 (u,(w64 (p+1))) h)))
      exact eSub [(9,.sl 8)] (ih N (l,0) h)
     refine eB' h (fun h=>wa J 2 (eSub [(8,.sl 7)] (j42 j h))) fun h=>?_
     exact wO J 5 h fun x y h=>eAp J rS y (wa J 2 (eSub [] (j42 x h)))
    exact eB h (fun h=>wa J 5 (eSub [] (j41 true h))) fun h=>wa J 5 (eSub [] (j41 (f.Kind==6) h))
   refine eB' h (fun h=>wa J 2 (eSub [(7,.sl 2)] (j40 d h))) fun h=>wa J 5 (eBs J [] oS ([f.From]:List ByteArray) ?_)
   obtain ⟨z,A,h⟩:=ob h
   exact eAp J rS A (wa J 2 (eSub [(7,.sl 8)] (j40 z h)))
  exact eB h (fun h=>wa J 5 (eSub [] (j39 true h))) fun h=>wa J 5 (eSub [] (j39 (f.Kind==2) h))
 exact eSub [(2,.sl 1)] (ih N (out_,0) h)
theorem z93_rct:∀ (N:Nat) (items_:(List T15)) (out_:(List ByteArray)) (r:(List ByteArray)) (h:z93_r N items_ out_=some r),Fn Tryz.prog 93 ⟨2,[.S 0,.S 1],[(0,.sl rR15 items_)],[(1,.own rS out_ false)],3,.S 2,[],[(2,.own rS r false),(1,.gone)]⟩:=by
 intro N
 induction N with
 | zero=>intros;rename_i h;cases h
 | succ N ih=>intro items_ out_ r h;exact z93_b_ct N (z93_r N) ih items_ out_ r h
theorem z93_ct (N:Nat) (items_:(List T15)) (out_:(List ByteArray)) (r:(List ByteArray)) (h:z93 N items_ out_=some r):Fn Tryz.prog 93 ⟨2,[.S 0,.S 1],[(0,.sl rR15 items_)],[(1,.own rS out_ false)],3,.S 2,[],[(2,.own rS r false),(1,.gone)]⟩:=z93_rct N items_ out_ r h
theorem z35_ct (N:Nat) (roles_:(List ByteArray)) (items_:(List T15)) (r:(List ByteArray)) (h:z35 N roles_ items_=some r) :
 Fn Tryz.prog 35 ⟨2,[.S 0,.S 1],[(0,.sl rS roles_),(1,.sl rR15 items_)],[],3,.S 2,[],[(2,.own rS r true)]⟩:=by
 refine eFn func35 rfl (fun E F w=>?_)
 unfold z35 at h
 refine wO J 7 h fun x1 c h=>eCl (z93_ct N items_ ([]:List ByteArray) _ c) [] [(0,.sl 1),(1,.nil)] (wa J 13 (eCut (σ:=(List ByteArray)) (fun st=>⟨[(6,.S 3)],[(3,.own rS st true)],[(0,.sl rS roles_),(1,.sl rR15 items_)],4⟩) (fun st=>z35_k1 st=some r) ?_ (fun j1=>?_)))
 ·intro d h
  replace h:z35_k1 d=some r:=h
  unfold z35_k1 at h
  cases h
  exact wr J 5 func35 [(2,.sl 3)]
 refine wa J 1 (eLoop (σ:=(List ByteArray) × Int) (fun st=>⟨[(5,.S 2),(6,.S 3),(11,.S 0),(12,.I (roles_.length:Int)),(13,.I st.2)],[(2,.own rS x1 true),(3,.own rS st.1 true)],[(0,.sl rS roles_),(1,.sl rR15 items_)],4⟩) (fun n st=>z35_l2 N roles_ x1 n st.1 st.2) (r:=r) (fun _=>rfl) ?_ (fun ih=>?_))
 ·intro n2 ih3
  rintro ⟨e,f⟩ h
  replace h:z35_l2 N roles_ x1 (n2+1) e f=some r:=h
  unfold z35_l2 at h
  refine wB' J 5 h (fun h=>wa J 2 (eSub [] (j1 e h))) fun h=>?_
  refine wO J 6 h fun g i h=>eIx J oS i ?_
  refine wO J 7 h fun j k h=>eCb (z54_ct N x1 g _ k) [] [(0,.sl 2)] [2] (.inr ⟨rfl,trivial⟩) ?_
  refine wB' J 1 h (fun h=>wa J 7 (eSub [] (ih3 (e,(w64 (f+1))) h))) fun h=>wa J 4 (eBs J [] oS ([g]:List ByteArray) ?_)
  obtain ⟨l,m,h⟩:=ob h
  exact eAp J rS m (wa J 7 (eSub [(3,.sl 6)] (ih3 (l,(w64 (f+1))) h)))
 exact eSub [(3,.nil)] (ih N (([]:List ByteArray),0) h)
theorem z34_48_b_ct (N:Nat) (rc:T2→ByteArray→(List (ByteArray × Bool))→Option (Bool × (List (ByteArray × Bool)))) (rc_Pexpand_expander_separate_ct:(∀ (x_:T2) (name_:ByteArray) (seen_:(List (ByteArray × Bool))) (r:Bool × (List (ByteArray × Bool))),rc x_ name_ seen_=some r→Fn Tryz.prog 16 ⟨4,[.B 0 0,.c (.s name_),.S 3],[],[(0,.box [.sl 1,.sl 2] 62),(1,.av (mapV rR17 true false x_.all')),(2,.av (mapV rR17 true false x_.done')),(3,.av (mapV rB false false seen_))],4,.O r.1,[],[(0,.box [.sl 1,.sl 2] 62),(1,.av (mapV rR17 true false x_.all')),(2,.av (mapV rR17 true false x_.done')),(3,.av (mapV rB false false r.2))]⟩)) (rd:(List T15)→T2→(List (ByteArray × Bool))→T17→Option (Bool × (List (ByteArray × Bool)))) (rc_Pexpand_expander_separate_1_al_ct:(∀ (l_:(List T15)) (c0_:T2) (c2_:(List (ByteArray × Bool))) (c3_:T17) (r:Bool × (List (ByteArray × Bool))),rd l_ c0_ c2_ c3_=some r→Fn Tryz.prog 34 ⟨12,[.S 0,.B 4 0,.B 5 0,.B 7 0,.B 11 0],((0,.sl rR15 l_)::vV17 8 9 10 c3_ []),[(1,.box [.sl 2,.sl 3] 62),(2,.av (mapV rR17 true false c0_.all')),(3,.av (mapV rR17 true false c0_.done')),(4,.box [.bp 1 0] 59),(5,.box [.sl 6] 65),(6,.av (mapV rB false false c2_)),(7,.box [.s c3_.Name,.sl 8,.sl 9,.sl 10] 35),(11,.box [.cl 34 [] [4,5,7,11]] 101)],12,.O r.1,[],[(1,.box [.sl 2,.sl 3] 62),(2,.av (mapV rR17 true false c0_.all')),(3,.av (mapV rR17 true false c0_.done')),(4,.box [.bp 1 0] 59),(6,.av (mapV rB false false r.2)),(5,.box [.sl 6] 65),(7,.box [.s c3_.Name,.sl 8,.sl 9,.sl 10] 35),(11,.box [.cl 34 [] [4,5,7,11]] 101)]⟩)) (l_:(List T15)) (c0_:T2) (c2_:(List (ByteArray × Bool))) (c3_:T17) (r:Bool × (List (ByteArray × Bool))) (h:z34_48_b N rc rd l_ c0_ c2_ c3_=some r) :
 Fn Tryz.prog 34 ⟨12,[.S 0,.B 4 0,.B 5 0,.B 7 0,.B 11 0],((0,.sl rR15 l_)::vV17 8 9 10 c3_ []),[(1,.box [.sl 2,.sl 3] 62),(2,.av (mapV rR17 true false c0_.all')),(3,.av (mapV rR17 true false c0_.done')),(4,.box [.bp 1 0] 59),(5,.box [.sl 6] 65),(6,.av (mapV rB false false c2_)),(7,.box [.s c3_.Name,.sl 8,.sl 9,.sl 10] 35),(11,.box [.cl 34 [] [4,5,7,11]] 101)],12,.O r.1,[],[(1,.box [.sl 2,.sl 3] 62),(2,.av (mapV rR17 true false c0_.all')),(3,.av (mapV rR17 true false c0_.done')),(4,.box [.bp 1 0] 59),(6,.av (mapV rB false false r.2)),(5,.box [.sl 6] 65),(7,.box [.s c3_.Name,.sl 8,.sl 9,.sl 10] 35),(11,.box [.cl 34 [] [4,5,7,11]] 101)]⟩:=by
 refine eFn func34 rfl (fun E F w=>?_)
 unfold z34_48_b at h
 refine wa J 11 (eCut (σ:=(List (ByteArray × Bool))) (fun st=>(zz34 (mapV rR17 true false c0_.all') (mapV rR17 true false c0_.done') (mapV rB false false st) c3_.Name l_ c3_ [])) (fun st=>z34_48_k1 st=some r) ?_ (fun j1=>?_))
 ·intro d h
  replace h:z34_48_k1 d=some r:=h
  unfold z34_48_k1 at h
  cases h
  exact wr J 4 func34 []
 refine wa J 1 (eLoop (σ:=(List (ByteArray × Bool)) × Int) (fun st=>(zz34 (mapV rR17 true false c0_.all') (mapV rR17 true false c0_.done') (mapV rB false false st.1) c3_.Name l_ c3_ [(1,.B 4 0),(2,.B 5 0),(3,.B 7 0),(4,.B 11 0),(14,.S 0),(15,.I (l_.length:Int)),(16,.I st.2)])) (fun n st=>z34_48_l2 N rc rd l_ c0_ c3_ n st.1 st.2) (r:=r) (fun _=>rfl) ?_ (fun ih=>?_))
 ·intro n72 ih69
  rintro ⟨e,f⟩ h
  replace h:z34_48_l2 N rc rd l_ c0_ c3_ (n72+1) e f=some r:=h
  unfold z34_48_l2 at h
  refine wB' J 5 h (fun h=>wa J 2 (eSub [] (j1 e h))) fun h=>?_
  refine wO J 6 h fun g i h=>eIx J oO15 i ?_
  refine wa J 11 (eCut (σ:=(List (ByteArray × Bool)) × Bool) (fun st=>⟨[(1,.B 4 0),(2,.B 5 0),(3,.B 7 0),(4,.B 11 0),(8,.B 15 0),(14,.S 0),(15,.I (l_.length:Int)),(16,.I f),(30,.O st.2)],[(1,.box [.sl 2,.sl 3] 62),(2,.av (mapV rR17 true false c0_.all')),(3,.av (mapV rR17 true false c0_.done')),(4,.box [.bp 1 0] 59),(5,.box [.sl 6] 65),(6,.av (mapV rB false false st.1)),(7,.box [.s c3_.Name,.sl 8,.sl 9,.sl 10] 35),(11,.box [.cl 34 [] [4,5,7,11]] 101),(15,.box [.I g.Kind,.s g.From,.sl 13,.s g.Name,.s g.As,.I g.Ticks,.sl 14] 27)],((0,.sl rR15 l_)::vV17 8 9 10 c3_ [(13,.sl rS g.To),(14,.sl (rSl rR15) g.Blocks)]),16⟩) (fun st=>z34_48_k7 N rd c0_ c3_ f (z34_48_l2 N rc rd l_ c0_ c3_ n72) g st.1 st.2=some r) ?_ (fun j114=>?_))
  ·rintro ⟨j,k⟩ h
   replace h:z34_48_k7 N rd c0_ c3_ f (z34_48_l2 N rc rd l_ c0_ c3_ n72) g j k=some r:=h
   unfold z34_48_k7 at h
   refine eB h (fun h=>?_) fun h=>wa J 4 (eMm rB false (wa J 9 (eCut (σ:=(List (ByteArray × Bool))) (fun st=>⟨[(1,.B 4 0),(2,.B 5 0),(3,.B 7 0),(4,.B 11 0),(14,.S 0),(15,.I (l_.length:Int)),(16,.I f)],[(1,.box [.sl 2,.sl 3] 62),(2,.av (mapV rR17 true false c0_.all')),(3,.av (mapV rR17 true false c0_.done')),(4,.box [.bp 1 0] 59),(5,.box [.sl 6] 65),(6,.av (mapV rB false false st)),(7,.box [.s c3_.Name,.sl 8,.sl 9,.sl 10] 35),(11,.box [.cl 34 [] [4,5,7,11]] 101)],((0,.sl rR15 l_)::vV17 8 9 10 c3_ []),17⟩) (fun st=>z34_48_k3 f (z34_48_l2 N rc rd l_ c0_ c3_ n72) st=some r) ?_ (fun j115=>?_))))
   ·cases h
    exact wr J 5 func34 []
   ·intro l h
    replace h:z34_48_k3 f (z34_48_l2 N rc rd l_ c0_ c3_ n72) l=some r:=h
    unfold z34_48_k3 at h
    exact wa J 5 (eSub [] (ih69 (l,(w64 (f+1))) h))
   refine wa J 1 (eLoop (σ:=(List (ByteArray × Bool)) × (List (ByteArray × Bool)) × Int) (fun st=>⟨[(1,.B 4 0),(2,.B 5 0),(3,.B 7 0),(4,.B 11 0),(8,.B 15 0),(9,.S 16),(14,.S 0),(15,.I (l_.length:Int)),(16,.I f),(33,.S 14),(34,.I (g.Blocks.length:Int)),(35,.I st.2.2)],[(1,.box [.sl 2,.sl 3] 62),(2,.av (mapV rR17 true false c0_.all')),(3,.av (mapV rR17 true false c0_.done')),(4,.box [.bp 1 0] 59),(5,.box [.sl 6] 65),(6,.av (mapV rB false false st.1)),(7,.box [.s c3_.Name,.sl 8,.sl 9,.sl 10] 35),(11,.box [.cl 34 [] [4,5,7,11]] 101),(15,.box [.I g.Kind,.s g.From,.sl 13,.s g.Name,.s g.As,.I g.Ticks,.sl 14] 27),(16,.av (mapV rB false false st.2.1))],((0,.sl rR15 l_)::vV17 8 9 10 c3_ [(13,.sl rS g.To),(14,.sl (rSl rR15) g.Blocks)]),17⟩) (fun n st=>z34_48_l4 N rd c0_ c3_ f (z34_48_l2 N rc rd l_ c0_ c3_ n72) g n st.1 st.2.1 st.2.2) (r:=r) (fun _=>rfl) ?_ (fun ih=>?_))
   ·intro n84 ih126
    rintro ⟨m,o,p⟩ h
    replace h:z34_48_l4 N rd c0_ c3_ f (z34_48_l2 N rc rd l_ c0_ c3_ n72) g (n84+1) m o p=some r:=h
    unfold z34_48_l4 at h
    refine wB' J 5 h (fun h=>wa J 2 (eSub [] (j115 m h))) fun h=>?_
    refine wO J 6 h fun t u h=>eIx J (oSl rR15) u ?_
    refine wB' J 10 h (fun h=>?_) fun h=>?_
    ·refine wO J 6 h fun v x h=>eCl (rc_Pexpand_expander_separate_1_al_ct t c0_ m c3_ _ x) [] [(0,.sl 18),(1,.bp 1 0),(2,.sl 2),(3,.sl 3),(4,.bp 4 0),(5,.bp 5 0),(6,.sl 6),(7,.bp 7 0),(8,.sl 8),(9,.sl 9),(10,.sl 10),(11,.bp 11 0)] ?_
     refine wB J 2 h (fun h=>?_) fun h=>wa J 7 (eSub [] (ih126 (v.2,o,(w64 (p+1))) h))
     cases h
     exact wr J 5 func34 []
    refine wO J 6 h fun y z h=>eCl (z35_ct N c3_.Roles t _ z) [] [(0,.sl 8),(1,.sl 18)] (wa J 3 (eCut (σ:=(List (ByteArray × Bool))) (fun st=>⟨[(1,.B 4 0),(2,.B 5 0),(3,.B 7 0),(4,.B 11 0),(8,.B 15 0),(9,.S 16),(11,.S 18),(14,.S 0),(15,.I (l_.length:Int)),(16,.I f),(33,.S 14),(34,.I (g.Blocks.length:Int)),(35,.I p)],[(1,.box [.sl 2,.sl 3] 62),(2,.av (mapV rR17 true false c0_.all')),(3,.av (mapV rR17 true false c0_.done')),(4,.box [.bp 1 0] 59),(5,.box [.sl 6] 65),(6,.av (mapV rB false false m)),(7,.box [.s c3_.Name,.sl 8,.sl 9,.sl 10] 35),(11,.box [.cl 34 [] [4,5,7,11]] 101),(15,.box [.I g.Kind,.s g.From,.sl 13,.s g.Name,.s g.As,.I g.Ticks,.sl 14] 27),(16,.av (mapV rB false false st))],((0,.sl rR15 l_)::vV17 8 9 10 c3_ [(13,.sl rS g.To),(14,.sl (rSl rR15) g.Blocks),(18,.sl rR15 t)]),20⟩) (fun st=>z34_48_k5 rd c0_ c3_ m p (z34_48_l4 N rd c0_ c3_ f (z34_48_l2 N rc rd l_ c0_ c3_ n72) g n84) t st=some r) ?_ (fun j133=>?_)))
    ·intro A h
     replace h:z34_48_k5 rd c0_ c3_ m p (z34_48_l4 N rd c0_ c3_ f (z34_48_l2 N rc rd l_ c0_ c3_ n72) g n84) t A=some r:=h
     unfold z34_48_k5 at h
     refine wO J 4 h fun C D h=>eCl (rc_Pexpand_expander_separate_1_al_ct t c0_ m c3_ _ D) [] [(0,.sl 18),(1,.bp 1 0),(2,.sl 2),(3,.sl 3),(4,.bp 4 0),(5,.bp 5 0),(6,.sl 6),(7,.bp 7 0),(8,.sl 8),(9,.sl 9),(10,.sl 10),(11,.bp 11 0)] ?_
     refine wB J 2 h (fun h=>?_) fun h=>wa J 7 (eSub [] (ih126 (C.2,A,(w64 (p+1))) h))
     cases h
     exact wr J 5 func34 []
    refine wa J 1 (eLoop (σ:=(List (ByteArray × Bool)) × Int) (fun st=>⟨[(1,.B 4 0),(2,.B 5 0),(3,.B 7 0),(4,.B 11 0),(8,.B 15 0),(9,.S 16),(11,.S 18),(14,.S 0),(15,.I (l_.length:Int)),(16,.I f),(33,.S 14),(34,.I (g.Blocks.length:Int)),(35,.I p),(45,.S 19),(46,.I (y.length:Int)),(47,.I st.2)],[(1,.box [.sl 2,.sl 3] 62),(2,.av (mapV rR17 true false c0_.all')),(3,.av (mapV rR17 true false c0_.done')),(4,.box [.bp 1 0] 59),(5,.box [.sl 6] 65),(6,.av (mapV rB false false m)),(7,.box [.s c3_.Name,.sl 8,.sl 9,.sl 10] 35),(11,.box [.cl 34 [] [4,5,7,11]] 101),(15,.box [.I g.Kind,.s g.From,.sl 13,.s g.Name,.s g.As,.I g.Ticks,.sl 14] 27),(16,.av (mapV rB false false st.1)),(19,.own rS y true)],((0,.sl rR15 l_)::vV17 8 9 10 c3_ [(13,.sl rS g.To),(14,.sl (rSl rR15) g.Blocks),(18,.sl rR15 t)]),20⟩) (fun n st=>z34_48_l6 rd c0_ c3_ m p (z34_48_l4 N rd c0_ c3_ f (z34_48_l2 N rc rd l_ c0_ c3_ n72) g n84) t y n st.1 st.2) (r:=r) (fun _=>rfl) ?_ (fun ih=>?_))
    ·intro n86 ih135
     rintro ⟨G,H⟩ h
     replace h:z34_48_l6 rd c0_ c3_ m p (z34_48_l4 N rd c0_ c3_ f (z34_48_l2 N rc rd l_ c0_ c3_ n72) g n84) t y (n86+1) G H=some r:=h
     unfold z34_48_l6 at h
     refine wB' J 5 h (fun h=>wa J 2 (eSub [] (j133 G h))) fun h=>?_
     refine wO J 6 h fun R T h=>eIo J rS T (eLd J oS T ?_)
     refine wO J 7 h fun U X h=>eMl (nl:=false) oB mt_65 (Option.some.inj X) ?_
     refine wB J 1 h (fun h=>?_) fun h=>wa J 5 (eMu (q:=R) (kvs:=G) [] oB true mt_65 (wa J 6 (eSub [] (ih135 ((mput G R true),(w64 (H+1))) h))))
     cases h
     exact wr J 5 func34 []
    exact eSub [] (ih N (o,0) h)
   exact eSub [] (ih N (j,([]:(List (ByteArray × Bool))),0) h)
  refine eB' h (fun h=>wa J 8 (eSub [] (j114 (e,false) h))) fun h=>?_
  exact wO J 4 h fun Y Z h=>eCl (rc_Pexpand_expander_separate_ct c0_ g.Name e _ Z) [] [(0,.bp 1 0),(1,.sl 2),(2,.sl 3),(3,.sl 6)] (wa J 3 (eSub [] (j114 (Y.2,(!Y.1)) h)))
 exact eSub [] (ih N (c2_,0) h)
theorem z34_48_rct (rc:T2→ByteArray→(List (ByteArray × Bool))→Option (Bool × (List (ByteArray × Bool)))) (rc_Pexpand_expander_separate_ct:(∀ (x_:T2) (name_:ByteArray) (seen_:(List (ByteArray × Bool))) (r:Bool × (List (ByteArray × Bool))),rc x_ name_ seen_=some r→Fn Tryz.prog 16 ⟨4,[.B 0 0,.c (.s name_),.S 3],[],[(0,.box [.sl 1,.sl 2] 62),(1,.av (mapV rR17 true false x_.all')),(2,.av (mapV rR17 true false x_.done')),(3,.av (mapV rB false false seen_))],4,.O r.1,[],[(0,.box [.sl 1,.sl 2] 62),(1,.av (mapV rR17 true false x_.all')),(2,.av (mapV rR17 true false x_.done')),(3,.av (mapV rB false false r.2))]⟩)):∀ (N:Nat) (l_:(List T15)) (c0_:T2) (c2_:(List (ByteArray × Bool))) (c3_:T17) (r:Bool × (List (ByteArray × Bool))) (h:z34_48_r rc N l_ c0_ c2_ c3_=some r),Fn Tryz.prog 34 ⟨12,[.S 0,.B 4 0,.B 5 0,.B 7 0,.B 11 0],((0,.sl rR15 l_)::vV17 8 9 10 c3_ []),[(1,.box [.sl 2,.sl 3] 62),(2,.av (mapV rR17 true false c0_.all')),(3,.av (mapV rR17 true false c0_.done')),(4,.box [.bp 1 0] 59),(5,.box [.sl 6] 65),(6,.av (mapV rB false false c2_)),(7,.box [.s c3_.Name,.sl 8,.sl 9,.sl 10] 35),(11,.box [.cl 34 [] [4,5,7,11]] 101)],12,.O r.1,[],[(1,.box [.sl 2,.sl 3] 62),(2,.av (mapV rR17 true false c0_.all')),(3,.av (mapV rR17 true false c0_.done')),(4,.box [.bp 1 0] 59),(6,.av (mapV rB false false r.2)),(5,.box [.sl 6] 65),(7,.box [.s c3_.Name,.sl 8,.sl 9,.sl 10] 35),(11,.box [.cl 34 [] [4,5,7,11]] 101)]⟩:=by
 intro N
 induction N with
 | zero=>intros;rename_i h;cases h
 | succ N ih=>intro l_ c0_ c2_ c3_ r h;exact z34_48_b_ct N rc rc_Pexpand_expander_separate_ct (z34_48_r rc N) ih l_ c0_ c2_ c3_ r h
theorem z34_48_ct (N:Nat) (rc:T2→ByteArray→(List (ByteArray × Bool))→Option (Bool × (List (ByteArray × Bool)))) (rc_Pexpand_expander_separate_ct:(∀ (x_:T2) (name_:ByteArray) (seen_:(List (ByteArray × Bool))) (r:Bool × (List (ByteArray × Bool))),rc x_ name_ seen_=some r→Fn Tryz.prog 16 ⟨4,[.B 0 0,.c (.s name_),.S 3],[],[(0,.box [.sl 1,.sl 2] 62),(1,.av (mapV rR17 true false x_.all')),(2,.av (mapV rR17 true false x_.done')),(3,.av (mapV rB false false seen_))],4,.O r.1,[],[(0,.box [.sl 1,.sl 2] 62),(1,.av (mapV rR17 true false x_.all')),(2,.av (mapV rR17 true false x_.done')),(3,.av (mapV rB false false r.2))]⟩)) (l_:(List T15)) (c0_:T2) (c2_:(List (ByteArray × Bool))) (c3_:T17) (r:Bool × (List (ByteArray × Bool))) (h:z34_48 N rc l_ c0_ c2_ c3_=some r):Fn Tryz.prog 34 ⟨12,[.S 0,.B 4 0,.B 5 0,.B 7 0,.B 11 0],((0,.sl rR15 l_)::vV17 8 9 10 c3_ []),[(1,.box [.sl 2,.sl 3] 62),(2,.av (mapV rR17 true false c0_.all')),(3,.av (mapV rR17 true false c0_.done')),(4,.box [.bp 1 0] 59),(5,.box [.sl 6] 65),(6,.av (mapV rB false false c2_)),(7,.box [.s c3_.Name,.sl 8,.sl 9,.sl 10] 35),(11,.box [.cl 34 [] [4,5,7,11]] 101)],12,.O r.1,[],[(1,.box [.sl 2,.sl 3] 62),(2,.av (mapV rR17 true false c0_.all')),(3,.av (mapV rR17 true false c0_.done')),(4,.box [.bp 1 0] 59),(6,.av (mapV rB false false r.2)),(5,.box [.sl 6] 65),(7,.box [.s c3_.Name,.sl 8,.sl 9,.sl 10] 35),(11,.box [.cl 34 [] [4,5,7,11]] 101)]⟩:=z34_48_rct rc rc_Pexpand_expander_separate_ct N l_ c0_ c2_ c3_ r h
theorem z16_b_ct (N:Nat) (rc:T2→ByteArray→(List (ByteArray × Bool))→Option (Bool × (List (ByteArray × Bool)))) (rc_Pexpand_expander_separate_ct:(∀ (x_:T2) (name_:ByteArray) (seen_:(List (ByteArray × Bool))) (r:Bool × (List (ByteArray × Bool))),rc x_ name_ seen_=some r→Fn Tryz.prog 16 ⟨4,[.B 0 0,.c (.s name_),.S 3],[],[(0,.box [.sl 1,.sl 2] 62),(1,.av (mapV rR17 true false x_.all')),(2,.av (mapV rR17 true false x_.done')),(3,.av (mapV rB false false seen_))],4,.O r.1,[],[(0,.box [.sl 1,.sl 2] 62),(1,.av (mapV rR17 true false x_.all')),(2,.av (mapV rR17 true false x_.done')),(3,.av (mapV rB false false r.2))]⟩)) (x_:T2) (name_:ByteArray) (seen_:(List (ByteArray × Bool))) (r:Bool × (List (ByteArray × Bool))) (h:z16_b N rc x_ name_ seen_=some r) :
 Fn Tryz.prog 16 ⟨4,[.B 0 0,.c (.s name_),.S 3],[],[(0,.box [.sl 1,.sl 2] 62),(1,.av (mapV rR17 true false x_.all')),(2,.av (mapV rR17 true false x_.done')),(3,.av (mapV rB false false seen_))],4,.O r.1,[],[(0,.box [.sl 1,.sl 2] 62),(1,.av (mapV rR17 true false x_.all')),(2,.av (mapV rR17 true false x_.done')),(3,.av (mapV rB false false r.2))]⟩:=by
 refine eFn func16 rfl (fun E F w=>?_)
 unfold z16_b at h
 refine wO J 11 h fun x1 d h=>eMl (nl:=false) oB mt_65 (Option.some.inj d) ?_
 refine wB J 1 h (fun h=>?_) fun h=>wa J 6 (eMu (q:=name_) (kvs:=seen_) [] oB true mt_65 ?_)
 ·cases h
  exact wr J 5 func16 []
 refine wO J 8 h fun x2 e h=>eMl (nl:=false) oO17 mt_60 (Option.some.inj e) ?_
 refine wO J 17 h fun x3 f h=>eCl (z34_48_ct N rc rc_Pexpand_expander_separate_ct x2.Body x_ (mput seen_ name_ true) x2 _ f) [] [(0,.sl 8),(1,.bp 0 0),(2,.sl 1),(3,.sl 2),(4,.bp 4 0),(5,.bp 5 0),(6,.sl 3),(7,.bp 9 0),(8,.sl 6),(9,.sl 7),(10,.sl 8),(11,.bp 10 0)] ?_
 cases h
 exact wr J 2 func16 []
theorem z16_rct:∀ (N:Nat) (x_:T2) (name_:ByteArray) (seen_:(List (ByteArray × Bool))) (r:Bool × (List (ByteArray × Bool))) (h:z16_r N x_ name_ seen_=some r),Fn Tryz.prog 16 ⟨4,[.B 0 0,.c (.s name_),.S 3],[],[(0,.box [.sl 1,.sl 2] 62),(1,.av (mapV rR17 true false x_.all')),(2,.av (mapV rR17 true false x_.done')),(3,.av (mapV rB false false seen_))],4,.O r.1,[],[(0,.box [.sl 1,.sl 2] 62),(1,.av (mapV rR17 true false x_.all')),(2,.av (mapV rR17 true false x_.done')),(3,.av (mapV rB false false r.2))]⟩:=by
 intro N
 induction N with
 | zero=>intros;rename_i h;cases h
 | succ N ih=>intro x_ name_ seen_ r h;exact z16_b_ct N (z16_r N) ih x_ name_ seen_ r h
theorem z16_ct (N:Nat) (x_:T2) (name_:ByteArray) (seen_:(List (ByteArray × Bool))) (r:Bool × (List (ByteArray × Bool))) (h:z16 N x_ name_ seen_=some r):Fn Tryz.prog 16 ⟨4,[.B 0 0,.c (.s name_),.S 3],[],[(0,.box [.sl 1,.sl 2] 62),(1,.av (mapV rR17 true false x_.all')),(2,.av (mapV rR17 true false x_.done')),(3,.av (mapV rB false false seen_))],4,.O r.1,[],[(0,.box [.sl 1,.sl 2] 62),(1,.av (mapV rR17 true false x_.all')),(2,.av (mapV rR17 true false x_.done')),(3,.av (mapV rB false false r.2))]⟩:=z16_rct N x_ name_ seen_ r h
theorem z36_ct (N:Nat) (s_:(List ByteArray)) (r:(List ByteArray)) (h:z36 N s_=some r) :
 Fn Tryz.prog 36 ⟨1,[.S 0],[(0,.sl rS s_)],[],2,.S 1,[],[(1,.own rS r true)]⟩:=by
 refine eFn func36 rfl (fun E F w=>?_)
 unfold z36 at h
 refine wa J 8 (eNi rS s_ false ?_)
 intro nb hnb
 cases nb
 ·refine wa J 5 (eBs J [] oS ([]:List ByteArray) ?_)
  refine wO J 1 h fun x1 c h=>eAp J rS c ?_
  cases h
  exact wr J 2 func36 [(1,.sl 2)]
 ·obtain rfl:=hnb rfl
  replace h:(some ([]:List ByteArray):Option (List ByteArray))=some r:=h
  cases h
  exact wr J 6 func36 [(1,.nil)]
theorem z95_ct (N:Nat) (s_:(List T0)) (r:(List T0)) (h:z95 N s_=some r) :
 Fn Tryz.prog 95 ⟨1,[.S 0],[(0,.sl rR0 s_)],[],2,.S 1,[],[(1,.own rR0 r true)]⟩:=by
 refine eFn func95 rfl (fun E F w=>?_)
 unfold z95 at h
 refine wa J 8 (eNi rR0 s_ false ?_)
 intro nb hnb
 cases nb
 ·refine wa J 5 (eBs J [] oO0 ([]:List T0) ?_)
  refine wO J 1 h fun x1 c h=>eAp J rR0 c ?_
  cases h
  exact wr J 2 func95 [(1,.sl 2)]
 ·obtain rfl:=hnb rfl
  replace h:(some ([]:List T0):Option (List T0))=some r:=h
  cases h
  exact wr J 6 func95 [(1,.nil)]
theorem z94_49_ct (N:Nat) (t_:T18) (c0_:T3) (r:T18) (h:z94_49 N t_ c0_=some r) :
 Fn Tryz.prog 94 ⟨2,[.a (cC18 t_),.B 0 0],[],[(0,.box [.sl 1,.s c0_.head'] 105),(1,.av (mapV rS false true c0_.roles'))],2,.a (cC18 r),[],[(0,.box [.sl 1,.s c0_.head'] 105),(1,.av (mapV rS false true c0_.roles'))]⟩:=by
 refine eFn func94 rfl (fun E F w=>?_)
 unfold z94_49 at h
 refine wB' J 12 h (fun h=>?_) fun h=>?_
 ·cases h
  exact wr J 7 func94 []
 refine wO J 6 h fun x1 c h=>eCa c ?_
 cases h
 exact wr J 8 func94 []
theorem z37_ct (N:Nat) (r_:T3) (l_:(List T16)) (r:(List T16)) (h:z37 N r_ l_=some r) :
 Fn Tryz.prog 37 ⟨2,[.a [.sl 0,.s r_.head'],.S 1],[(1,.sl rR16 l_)],[(0,.av (mapV rS false true r_.roles'))],3,.S 2,[],[(2,.own rR16 r true),(0,.av (mapV rS false true r_.roles'))]⟩:=by
 refine eFn func37 rfl (fun E F w=>?_)
 unfold z37 at h
 refine wa J 21 (eCut (σ:=(List T16)) (fun st=>⟨[(5,.S 3)],[(0,.av (mapV rS false true r_.roles')),(3,.own rR16 st true)],[(1,.sl rR16 l_)],4⟩) (fun st=>z37_k1 st=some r) ?_ (fun j1=>?_))
 ·intro d h
  replace h:z37_k1 d=some r:=h
  unfold z37_k1 at h
  cases h
  exact wr J 5 func37 [(2,.sl 3)]
 refine wa J 1 (eLoop (σ:=(List T16) × Int) (fun st=>⟨[(2,.B 2 0),(5,.S 3),(6,.c (.cl 94 [] [2])),(13,.S 1),(14,.I (l_.length:Int)),(15,.I st.2)],[(0,.av (mapV rS false true r_.roles')),(2,.box [.sl 0,.s r_.head'] 105),(3,.own rR16 st.1 true)],[(1,.sl rR16 l_)],4⟩) (fun n st=>z37_l2 N r_ l_ n st.1 st.2) (r:=r) (fun _=>rfl) ?_ (fun ih=>?_))
 ·intro n12 ih12
  rintro ⟨e,f⟩ h
  replace h:z37_l2 N r_ l_ (n12+1) e f=some r:=h
  unfold z37_l2 at h
  refine wB' J 5 h (fun h=>wa J 2 (eSub [] (j1 e h))) fun h=>?_
  refine wO J 6 h fun g i h=>eIx J oO16 i ?_
  refine wO J 10 h fun j k h=>eCa k ?_
  refine wO J 2 h fun l m h=>eCl (z95_ct N g.Fields _ m) [] [(0,.sl 5)] (wa J 3 (eEnd (wa J 8 (eCut (σ:=(List T14)) (fun st=>⟨[(2,.B 2 0),(5,.S 3),(6,.c (.cl 94 [] [2])),(9,.B 9 0),(13,.S 1),(14,.I (l_.length:Int)),(15,.I f)],[(0,.av (mapV rS false true r_.roles')),(2,.box [.sl 0,.s r_.head'] 105),(3,.own rR16 e true),(8,.own rR0 l true),(9,.box [.s j,.sl 8,.sl 10] 32),(10,.own rR14 st true)],[(1,.sl rR16 l_)],11⟩) (fun st=>z37_k3 e f (z37_l2 N r_ l_ n12) j l st=some r) ?_ (fun j19=>?_)))))
  ·intro o h
   replace h:z37_k3 e f (z37_l2 N r_ l_ n12) j l o=some r:=h
   unfold z37_k3 at h
   refine wa J 3 (eBs J [8,10] oO16 ([(⟨j,l,o⟩:T16)]:List T16) ?_)
   obtain ⟨p,q,h⟩:=ob h
   exact eAp J rR16 q (wa J 7 (eSub [(3,.sl 12)] (ih12 (p,(w64 (f+1))) h)))
  refine wa J 1 (eLoop (σ:=(List T14) × Int) (fun st=>⟨[(2,.B 2 0),(5,.S 3),(6,.c (.cl 94 [] [2])),(9,.B 9 0),(13,.S 1),(14,.I (l_.length:Int)),(15,.I f),(29,.S 6),(30,.I (g.Where.length:Int)),(31,.I st.2)],[(0,.av (mapV rS false true r_.roles')),(2,.box [.sl 0,.s r_.head'] 105),(3,.own rR16 e true),(8,.own rR0 l true),(9,.box [.s j,.sl 8,.sl 10] 32),(10,.own rR14 st.1 true)],[(1,.sl rR16 l_),(6,.sl rR14 g.Where)],11⟩) (fun n st=>z37_l4 N r_ e f (z37_l2 N r_ l_ n12) g j l n st.1 st.2) (r:=r) (fun _=>rfl) ?_ (fun ih=>?_))
  ·intro n14 ih21
   rintro ⟨t,u⟩ h
   replace h:z37_l4 N r_ e f (z37_l2 N r_ l_ n12) g j l (n14+1) t u=some r:=h
   unfold z37_l4 at h
   refine wB' J 5 h (fun h=>wa J 2 (eSub [] (j19 t h))) fun h=>?_
   refine wO J 6 h fun v x h=>eIx J oO14 x ?_
   refine wO J 10 h fun y z h=>eCl (z94_49_ct N v.Left r_ _ z) [] [(0,.bp 2 0),(1,.sl 0)] ?_
   refine wO J 5 h fun A C h=>eCl (z94_49_ct N v.Right r_ _ C) [] [(0,.bp 2 0),(1,.sl 0)] (wa J 1 (eBs J [] oO14 ([(⟨y,v.Op,A⟩:T14)]:List T14) ?_))
   obtain ⟨D,G,h⟩:=ob h
   exact eAp J rR14 G (wa J 2 (eEnd (wa J 5 (eSub [(10,.sl 14)] (ih21 (D,(w64 (u+1))) h)))))
  exact eSub [(10,.nil)] (ih N (([]:List T14),0) h)
 exact eSub [(3,.nil)] (ih N (([]:List T16),0) h)
theorem z96_ct (N:Nat) (r_:T3) (s_:ByteArray) (r:ByteArray) (h:z96 N r_ s_=some r) :
 Fn Tryz.prog 96 ⟨1,[.a [.sl 0,.s r_.head'],.c (.s s_)],[],[(0,.av (mapV rS false true r_.roles'))],1,.c (.s r),[],[(0,.av (mapV rS false true r_.roles'))]⟩:=by
 refine eFn func96 rfl (fun E F w=>?_)
 unfold z96 at h
 refine wO J 11 h fun x1 d h=>eMo (nl:=true) oS mt_103 (Option.some.inj d) ?_
 refine wB J 10 h (fun h=>?_) fun h=>?_
 ·cases h
  exact wr J 6 func96 []
 cases h
 exact wr J 7 func96 []
theorem z39_b_ct (N:Nat) (rc:T3→(List T15)→Option (List T15)) (rc_expand_renaming_items_ct:(∀ (r_:T3) (l_:(List T15)) (r:(List T15)),rc r_ l_=some r→Fn Tryz.prog 39 ⟨2,[.a [.sl 0,.s r_.head'],.S 1],[(1,.sl rR15 l_)],[(0,.av (mapV rS false true r_.roles'))],3,.S 2,[],[(2,.own rR15 r true),(0,.av (mapV rS false true r_.roles'))]⟩)) (r_:T3) (l_:(List T15)) (r:(List T15)) (h:z39_b N rc r_ l_=some r) :
 Fn Tryz.prog 39 ⟨2,[.a [.sl 0,.s r_.head'],.S 1],[(1,.sl rR15 l_)],[(0,.av (mapV rS false true r_.roles'))],3,.S 2,[],[(2,.own rR15 r true),(0,.av (mapV rS false true r_.roles'))]⟩:=by
 refine eFn func39 rfl (fun E F w=>?_)
 unfold z39_b at h
 refine wa J 16 (eCut (σ:=(List T15)) (fun st=>⟨[(5,.S 3)],[(0,.av (mapV rS false true r_.roles')),(3,.own rR15 st true)],[(1,.sl rR15 l_)],4⟩) (fun st=>z39_k1 st=some r) ?_ (fun j1=>?_))
 ·intro c h
  replace h:z39_k1 c=some r:=h
  unfold z39_k1 at h
  cases h
  exact wr J 5 func39 [(2,.sl 3)]
 refine wa J 1 (eLoop (σ:=(List T15) × Int) (fun st=>⟨[(2,.B 2 0),(5,.S 3),(13,.S 1),(14,.I (l_.length:Int)),(15,.I st.2)],[(0,.av (mapV rS false true r_.roles')),(2,.box [.sl 0,.s r_.head'] 105),(3,.own rR15 st.1 true)],[(1,.sl rR15 l_)],4⟩) (fun n st=>z39_l2 N rc r_ l_ n st.1 st.2) (r:=r) (fun _=>rfl) ?_ (fun ih=>?_))
 ·intro n22 ih30
  rintro ⟨d,e⟩ h
  replace h:z39_l2 N rc r_ l_ (n22+1) d e=some r:=h
  unfold z39_l2 at h
  refine wB' J 5 h (fun h=>wa J 2 (eSub [] (j1 d h))) fun h=>?_
  refine wO J 6 h fun f g h=>eIx J oO15 g (wa J 17 (eCut (σ:=ByteArray) (fun st=>⟨[(2,.B 2 0),(5,.S 3),(7,.B 7 0),(8,.B 8 0),(13,.S 1),(14,.I (l_.length:Int)),(15,.I e)],[(0,.av (mapV rS false true r_.roles')),(2,.box [.sl 0,.s r_.head'] 105),(3,.own rR15 d true),(7,.box [.I f.Kind,.s f.From,.sl 5,.s f.Name,.s f.As,.I f.Ticks,.sl 6] 27),(8,.box [.I f.Kind,.s st,.sl 5,.s f.Name,.s f.As,.I f.Ticks,.sl 6] 27)],[(1,.sl rR15 l_),(5,.sl rS f.To),(6,.sl (rSl rR15) f.Blocks)],9⟩) (fun st=>z39_k9 N rc r_ d e (z39_l2 N rc r_ l_ n22) f st=some r) ?_ (fun j49=>?_)))
  ·intro i h
   replace h:z39_k9 N rc r_ d e (z39_l2 N rc r_ l_ n22) f i=some r:=h
   unfold z39_k9 at h
   refine wa J 15 (eCut (σ:=(List ByteArray)) (fun st=>(zz10 (mapV rS false true r_.roles') r_.head' d f.Kind f.From f.Name f.As f.Ticks i st l_ f.To f.Blocks [(2,.B 2 0),(5,.S 3),(7,.B 7 0),(8,.B 8 0),(13,.S 1),(14,.I (l_.length:Int)),(15,.I e)])) (fun st=>z39_k7 N rc r_ d e (z39_l2 N rc r_ l_ n22) f i st=some r) ?_ (fun j50=>?_))
   ·intro j h
    replace h:z39_k7 N rc r_ d e (z39_l2 N rc r_ l_ n22) f i j=some r:=h
    unfold z39_k7 at h
    refine wa J 7 (eCut (σ:=Bool) (fun st=>(zz10 (mapV rS false true r_.roles') r_.head' d f.Kind f.From f.Name f.As f.Ticks i j l_ f.To f.Blocks [(2,.B 2 0),(5,.S 3),(7,.B 7 0),(8,.B 8 0),(13,.S 1),(14,.I (l_.length:Int)),(15,.I e),(58,.O st)])) (fun st=>z39_k6 N rc r_ d e (z39_l2 N rc r_ l_ n22) f i j st=some r) ?_ (fun j52=>?_))
    ·intro k h
     replace h:z39_k6 N rc r_ d e (z39_l2 N rc r_ l_ n22) f i j k=some r:=h
     unfold z39_k6 at h
     refine eCut (σ:=ByteArray) (fun st=>⟨[(2,.B 2 0),(5,.S 3),(7,.B 7 0),(8,.B 8 0),(13,.S 1),(14,.I (l_.length:Int)),(15,.I e)],[(0,.av (mapV rS false true r_.roles')),(2,.box [.sl 0,.s r_.head'] 105),(3,.own rR15 d true),(7,.box [.I f.Kind,.s f.From,.sl 5,.s f.Name,.s f.As,.I f.Ticks,.sl 6] 27),(8,.box [.I f.Kind,.s i,.sl 9,.s st,.s f.As,.I f.Ticks,.nil] 27),(9,.own rS j true)],[(1,.sl rR15 l_),(5,.sl rS f.To),(6,.sl (rSl rR15) f.Blocks)],10⟩) (fun st=>z39_k5 N rc r_ d e (z39_l2 N rc r_ l_ n22) f i j st=some r) ?_ (fun j53=>?_)
     ·intro l h
      replace h:z39_k5 N rc r_ d e (z39_l2 N rc r_ l_ n22) f i j l=some r:=h
      unfold z39_k5 at h
      refine wa J 8 (eCut (σ:=(List (List T15))) (fun st=>⟨[(2,.B 2 0),(5,.S 3),(8,.B 8 0),(13,.S 1),(14,.I (l_.length:Int)),(15,.I e)],[(0,.av (mapV rS false true r_.roles')),(2,.box [.sl 0,.s r_.head'] 105),(3,.own rR15 d true),(8,.box [.I f.Kind,.s i,.sl 9,.s l,.s f.As,.I f.Ticks,.sl 10] 27),(9,.own rS j true),(10,.own (rSl rR15) st true)],[(1,.sl rR15 l_)],11⟩) (fun st=>z39_k3 d e (z39_l2 N rc r_ l_ n22) f i j l st=some r) ?_ (fun j54=>?_))
      ·intro m h
       replace h:z39_k3 d e (z39_l2 N rc r_ l_ n22) f i j l m=some r:=h
       unfold z39_k3 at h
       refine wa J 3 (eBs J [9,10] oO15 ([(⟨f.Kind,i,j,l,f.As,f.Ticks,m⟩:T15)]:List T15) ?_)
       obtain ⟨o,p,h⟩:=ob h
       exact eAp J rR15 p (wa J 7 (eSub [(3,.sl 12)] (ih30 (o,(w64 (e+1))) h)))
      refine wa J 1 (eLoop (σ:=(List (List T15)) × Int) (fun st=>⟨[(2,.B 2 0),(5,.S 3),(8,.B 8 0),(13,.S 1),(14,.I (l_.length:Int)),(15,.I e),(66,.S 6),(67,.I (f.Blocks.length:Int)),(68,.I st.2)],[(0,.av (mapV rS false true r_.roles')),(2,.box [.sl 0,.s r_.head'] 105),(3,.own rR15 d true),(8,.box [.I f.Kind,.s i,.sl 9,.s l,.s f.As,.I f.Ticks,.sl 10] 27),(9,.own rS j true),(10,.own (rSl rR15) st.1 true)],[(1,.sl rR15 l_),(6,.sl (rSl rR15) f.Blocks)],11⟩) (fun n st=>z39_l4 rc r_ d e (z39_l2 N rc r_ l_ n22) f i j l n st.1 st.2) (r:=r) (fun _=>rfl) ?_ (fun ih=>?_))
      ·intro n25 ih56
       rintro ⟨q,t⟩ h
       replace h:z39_l4 rc r_ d e (z39_l2 N rc r_ l_ n22) f i j l (n25+1) q t=some r:=h
       unfold z39_l4 at h
       refine wB' J 5 h (fun h=>wa J 2 (eSub [] (j54 q h))) fun h=>?_
       refine wO J 6 h fun u v h=>eIx J (oSl rR15) v ?_
       refine wO J 8 h fun x y h=>eCl (rc_expand_renaming_items_ct r_ u _ y) [] [(0,.sl 0),(1,.sl 12)] (eBs J [13] (oSl rR15) ([x]:List (List T15)) ?_)
       obtain ⟨z,A,h⟩:=ob h
       exact eAp J (rSl rR15) A (wa J 2 (eEnd (wa J 5 (eSub [(10,.sl 15)] (ih56 (z,(w64 (t+1))) h)))))
      exact eSub [(10,.nil)] (ih N (([]:List (List T15)),0) h)
     refine eB' h (fun h=>wa J 2 (eSub [] (j53 f.Name h))) fun h=>?_
     exact wO J 6 h fun C D h=>eCa D (wa J 3 (eSub [] (j53 C h)))
    refine eB h (fun h=>wa J 10 (eSub [] (j52 true h))) fun h=>?_
    exact wB J 5 h (fun h=>wa J 5 (eSub [] (j52 true h))) fun h=>wa J 5 (eSub [] (j52 (f.Kind==4) h))
   refine wa J 1 (eLoop (σ:=(List ByteArray) × Int) (fun st=>(zz10 (mapV rS false true r_.roles') r_.head' d f.Kind f.From f.Name f.As f.Ticks i st.1 l_ f.To f.Blocks [(2,.B 2 0),(5,.S 3),(7,.B 7 0),(8,.B 8 0),(13,.S 1),(14,.I (l_.length:Int)),(15,.I e),(31,.S 5),(32,.I (f.To.length:Int)),(33,.I st.2)])) (fun n st=>z39_l8 N rc r_ d e (z39_l2 N rc r_ l_ n22) f i n st.1 st.2) (r:=r) (fun _=>rfl) ?_ (fun ih=>?_))
   ·intro n26 ih57
    rintro ⟨G,H⟩ h
    replace h:z39_l8 N rc r_ d e (z39_l2 N rc r_ l_ n22) f i (n26+1) G H=some r:=h
    unfold z39_l8 at h
    refine wB' J 5 h (fun h=>wa J 2 (eSub [] (j50 G h))) fun h=>?_
    refine wO J 6 h fun R T h=>eIx J oS T ?_
    refine wO J 8 h fun U X h=>eCl (z96_ct N r_ R _ X) [] [(0,.sl 0)] (eBs J [] oS ([U]:List ByteArray) ?_)
    obtain ⟨Y,Z,h⟩:=ob h
    exact eAp J rS Z (wa J 2 (eEnd (wa J 5 (eSub [(9,.sl 12)] (ih57 (Y,(w64 (H+1))) h)))))
   exact eSub [(9,.nil)] (ih N (([]:List ByteArray),0) h)
  refine eB' h (fun h=>wa J 2 (eSub [] (j49 f.From h))) fun h=>?_
  exact wO J 5 h fun a0 b0 h=>eCl (z96_ct N r_ f.From _ b0) [] [(0,.sl 0)] (wa J 3 (eSub [] (j49 a0 h)))
 exact eSub [(3,.nil)] (ih N (([]:List T15),0) h)
theorem z39_rct:∀ (N:Nat) (r_:T3) (l_:(List T15)) (r:(List T15)) (h:z39_r N r_ l_=some r),Fn Tryz.prog 39 ⟨2,[.a [.sl 0,.s r_.head'],.S 1],[(1,.sl rR15 l_)],[(0,.av (mapV rS false true r_.roles'))],3,.S 2,[],[(2,.own rR15 r true),(0,.av (mapV rS false true r_.roles'))]⟩:=by
 intro N
 induction N with
 | zero=>intros;rename_i h;cases h
 | succ N ih=>intro r_ l_ r h;exact z39_b_ct N (z39_r N) ih r_ l_ r h
theorem z39_ct (N:Nat) (r_:T3) (l_:(List T15)) (r:(List T15)) (h:z39 N r_ l_=some r):Fn Tryz.prog 39 ⟨2,[.a [.sl 0,.s r_.head'],.S 1],[(1,.sl rR15 l_)],[(0,.av (mapV rS false true r_.roles'))],3,.S 2,[],[(2,.own rR15 r true),(0,.av (mapV rS false true r_.roles'))]⟩:=z39_rct N r_ l_ r h
theorem z40_b_ct (N:Nat) (rc:(List T15)→Option Int) (rc_expand_counted_ct:(∀ (l_:(List T15)) (r:Int),rc l_=some r→Fn Tryz.prog 40 ⟨1,[.S 0],[(0,.sl rR15 l_)],[],1,.I r,[],[]⟩)) (l_:(List T15)) (r:Int) (h:z40_b N rc l_=some r) :
 Fn Tryz.prog 40 ⟨1,[.S 0],[(0,.sl rR15 l_)],[],1,.I r,[],[]⟩:=by
 refine eFn func40 rfl (fun E F w=>?_)
 unfold z40_b at h
 refine wa J 17 (eCut (σ:=Int) (fun st=>⟨[(3,.I st)],[],[(0,.sl rR15 l_)],1⟩) (fun st=>z40_k1 st=some r) ?_ (fun j1=>?_))
 ·intro c h
  replace h:z40_k1 c=some r:=h
  unfold z40_k1 at h
  cases h
  exact wr J 5 func40 []
 refine wa J 1 (eLoop (σ:=Int × Int) (fun st=>⟨[(3,.I st.1),(10,.S 0),(11,.I (l_.length:Int)),(12,.I st.2)],[],[(0,.sl rR15 l_)],1⟩) (fun n st=>z40_l2 N rc l_ n st.1 st.2) (r:=r) (fun _=>rfl) ?_ (fun ih=>?_))
 ·intro n12 ih12
  rintro ⟨d,e⟩ h
  replace h:z40_l2 N rc l_ (n12+1) d e=some r:=h
  unfold z40_l2 at h
  refine wB' J 5 h (fun h=>wa J 2 (eSub [] (j1 d h))) fun h=>?_
  refine wO J 6 h fun f g h=>eIx J oO15 g (wa J 11 (eCut (σ:=Int) (fun st=>⟨[(3,.I st),(10,.S 0),(11,.I (l_.length:Int)),(12,.I e)],[],[(0,.sl rR15 l_)],5⟩) (fun st=>z40_k3 e (z40_l2 N rc l_ n12) st=some r) ?_ (fun j19=>?_)))
  ·intro i h
   replace h:z40_k3 e (z40_l2 N rc l_ n12) i=some r:=h
   unfold z40_k3 at h
   exact wa J 5 (eSub [] (ih12 (i,(w64 (e+1))) h))
  refine wa J 1 (eLoop (σ:=Int × Int) (fun st=>⟨[(3,.I st.1),(10,.S 0),(11,.I (l_.length:Int)),(12,.I e),(17,.S 3),(18,.I (f.Blocks.length:Int)),(19,.I st.2)],[],[(0,.sl rR15 l_),(3,.sl (rSl rR15) f.Blocks)],5⟩) (fun n st=>z40_l4 rc e (z40_l2 N rc l_ n12) f n st.1 st.2) (r:=r) (fun _=>rfl) ?_ (fun ih=>?_))
  ·intro n14 ih21
   rintro ⟨j,k⟩ h
   replace h:z40_l4 rc e (z40_l2 N rc l_ n12) f (n14+1) j k=some r:=h
   unfold z40_l4 at h
   refine wB' J 5 h (fun h=>wa J 2 (eSub [] (j19 j h))) fun h=>?_
   refine wO J 6 h fun l m h=>eIx J (oSl rR15) m ?_
   exact wO J 6 h fun o p h=>eCl (rc_expand_counted_ct l _ p) [] [(0,.sl 6)] (wa J 8 (eSub [] (ih21 ((w64 (j+o)),(w64 (k+1))) h)))
  exact eSub [] (ih N (d,0) h)
 exact eSub [] (ih N ((l_.length:Int),0) h)
theorem z40_rct:∀ (N:Nat) (l_:(List T15)) (r:Int) (h:z40_r N l_=some r),Fn Tryz.prog 40 ⟨1,[.S 0],[(0,.sl rR15 l_)],[],1,.I r,[],[]⟩:=by
 intro N
 induction N with
 | zero=>intros;rename_i h;cases h
 | succ N ih=>intro l_ r h;exact z40_b_ct N (z40_r N) ih l_ r h
theorem z40_ct (N:Nat) (l_:(List T15)) (r:Int) (h:z40 N l_=some r):Fn Tryz.prog 40 ⟨1,[.S 0],[(0,.sl rR15 l_)],[],1,.I r,[],[]⟩:=z40_rct N l_ r h
theorem z38_50_b_ct (N:Nat) (rc:T2→ByteArray→Option (T17 × Bool × T2)) (rc_Pexpand_expander_expand_ct:(∀ (x_:T2) (name_:ByteArray) (r:T17 × Bool × T2),rc x_ name_=some r→Fn Tryz.prog 17 ⟨3,[.B 0 0,.c (.s name_)],[],[(0,.box [.sl 1,.sl 2] 62),(1,.av (mapV rR17 true false x_.all')),(2,.av (mapV rR17 true false x_.done'))],6,.t [.inr [.s r.1.Name,.sl 3,.sl 4,.sl 5],.inl (.b r.2.1)],(vV17 3 4 5 r.1 []),[(1,.av (mapV rR17 true false r.2.2.all')),(2,.av (mapV rR17 true false r.2.2.done')),(0,.box [.sl 1,.sl 2] 62)]⟩)) (rd:(List T15)→T2→Bool→T17→Option ((List T15) × T2 × Bool × T17)) (rc_Pexpand_expander_expand_1_al_ct:(∀ (l_:(List T15)) (c0_:T2) (c2_:Bool) (c3_:T17) (r:(List T15) × T2 × Bool × T17),rd l_ c0_ c2_ c3_=some r→Fn Tryz.prog 38 ⟨11,[.S 0,.B 4 0,.B 5 0,.B 6 0,.B 10 0],[(0,.sl rR15 l_),(7,.sl rS c3_.Roles),(9,.sl rR15 c3_.Body)],[(1,.box [.sl 2,.sl 3] 62),(2,.av (mapV rR17 true false c0_.all')),(3,.av (mapV rR17 true false c0_.done')),(4,.box [.bp 1 0] 59),(5,.box [.b c2_] 4),(6,.box [.s c3_.Name,.sl 7,.sl 8,.sl 9] 35),(8,.own rR16 c3_.Messages false),(10,.box [.cl 38 [] [4,5,6,10]] 108)],15,.S 11,[(12,.sl rS r.2.2.2.Roles),(14,.sl rR15 r.2.2.2.Body)],[(11,.own rR15 r.1 true),(2,.av (mapV rR17 true false r.2.1.all')),(3,.av (mapV rR17 true false r.2.1.done')),(1,.box [.sl 2,.sl 3] 62),(4,.box [.bp 1 0] 59),(5,.box [.b r.2.2.1] 4),(8,.gone),(13,.own rR16 r.2.2.2.Messages false),(6,.box [.s r.2.2.2.Name,.sl 12,.sl 13,.sl 14] 35),(10,.box [.cl 38 [] [4,5,6,10]] 108)]⟩)) (l_:(List T15)) (c0_:T2) (c2_:Bool) (c3_:T17) (r:(List T15) × T2 × Bool × T17) (h:z38_50_b N rc rd l_ c0_ c2_ c3_=some r) :
 Fn Tryz.prog 38 ⟨11,[.S 0,.B 4 0,.B 5 0,.B 6 0,.B 10 0],[(0,.sl rR15 l_),(7,.sl rS c3_.Roles),(9,.sl rR15 c3_.Body)],[(1,.box [.sl 2,.sl 3] 62),(2,.av (mapV rR17 true false c0_.all')),(3,.av (mapV rR17 true false c0_.done')),(4,.box [.bp 1 0] 59),(5,.box [.b c2_] 4),(6,.box [.s c3_.Name,.sl 7,.sl 8,.sl 9] 35),(8,.own rR16 c3_.Messages false),(10,.box [.cl 38 [] [4,5,6,10]] 108)],15,.S 11,[(12,.sl rS r.2.2.2.Roles),(14,.sl rR15 r.2.2.2.Body)],[(11,.own rR15 r.1 true),(2,.av (mapV rR17 true false r.2.1.all')),(3,.av (mapV rR17 true false r.2.1.done')),(1,.box [.sl 2,.sl 3] 62),(4,.box [.bp 1 0] 59),(5,.box [.b r.2.2.1] 4),(8,.gone),(13,.own rR16 r.2.2.2.Messages false),(6,.box [.s r.2.2.2.Name,.sl 12,.sl 13,.sl 14] 35),(10,.box [.cl 38 [] [4,5,6,10]] 108)]⟩:=by
 refine eFn func38 rfl (fun E F w=>?_)
 unfold z38_50_b at h
 refine wa J 15 (eCut (σ:=(List (ByteArray × T17)) × (List (ByteArray × T17)) × Bool × ByteArray × (List ByteArray) × (List T16) × (List T15) × (List T15)) (fun st=>(zz35 (mapV rR17 true false st.1) (mapV rR17 true false st.2.1) st.2.2.1 st.2.2.2.1 st.2.2.2.2.2.1 st.2.2.2.2.2.2.2 l_ c3_.Roles c3_.Body st.2.2.2.2.1 st.2.2.2.2.2.2.1 [(7,.S 14)])) (fun st=>z38_50_k1 st.1 st.2.1 st.2.2.1 st.2.2.2.1 st.2.2.2.2.1 st.2.2.2.2.2.1 st.2.2.2.2.2.2.1 st.2.2.2.2.2.2.2=some r) ?_ (fun j1=>?_))
 ·rintro ⟨d,e,vbk5_5_0_1,vbk6_6_0_1,vbk6_6_1_1,vbk6_6_2_1,vbk6_6_3_1,f⟩ h
  replace h:z38_50_k1 d e vbk5_5_0_1 vbk6_6_0_1 vbk6_6_1_1 vbk6_6_2_1 vbk6_6_3_1 f=some r:=h
  unfold z38_50_k1 at h
  cases h
  exact wr J 5 func38 [(11,.sl 14),(12,.sl 11),(13,.sl 12),(14,.sl 13)]
 refine wa J 1 (eLoop (σ:=(List (ByteArray × T17)) × (List (ByteArray × T17)) × Bool × ByteArray × (List ByteArray) × (List T16) × (List T15) × (List T15) × Int) (fun st=>(zz35 (mapV rR17 true false st.1) (mapV rR17 true false st.2.1) st.2.2.1 st.2.2.2.1 st.2.2.2.2.2.1 st.2.2.2.2.2.2.2.1 l_ c3_.Roles c3_.Body st.2.2.2.2.1 st.2.2.2.2.2.2.1 [(1,.B 4 0),(2,.B 5 0),(3,.B 6 0),(4,.B 10 0),(7,.S 14),(20,.S 0),(21,.I (l_.length:Int)),(22,.I st.2.2.2.2.2.2.2.2)])) (fun n st=>z38_50_l2 N rc rd l_ n st.1 st.2.1 st.2.2.1 st.2.2.2.1 st.2.2.2.2.1 st.2.2.2.2.2.1 st.2.2.2.2.2.2.1 st.2.2.2.2.2.2.2.1 st.2.2.2.2.2.2.2.2) (r:=r) (fun _=>rfl) ?_ (fun ih=>?_))
 ·intro n62 ih66
  rintro ⟨g,i,vbk5_5_0_66,vbk6_6_0_66,vbk6_6_1_66,vbk6_6_2_66,vbk6_6_3_66,j,k⟩ h
  replace h:z38_50_l2 N rc rd l_ (n62+1) g i vbk5_5_0_66 vbk6_6_0_66 vbk6_6_1_66 vbk6_6_2_66 vbk6_6_3_66 j k=some r:=h
  unfold z38_50_l2 at h
  refine wB' J 5 h (fun h=>wa J 2 (eSub [] (j1 (g,i,vbk5_5_0_66,vbk6_6_0_66,vbk6_6_1_66,vbk6_6_2_66,vbk6_6_3_66,j) h))) fun h=>?_
  refine wO J 6 h fun l m h=>eIx J oO15 m (wa J 16 (eCut (σ:=(List (ByteArray × T17)) × (List (ByteArray × T17)) × Bool × ByteArray × (List ByteArray) × (List T16) × (List T15) × (List T15)) (fun st=>(zz36 (mapV rR17 true false st.1) (mapV rR17 true false st.2.1) st.2.2.1 st.2.2.2.1 st.2.2.2.2.2.1 st.2.2.2.2.2.2.2 l_ c3_.Roles c3_.Body st.2.2.2.2.1 st.2.2.2.2.2.2.1 [(1,.B 4 0),(2,.B 5 0),(3,.B 6 0),(4,.B 10 0),(7,.S 22),(20,.S 0),(21,.I (l_.length:Int)),(22,.I k)])) (fun st=>z38_50_k3 N k (z38_50_l2 N rc rd l_ n62) st.1 st.2.1 st.2.2.1 st.2.2.2.1 st.2.2.2.2.1 st.2.2.2.2.2.1 st.2.2.2.2.2.2.1 st.2.2.2.2.2.2.2=some r) ?_ (fun j109=>?_)))
  ·rintro ⟨o,p,vbk5_5_0_109,vbk6_6_0_109,vbk6_6_1_109,vbk6_6_2_109,vbk6_6_3_109,u⟩ h
   replace h:z38_50_k3 N k (z38_50_l2 N rc rd l_ n62) o p vbk5_5_0_109 vbk6_6_0_109 vbk6_6_1_109 vbk6_6_2_109 vbk6_6_3_109 u=some r:=h
   unfold z38_50_k3 at h
   refine wO J 5 h fun v x h=>eCb (z40_ct N u _ x) [] [(0,.sl 22)] [22] (.inr ⟨rfl,trivial⟩) ?_
   refine wB J 2 h (fun h=>?_) fun h=>?_
   ·cases h
    exact wr J 20 func38 [(11,.nil),(12,.sl 19),(13,.sl 20),(14,.sl 21)]
   refine wB J 6 h (fun h=>?_) fun h=>?_
   ·cases h
    exact wr J 14 func38 [(11,.nil),(12,.sl 19),(13,.sl 20),(14,.sl 21)]
   refine wB J 7 h (fun h=>?_) fun h=>wa J 7 (eSub [(11,.sl 19),(12,.sl 20),(13,.sl 21),(14,.sl 22)] (ih66 (o,p,vbk5_5_0_109,vbk6_6_0_109,vbk6_6_1_109,vbk6_6_2_109,vbk6_6_3_109,u,(w64 (k+1))) h))
   cases h
   exact wr J 5 func38 [(11,.nil),(12,.sl 19),(13,.sl 20),(14,.sl 21)]
  refine eB h (fun h=>?_) fun h=>?_
  ·refine wO J 6 h fun y z h=>eCl (rc_Pexpand_expander_expand_ct (⟨g,i⟩:T2) l.Name _ z) [] [(0,.bp 1 0),(1,.sl 2),(2,.sl 3)] ?_
   refine wa J 12 (eCut (σ:=Bool) (fun st=>⟨[(1,.B 4 0),(2,.B 5 0),(3,.B 6 0),(4,.B 10 0),(7,.S 14),(9,.B 18 0),(10,.B 22 0),(20,.S 0),(21,.I (l_.length:Int)),(22,.I k)],[(1,.box [.sl 2,.sl 3] 62),(2,.av (mapV rR17 true false y.2.2.all')),(3,.av (mapV rR17 true false y.2.2.done')),(4,.box [.bp 1 0] 59),(5,.box [.b st] 4),(6,.box [.s vbk6_6_0_66,.sl 11,.sl 12,.sl 13] 35),(10,.box [.cl 38 [] [4,5,6,10]] 108),(12,.own rR16 vbk6_6_2_66 false),(14,.own rR15 j true),(18,.box [.I l.Kind,.s l.From,.sl 16,.s l.Name,.s l.As,.I l.Ticks,.sl 17] 27),(22,.box [.s y.1.Name,.sl 19,.sl 20,.sl 21] 35)],((0,.sl rR15 l_)::(7,.sl rS c3_.Roles)::(9,.sl rR15 c3_.Body)::(11,.sl rS vbk6_6_1_66)::(13,.sl rR15 vbk6_6_3_66)::(16,.sl rS l.To)::(17,.sl (rSl rR15) l.Blocks)::vV17 19 20 21 y.1 []),23⟩) (fun st=>z38_50_k6 N vbk6_6_0_66 vbk6_6_1_66 vbk6_6_2_66 vbk6_6_3_66 j k (z38_50_l2 N rc rd l_ n62) l y st=some r) ?_ (fun j120=>?_))
   ·intro vbk5_5_0_120 h
    replace h:z38_50_k6 N vbk6_6_0_66 vbk6_6_1_66 vbk6_6_2_66 vbk6_6_3_66 j k (z38_50_l2 N rc rd l_ n62) l y vbk5_5_0_120=some r:=h
    unfold z38_50_k6 at h
    refine wB J 5 h (fun h=>?_) fun h=>wa J 4 (eMm rS false ?_)
    ·cases h
     exact wr J 5 func38 [(11,.nil),(12,.sl 11),(13,.sl 12),(14,.sl 13)]
    refine wO J 2 h fun A C h=>eCa C (wa J 12 (eCut (σ:=(List (ByteArray × ByteArray))) (fun st=>⟨[(1,.B 4 0),(2,.B 5 0),(3,.B 6 0),(4,.B 10 0),(7,.S 14),(10,.B 22 0),(12,.B 24 0),(20,.S 0),(21,.I (l_.length:Int)),(22,.I k)],[(1,.box [.sl 2,.sl 3] 62),(2,.av (mapV rR17 true false y.2.2.all')),(3,.av (mapV rR17 true false y.2.2.done')),(4,.box [.bp 1 0] 59),(5,.box [.b vbk5_5_0_120] 4),(6,.box [.s vbk6_6_0_66,.sl 11,.sl 12,.sl 13] 35),(10,.box [.cl 38 [] [4,5,6,10]] 108),(12,.own rR16 vbk6_6_2_66 false),(14,.own rR15 j true),(22,.box [.s y.1.Name,.sl 19,.sl 20,.sl 21] 35),(23,.av (mapV rS false false st)),(24,.box [.sl 23,.s A] 105)],((0,.sl rR15 l_)::(7,.sl rS c3_.Roles)::(9,.sl rR15 c3_.Body)::(11,.sl rS vbk6_6_1_66)::(13,.sl rR15 vbk6_6_3_66)::vV17 19 20 21 y.1 []),25⟩) (fun st=>z38_50_k4 N vbk6_6_0_66 vbk6_6_1_66 vbk6_6_2_66 vbk6_6_3_66 j k (z38_50_l2 N rc rd l_ n62) y vbk5_5_0_120 A st=some r) ?_ (fun j121=>?_)))
    ·intro D h
     replace h:z38_50_k4 N vbk6_6_0_66 vbk6_6_1_66 vbk6_6_2_66 vbk6_6_3_66 j k (z38_50_l2 N rc rd l_ n62) y vbk5_5_0_120 A D=some r:=h
     unfold z38_50_k4 at h
     refine wa J 1 (eMw (R:=rS) (ag:=false) (kvs:=D) 23 ?_)
     refine wO J 6 h fun G H h=>eCl (z37_ct N (⟨D,A⟩:T3) y.1.Messages _ H) [] [(0,.sl 23),(1,.sl 20)] ?_
     obtain ⟨T,U,h⟩:=ob h
     refine eAp J rR16 U (wa J 2 (eEnd ?_))
     refine wO J 5 h fun X Y h=>eCl (z39_ct N (⟨D,A⟩:T3) y.1.Body _ Y) [] [(0,.sl 23),(1,.sl 21)] ?_
     obtain ⟨Z,a0,h⟩:=ob h
     exact eAp J rR15 a0 (wa J 2 (eSub [(19,.sl 11),(20,.sl 26),(21,.sl 13),(22,.sl 28)] (j109 (y.2.2.all',y.2.2.done',vbk5_5_0_120,vbk6_6_0_66,vbk6_6_1_66,T,vbk6_6_3_66,Z) h)))
    refine wa J 1 (eLoop (σ:=(List (ByteArray × ByteArray)) × Int) (fun st=>⟨[(1,.B 4 0),(2,.B 5 0),(3,.B 6 0),(4,.B 10 0),(7,.S 14),(9,.B 18 0),(10,.B 22 0),(12,.B 24 0),(20,.S 0),(21,.I (l_.length:Int)),(22,.I k),(75,.S 19),(76,.I (y.1.Roles.length:Int)),(77,.I st.2)],[(1,.box [.sl 2,.sl 3] 62),(2,.av (mapV rR17 true false y.2.2.all')),(3,.av (mapV rR17 true false y.2.2.done')),(4,.box [.bp 1 0] 59),(5,.box [.b vbk5_5_0_120] 4),(6,.box [.s vbk6_6_0_66,.sl 11,.sl 12,.sl 13] 35),(10,.box [.cl 38 [] [4,5,6,10]] 108),(12,.own rR16 vbk6_6_2_66 false),(14,.own rR15 j true),(18,.box [.I l.Kind,.s l.From,.sl 16,.s l.Name,.s l.As,.I l.Ticks,.sl 17] 27),(22,.box [.s y.1.Name,.sl 19,.sl 20,.sl 21] 35),(23,.av (mapV rS false false st.1)),(24,.box [.sl 23,.s A] 105)],((0,.sl rR15 l_)::(7,.sl rS c3_.Roles)::(9,.sl rR15 c3_.Body)::(11,.sl rS vbk6_6_1_66)::(13,.sl rR15 vbk6_6_3_66)::(16,.sl rS l.To)::(17,.sl (rSl rR15) l.Blocks)::vV17 19 20 21 y.1 []),25⟩) (fun n st=>z38_50_l5 N vbk6_6_0_66 vbk6_6_1_66 vbk6_6_2_66 vbk6_6_3_66 j k (z38_50_l2 N rc rd l_ n62) l y vbk5_5_0_120 A n st.1 st.2) (r:=r) (fun _=>rfl) ?_ (fun ih=>?_))
    ·intro n70 ih123
     rintro ⟨b0,c0⟩ h
     replace h:z38_50_l5 N vbk6_6_0_66 vbk6_6_1_66 vbk6_6_2_66 vbk6_6_3_66 j k (z38_50_l2 N rc rd l_ n62) l y vbk5_5_0_120 A (n70+1) b0 c0=some r:=h
     unfold z38_50_l5 at h
     refine wB' J 5 h (fun h=>wa J 2 (eSub [] (j121 b0 h))) fun h=>?_
     refine wO J 7 h fun d0 e0 h=>eIx J oS e0 ?_
     exact wO J 11 h fun f0 g0 h=>eIx J oS g0 (wa J 1 (eMu (q:=d0) (kvs:=b0) [] oS f0 mt_103 (eEnd (wa J 5 (eSub [] (ih123 ((mput b0 d0 f0),(w64 (c0+1))) h))))))
    exact eSub [] (ih N (([]:(List (ByteArray × ByteArray))),0) h)
   exact eB h (fun h=>wa J 4 (eSub [] (j120 y.2.1 h))) fun h=>wa J 4 (eSub [] (j120 false h))
  obtain ⟨K,h⟩|⟨K,h⟩:=oc h
  ·refine wH J 6 K (wa J 8 (eCut (σ:=(List (ByteArray × T17)) × (List (ByteArray × T17)) × Bool × ByteArray × (List ByteArray) × (List T16) × (List T15) × (List T15)) (fun st=>(zz36 (mapV rR17 true false st.1) (mapV rR17 true false st.2.1) st.2.2.1 st.2.2.2.1 st.2.2.2.2.2.1 st.2.2.2.2.2.2.2 l_ c3_.Roles c3_.Body st.2.2.2.2.1 st.2.2.2.2.2.2.1 [(1,.B 4 0),(2,.B 5 0),(3,.B 6 0),(4,.B 10 0),(7,.S 22),(20,.S 0),(21,.I (l_.length:Int)),(22,.I k)])) (fun st=>z38_50_k7 N k (z38_50_l2 N rc rd l_ n62) st.1 st.2.1 st.2.2.1 st.2.2.2.1 st.2.2.2.2.1 st.2.2.2.2.2.1 st.2.2.2.2.2.2.1 st.2.2.2.2.2.2.2=some r) ?_ (fun j124=>?_)))
   ·rintro ⟨i0,j0,vbk5_5_0_124,vbk6_6_0_124,vbk6_6_1_124,vbk6_6_2_124,vbk6_6_3_124,k0⟩ h
    replace h:z38_50_k7 N k (z38_50_l2 N rc rd l_ n62) i0 j0 vbk5_5_0_124 vbk6_6_0_124 vbk6_6_1_124 vbk6_6_2_124 vbk6_6_3_124 k0=some r:=h
    unfold z38_50_k7 at h
    exact eSub [] (j109 (i0,j0,vbk5_5_0_124,vbk6_6_0_124,vbk6_6_1_124,vbk6_6_2_124,vbk6_6_3_124,k0) h)
   refine wa J 1 (eLoop (σ:=(List (ByteArray × T17)) × (List (ByteArray × T17)) × Bool × ByteArray × (List ByteArray) × (List T16) × (List T15) × (List T15) × Int) (fun st=>⟨[(1,.B 4 0),(2,.B 5 0),(3,.B 6 0),(4,.B 10 0),(7,.S 22),(20,.S 0),(21,.I (l_.length:Int)),(22,.I k),(108,.S 17),(109,.I (l.Blocks.length:Int)),(110,.I st.2.2.2.2.2.2.2.2)],[(1,.box [.sl 2,.sl 3] 62),(2,.av (mapV rR17 true false st.1)),(3,.av (mapV rR17 true false st.2.1)),(4,.box [.bp 1 0] 59),(5,.box [.b st.2.2.1] 4),(6,.box [.s st.2.2.2.1,.sl 19,.sl 20,.sl 21] 35),(10,.box [.cl 38 [] [4,5,6,10]] 108),(20,.own rR16 st.2.2.2.2.2.1 false),(22,.own rR15 st.2.2.2.2.2.2.2.1 true)],[(0,.sl rR15 l_),(7,.sl rS c3_.Roles),(9,.sl rR15 c3_.Body),(17,.sl (rSl rR15) l.Blocks),(19,.sl rS st.2.2.2.2.1),(21,.sl rR15 st.2.2.2.2.2.2.1)],23⟩) (fun n st=>z38_50_l8 N rd k (z38_50_l2 N rc rd l_ n62) l n st.1 st.2.1 st.2.2.1 st.2.2.2.1 st.2.2.2.2.1 st.2.2.2.2.2.1 st.2.2.2.2.2.2.1 st.2.2.2.2.2.2.2.1 st.2.2.2.2.2.2.2.2) (r:=r) (fun _=>rfl) ?_ (fun ih=>?_))
   ·intro n72 ih126
    rintro ⟨l0,m0,vbk5_5_0_126,vbk6_6_0_126,vbk6_6_1_126,vbk6_6_2_126,vbk6_6_3_126,o0,p0⟩ h
    replace h:z38_50_l8 N rd k (z38_50_l2 N rc rd l_ n62) l (n72+1) l0 m0 vbk5_5_0_126 vbk6_6_0_126 vbk6_6_1_126 vbk6_6_2_126 vbk6_6_3_126 o0 p0=some r:=h
    unfold z38_50_l8 at h
    refine wB' J 5 h (fun h=>wa J 2 (eSub [] (j124 (l0,m0,vbk5_5_0_126,vbk6_6_0_126,vbk6_6_1_126,vbk6_6_2_126,vbk6_6_3_126,o0) h))) fun h=>?_
    refine wO J 6 h fun q0 s0 h=>eIx J (oSl rR15) s0 ?_
    refine wO J 7 h fun t0 u0 h=>eCl (rc_Pexpand_expander_expand_1_al_ct q0 (⟨l0,m0⟩:T2) vbk5_5_0_126 (⟨vbk6_6_0_126,vbk6_6_1_126,vbk6_6_2_126,vbk6_6_3_126⟩:T17) _ u0) [] [(0,.sl 24),(1,.bp 1 0),(2,.sl 2),(3,.sl 3),(4,.bp 4 0),(5,.bp 5 0),(6,.bp 6 0),(7,.sl 19),(8,.sl 20),(9,.sl 21),(10,.bp 10 0)] ?_
    obtain ⟨v0,x0,h⟩:=ob h
    exact eAp J rR15 x0 (wa J 7 (eSub [(19,.sl 26),(20,.sl 27),(21,.sl 28),(22,.sl 29)] (ih126 (t0.2.1.all',t0.2.1.done',t0.2.2.1,t0.2.2.2.Name,t0.2.2.2.Roles,t0.2.2.2.Messages,t0.2.2.2.Body,v0,(w64 (p0+1))) h)))
   exact eSub [(19,.sl 11),(20,.sl 12),(21,.sl 13),(22,.sl 14)] (ih N (g,i,vbk5_5_0_66,vbk6_6_0_66,vbk6_6_1_66,vbk6_6_2_66,vbk6_6_3_66,j,0) h)
  refine wH J 6 K ?_
  refine wO J 11 h fun y0 z0 h=>eCl (z36_ct N l.To _ z0) [] [(0,.sl 16)] (wa J 13 (eCut (σ:=(List (ByteArray × T17)) × (List (ByteArray × T17)) × Bool × ByteArray × (List ByteArray) × (List T16) × (List T15) × (List (List T15))) (fun st=>⟨[(1,.B 4 0),(2,.B 5 0),(3,.B 6 0),(4,.B 10 0),(7,.S 14),(17,.B 19 0),(20,.S 0),(21,.I (l_.length:Int)),(22,.I k)],[(1,.box [.sl 2,.sl 3] 62),(2,.av (mapV rR17 true false st.1)),(3,.av (mapV rR17 true false st.2.1)),(4,.box [.bp 1 0] 59),(5,.box [.b st.2.2.1] 4),(6,.box [.s st.2.2.2.1,.sl 21,.sl 22,.sl 23] 35),(10,.box [.cl 38 [] [4,5,6,10]] 108),(14,.own rR15 j true),(19,.box [.I l.Kind,.s l.From,.sl 20,.s l.Name,.s l.As,.I l.Ticks,.sl 24] 27),(20,.own rS y0 true),(22,.own rR16 st.2.2.2.2.2.1 false),(24,.own (rSl rR15) st.2.2.2.2.2.2.2 true)],[(0,.sl rR15 l_),(7,.sl rS c3_.Roles),(9,.sl rR15 c3_.Body),(21,.sl rS st.2.2.2.2.1),(23,.sl rR15 st.2.2.2.2.2.2.1)],25⟩) (fun st=>z38_50_k9 N j k (z38_50_l2 N rc rd l_ n62) l y0 st.1 st.2.1 st.2.2.1 st.2.2.2.1 st.2.2.2.2.1 st.2.2.2.2.2.1 st.2.2.2.2.2.2.1 st.2.2.2.2.2.2.2=some r) ?_ (fun j127=>?_)))
  ·rintro ⟨A0,B0,vbk5_5_0_127,vbk6_6_0_127,vbk6_6_1_127,vbk6_6_2_127,vbk6_6_3_127,C0⟩ h
   replace h:z38_50_k9 N j k (z38_50_l2 N rc rd l_ n62) l y0 A0 B0 vbk5_5_0_127 vbk6_6_0_127 vbk6_6_1_127 vbk6_6_2_127 vbk6_6_3_127 C0=some r:=h
   unfold z38_50_k9 at h
   refine wa J 3 (eBs J [20,24] oO15 ([(⟨l.Kind,l.From,y0,l.Name,l.As,l.Ticks,C0⟩:T15)]:List T15) ?_)
   obtain ⟨D0,G0,h⟩:=ob h
   exact eAp J rR15 G0 (wa J 2 (eSub [(19,.sl 21),(20,.sl 22),(21,.sl 23),(22,.sl 26)] (j109 (A0,B0,vbk5_5_0_127,vbk6_6_0_127,vbk6_6_1_127,vbk6_6_2_127,vbk6_6_3_127,D0) h)))
  refine wa J 1 (eLoop (σ:=(List (ByteArray × T17)) × (List (ByteArray × T17)) × Bool × ByteArray × (List ByteArray) × (List T16) × (List T15) × (List (List T15)) × Int) (fun st=>⟨[(1,.B 4 0),(2,.B 5 0),(3,.B 6 0),(4,.B 10 0),(7,.S 14),(17,.B 19 0),(20,.S 0),(21,.I (l_.length:Int)),(22,.I k),(35,.S 17),(36,.I (l.Blocks.length:Int)),(37,.I st.2.2.2.2.2.2.2.2)],[(1,.box [.sl 2,.sl 3] 62),(2,.av (mapV rR17 true false st.1)),(3,.av (mapV rR17 true false st.2.1)),(4,.box [.bp 1 0] 59),(5,.box [.b st.2.2.1] 4),(6,.box [.s st.2.2.2.1,.sl 21,.sl 22,.sl 23] 35),(10,.box [.cl 38 [] [4,5,6,10]] 108),(14,.own rR15 j true),(19,.box [.I l.Kind,.s l.From,.sl 20,.s l.Name,.s l.As,.I l.Ticks,.sl 24] 27),(20,.own rS y0 true),(22,.own rR16 st.2.2.2.2.2.1 false),(24,.own (rSl rR15) st.2.2.2.2.2.2.2.1 true)],[(0,.sl rR15 l_),(7,.sl rS c3_.Roles),(9,.sl rR15 c3_.Body),(17,.sl (rSl rR15) l.Blocks),(21,.sl rS st.2.2.2.2.1),(23,.sl rR15 st.2.2.2.2.2.2.1)],25⟩) (fun n st=>z38_50_l10 N rd j k (z38_50_l2 N rc rd l_ n62) l y0 n st.1 st.2.1 st.2.2.1 st.2.2.2.1 st.2.2.2.2.1 st.2.2.2.2.2.1 st.2.2.2.2.2.2.1 st.2.2.2.2.2.2.2.1 st.2.2.2.2.2.2.2.2) (r:=r) (fun _=>rfl) ?_ (fun ih=>?_))
  ·intro n74 ih129
   rintro ⟨H0,I0,vbk5_5_0_129,vbk6_6_0_129,vbk6_6_1_129,vbk6_6_2_129,vbk6_6_3_129,L0,M0⟩ h
   replace h:z38_50_l10 N rd j k (z38_50_l2 N rc rd l_ n62) l y0 (n74+1) H0 I0 vbk5_5_0_129 vbk6_6_0_129 vbk6_6_1_129 vbk6_6_2_129 vbk6_6_3_129 L0 M0=some r:=h
   unfold z38_50_l10 at h
   refine wB' J 5 h (fun h=>wa J 2 (eSub [] (j127 (H0,I0,vbk5_5_0_129,vbk6_6_0_129,vbk6_6_1_129,vbk6_6_2_129,vbk6_6_3_129,L0) h))) fun h=>?_
   refine wO J 6 h fun O0 R0 h=>eIx J (oSl rR15) R0 ?_
   refine wO J 8 h fun S0 T0 h=>eCl (rc_Pexpand_expander_expand_1_al_ct O0 (⟨H0,I0⟩:T2) vbk5_5_0_129 (⟨vbk6_6_0_129,vbk6_6_1_129,vbk6_6_2_129,vbk6_6_3_129⟩:T17) _ T0) [] [(0,.sl 26),(1,.bp 1 0),(2,.sl 2),(3,.sl 3),(4,.bp 4 0),(5,.bp 5 0),(6,.bp 6 0),(7,.sl 21),(8,.sl 22),(9,.sl 23),(10,.bp 10 0)] (eBs J [27] (oSl rR15) ([S0.1]:List (List T15)) ?_)
   obtain ⟨U0,V0,h⟩:=ob h
   exact eAp J (rSl rR15) V0 (wa J 2 (eEnd (wa J 5 (eSub [(21,.sl 28),(22,.sl 29),(23,.sl 30),(24,.sl 32)] (ih129 (S0.2.1.all',S0.2.1.done',S0.2.2.1,S0.2.2.2.Name,S0.2.2.2.Roles,S0.2.2.2.Messages,S0.2.2.2.Body,U0,(w64 (M0+1))) h)))))
  exact eSub [(21,.sl 11),(22,.sl 12),(23,.sl 13),(24,.nil)] (ih N (g,i,vbk5_5_0_66,vbk6_6_0_66,vbk6_6_1_66,vbk6_6_2_66,vbk6_6_3_66,([]:List (List T15)),0) h)
 exact eSub [(11,.sl 7),(12,.sl 8),(13,.sl 9),(14,.nil)] (ih N (c0_.all',c0_.done',c2_,c3_.Name,c3_.Roles,c3_.Messages,c3_.Body,([]:List T15),0) h)
theorem z38_50_rct (rc:T2→ByteArray→Option (T17 × Bool × T2)) (rc_Pexpand_expander_expand_ct:(∀ (x_:T2) (name_:ByteArray) (r:T17 × Bool × T2),rc x_ name_=some r→Fn Tryz.prog 17 ⟨3,[.B 0 0,.c (.s name_)],[],[(0,.box [.sl 1,.sl 2] 62),(1,.av (mapV rR17 true false x_.all')),(2,.av (mapV rR17 true false x_.done'))],6,.t [.inr [.s r.1.Name,.sl 3,.sl 4,.sl 5],.inl (.b r.2.1)],(vV17 3 4 5 r.1 []),[(1,.av (mapV rR17 true false r.2.2.all')),(2,.av (mapV rR17 true false r.2.2.done')),(0,.box [.sl 1,.sl 2] 62)]⟩)):∀ (N:Nat) (l_:(List T15)) (c0_:T2) (c2_:Bool) (c3_:T17) (r:(List T15) × T2 × Bool × T17) (h:z38_50_r rc N l_ c0_ c2_ c3_=some r),Fn Tryz.prog 38 ⟨11,[.S 0,.B 4 0,.B 5 0,.B 6 0,.B 10 0],[(0,.sl rR15 l_),(7,.sl rS c3_.Roles),(9,.sl rR15 c3_.Body)],[(1,.box [.sl 2,.sl 3] 62),(2,.av (mapV rR17 true false c0_.all')),(3,.av (mapV rR17 true false c0_.done')),(4,.box [.bp 1 0] 59),(5,.box [.b c2_] 4),(6,.box [.s c3_.Name,.sl 7,.sl 8,.sl 9] 35),(8,.own rR16 c3_.Messages false),(10,.box [.cl 38 [] [4,5,6,10]] 108)],15,.S 11,[(12,.sl rS r.2.2.2.Roles),(14,.sl rR15 r.2.2.2.Body)],[(11,.own rR15 r.1 true),(2,.av (mapV rR17 true false r.2.1.all')),(3,.av (mapV rR17 true false r.2.1.done')),(1,.box [.sl 2,.sl 3] 62),(4,.box [.bp 1 0] 59),(5,.box [.b r.2.2.1] 4),(8,.gone),(13,.own rR16 r.2.2.2.Messages false),(6,.box [.s r.2.2.2.Name,.sl 12,.sl 13,.sl 14] 35),(10,.box [.cl 38 [] [4,5,6,10]] 108)]⟩:=by
 intro N
 induction N with
 | zero=>intros;rename_i h;cases h
 | succ N ih=>intro l_ c0_ c2_ c3_ r h;exact z38_50_b_ct N rc rc_Pexpand_expander_expand_ct (z38_50_r rc N) ih l_ c0_ c2_ c3_ r h
theorem z38_50_ct (N:Nat) (rc:T2→ByteArray→Option (T17 × Bool × T2)) (rc_Pexpand_expander_expand_ct:(∀ (x_:T2) (name_:ByteArray) (r:T17 × Bool × T2),rc x_ name_=some r→Fn Tryz.prog 17 ⟨3,[.B 0 0,.c (.s name_)],[],[(0,.box [.sl 1,.sl 2] 62),(1,.av (mapV rR17 true false x_.all')),(2,.av (mapV rR17 true false x_.done'))],6,.t [.inr [.s r.1.Name,.sl 3,.sl 4,.sl 5],.inl (.b r.2.1)],(vV17 3 4 5 r.1 []),[(1,.av (mapV rR17 true false r.2.2.all')),(2,.av (mapV rR17 true false r.2.2.done')),(0,.box [.sl 1,.sl 2] 62)]⟩)) (l_:(List T15)) (c0_:T2) (c2_:Bool) (c3_:T17) (r:(List T15) × T2 × Bool × T17) (h:z38_50 N rc l_ c0_ c2_ c3_=some r):Fn Tryz.prog 38 ⟨11,[.S 0,.B 4 0,.B 5 0,.B 6 0,.B 10 0],[(0,.sl rR15 l_),(7,.sl rS c3_.Roles),(9,.sl rR15 c3_.Body)],[(1,.box [.sl 2,.sl 3] 62),(2,.av (mapV rR17 true false c0_.all')),(3,.av (mapV rR17 true false c0_.done')),(4,.box [.bp 1 0] 59),(5,.box [.b c2_] 4),(6,.box [.s c3_.Name,.sl 7,.sl 8,.sl 9] 35),(8,.own rR16 c3_.Messages false),(10,.box [.cl 38 [] [4,5,6,10]] 108)],15,.S 11,[(12,.sl rS r.2.2.2.Roles),(14,.sl rR15 r.2.2.2.Body)],[(11,.own rR15 r.1 true),(2,.av (mapV rR17 true false r.2.1.all')),(3,.av (mapV rR17 true false r.2.1.done')),(1,.box [.sl 2,.sl 3] 62),(4,.box [.bp 1 0] 59),(5,.box [.b r.2.2.1] 4),(8,.gone),(13,.own rR16 r.2.2.2.Messages false),(6,.box [.s r.2.2.2.Name,.sl 12,.sl 13,.sl 14] 35),(10,.box [.cl 38 [] [4,5,6,10]] 108)]⟩:=z38_50_rct rc rc_Pexpand_expander_expand_ct N l_ c0_ c2_ c3_ r h
theorem z17_b_ct (N:Nat) (rc:T2→ByteArray→Option (T17 × Bool × T2)) (rc_Pexpand_expander_expand_ct:(∀ (x_:T2) (name_:ByteArray) (r:T17 × Bool × T2),rc x_ name_=some r→Fn Tryz.prog 17 ⟨3,[.B 0 0,.c (.s name_)],[],[(0,.box [.sl 1,.sl 2] 62),(1,.av (mapV rR17 true false x_.all')),(2,.av (mapV rR17 true false x_.done'))],6,.t [.inr [.s r.1.Name,.sl 3,.sl 4,.sl 5],.inl (.b r.2.1)],(vV17 3 4 5 r.1 []),[(1,.av (mapV rR17 true false r.2.2.all')),(2,.av (mapV rR17 true false r.2.2.done')),(0,.box [.sl 1,.sl 2] 62)]⟩)) (x_:T2) (name_:ByteArray) (r:T17 × Bool × T2) (h:z17_b N rc x_ name_=some r) :
 Fn Tryz.prog 17 ⟨3,[.B 0 0,.c (.s name_)],[],[(0,.box [.sl 1,.sl 2] 62),(1,.av (mapV rR17 true false x_.all')),(2,.av (mapV rR17 true false x_.done'))],6,.t [.inr [.s r.1.Name,.sl 3,.sl 4,.sl 5],.inl (.b r.2.1)],(vV17 3 4 5 r.1 []),[(1,.av (mapV rR17 true false r.2.2.all')),(2,.av (mapV rR17 true false r.2.2.done')),(0,.box [.sl 1,.sl 2] 62)]⟩:=by
 refine eFn func17 rfl (fun E F w=>?_)
 unfold z17_b at h
 refine wO J 14 h fun x1 d h=>eMo (nl:=false) oO17 mt_60 (Option.some.inj d) ?_
 refine wB J 11 h (fun h=>?_) fun h=>?_
 ·cases h
  exact wr J 7 func17 [(3,.sl 5),(4,.sl 6),(5,.sl 7)]
 refine wO J 9 h fun x2 e h=>eMl (nl:=false) oO17 mt_60 (Option.some.inj e) (wa J 6 (eMz rS false 30 [] [.s (str [])] ?_))
 refine wO J 9 h fun x3 f h=>eCl (z36_ct N x2.Roles _ f) [] [(0,.sl 9)] ?_
 refine wO J 3 h fun x4 g h=>eCl (z37_ct N (⟨([]:(List (ByteArray × ByteArray))),(str [])⟩:T3) x2.Messages _ g) [] [(0,.sl 13),(1,.sl 10)] (wa J 3 (eEnd ?_))
 refine wO J 19 h fun x5 i h=>eCl (z38_50_ct N rc rc_Pexpand_expander_expand_ct x2.Body x_ true (⟨x2.Name,x3,x4,([]:List T15)⟩:T17) _ i) [15] [(0,.sl 11),(1,.bp 0 0),(2,.sl 1),(3,.sl 2),(4,.bp 3 0),(5,.bp 18 0),(6,.bp 17 0),(7,.sl 15),(8,.sl 16),(9,.nil),(10,.bp 19 0)] ?_
 refine wB J 9 h (fun h=>?_) fun h=>wa J 10 (eMu (q:=name_) (kvs:=x5.2.1.done') [22,20] oO17 (⟨x5.2.2.2.Name,x5.2.2.2.Roles,x5.2.2.2.Messages,x5.1⟩:T17) mt_60 (eEnd ?_))
 ·cases h
  exact wr J 7 func17 [(3,.nil),(4,.nil),(5,.nil)]
 cases h
 exact wr J 6 func17 [(3,.sl 21),(4,.sl 22),(5,.sl 20)]
theorem z17_rct:∀ (N:Nat) (x_:T2) (name_:ByteArray) (r:T17 × Bool × T2) (h:z17_r N x_ name_=some r),Fn Tryz.prog 17 ⟨3,[.B 0 0,.c (.s name_)],[],[(0,.box [.sl 1,.sl 2] 62),(1,.av (mapV rR17 true false x_.all')),(2,.av (mapV rR17 true false x_.done'))],6,.t [.inr [.s r.1.Name,.sl 3,.sl 4,.sl 5],.inl (.b r.2.1)],(vV17 3 4 5 r.1 []),[(1,.av (mapV rR17 true false r.2.2.all')),(2,.av (mapV rR17 true false r.2.2.done')),(0,.box [.sl 1,.sl 2] 62)]⟩:=by
 intro N
 induction N with
 | zero=>intros;rename_i h;cases h
 | succ N ih=>intro x_ name_ r h;exact z17_b_ct N (z17_r N) ih x_ name_ r h
theorem z17_ct (N:Nat) (x_:T2) (name_:ByteArray) (r:T17 × Bool × T2) (h:z17 N x_ name_=some r):Fn Tryz.prog 17 ⟨3,[.B 0 0,.c (.s name_)],[],[(0,.box [.sl 1,.sl 2] 62),(1,.av (mapV rR17 true false x_.all')),(2,.av (mapV rR17 true false x_.done'))],6,.t [.inr [.s r.1.Name,.sl 3,.sl 4,.sl 5],.inl (.b r.2.1)],(vV17 3 4 5 r.1 []),[(1,.av (mapV rR17 true false r.2.2.all')),(2,.av (mapV rR17 true false r.2.2.done')),(0,.box [.sl 1,.sl 2] 62)]⟩:=z17_rct N x_ name_ r h
theorem z8_ct (N:Nat) (l_:(List T17)) (name_:ByteArray) (r:T17 × Int) (h:z8 N l_ name_=some r) :
 Fn Tryz.prog 8 ⟨2,[.S 0,.c (.s name_)],[(0,.sl rR17 l_)],[(1,.abs powT)],5,.t [.inr [.s r.1.Name,.sl 2,.sl 3,.sl 4],.inl (.I r.2)],(vV17 2 3 4 r.1 []),[(1,.abs powT)]⟩:=by
 refine eFn func8 rfl (fun E F w=>?_)
 unfold z8 at h
 refine wO J 9 h fun x1 d h=>eCl (z13_ct N l_ _ d) [] [(0,.sl 0),(1,.sl 1)] ?_
 refine wB J 3 h (fun h=>?_) fun h=>wa J 4 (eMm rR17 true (eMm rR17 true (wa J 11 (eCut (σ:=(List (ByteArray × T17))) (fun st=>(zz37 powT (mapV rR17 true false st) (mapV rR17 true false ([]:(List (ByteArray × T17)))) l_ [(1,.c (.s name_)),(4,.B 2 0),(6,.B 5 0)])) (fun st=>z8_k1 N name_ st=some r) ?_ (fun j1=>?_)))))
 ·cases h
  exact wr J 7 func8 [(2,.nil),(3,.nil),(4,.nil)]
 ·intro e h
  replace h:z8_k1 N name_ e=some r:=h
  unfold z8_k1 at h
  refine wO J 8 h fun x6 f h=>eMo (nl:=false) oO17 mt_60 (Option.some.inj f) ?_
  refine wB J 12 h (fun h=>?_) fun h=>wa J 7 (eMm rB false ?_)
  ·cases h
   exact wr J 7 func8 [(2,.nil),(3,.nil),(4,.nil)]
  obtain ⟨x7,g,h⟩:=ob h
  refine eCl (z16_ct N (⟨e,([]:(List (ByteArray × T17)))⟩:T2) name_ ([]:(List (ByteArray × Bool))) _ g) [] [(0,.bp 5 0),(1,.sl 3),(2,.sl 4),(3,.sl 10)] ?_
  refine wB J 2 h (fun h=>?_) fun h=>?_
  ·cases h
   exact wr J 7 func8 [(2,.nil),(3,.nil),(4,.nil)]
  refine wO J 6 h fun x8 i h=>eCl (z17_ct N (⟨e,([]:(List (ByteArray × T17)))⟩:T2) name_ _ i) [] [(0,.bp 5 0),(1,.sl 3),(2,.sl 4)] ?_
  refine wB J 13 h (fun h=>?_) fun h=>wa J 1 (eBs J [] oO17 ([x8.1]:List T17) ?_)
  ·cases h
   exact wr J 13 func8 [(2,.nil),(3,.nil),(4,.nil)]
  obtain ⟨x9,j,h⟩:=ob h
  refine eCl (z18_ct N ([x8.1]:List T17) _ j) [15] [(0,.sl 15),(1,.sl 1)] ?_
  refine wB J 3 h (fun h=>?_) fun h=>wa J 6 (eBs J [] oO17 ([x8.1]:List T17) ?_)
  ·cases h
   exact wr J 7 func8 [(2,.nil),(3,.nil),(4,.nil)]
  obtain ⟨k,l,h⟩:=ob h
  refine eCl (z13_ct N ([x8.1]:List T17) _ l) [16] [(0,.sl 16),(1,.sl 1)] ?_
  refine wB J 3 h (fun h=>?_) fun h=>?_
  ·cases h
   exact wr J 7 func8 [(2,.nil),(3,.nil),(4,.nil)]
  cases h
  exact wr J 8 func8 [(2,.sl 11),(3,.sl 12),(4,.sl 13)]
 refine wa J 1 (eLoop (σ:=(List (ByteArray × T17)) × Int) (fun st=>(zz37 powT (mapV rR17 true false st.1) (mapV rR17 true false ([]:(List (ByteArray × T17)))) l_ [(1,.c (.s name_)),(4,.B 2 0),(6,.B 5 0),(22,.S 0),(23,.I (l_.length:Int)),(24,.I st.2)])) (fun n st=>z8_l2 N l_ name_ n st.1 st.2) (r:=r) (fun _=>rfl) ?_ (fun ih=>?_))
 ·intro n2 ih3
  rintro ⟨m,o⟩ h
  replace h:z8_l2 N l_ name_ (n2+1) m o=some r:=h
  unfold z8_l2 at h
  refine wB' J 5 h (fun h=>wa J 2 (eSub [] (j1 m h))) fun h=>?_
  exact wO J 6 h fun p u h=>eIx J oO17 u (wa J 12 (eMu (q:=p.Name) (kvs:=m) [] oO17 p mt_60 (eEnd (wa J 5 (eSub [] (ih3 ((mput m p.Name p),(w64 (o+1))) h))))))
 exact eSub [] (ih N (([]:(List (ByteArray × T17))),0) h)
theorem z7_ct (N:Nat) (r:Bool) (h:z7 N=some r) :
 Fn Tryz.prog 7 ⟨1,[],[],[(0,.abs powT)],1,.O r,[],[(0,.abs powT)]⟩:=by
 refine eFn func7 rfl (fun E F w=>?_)
 unfold z7 at h
 refine wO J 6 h fun x1 c h=>eCl (z15_ct N (str [112,114,111,116,111,99,111,108,32,80,40,65,44,32,66,41,32,123,32,109,101,115,115,97,103,101,32,97,40,41,59,32,65,32,45,62,32,66,58,32,97,59,32,99,97,108,108,32,81,40,66,44,32,65,41,32,97,115,32,113,59,32,125,32,112,114,111,116,111,99,111,108,32,81,40,88,44,32,89,41,32,123,32,109,101,115,115,97,103,101,32,109,40,41,59,32,88,32,45,62,32,89,58,32,109,59,32,125]) _ c) [] [(0,.sl 0)] ?_
 refine wO J 11 h fun x2 d h=>eCl (z8_ct N x1.1 (str [80]) _ d) [] [(0,.sl 1),(1,.sl 0)] ?_
 refine wB' J 12 h (fun h=>?_) fun h=>?_
 ·cases h
  exact wr J 41 func7 []
 refine wB' J 4 h (fun h=>?_) fun h=>?_
 ·cases h
  exact wr J 37 func7 []
 refine wB' J 6 h (fun h=>?_) fun h=>?_
 ·cases h
  exact wr J 31 func7 []
 refine wO J 2 h fun x3 e h=>eIx J oO16 e ?_
 refine wB' J 5 h (fun h=>?_) fun h=>?_
 ·cases h
  exact wr J 23 func7 []
 refine wB' J 6 h (fun h=>?_) fun h=>?_
 ·cases h
  exact wr J 17 func7 []
 refine wO J 2 h fun x4 f h=>eIx J oO15 f ?_
 refine wB' J 5 h (fun h=>?_) fun h=>?_
 ·cases h
  exact wr J 9 func7 []
 refine wO J 2 h fun x5 g h=>eIx J oO15 g ?_
 cases h
 exact wr J 6 func7 []
theorem z12_b_ct (N:Nat) (rc:(List T10)→Option (Int × Int)) (rc_law12_kinds_ct:(∀ (l_:(List T10)) (r:Int × Int),rc l_=some r→Fn Tryz.prog 12 ⟨1,[.S 0],[(0,.sl rR10 l_)],[],1,.t [.inl (.I r.1),.inl (.I r.2)],[],[]⟩)) (l_:(List T10)) (r:Int × Int) (h:z12_b N rc l_=some r) :
 Fn Tryz.prog 12 ⟨1,[.S 0],[(0,.sl rR10 l_)],[],1,.t [.inl (.I r.1),.inl (.I r.2)],[],[]⟩:=by
 refine eFn func12 rfl (fun E F w=>?_)
 unfold z12_b at h
 refine wa J 12 (eCut (σ:=Int × Int) (fun st=>(zz3 l_ [(2,.I st.1),(3,.I st.2)])) (fun st=>z12_k1 st.1 st.2=some r) ?_ (fun j1=>?_))
 ·rintro ⟨c,d⟩ h
  replace h:z12_k1 c d=some r:=h
  unfold z12_k1 at h
  cases h
  exact wr J 7 func12 []
 refine wa J 1 (eLoop (σ:=Int × Int × Int) (fun st=>(zz3 l_ [(2,.I st.1),(3,.I st.2.1),(10,.S 0),(11,.I (l_.length:Int)),(12,.I st.2.2)])) (fun n st=>z12_l2 N rc l_ n st.1 st.2.1 st.2.2) (r:=r) (fun _=>rfl) ?_ (fun ih=>?_))
 ·intro n12 ih18
  rintro ⟨e,f,g⟩ h
  replace h:z12_l2 N rc l_ (n12+1) e f g=some r:=h
  unfold z12_l2 at h
  refine wB' J 5 h (fun h=>wa J 2 (eSub [] (j1 (e,f) h))) fun h=>?_
  refine wO J 6 h fun i j h=>eIx J oO10 j (wa J 11 (eCut (σ:=Int) (fun st=>⟨[(2,.I st),(3,.I f),(5,.B 4 0),(10,.S 0),(11,.I (l_.length:Int)),(12,.I g)],[(4,.box [.I i.Kind,.s i.From,.sl 2,.s i.Name,.s i.As,.I i.Ticks,.sl 3] 83)],[(0,.sl rR10 l_),(2,.sl rS i.To),(3,.sl (rSl rR10) i.Blocks)],5⟩) (fun st=>z12_k6 N rc f g (z12_l2 N rc l_ n12) i st=some r) ?_ (fun j29=>?_)))
  ·intro k h
   replace h:z12_k6 N rc f g (z12_l2 N rc l_ n12) i k=some r:=h
   unfold z12_k6 at h
   refine wa J 7 (eCut (σ:=Int) (fun st=>⟨[(2,.I k),(3,.I st),(5,.B 4 0),(10,.S 0),(11,.I (l_.length:Int)),(12,.I g)],[(4,.box [.I i.Kind,.s i.From,.sl 2,.s i.Name,.s i.As,.I i.Ticks,.sl 3] 83)],[(0,.sl rR10 l_),(2,.sl rS i.To),(3,.sl (rSl rR10) i.Blocks)],5⟩) (fun st=>z12_k5 N rc g (z12_l2 N rc l_ n12) i k st=some r) ?_ (fun j30=>?_))
   ·intro l h
    replace h:z12_k5 N rc g (z12_l2 N rc l_ n12) i k l=some r:=h
    unfold z12_k5 at h
    refine wa J 7 (eCut (σ:=Int × Int) (fun st=>⟨[(2,.I st.1),(3,.I st.2),(10,.S 0),(11,.I (l_.length:Int)),(12,.I g)],[],[(0,.sl rR10 l_)],5⟩) (fun st=>z12_k3 g (z12_l2 N rc l_ n12) st.1 st.2=some r) ?_ (fun j31=>?_))
    ·rintro ⟨m,o⟩ h
     replace h:z12_k3 g (z12_l2 N rc l_ n12) m o=some r:=h
     unfold z12_k3 at h
     exact wa J 5 (eSub [] (ih18 (m,o,(w64 (g+1))) h))
    refine wa J 1 (eLoop (σ:=Int × Int × Int) (fun st=>⟨[(2,.I st.1),(3,.I st.2.1),(10,.S 0),(11,.I (l_.length:Int)),(12,.I g),(27,.S 3),(28,.I (i.Blocks.length:Int)),(29,.I st.2.2)],[],[(0,.sl rR10 l_),(3,.sl (rSl rR10) i.Blocks)],5⟩) (fun n st=>z12_l4 rc g (z12_l2 N rc l_ n12) i n st.1 st.2.1 st.2.2) (r:=r) (fun _=>rfl) ?_ (fun ih=>?_))
    ·intro n14 ih33
     rintro ⟨p,q,u⟩ h
     replace h:z12_l4 rc g (z12_l2 N rc l_ n12) i (n14+1) p q u=some r:=h
     unfold z12_l4 at h
     refine wB' J 5 h (fun h=>wa J 2 (eSub [] (j31 (p,q) h))) fun h=>?_
     refine wO J 6 h fun v x h=>eIx J (oSl rR10) x ?_
     exact wO J 6 h fun y z h=>eCl (rc_law12_kinds_ct v _ z) [] [(0,.sl 6)] (wa J 21 (eSub [] (ih33 ((w64 (p+y.1)),(w64 (q+y.2)),(w64 (u+1))) h)))
    exact eSub [] (ih N (k,l,0) h)
   exact eB h (fun h=>wa J 6 (eSub [] (j30 (w64 (f+1)) h))) fun h=>wa J 2 (eSub [] (j30 f h))
  exact eB h (fun h=>wa J 6 (eSub [] (j29 (w64 (e+1)) h))) fun h=>wa J 2 (eSub [] (j29 e h))
 exact eSub [] (ih N (0,0,0) h)
theorem z12_rct:∀ (N:Nat) (l_:(List T10)) (r:Int × Int) (h:z12_r N l_=some r),Fn Tryz.prog 12 ⟨1,[.S 0],[(0,.sl rR10 l_)],[],1,.t [.inl (.I r.1),.inl (.I r.2)],[],[]⟩:=by
 intro N
 induction N with
 | zero=>intros;rename_i h;cases h
 | succ N ih=>intro l_ r h;exact z12_b_ct N (z12_r N) ih l_ r h
theorem z12_ct (N:Nat) (l_:(List T10)) (r:Int × Int) (h:z12 N l_=some r):Fn Tryz.prog 12 ⟨1,[.S 0],[(0,.sl rR10 l_)],[],1,.t [.inl (.I r.1),.inl (.I r.2)],[],[]⟩:=z12_rct N l_ r h
theorem z46_b_ct (N:Nat) (rc:(List T10)→Option Int) (rc_ref10_Count_ct:(∀ (l_:(List T10)) (r:Int),rc l_=some r→Fn Tryz.prog 46 ⟨1,[.S 0],[(0,.sl rR10 l_)],[],1,.I r,[],[]⟩)) (l_:(List T10)) (r:Int) (h:z46_b N rc l_=some r) :
 Fn Tryz.prog 46 ⟨1,[.S 0],[(0,.sl rR10 l_)],[],1,.I r,[],[]⟩:=by
 refine eFn func46 rfl (fun E F w=>?_)
 unfold z46_b at h
 refine wa J 13 (eCut (σ:=Int) (fun st=>(zz3 l_ [(3,.I st)])) (fun st=>z46_k1 st=some r) ?_ (fun j1=>?_))
 ·intro c h
  replace h:z46_k1 c=some r:=h
  unfold z46_k1 at h
  cases h
  exact wr J 5 func46 []
 refine wa J 1 (eLoop (σ:=Int × Int) (fun st=>(zz3 l_ [(0,.S 0),(3,.I st.1),(4,.I st.2)])) (fun n st=>z46_l2 N rc l_ n st.1 st.2) (r:=r) (fun _=>rfl) ?_ (fun ih=>?_))
 ·intro n12 ih12
  rintro ⟨d,e⟩ h
  replace h:z46_l2 N rc l_ (n12+1) d e=some r:=h
  unfold z46_l2 at h
  refine wB' J 8 h (fun h=>wa J 2 (eSub [] (j1 d h))) fun h=>wa J 14 (eCut (σ:=Int) (fun st=>(zz3 l_ [(0,.S 0),(3,.I st),(4,.I e)])) (fun st=>z46_k3 e (z46_l2 N rc l_ n12) st=some r) ?_ (fun j19=>?_))
  ·intro f h
   replace h:z46_k3 e (z46_l2 N rc l_ n12) f=some r:=h
   unfold z46_k3 at h
   exact wa J 6 (eSub [] (ih12 (f,(w64 (e+1))) h))
  refine wa J 1 (eLoop (σ:=Int × Int) (fun st=>(zz3 l_ [(0,.S 0),(3,.I st.1),(4,.I e),(5,.I st.2)])) (fun n st=>z46_l4 rc l_ e (z46_l2 N rc l_ n12) n st.1 st.2) (r:=r) (fun _=>rfl) ?_ (fun ih=>?_))
  ·intro n14 ih21
   rintro ⟨g,i⟩ h
   replace h:z46_l4 rc l_ e (z46_l2 N rc l_ n12) (n14+1) g i=some r:=h
   unfold z46_l4 at h
   refine wO J 6 h fun j k h=>eIx J oO10 k ?_
   refine wB' J 5 h (fun h=>wa J 2 (eSub [] (j19 g h))) fun h=>?_
   refine wO J 8 h fun l m h=>eIx J oO10 m ?_
   refine wO J 3 h fun o p h=>eIx J (oSl rR10) p ?_
   exact wO J 1 h fun q s h=>eCl (rc_ref10_Count_ct o _ s) [] [(0,.sl 8)] (wa J 9 (eSub [] (ih21 ((w64 (g+q)),(w64 (i+1))) h)))
  exact eSub [] (ih N ((w64 (d+1)),0) h)
 exact eSub [] (ih N (0,0) h)
theorem z46_rct:∀ (N:Nat) (l_:(List T10)) (r:Int) (h:z46_r N l_=some r),Fn Tryz.prog 46 ⟨1,[.S 0],[(0,.sl rR10 l_)],[],1,.I r,[],[]⟩:=by
 intro N
 induction N with
 | zero=>intros;rename_i h;cases h
 | succ N ih=>intro l_ r h;exact z46_b_ct N (z46_r N) ih l_ r h
theorem z46_ct (N:Nat) (l_:(List T10)) (r:Int) (h:z46 N l_=some r):Fn Tryz.prog 46 ⟨1,[.S 0],[(0,.sl rR10 l_)],[],1,.I r,[],[]⟩:=z46_rct N l_ r h
theorem z19_ct (N:Nat) (l_:(List T12)) (r:Bool) (h:z19 N l_=some r) :
 Fn Tryz.prog 19 ⟨1,[.S 0],[(0,.sl rR12 l_)],[],1,.O r,[],[]⟩:=by
 refine eFn func19 rfl (fun E F w=>?_)
 unfold z19 at h
 refine wa J 14 (eCut (σ:=Int × Int) (fun st=>⟨[(0,.S 0),(3,.I st.1),(4,.I st.2)],[],[(0,.sl rR12 l_)],1⟩) (fun st=>z19_k1 l_ st.1 st.2=some r) ?_ (fun j1=>?_))
 ·rintro ⟨c,d⟩ h
  replace h:z19_k1 l_ c d=some r:=h
  unfold z19_k1 at h
  refine wB' J 6 h (fun h=>?_) fun h=>?_
  ·cases h
   exact wr J 9 func19 []
  refine wB J 4 h (fun h=>?_) fun h=>?_
  ·cases h
   exact wr J 5 func19 []
  cases h
  exact wr J 5 func19 []
 refine wa J 1 (eLoop (σ:=Int × Int × Int) (fun st=>⟨[(0,.S 0),(3,.I st.1),(4,.I st.2.1),(5,.I st.2.2)],[],[(0,.sl rR12 l_)],1⟩) (fun n st=>z19_l2 N l_ n st.1 st.2.1 st.2.2) (r:=r) (fun _=>rfl) ?_ (fun ih=>?_))
 ·intro n12 ih12
  rintro ⟨e,f,g⟩ h
  replace h:z19_l2 N l_ (n12+1) e f g=some r:=h
  unfold z19_l2 at h
  refine wB' J 8 h (fun h=>wa J 2 (eSub [] (j1 (e,f) h))) fun h=>?_
  refine wO J 9 h fun i j h=>eIx J oO12 j ?_
  refine wO J 2 h fun k l h=>eCl (z46_ct N i.Body _ l) [] [(0,.sl 4)] ?_
  refine wO J 8 h fun m o h=>eIx J oO12 o (wa J 10 (eCut (σ:=Unit) (fun st=>⟨[(0,.S 0),(3,.I (w64 (e+k))),(4,.I (w64 (f+(m.Messages.length:Int)))),(5,.I g)],[],[(0,.sl rR12 l_)],9⟩) (fun st=>z19_k3 e f g (z19_l2 N l_ n12) k m=some r) ?_ (fun j19=>?_)))
  ·intro _ h
   replace h:z19_k3 e f g (z19_l2 N l_ n12) k m=some r:=h
   unfold z19_k3 at h
   exact wa J 6 (eSub [] (ih12 ((w64 (e+k)),(w64 (f+(m.Messages.length:Int))),(w64 (g+1))) h))
  refine wa J 1 (eLoop (σ:=Int) (fun st=>⟨[(0,.S 0),(3,.I (w64 (e+k))),(4,.I (w64 (f+(m.Messages.length:Int)))),(5,.I g),(6,.I st)],[],[(0,.sl rR12 l_)],9⟩) (fun n st=>z19_l4 l_ e f g (z19_l2 N l_ n12) k m n st) (r:=r) (fun _=>rfl) ?_ (fun ih=>?_))
  ·intro n14 ih21
   intro p h
   replace h:z19_l4 l_ e f g (z19_l2 N l_ n12) k m (n14+1) p=some r:=h
   unfold z19_l4 at h
   refine wO J 6 h fun q s h=>eIx J oO12 s ?_
   refine wB' J 5 h (fun h=>wa J 2 (eSub [] (j19 () h))) fun h=>?_
   refine wO J 8 h fun t u h=>eIx J oO12 u ?_
   refine wO J 3 h fun v x h=>eIx J oO11 x ?_
   refine wB J 5 h (fun h=>?_) fun h=>?_
   ·cases h
    exact wr J 18 func19 []
   refine wO J 2 h fun y z h=>eIx J oO12 z ?_
   refine wO J 3 h fun A C h=>eIx J oO11 C ?_
   refine wB J 6 h (fun h=>?_) fun h=>wa J 8 (eSub [] (ih21 (w64 (p+1)) h))
   cases h
   exact wr J 5 func19 []
  exact eSub [] (ih N 0 h)
 exact eSub [] (ih N (0,0,0) h)
theorem z9_ct (N:Nat) (l_:(List T12)) (r:Bool) (h:z9 N l_=some r) :
 Fn Tryz.prog 9 ⟨1,[.S 0],[(0,.sl rR12 l_)],[],1,.O r,[],[]⟩:=by
 refine eFn func9 rfl (fun E F w=>?_)
 unfold z9 at h
 refine wa J 11 (eCut (σ:=Unit) (fun st=>⟨[(0,.S 0)],[],[(0,.sl rR12 l_)],1⟩) (fun st=>z9_k1 N l_=some r) ?_ (fun j1=>?_))
 ·intro _ h
  replace h:z9_k1 N l_=some r:=h
  unfold z9_k1 at h
  refine wO J 3 h fun x9 c h=>eCl (z19_ct N l_ _ c) [] [(0,.sl 0)] ?_
  cases h
  exact wr J 2 func9 []
 refine wa J 1 (eLoop (σ:=Int) (fun st=>⟨[(0,.S 0),(7,.S 0),(8,.I (l_.length:Int)),(9,.I st)],[],[(0,.sl rR12 l_)],1⟩) (fun n st=>z9_l2 N l_ n st) (r:=r) (fun _=>rfl) ?_ (fun ih=>?_))
 ·intro n2 ih3
  intro d h
  replace h:z9_l2 N l_ (n2+1) d=some r:=h
  unfold z9_l2 at h
  refine wB' J 5 h (fun h=>wa J 2 (eSub [] (j1 () h))) fun h=>?_
  refine wO J 6 h fun e f h=>eIx J oO12 f ?_
  refine wO J 8 h fun g i h=>eCl (z12_ct N e.Body _ i) [] [(0,.sl 4)] ?_
  refine wB J 11 h (fun h=>?_) fun h=>wa J 7 (eSub [] (ih3 (w64 (d+1)) h))
  cases h
  exact wr J 5 func9 []
 exact eSub [] (ih N 0 h)
theorem z20_b_ct (N:Nat) (rc:(List T10)→Option (List T15)) (rc_law10_ownItems_ct:(∀ (l_:(List T10)) (r:(List T15)),rc l_=some r→Fn Tryz.prog 20 ⟨1,[.S 0],[(0,.sl rR10 l_)],[],2,.S 1,[],[(1,.own rR15 r true)]⟩)) (l_:(List T10)) (r:(List T15)) (h:z20_b N rc l_=some r) :
 Fn Tryz.prog 20 ⟨1,[.S 0],[(0,.sl rR10 l_)],[],2,.S 1,[],[(1,.own rR15 r true)]⟩:=by
 refine eFn func20 rfl (fun E F w=>?_)
 unfold z20_b at h
 refine wa J 15 (eCut (σ:=(List T15)) (fun st=>⟨[(3,.S 1)],[(1,.own rR15 st true)],[(0,.sl rR10 l_)],2⟩) (fun st=>z20_k1 st=some r) ?_ (fun j1=>?_))
 ·intro c h
  replace h:z20_k1 c=some r:=h
  unfold z20_k1 at h
  cases h
  exact wr J 5 func20 [(1,.sl 1)]
 refine wa J 1 (eLoop (σ:=(List T15) × Int) (fun st=>⟨[(3,.S 1),(9,.S 0),(10,.I (l_.length:Int)),(11,.I st.2)],[(1,.own rR15 st.1 true)],[(0,.sl rR10 l_)],2⟩) (fun n st=>z20_l2 N rc l_ n st.1 st.2) (r:=r) (fun _=>rfl) ?_ (fun ih=>?_))
 ·intro n12 ih12
  rintro ⟨d,e⟩ h
  replace h:z20_l2 N rc l_ (n12+1) d e=some r:=h
  unfold z20_l2 at h
  refine wB' J 5 h (fun h=>wa J 2 (eSub [] (j1 d h))) fun h=>?_
  refine wO J 6 h fun f g h=>eIx J oO10 g (wa J 30 (eCut (σ:=(List (List T15))) (fun st=>⟨[(3,.S 1),(6,.B 6 0),(9,.S 0),(10,.I (l_.length:Int)),(11,.I e)],[(1,.own rR15 d true),(6,.box [.I f.Kind,.s f.From,.sl 3,.s f.Name,.s f.As,.I f.Ticks,.sl 7] 27),(7,.own (rSl rR15) st true)],[(0,.sl rR10 l_),(3,.sl rS f.To)],8⟩) (fun st=>z20_k3 d e (z20_l2 N rc l_ n12) f st=some r) ?_ (fun j19=>?_)))
  ·intro i h
   replace h:z20_k3 d e (z20_l2 N rc l_ n12) f i=some r:=h
   unfold z20_k3 at h
   refine wa J 3 (eBs J [7] oO15 ([(⟨f.Kind,f.From,f.To,f.Name,f.As,f.Ticks,i⟩:T15)]:List T15) ?_)
   obtain ⟨j,k,h⟩:=ob h
   exact eAp J rR15 k (wa J 7 (eSub [(1,.sl 9)] (ih12 (j,(w64 (e+1))) h)))
  refine wa J 1 (eLoop (σ:=(List (List T15)) × Int) (fun st=>⟨[(3,.S 1),(6,.B 6 0),(9,.S 0),(10,.I (l_.length:Int)),(11,.I e),(29,.S 4),(30,.I (f.Blocks.length:Int)),(31,.I st.2)],[(1,.own rR15 d true),(6,.box [.I f.Kind,.s f.From,.sl 3,.s f.Name,.s f.As,.I f.Ticks,.sl 7] 27),(7,.own (rSl rR15) st.1 true)],[(0,.sl rR10 l_),(3,.sl rS f.To),(4,.sl (rSl rR10) f.Blocks)],8⟩) (fun n st=>z20_l4 rc d e (z20_l2 N rc l_ n12) f n st.1 st.2) (r:=r) (fun _=>rfl) ?_ (fun ih=>?_))
  ·intro n14 ih21
   rintro ⟨l,m⟩ h
   replace h:z20_l4 rc d e (z20_l2 N rc l_ n12) f (n14+1) l m=some r:=h
   unfold z20_l4 at h
   refine wB' J 5 h (fun h=>wa J 2 (eSub [] (j19 l h))) fun h=>?_
   refine wO J 6 h fun o p h=>eIx J (oSl rR10) p ?_
   refine wO J 7 h fun q t h=>eCl (rc_law10_ownItems_ct o _ t) [] [(0,.sl 9)] (eBs J [10] (oSl rR15) ([q]:List (List T15)) ?_)
   obtain ⟨u,v,h⟩:=ob h
   exact eAp J (rSl rR15) v (wa J 2 (eEnd (wa J 5 (eSub [(7,.sl 12)] (ih21 (u,(w64 (m+1))) h)))))
  exact eSub [(7,.nil)] (ih N (([]:List (List T15)),0) h)
 exact eSub [(1,.nil)] (ih N (([]:List T15),0) h)
theorem z20_rct:∀ (N:Nat) (l_:(List T10)) (r:(List T15)) (h:z20_r N l_=some r),Fn Tryz.prog 20 ⟨1,[.S 0],[(0,.sl rR10 l_)],[],2,.S 1,[],[(1,.own rR15 r true)]⟩:=by
 intro N
 induction N with
 | zero=>intros;rename_i h;cases h
 | succ N ih=>intro l_ r h;exact z20_b_ct N (z20_r N) ih l_ r h
theorem z20_ct (N:Nat) (l_:(List T10)) (r:(List T15)) (h:z20 N l_=some r):Fn Tryz.prog 20 ⟨1,[.S 0],[(0,.sl rR10 l_)],[],2,.S 1,[],[(1,.own rR15 r true)]⟩:=z20_rct N l_ r h
theorem z10_ct (N:Nat) (l_:(List T12)) (r:(List T17)) (h:z10 N l_=some r) :
 Fn Tryz.prog 10 ⟨1,[.S 0],[(0,.sl rR12 l_)],[],2,.S 1,[],[(1,.own rR17 r true)]⟩:=by
 refine eFn func10 rfl (fun E F w=>?_)
 unfold z10 at h
 refine wa J 15 (eCut (σ:=(List T17)) (fun st=>⟨[(3,.S 1)],[(1,.own rR17 st true)],[(0,.sl rR12 l_)],2⟩) (fun st=>z10_k1 st=some r) ?_ (fun j1=>?_))
 ·intro c h
  replace h:z10_k1 c=some r:=h
  unfold z10_k1 at h
  cases h
  exact wr J 5 func10 [(1,.sl 1)]
 refine wa J 1 (eLoop (σ:=(List T17) × Int) (fun st=>⟨[(3,.S 1),(12,.S 0),(13,.I (l_.length:Int)),(14,.I st.2)],[(1,.own rR17 st.1 true)],[(0,.sl rR12 l_)],2⟩) (fun n st=>z10_l2 N l_ n st.1 st.2) (r:=r) (fun _=>rfl) ?_ (fun ih=>?_))
 ·intro n72 ih66
  rintro ⟨d,e⟩ h
  replace h:z10_l2 N l_ (n72+1) d e=some r:=h
  unfold z10_l2 at h
  refine wB' J 5 h (fun h=>wa J 2 (eSub [] (j1 d h))) fun h=>?_
  refine wO J 6 h fun f g h=>eIx J oO12 g ?_
  refine wO J 12 h fun i j h=>eCl (z20_ct N f.Body _ j) [] [(0,.sl 5)] (wa J 3 (eEnd (wa J 8 (eCut (σ:=(List T16)) (fun st=>⟨[(3,.S 1),(6,.B 8 0),(12,.S 0),(13,.I (l_.length:Int)),(14,.I e)],[(1,.own rR17 d true),(7,.own rR15 i true),(8,.box [.s f.Name,.sl 3,.sl 9,.sl 7] 35),(9,.own rR16 st true)],[(0,.sl rR12 l_),(3,.sl rS f.Roles)],10⟩) (fun st=>z10_k3 d e (z10_l2 N l_ n72) f i st=some r) ?_ (fun j109=>?_)))))
  ·intro k h
   replace h:z10_k3 d e (z10_l2 N l_ n72) f i k=some r:=h
   unfold z10_k3 at h
   refine wa J 3 (eBs J [9,7] oO17 ([(⟨f.Name,f.Roles,k,i⟩:T17)]:List T17) ?_)
   obtain ⟨l,m,h⟩:=ob h
   exact eAp J rR17 m (wa J 7 (eSub [(1,.sl 11)] (ih66 (l,(w64 (e+1))) h)))
  refine wa J 1 (eLoop (σ:=(List T16) × Int) (fun st=>⟨[(3,.S 1),(6,.B 8 0),(12,.S 0),(13,.I (l_.length:Int)),(14,.I e),(27,.S 4),(28,.I (f.Messages.length:Int)),(29,.I st.2)],[(1,.own rR17 d true),(7,.own rR15 i true),(8,.box [.s f.Name,.sl 3,.sl 9,.sl 7] 35),(9,.own rR16 st.1 true)],[(0,.sl rR12 l_),(3,.sl rS f.Roles),(4,.sl rR11 f.Messages)],10⟩) (fun n st=>z10_l4 N d e (z10_l2 N l_ n72) f i n st.1 st.2) (r:=r) (fun _=>rfl) ?_ (fun ih=>?_))
  ·intro n84 ih120
   rintro ⟨o,p⟩ h
   replace h:z10_l4 N d e (z10_l2 N l_ n72) f i (n84+1) o p=some r:=h
   unfold z10_l4 at h
   refine wB' J 5 h (fun h=>wa J 2 (eSub [] (j109 o h))) fun h=>?_
   refine wO J 6 h fun q t h=>eIx J oO11 t (wa J 22 (eCut (σ:=(List T14)) (fun st=>⟨[(3,.S 1),(6,.B 8 0),(9,.B 14 0),(12,.S 0),(13,.I (l_.length:Int)),(14,.I e),(27,.S 4),(28,.I (f.Messages.length:Int)),(29,.I p)],[(1,.own rR17 d true),(7,.own rR15 i true),(8,.box [.s f.Name,.sl 3,.sl 9,.sl 7] 35),(9,.own rR16 o true),(14,.box [.s q.Name,.sl 11,.sl 15] 32),(15,.own rR14 st true)],[(0,.sl rR12 l_),(3,.sl rS f.Roles),(4,.sl rR11 f.Messages),(11,.sl rR0 q.Fields)],16⟩) (fun st=>z10_k5 o p (z10_l4 N d e (z10_l2 N l_ n72) f i n84) q st=some r) ?_ (fun j127=>?_)))
   ·intro u h
    replace h:z10_k5 o p (z10_l4 N d e (z10_l2 N l_ n72) f i n84) q u=some r:=h
    unfold z10_k5 at h
    refine wa J 4 (eBs J [15] oO16 ([(⟨q.Name,q.Fields,u⟩:T16)]:List T16) ?_)
    obtain ⟨v,x,h⟩:=ob h
    exact eAp J rR16 x (wa J 8 (eSub [(9,.sl 17)] (ih120 (v,(w64 (p+1))) h)))
   refine wa J 1 (eLoop (σ:=(List T14) × Int) (fun st=>⟨[(3,.S 1),(6,.B 8 0),(9,.B 14 0),(12,.S 0),(13,.I (l_.length:Int)),(14,.I e),(27,.S 4),(28,.I (f.Messages.length:Int)),(29,.I p),(39,.S 12),(40,.I (q.Where.length:Int)),(41,.I st.2)],[(1,.own rR17 d true),(7,.own rR15 i true),(8,.box [.s f.Name,.sl 3,.sl 9,.sl 7] 35),(9,.own rR16 o true),(14,.box [.s q.Name,.sl 11,.sl 15] 32),(15,.own rR14 st.1 true)],((0,.sl rR12 l_)::(3,.sl rS f.Roles)::(4,.sl rR11 f.Messages)::vV11 11 12 q []),16⟩) (fun n st=>z10_l6 o p (z10_l4 N d e (z10_l2 N l_ n72) f i n84) q n st.1 st.2) (r:=r) (fun _=>rfl) ?_ (fun ih=>?_))
   ·intro n86 ih129
    rintro ⟨y,z⟩ h
    replace h:z10_l6 o p (z10_l4 N d e (z10_l2 N l_ n72) f i n84) q (n86+1) y z=some r:=h
    unfold z10_l6 at h
    refine wB' J 5 h (fun h=>wa J 2 (eSub [] (j127 y h))) fun h=>?_
    refine wO J 6 h fun A C h=>eIx J oO9 C (wa J 14 (eBs J [] oO14 ([(⟨A.Left,A.Op,A.Right⟩:T14)]:List T14) ?_))
    obtain ⟨D,G,h⟩:=ob h
    exact eAp J rR14 G (wa J 8 (eSub [(15,.sl 19)] (ih129 (D,(w64 (z+1))) h)))
   exact eSub [(15,.nil)] (ih N (([]:List T14),0) h)
  exact eSub [(9,.nil)] (ih N (([]:List T16),0) h)
 exact eSub [(1,.nil)] (ih N (([]:List T17),0) h)
theorem z75_ct (N:Nat) (s1_:(List ByteArray)) (s2_:(List ByteArray)) (r:Bool) (h:z75 N s1_ s2_=some r) :
 Fn Tryz.prog 75 ⟨2,[.S 0,.S 1],[(0,.sl rS s1_),(1,.sl rS s2_)],[],2,.O r,[],[]⟩:=by
 refine eFn func75 rfl (fun E F w=>?_)
 unfold z75 at h
 refine wB J 13 h (fun h=>?_) fun h=>wa J 9 (eCut (σ:=Unit) (fun st=>⟨[],[],[(0,.sl rS s1_),(1,.sl rS s2_)],2⟩) (fun st=>z75_k1=some r) ?_ (fun j1=>?_))
 ·cases h
  exact wr J 5 func75 []
 ·intro _ h
  replace h:z75_k1=some r:=h
  unfold z75_k1 at h
  cases h
  exact wr J 4 func75 []
 refine wa J 1 (eLoop (σ:=Int) (fun st=>⟨[(0,.S 0),(1,.S 1),(12,.I (s1_.length:Int)),(13,.I st)],[],[(0,.sl rS s1_),(1,.sl rS s2_)],2⟩) (fun n st=>z75_l2 s1_ s2_ n st) (r:=r) (fun _=>rfl) ?_ (fun ih=>?_))
 ·intro n2 ih3
  intro c h
  replace h:z75_l2 s1_ s2_ (n2+1) c=some r:=h
  unfold z75_l2 at h
  refine wB' J 5 h (fun h=>wa J 2 (eSub [] (j1 () h))) fun h=>?_
  refine wO J 13 h fun d e h=>eIx J oS e ?_
  refine wO J 3 h fun f g h=>eIx J oS g (wa J 2 (eEnd ?_))
  refine eB h (fun h=>?_) fun h=>wa J 7 (eSub [] (ih3 (w64 (c+1)) h))
  cases h
  exact wr J 5 func75 []
 exact eSub [] (ih N 0 h)
theorem z132_ct (N:Nat) (s1_:(List T0)) (s2_:(List T0)) (r:Bool) (h:z132 N s1_ s2_=some r) :
 Fn Tryz.prog 132 ⟨2,[.S 0,.S 1],[(0,.sl rR0 s1_),(1,.sl rR0 s2_)],[],2,.O r,[],[]⟩:=by
 refine eFn func132 rfl (fun E F w=>?_)
 unfold z132 at h
 refine wB J 13 h (fun h=>?_) fun h=>wa J 9 (eCut (σ:=Unit) (fun st=>⟨[],[],[(0,.sl rR0 s1_),(1,.sl rR0 s2_)],2⟩) (fun st=>z132_k1=some r) ?_ (fun j1=>?_))
 ·cases h
  exact wr J 5 func132 []
 ·intro _ h
  replace h:z132_k1=some r:=h
  unfold z132_k1 at h
  cases h
  exact wr J 4 func132 []
 refine wa J 1 (eLoop (σ:=Int) (fun st=>⟨[(0,.S 0),(1,.S 1),(12,.I (s1_.length:Int)),(13,.I st)],[],[(0,.sl rR0 s1_),(1,.sl rR0 s2_)],2⟩) (fun n st=>z132_l2 s1_ s2_ n st) (r:=r) (fun _=>rfl) ?_ (fun ih=>?_))
 ·intro n2 ih3
  intro c h
  replace h:z132_l2 s1_ s2_ (n2+1) c=some r:=h
  unfold z132_l2 at h
  refine wB' J 5 h (fun h=>wa J 2 (eSub [] (j1 () h))) fun h=>?_
  refine wO J 13 h fun d e h=>eIx J oO0 e ?_
  refine wO J 3 h fun f g h=>eIx J oO0 g (wa J 1 (eEq (eEnd ?_)))
  refine eB h (fun h=>?_) fun h=>wa J 7 (eSub [] (ih3 (w64 (c+1)) h))
  cases h
  exact wr J 5 func132 []
 exact eSub [] (ih N 0 h)
theorem z133_ct (N:Nat) (s1_:(List T14)) (s2_:(List T14)) (r:Bool) (h:z133 N s1_ s2_=some r) :
 Fn Tryz.prog 133 ⟨2,[.S 0,.S 1],[(0,.sl rR14 s1_),(1,.sl rR14 s2_)],[],2,.O r,[],[]⟩:=by
 refine eFn func133 rfl (fun E F w=>?_)
 unfold z133 at h
 refine wB J 13 h (fun h=>?_) fun h=>wa J 9 (eCut (σ:=Unit) (fun st=>⟨[],[],[(0,.sl rR14 s1_),(1,.sl rR14 s2_)],2⟩) (fun st=>z133_k1=some r) ?_ (fun j1=>?_))
 ·cases h
  exact wr J 5 func133 []
 ·intro _ h
  replace h:z133_k1=some r:=h
  unfold z133_k1 at h
  cases h
  exact wr J 4 func133 []
 refine wa J 1 (eLoop (σ:=Int) (fun st=>⟨[(0,.S 0),(1,.S 1),(12,.I (s1_.length:Int)),(13,.I st)],[],[(0,.sl rR14 s1_),(1,.sl rR14 s2_)],2⟩) (fun n st=>z133_l2 s1_ s2_ n st) (r:=r) (fun _=>rfl) ?_ (fun ih=>?_))
 ·intro n2 ih3
  intro c h
  replace h:z133_l2 s1_ s2_ (n2+1) c=some r:=h
  unfold z133_l2 at h
  refine wB' J 5 h (fun h=>wa J 2 (eSub [] (j1 () h))) fun h=>?_
  refine wO J 13 h fun d e h=>eIx J oO14 e ?_
  refine wO J 3 h fun f g h=>eIx J oO14 g (wa J 1 (eEq (eEnd ?_)))
  refine eB h (fun h=>?_) fun h=>wa J 7 (eSub [] (ih3 (w64 (c+1)) h))
  cases h
  exact wr J 5 func133 []
 exact eSub [] (ih N 0 h)
theorem z77_ct (N:Nat) (m_:T16) (k_:T16) (r:Bool) (h:z77 N m_ k_=some r) :
 Fn Tryz.prog 77 ⟨4,[.a [.s m_.Name,.sl 0,.sl 1],.a [.s k_.Name,.sl 2,.sl 3]],(vV16 0 1 m_ (vV16 2 3 k_ [])),[],4,.O r,[],[]⟩:=by
 refine eFn func77 rfl (fun E F w=>?_)
 unfold z77 at h
 refine wB' J 14 h (fun h=>?_) fun h=>?_
 ·cases h
  exact wr J 15 func77 []
 refine wO J 4 h fun x1 c h=>eCl (z132_ct N m_.Fields k_.Fields _ c) [] [(0,.sl 0),(1,.sl 2)] ?_
 refine wB' J 2 h (fun h=>?_) fun h=>?_
 ·cases h
  exact wr J 8 func77 []
 refine wO J 4 h fun x2 d h=>eCl (z133_ct N m_.Where k_.Where _ d) [] [(0,.sl 1),(1,.sl 3)] ?_
 cases h
 exact wr J 3 func77 []
theorem z76_51_ct (N:Nat) (s1_:(List T16)) (s2_:(List T16)) (r:Bool) (h:z76_51 N s1_ s2_=some r) :
 Fn Tryz.prog 76 ⟨2,[.S 0,.S 1,.c (.cl 77 [] [])],[(0,.sl rR16 s1_),(1,.sl rR16 s2_)],[],2,.O r,[],[]⟩:=by
 refine eFn func76 rfl (fun E F w=>?_)
 unfold z76_51 at h
 refine wB J 13 h (fun h=>?_) fun h=>wa J 9 (eCut (σ:=Unit) (fun st=>⟨[],[],[(0,.sl rR16 s1_),(1,.sl rR16 s2_)],2⟩) (fun st=>z76_51_k1=some r) ?_ (fun j1=>?_))
 ·cases h
  exact wr J 5 func76 []
 ·intro _ h
  replace h:z76_51_k1=some r:=h
  unfold z76_51_k1 at h
  cases h
  exact wr J 4 func76 []
 refine wa J 1 (eLoop (σ:=Int) (fun st=>⟨[(1,.S 1),(2,.c (.cl 77 [] [])),(15,.S 0),(16,.I (s1_.length:Int)),(17,.I st)],[],[(0,.sl rR16 s1_),(1,.sl rR16 s2_)],2⟩) (fun n st=>z76_51_l2 N s1_ s2_ n st) (r:=r) (fun _=>rfl) ?_ (fun ih=>?_))
 ·intro n2 ih3
  intro d h
  replace h:z76_51_l2 N s1_ s2_ (n2+1) d=some r:=h
  unfold z76_51_l2 at h
  refine wB' J 5 h (fun h=>wa J 2 (eSub [] (j1 () h))) fun h=>?_
  refine wO J 7 h fun e f h=>eIx J oO16 f ?_
  refine wO J 9 h fun g i h=>eIx J oO16 i ?_
  refine wO J 9 h fun j k h=>eCl (z77_ct N e g _ k) [] [(0,.sl 3),(1,.sl 4),(2,.sl 7),(3,.sl 8)] ?_
  refine wB J 2 h (fun h=>?_) fun h=>wa J 7 (eSub [] (ih3 (w64 (d+1)) h))
  cases h
  exact wr J 5 func76 []
 exact eSub [] (ih N 0 h)
theorem z135_ct (N:Nat) (rc:(List T15)→(List T15)→Option Bool) (rc_slices_EqualFunc_syntax_Item_syntax_Item_syntax_Item_syntax_Item_of_syntax_Item_equal_ct:(∀ (s1_:(List T15)) (s2_:(List T15)) (r:Bool),rc s1_ s2_=some r→Fn Tryz.prog 78 ⟨2,[.S 0,.S 1,.c (.cl 79 [] [])],[(0,.sl rR15 s1_),(1,.sl rR15 s2_)],[],2,.O r,[],[]⟩)) (a_:(List T15)) (b_:(List T15)) (r:Bool) (h:z135 N rc a_ b_=some r) :
 Fn Tryz.prog 135 ⟨2,[.S 0,.S 1],[(0,.sl rR15 a_),(1,.sl rR15 b_)],[],2,.O r,[],[]⟩:=by
 refine eFn func135 rfl (fun E F w=>?_)
 unfold z135 at h
 refine wO J 8 h fun x1 d h=>eCl (rc_slices_EqualFunc_syntax_Item_syntax_Item_syntax_Item_syntax_Item_of_syntax_Item_equal_ct a_ b_ _ d) [] [(0,.sl 0),(1,.sl 1)] ?_
 cases h
 exact wr J 2 func135 []
theorem z134_52_ct (N:Nat) (rc:(List T15)→(List T15)→Option Bool) (rc_slices_EqualFunc_syntax_Item_syntax_Item_syntax_Item_syntax_Item_of_syntax_Item_equal_ct:(∀ (s1_:(List T15)) (s2_:(List T15)) (r:Bool),rc s1_ s2_=some r→Fn Tryz.prog 78 ⟨2,[.S 0,.S 1,.c (.cl 79 [] [])],[(0,.sl rR15 s1_),(1,.sl rR15 s2_)],[],2,.O r,[],[]⟩)) (s1_:(List (List T15))) (s2_:(List (List T15))) (r:Bool) (h:z134_52 N rc s1_ s2_=some r) :
 Fn Tryz.prog 134 ⟨2,[.S 0,.S 1,.c (.cl 135 [] [])],[(0,.sl (rSl rR15) s1_),(1,.sl (rSl rR15) s2_)],[],2,.O r,[],[]⟩:=by
 refine eFn func134 rfl (fun E F w=>?_)
 unfold z134_52 at h
 refine wB J 13 h (fun h=>?_) fun h=>wa J 9 (eCut (σ:=Unit) (fun st=>⟨[],[],[(0,.sl (rSl rR15) s1_),(1,.sl (rSl rR15) s2_)],2⟩) (fun st=>z134_52_k1=some r) ?_ (fun j1=>?_))
 ·cases h
  exact wr J 5 func134 []
 ·intro _ h
  replace h:z134_52_k1=some r:=h
  unfold z134_52_k1 at h
  cases h
  exact wr J 4 func134 []
 refine wa J 1 (eLoop (σ:=Int) (fun st=>⟨[(1,.S 1),(2,.c (.cl 135 [] [])),(15,.S 0),(16,.I (s1_.length:Int)),(17,.I st)],[],[(0,.sl (rSl rR15) s1_),(1,.sl (rSl rR15) s2_)],2⟩) (fun n st=>z134_52_l2 N rc s1_ s2_ n st) (r:=r) (fun _=>rfl) ?_ (fun ih=>?_))
 ·intro n2 ih3
  intro d h
  replace h:z134_52_l2 N rc s1_ s2_ (n2+1) d=some r:=h
  unfold z134_52_l2 at h
  refine wB' J 5 h (fun h=>wa J 2 (eSub [] (j1 () h))) fun h=>?_
  refine wO J 7 h fun e f h=>eIx J (oSl rR15) f ?_
  refine wO J 8 h fun g i h=>eIx J (oSl rR15) i ?_
  refine wO J 8 h fun j k h=>eCl (z135_ct N rc rc_slices_EqualFunc_syntax_Item_syntax_Item_syntax_Item_syntax_Item_of_syntax_Item_equal_ct e g _ k) [] [(0,.sl 3),(1,.sl 5)] ?_
  refine wB J 2 h (fun h=>?_) fun h=>wa J 7 (eSub [] (ih3 (w64 (d+1)) h))
  cases h
  exact wr J 5 func134 []
 exact eSub [] (ih N 0 h)
theorem z79_ct (N:Nat) (rc:(List T15)→(List T15)→Option Bool) (rc_slices_EqualFunc_syntax_Item_syntax_Item_syntax_Item_syntax_Item_of_syntax_Item_equal_ct:(∀ (s1_:(List T15)) (s2_:(List T15)) (r:Bool),rc s1_ s2_=some r→Fn Tryz.prog 78 ⟨2,[.S 0,.S 1,.c (.cl 79 [] [])],[(0,.sl rR15 s1_),(1,.sl rR15 s2_)],[],2,.O r,[],[]⟩)) (x_:T15) (y_:T15) (r:Bool) (h:z79 N rc x_ y_=some r) :
 Fn Tryz.prog 79 ⟨4,[.a [.I x_.Kind,.s x_.From,.sl 0,.s x_.Name,.s x_.As,.I x_.Ticks,.sl 1],.a [.I y_.Kind,.s y_.From,.sl 2,.s y_.Name,.s y_.As,.I y_.Ticks,.sl 3]],[(0,.sl rS x_.To),(1,.sl (rSl rR15) x_.Blocks),(2,.sl rS y_.To),(3,.sl (rSl rR15) y_.Blocks)],[],4,.O r,[],[]⟩:=by
 refine eFn func79 rfl (fun E F w=>?_)
 unfold z79 at h
 refine wB' J 14 h (fun h=>?_) fun h=>?_
 ·cases h
  exact wr J 43 func79 []
 refine wB' J 7 h (fun h=>?_) fun h=>?_
 ·cases h
  exact wr J 36 func79 []
 refine wO J 4 h fun x1 d h=>eCl (z75_ct N x_.To y_.To _ d) [] [(0,.sl 0),(1,.sl 2)] ?_
 refine wB' J 2 h (fun h=>?_) fun h=>?_
 ·cases h
  exact wr J 29 func79 []
 refine wB' J 7 h (fun h=>?_) fun h=>?_
 ·cases h
  exact wr J 22 func79 []
 refine wB' J 7 h (fun h=>?_) fun h=>?_
 ·cases h
  exact wr J 15 func79 []
 refine wB' J 7 h (fun h=>?_) fun h=>?_
 ·cases h
  exact wr J 8 func79 []
 refine wO J 4 h fun x2 e h=>eCl (z134_52_ct N rc rc_slices_EqualFunc_syntax_Item_syntax_Item_syntax_Item_syntax_Item_of_syntax_Item_equal_ct x_.Blocks y_.Blocks _ e) [] [(0,.sl 1),(1,.sl 3)] ?_
 cases h
 exact wr J 3 func79 []
theorem z78_53_b_ct (N:Nat) (rc:(List T15)→(List T15)→Option Bool) (rc_slices_EqualFunc_syntax_Item_syntax_Item_syntax_Item_syntax_Item_of_syntax_Item_equal_ct:(∀ (s1_:(List T15)) (s2_:(List T15)) (r:Bool),rc s1_ s2_=some r→Fn Tryz.prog 78 ⟨2,[.S 0,.S 1,.c (.cl 79 [] [])],[(0,.sl rR15 s1_),(1,.sl rR15 s2_)],[],2,.O r,[],[]⟩)) (s1_:(List T15)) (s2_:(List T15)) (r:Bool) (h:z78_53_b N rc s1_ s2_=some r) :
 Fn Tryz.prog 78 ⟨2,[.S 0,.S 1,.c (.cl 79 [] [])],[(0,.sl rR15 s1_),(1,.sl rR15 s2_)],[],2,.O r,[],[]⟩:=by
 refine eFn func78 rfl (fun E F w=>?_)
 unfold z78_53_b at h
 refine wB J 13 h (fun h=>?_) fun h=>wa J 9 (eCut (σ:=Unit) (fun st=>⟨[],[],[(0,.sl rR15 s1_),(1,.sl rR15 s2_)],2⟩) (fun st=>z78_53_k1=some r) ?_ (fun j1=>?_))
 ·cases h
  exact wr J 5 func78 []
 ·intro _ h
  replace h:z78_53_k1=some r:=h
  unfold z78_53_k1 at h
  cases h
  exact wr J 4 func78 []
 refine wa J 1 (eLoop (σ:=Int) (fun st=>⟨[(1,.S 1),(2,.c (.cl 79 [] [])),(15,.S 0),(16,.I (s1_.length:Int)),(17,.I st)],[],[(0,.sl rR15 s1_),(1,.sl rR15 s2_)],2⟩) (fun n st=>z78_53_l2 N rc s1_ s2_ n st) (r:=r) (fun _=>rfl) ?_ (fun ih=>?_))
 ·intro n2 ih3
  intro d h
  replace h:z78_53_l2 N rc s1_ s2_ (n2+1) d=some r:=h
  unfold z78_53_l2 at h
  refine wB' J 5 h (fun h=>wa J 2 (eSub [] (j1 () h))) fun h=>?_
  refine wO J 7 h fun e f h=>eIx J oO15 f ?_
  refine wO J 9 h fun g i h=>eIx J oO15 i ?_
  refine wO J 9 h fun j k h=>eCl (z79_ct N rc rc_slices_EqualFunc_syntax_Item_syntax_Item_syntax_Item_syntax_Item_of_syntax_Item_equal_ct e g _ k) [] [(0,.sl 3),(1,.sl 4),(2,.sl 7),(3,.sl 8)] ?_
  refine wB J 2 h (fun h=>?_) fun h=>wa J 7 (eSub [] (ih3 (w64 (d+1)) h))
  cases h
  exact wr J 5 func78 []
 exact eSub [] (ih N 0 h)
theorem z78_53_rct:∀ (N:Nat) (s1_:(List T15)) (s2_:(List T15)) (r:Bool) (h:z78_53_r N s1_ s2_=some r),Fn Tryz.prog 78 ⟨2,[.S 0,.S 1,.c (.cl 79 [] [])],[(0,.sl rR15 s1_),(1,.sl rR15 s2_)],[],2,.O r,[],[]⟩:=by
 intro N
 induction N with
 | zero=>intros;rename_i h;cases h
 | succ N ih=>intro s1_ s2_ r h;exact z78_53_b_ct N (z78_53_r N) ih s1_ s2_ r h
theorem z78_53_ct (N:Nat) (s1_:(List T15)) (s2_:(List T15)) (r:Bool) (h:z78_53 N s1_ s2_=some r):Fn Tryz.prog 78 ⟨2,[.S 0,.S 1,.c (.cl 79 [] [])],[(0,.sl rR15 s1_),(1,.sl rR15 s2_)],[],2,.O r,[],[]⟩:=z78_53_rct N s1_ s2_ r h
theorem z31_ct (N:Nat) (p_:T17) (q_:T17) (r:Bool) (h:z31 N p_ q_=some r) :
 Fn Tryz.prog 31 ⟨6,[.a [.s p_.Name,.sl 0,.sl 1,.sl 2],.a [.s q_.Name,.sl 3,.sl 4,.sl 5]],(vV17 0 1 2 p_ (vV17 3 4 5 q_ [])),[],6,.O r,[],[]⟩:=by
 refine eFn func31 rfl (fun E F w=>?_)
 unfold z31 at h
 refine wB' J 14 h (fun h=>?_) fun h=>?_
 ·cases h
  exact wr J 22 func31 []
 refine wO J 4 h fun x1 c h=>eCl (z75_ct N p_.Roles q_.Roles _ c) [] [(0,.sl 0),(1,.sl 3)] ?_
 refine wB' J 2 h (fun h=>?_) fun h=>?_
 ·cases h
  exact wr J 15 func31 []
 refine wO J 4 h fun x2 d h=>eCl (z76_51_ct N p_.Messages q_.Messages _ d) [] [(0,.sl 1),(1,.sl 4)] ?_
 refine wB' J 2 h (fun h=>?_) fun h=>?_
 ·cases h
  exact wr J 8 func31 []
 refine wO J 4 h fun x3 e h=>eCl (z78_53_ct N p_.Body q_.Body _ e) [] [(0,.sl 2),(1,.sl 5)] ?_
 cases h
 exact wr J 3 func31 []
end Gx
end
