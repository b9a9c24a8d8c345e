/- Each function of the statement computes what its plain definition says, part 2. -/
import Derived.Test.YtknelkokbekhnaaGreatDoorNamesRenameWalk1
set_option linter.all false
section
set_option maxRecDepth 10000
set_option maxHeartbeats 4000000
open Go Go.Kx Go.Proofs Tryz
namespace Gx
theorem z29_b_ct (N:Nat) (rc:T5→(List T13)→(List T6)→Option T5) (rc_Pnames_checker_items_ct:(∀ (c_:T5) (l_:(List T13)) (loops_:(List T6)) (r:T5),rc c_ l_ loops_=some r→Fn Tryz.prog 29 ⟨8,[.B 0 0,.S 6,.S 7],((1,.sl rR15 c_.all')::vV15 2 3 4 c_.p' [(6,.sl rR13 l_),(7,.sl rR6 loops_)]),[(0,.box (cC5 1 2 3 4 5 c_) 65),(5,.own rS c_.calls' false)],13,.t [],((8,.sl rR15 r.all')::vV15 9 10 11 r.p' []),[(5,.gone),(12,.own rS r.calls' false),(0,.box (cC5 8 9 10 11 12 r) 65)]⟩)) (c_:T5) (l_:(List T13)) (loops_:(List T6)) (r:T5) (h:z29_b N rc c_ l_ loops_=some r) :
 Fn Tryz.prog 29 ⟨8,[.B 0 0,.S 6,.S 7],((1,.sl rR15 c_.all')::vV15 2 3 4 c_.p' [(6,.sl rR13 l_),(7,.sl rR6 loops_)]),[(0,.box (cC5 1 2 3 4 5 c_) 65),(5,.own rS c_.calls' false)],13,.t [],((8,.sl rR15 r.all')::vV15 9 10 11 r.p' []),[(5,.gone),(12,.own rS r.calls' false),(0,.box (cC5 8 9 10 11 12 r) 65)]⟩:=by
 refine eFn func29 rfl (fun E F w=>?_)
 unfold z29_b at h
 refine wa J 6 (eCut (σ:=(List T15) × ByteArray × (List ByteArray) × (List T14) × (List T13) × (List ByteArray) × ByteArray × ByteArray × Int) (fun st=>(zz22 st.2.1 st.2.2.2.2.2.2.1 st.2.2.2.2.2.2.2.1 st.2.2.2.2.2.2.2.2 st.2.2.2.2.2.1 c_.all' c_.p' l_ loops_ st.1 st.2.2.1 st.2.2.2.1 st.2.2.2.2.1 [])) (fun st=>z29_k1 st.1 st.2.1 st.2.2.1 st.2.2.2.1 st.2.2.2.2.1 st.2.2.2.2.2.1 st.2.2.2.2.2.2.1 st.2.2.2.2.2.2.2.1 st.2.2.2.2.2.2.2.2=some r) ?_ (fun j1=>?_))
 ·rintro ⟨vbk0_0_0_1,vbk0_0_1_1,vbk0_0_2_1,vbk0_0_3_1,vbk0_0_4_1,vbk0_0_5_1,vbk0_0_6_1,vbk0_0_7_1,vbk0_0_8_1⟩ h
  replace h:z29_k1 vbk0_0_0_1 vbk0_0_1_1 vbk0_0_2_1 vbk0_0_3_1 vbk0_0_4_1 vbk0_0_5_1 vbk0_0_6_1 vbk0_0_7_1 vbk0_0_8_1=some r:=h
  unfold z29_k1 at h
  cases h
  exact eRet J func29 [(8,.sl 8),(9,.sl 9),(10,.sl 10),(11,.sl 11),(12,.sl 12)]
 refine wa J 1 (eLoop (σ:=(List T15) × ByteArray × (List ByteArray) × (List T14) × (List T13) × (List ByteArray) × ByteArray × ByteArray × Int × Int) (fun st=>(zz22 st.2.1 st.2.2.2.2.2.2.1 st.2.2.2.2.2.2.2.1 st.2.2.2.2.2.2.2.2.1 st.2.2.2.2.2.1 c_.all' c_.p' l_ loops_ st.1 st.2.2.1 st.2.2.2.1 st.2.2.2.2.1 [(0,.B 0 0),(1,.S 6),(2,.S 7),(14,.S 6),(15,.I (l_.length:Int)),(16,.I st.2.2.2.2.2.2.2.2.2)])) (fun n st=>z29_l2 N rc l_ loops_ n st.1 st.2.1 st.2.2.1 st.2.2.2.1 st.2.2.2.2.1 st.2.2.2.2.2.1 st.2.2.2.2.2.2.1 st.2.2.2.2.2.2.2.1 st.2.2.2.2.2.2.2.2.1 st.2.2.2.2.2.2.2.2.2) (r:=r) (fun _=>rfl) ?_ (fun ih=>?_))
 ·intro n32 ih33
  rintro ⟨vbk0_0_0_33,vbk0_0_1_33,vbk0_0_2_33,vbk0_0_3_33,vbk0_0_4_33,vbk0_0_5_33,vbk0_0_6_33,vbk0_0_7_33,vbk0_0_8_33,c⟩ h
  replace h:z29_l2 N rc l_ loops_ (n32+1) vbk0_0_0_33 vbk0_0_1_33 vbk0_0_2_33 vbk0_0_3_33 vbk0_0_4_33 vbk0_0_5_33 vbk0_0_6_33 vbk0_0_7_33 vbk0_0_8_33 c=some r:=h
  unfold z29_l2 at h
  refine wB' J 5 h (fun h=>wa J 2 (eSub [] (j1 (vbk0_0_0_33,vbk0_0_1_33,vbk0_0_2_33,vbk0_0_3_33,vbk0_0_4_33,vbk0_0_5_33,vbk0_0_6_33,vbk0_0_7_33,vbk0_0_8_33) h))) fun h=>?_
  refine wO J 7 h fun d e h=>eIx J oO13 e ?_
  refine wO J 8 h fun f g h=>eCl (z52_ct N loops_ _ g) [] [(0,.sl 7)] (wa J 9 (eCut (σ:=(List T6)) (fun st=>(zz23 vbk0_0_1_33 vbk0_0_6_33 vbk0_0_7_33 vbk0_0_8_33 vbk0_0_5_33 d.Kind d.From d.Name d.As d.Ticks st c_.all' c_.p' l_ loops_ vbk0_0_0_33 vbk0_0_2_33 vbk0_0_3_33 vbk0_0_4_33 d.To d.Blocks [(0,.B 0 0),(1,.S 6),(2,.S 7),(7,.B 16 0),(8,.S 17),(14,.S 6),(15,.I (l_.length:Int)),(16,.I c)])) (fun st=>z29_k8 N rc vbk0_0_0_33 vbk0_0_1_33 vbk0_0_2_33 vbk0_0_3_33 vbk0_0_4_33 vbk0_0_5_33 vbk0_0_6_33 vbk0_0_7_33 vbk0_0_8_33 c (z29_l2 N rc l_ loops_ n32) d st=some r) ?_ (fun j54=>?_)))
  ·intro i h
   replace h:z29_k8 N rc vbk0_0_0_33 vbk0_0_1_33 vbk0_0_2_33 vbk0_0_3_33 vbk0_0_4_33 vbk0_0_5_33 vbk0_0_6_33 vbk0_0_7_33 vbk0_0_8_33 c (z29_l2 N rc l_ loops_ n32) d i=some r:=h
   unfold z29_k8 at h
   refine wa J 12 (eCut (σ:=(List T15) × ByteArray × (List ByteArray) × (List T14) × (List T13) × (List ByteArray) × ByteArray × ByteArray × Int × (List T6)) (fun st=>(zz9 st.2.1 st.2.2.2.2.2.2.1 st.2.2.2.2.2.2.2.1 st.2.2.2.2.2.2.2.2.1 d.Kind d.From d.Name d.As d.Ticks st.2.2.2.2.2.1 st.2.2.2.2.2.2.2.2.2 c_.all' c_.p' l_ loops_ d.To d.Blocks st.1 st.2.2.1 st.2.2.2.1 st.2.2.2.2.1 [(0,.B 0 0),(1,.S 6),(2,.S 7),(7,.B 16 0),(8,.S 23),(14,.S 6),(15,.I (l_.length:Int)),(16,.I c)])) (fun st=>z29_k7 N rc c (z29_l2 N rc l_ loops_ n32) d st.1 st.2.1 st.2.2.1 st.2.2.2.1 st.2.2.2.2.1 st.2.2.2.2.2.1 st.2.2.2.2.2.2.1 st.2.2.2.2.2.2.2.1 st.2.2.2.2.2.2.2.2.1 st.2.2.2.2.2.2.2.2.2=some r) ?_ (fun j56=>?_))
   ·rintro ⟨vbk0_0_0_56,vbk0_0_1_56,vbk0_0_2_56,vbk0_0_3_56,vbk0_0_4_56,vbk0_0_5_56,vbk0_0_6_56,vbk0_0_7_56,vbk0_0_8_56,j⟩ h
    replace h:z29_k7 N rc c (z29_l2 N rc l_ loops_ n32) d vbk0_0_0_56 vbk0_0_1_56 vbk0_0_2_56 vbk0_0_3_56 vbk0_0_4_56 vbk0_0_5_56 vbk0_0_6_56 vbk0_0_7_56 vbk0_0_8_56 j=some r:=h
    unfold z29_k7 at h
    refine wa J 8 (eCut (σ:=(List T6)) (fun st=>(zz9 vbk0_0_1_56 vbk0_0_6_56 vbk0_0_7_56 vbk0_0_8_56 d.Kind d.From d.Name d.As d.Ticks vbk0_0_5_56 st c_.all' c_.p' l_ loops_ d.To d.Blocks vbk0_0_0_56 vbk0_0_2_56 vbk0_0_3_56 vbk0_0_4_56 [(0,.B 0 0),(1,.S 6),(2,.S 7),(7,.B 16 0),(8,.S 23),(14,.S 6),(15,.I (l_.length:Int)),(16,.I c)])) (fun st=>z29_k5 N rc c (z29_l2 N rc l_ loops_ n32) d vbk0_0_0_56 vbk0_0_1_56 vbk0_0_2_56 vbk0_0_3_56 vbk0_0_4_56 vbk0_0_5_56 vbk0_0_6_56 vbk0_0_7_56 vbk0_0_8_56 st=some r) ?_ (fun j57=>?_))
    ·intro k h
     replace h:z29_k5 N rc c (z29_l2 N rc l_ loops_ n32) d vbk0_0_0_56 vbk0_0_1_56 vbk0_0_2_56 vbk0_0_3_56 vbk0_0_4_56 vbk0_0_5_56 vbk0_0_6_56 vbk0_0_7_56 vbk0_0_8_56 k=some r:=h
     unfold z29_k5 at h
     refine wa J 7 (eCut (σ:=(List T15) × ByteArray × (List ByteArray) × (List T14) × (List T13) × (List ByteArray) × ByteArray × ByteArray × Int) (fun st=>⟨[(0,.B 0 0),(1,.S 6),(2,.S 7),(14,.S 6),(15,.I (l_.length:Int)),(16,.I c)],[(0,.box [.sl 24,.s st.2.1,.sl 25,.sl 26,.sl 27,.sl 28,.s st.2.2.2.2.2.2.1,.s st.2.2.2.2.2.2.2.1,.I st.2.2.2.2.2.2.2.2] 65),(28,.own rS st.2.2.2.2.2.1 false)],((1,.sl rR15 c_.all')::vV15 2 3 4 c_.p' [(6,.sl rR13 l_),(7,.sl rR6 loops_),(24,.sl rR15 st.1),(25,.sl rS st.2.2.1),(26,.sl rR14 st.2.2.2.1),(27,.sl rR13 st.2.2.2.2.1)]),29⟩) (fun st=>z29_k3 c (z29_l2 N rc l_ loops_ n32) st.1 st.2.1 st.2.2.1 st.2.2.2.1 st.2.2.2.2.1 st.2.2.2.2.2.1 st.2.2.2.2.2.2.1 st.2.2.2.2.2.2.2.1 st.2.2.2.2.2.2.2.2=some r) ?_ (fun j59=>?_))
     ·rintro ⟨vbk0_0_0_59,vbk0_0_1_59,vbk0_0_2_59,vbk0_0_3_59,vbk0_0_4_59,vbk0_0_5_59,vbk0_0_6_59,vbk0_0_7_59,vbk0_0_8_59⟩ h
      replace h:z29_k3 c (z29_l2 N rc l_ loops_ n32) vbk0_0_0_59 vbk0_0_1_59 vbk0_0_2_59 vbk0_0_3_59 vbk0_0_4_59 vbk0_0_5_59 vbk0_0_6_59 vbk0_0_7_59 vbk0_0_8_59=some r:=h
      unfold z29_k3 at h
      exact wa J 5 (eSub [(8,.sl 24),(9,.sl 25),(10,.sl 26),(11,.sl 27),(12,.sl 28)] (ih33 (vbk0_0_0_59,vbk0_0_1_59,vbk0_0_2_59,vbk0_0_3_59,vbk0_0_4_59,vbk0_0_5_59,vbk0_0_6_59,vbk0_0_7_59,vbk0_0_8_59,(w64 (c+1))) h))
     refine wa J 1 (eLoop (σ:=(List T15) × ByteArray × (List ByteArray) × (List T14) × (List T13) × (List ByteArray) × ByteArray × ByteArray × Int × Int) (fun st=>⟨[(0,.B 0 0),(1,.S 6),(2,.S 7),(8,.S 23),(14,.S 6),(15,.I (l_.length:Int)),(16,.I c),(123,.S 15),(124,.I (d.Blocks.length:Int)),(125,.I st.2.2.2.2.2.2.2.2.2)],[(0,.box [.sl 24,.s st.2.1,.sl 25,.sl 26,.sl 27,.sl 28,.s st.2.2.2.2.2.2.1,.s st.2.2.2.2.2.2.2.1,.I st.2.2.2.2.2.2.2.2.1] 65),(28,.own rS st.2.2.2.2.2.1 false)],((1,.sl rR15 c_.all')::vV15 2 3 4 c_.p' [(6,.sl rR13 l_),(7,.sl rR6 loops_),(15,.sl (rSl rR13) d.Blocks),(23,.sl rR6 k),(24,.sl rR15 st.1),(25,.sl rS st.2.2.1),(26,.sl rR14 st.2.2.2.1),(27,.sl rR13 st.2.2.2.2.1)]),29⟩) (fun n st=>z29_l4 rc c (z29_l2 N rc l_ loops_ n32) d k n st.1 st.2.1 st.2.2.1 st.2.2.2.1 st.2.2.2.2.1 st.2.2.2.2.2.1 st.2.2.2.2.2.2.1 st.2.2.2.2.2.2.2.1 st.2.2.2.2.2.2.2.2.1 st.2.2.2.2.2.2.2.2.2) (r:=r) (fun _=>rfl) ?_ (fun ih=>?_))
     ·intro n36 ih61
      rintro ⟨vbk0_0_0_61,vbk0_0_1_61,vbk0_0_2_61,vbk0_0_3_61,vbk0_0_4_61,vbk0_0_5_61,vbk0_0_6_61,vbk0_0_7_61,vbk0_0_8_61,l⟩ h
      replace h:z29_l4 rc c (z29_l2 N rc l_ loops_ n32) d k (n36+1) vbk0_0_0_61 vbk0_0_1_61 vbk0_0_2_61 vbk0_0_3_61 vbk0_0_4_61 vbk0_0_5_61 vbk0_0_6_61 vbk0_0_7_61 vbk0_0_8_61 l=some r:=h
      unfold z29_l4 at h
      refine wB' J 5 h (fun h=>wa J 2 (eSub [] (j59 (vbk0_0_0_61,vbk0_0_1_61,vbk0_0_2_61,vbk0_0_3_61,vbk0_0_4_61,vbk0_0_5_61,vbk0_0_6_61,vbk0_0_7_61,vbk0_0_8_61) h))) fun h=>?_
      refine wO J 6 h fun m o h=>eIx J (oSl rR13) o ?_
      exact wO J 7 h fun p q h=>eCl (rc_Pnames_checker_items_ct (⟨vbk0_0_0_61,(⟨vbk0_0_1_61,vbk0_0_2_61,vbk0_0_3_61,vbk0_0_4_61⟩:T15),vbk0_0_5_61,(⟨vbk0_0_6_61,vbk0_0_7_61,vbk0_0_8_61⟩:T4)⟩:T5) m k _ q) [] [(0,.bp 0 0),(1,.sl 24),(2,.sl 25),(3,.sl 26),(4,.sl 27),(5,.sl 28),(6,.sl 30),(7,.sl 23)] (wa J 6 (eSub [(24,.sl 31),(25,.sl 32),(26,.sl 33),(27,.sl 34),(28,.sl 35)] (ih61 (p.all',p.p'.Name,p.p'.Roles,p.p'.Messages,p.p'.Body,p.calls',p.out'.Protocol,p.out'.Name,p.out'.Err,(w64 (l+1))) h)))
     exact eFr [23] (eSub [(24,.sl 18),(25,.sl 19),(26,.sl 20),(27,.sl 21),(28,.sl 22)] (ih N (vbk0_0_0_56,vbk0_0_1_56,vbk0_0_2_56,vbk0_0_3_56,vbk0_0_4_56,vbk0_0_5_56,vbk0_0_6_56,vbk0_0_7_56,vbk0_0_8_56,0) h))
    refine wa J 1 (eLoop (σ:=(List T6) × Int) (fun st=>(zz9 vbk0_0_1_56 vbk0_0_6_56 vbk0_0_7_56 vbk0_0_8_56 d.Kind d.From d.Name d.As d.Ticks vbk0_0_5_56 st.1 c_.all' c_.p' l_ loops_ d.To d.Blocks vbk0_0_0_56 vbk0_0_2_56 vbk0_0_3_56 vbk0_0_4_56 [(0,.B 0 0),(1,.S 6),(2,.S 7),(7,.B 16 0),(8,.S 23),(14,.S 6),(15,.I (l_.length:Int)),(16,.I c),(103,.I (j.length:Int)),(104,.I st.2)])) (fun n st=>z29_l6 N rc c (z29_l2 N rc l_ loops_ n32) d vbk0_0_0_56 vbk0_0_1_56 vbk0_0_2_56 vbk0_0_3_56 vbk0_0_4_56 vbk0_0_5_56 vbk0_0_6_56 vbk0_0_7_56 vbk0_0_8_56 j n st.1 st.2) (r:=r) (fun _=>rfl) ?_ (fun ih=>?_))
    ·intro n37 ih62
     rintro ⟨u,v⟩ h
     replace h:z29_l6 N rc c (z29_l2 N rc l_ loops_ n32) d vbk0_0_0_56 vbk0_0_1_56 vbk0_0_2_56 vbk0_0_3_56 vbk0_0_4_56 vbk0_0_5_56 vbk0_0_6_56 vbk0_0_7_56 vbk0_0_8_56 j (n37+1) u v=some r:=h
     unfold z29_l6 at h
     refine wB' J 5 h (fun h=>wa J 2 (eSub [] (j57 u h))) fun h=>?_
     refine wO J 14 h fun x y h=>eIo J rR6 y (wa J 1 (eLd J oO6 y ?_))
     refine wB J 1 h (fun h=>?_) fun h=>?_
     ·exact wO J 4 h fun z A h=>eIo J rR6 A (wa J 1 (eSt J [] oO6 (⟨z.name',z.tail',true⟩:T6) A (wa J 6 (eSub [] (ih62 ((setL' u v (⟨z.name',z.tail',true⟩:T6)),(w64 (v+1))) h)))))
     exact wO J 4 h fun C D h=>eIo J rR6 D (wa J 1 (eSt J [] oO6 (⟨C.name',C.tail',(d.Kind==5)⟩:T6) D (wa J 6 (eSub [] (ih62 ((setL' u v (⟨C.name',C.tail',(d.Kind==5)⟩:T6)),(w64 (v+1))) h)))))
    exact eSub [] (ih N (j,0) h)
   refine eB h (fun h=>?_) fun h=>?_
   ·exact wO J 4 h fun G H h=>eCl (z53_ct N (⟨vbk0_0_0_33,(⟨vbk0_0_1_33,vbk0_0_2_33,vbk0_0_3_33,vbk0_0_4_33⟩:T15),vbk0_0_5_33,(⟨vbk0_0_6_33,vbk0_0_7_33,vbk0_0_8_33⟩:T4)⟩:T5) d _ H) [] [(0,.bp 0 0),(1,.sl 8),(2,.sl 9),(3,.sl 10),(4,.sl 11),(5,.sl 12),(6,.sl 14),(7,.sl 15)] (wa J 1 (eSub [(23,.sl 17)] (j56 (G.all',G.p'.Name,G.p'.Roles,G.p'.Messages,G.p'.Body,G.calls',G.out'.Protocol,G.out'.Name,G.out'.Err,i) h)))
   refine wB J 6 h (fun h=>wa J 5 (eBs J [] oS ([d.From]:List ByteArray) ?_)) fun h=>?_
   ·obtain ⟨R,T,h⟩:=ob h
    exact eCl (z54_ct N (⟨vbk0_0_0_33,(⟨vbk0_0_1_33,vbk0_0_2_33,vbk0_0_3_33,vbk0_0_4_33⟩:T15),vbk0_0_5_33,(⟨vbk0_0_6_33,vbk0_0_7_33,vbk0_0_8_33⟩:T4)⟩:T5) ([d.From]:List ByteArray) 0 _ T) [18] [(0,.bp 0 0),(1,.sl 8),(2,.sl 9),(3,.sl 10),(4,.sl 11),(5,.sl 12),(6,.sl 18)] (wa J 1 (eSub [(18,.sl 19),(19,.sl 20),(20,.sl 21),(21,.sl 22),(22,.sl 23),(23,.sl 17)] (j56 (R.all',R.p'.Name,R.p'.Roles,R.p'.Messages,R.p'.Body,R.calls',R.out'.Protocol,R.out'.Name,R.out'.Err,i) h)))
   refine wB J 6 h (fun h=>?_) fun h=>?_
   ·refine wO J 6 h fun U X h=>eCb (z55_35_ct N i d _ X) [] [(0,.sl 17),(1,.bp 16 0),(2,.sl 14),(3,.sl 15)] [17] (.inr ⟨rfl,trivial⟩) ?_
    refine wB' J 1 h (fun h=>wa J 7 (eBs J [] oO6 ([(⟨d.Name,true,false⟩:T6)]:List T6) ?_)) fun h=>?_
    ·obtain ⟨Y,Z,h⟩:=ob h
     exact eAp J rR6 Z (wa J 2 (eSub [(18,.sl 8),(19,.sl 9),(20,.sl 10),(21,.sl 11),(22,.sl 12),(23,.sl 19)] (j56 (vbk0_0_0_33,vbk0_0_1_33,vbk0_0_2_33,vbk0_0_3_33,vbk0_0_4_33,vbk0_0_5_33,vbk0_0_6_33,vbk0_0_7_33,vbk0_0_8_33,Y) h)))
    refine wO J 5 h fun a0 b0 h=>eCl (z25_ct N (⟨vbk0_0_0_33,(⟨vbk0_0_1_33,vbk0_0_2_33,vbk0_0_3_33,vbk0_0_4_33⟩:T15),vbk0_0_5_33,(⟨vbk0_0_6_33,vbk0_0_7_33,vbk0_0_8_33⟩:T4)⟩:T5) d.Name 9 _ b0) [] [(0,.bp 0 0),(1,.sl 8),(2,.sl 9),(3,.sl 10),(4,.sl 11),(5,.sl 12)] (wa J 6 (eBs J [] oO6 ([(⟨d.Name,true,false⟩:T6)]:List T6) ?_))
    obtain ⟨c0,d0,h⟩:=ob h
    exact eAp J rR6 d0 (wa J 2 (eSub [(23,.sl 24)] (j56 (a0.all',a0.p'.Name,a0.p'.Roles,a0.p'.Messages,a0.p'.Body,a0.calls',a0.out'.Protocol,a0.out'.Name,a0.out'.Err,c0) h)))
   refine wB' J 6 h (fun h=>?_) fun h=>?_
   ·refine wB' J 6 h (fun h=>wa J 2 (eSub [(18,.sl 8),(19,.sl 9),(20,.sl 10),(21,.sl 11),(22,.sl 12),(23,.sl 17)] (j56 (vbk0_0_0_33,vbk0_0_1_33,vbk0_0_2_33,vbk0_0_3_33,vbk0_0_4_33,vbk0_0_5_33,vbk0_0_6_33,vbk0_0_7_33,vbk0_0_8_33,i) h))) fun h=>?_
    exact wO J 4 h fun e0 f0 h=>eCl (z59_ct N (⟨vbk0_0_0_33,(⟨vbk0_0_1_33,vbk0_0_2_33,vbk0_0_3_33,vbk0_0_4_33⟩:T15),vbk0_0_5_33,(⟨vbk0_0_6_33,vbk0_0_7_33,vbk0_0_8_33⟩:T4)⟩:T5) d _ f0) [] [(0,.bp 0 0),(1,.sl 8),(2,.sl 9),(3,.sl 10),(4,.sl 11),(5,.sl 12),(6,.sl 14),(7,.sl 15)] (wa J 1 (eSub [(23,.sl 17)] (j56 (e0.all',e0.p'.Name,e0.p'.Roles,e0.p'.Messages,e0.p'.Body,e0.calls',e0.out'.Protocol,e0.out'.Name,e0.out'.Err,i) h)))
   refine wO J 5 h fun g0 i0 h=>eCb (z57_37_ct N i d _ i0) [] [(0,.sl 17),(1,.bp 16 0),(2,.sl 14),(3,.sl 15)] [17] (.inr ⟨rfl,trivial⟩) ?_
   refine wB J 9 h (fun h=>?_) fun h=>?_
   ·exact wO J 5 h fun j0 k0 h=>eCl (z25_ct N (⟨vbk0_0_0_33,(⟨vbk0_0_1_33,vbk0_0_2_33,vbk0_0_3_33,vbk0_0_4_33⟩:T15),vbk0_0_5_33,(⟨vbk0_0_6_33,vbk0_0_7_33,vbk0_0_8_33⟩:T4)⟩:T5) d.Name 10 _ k0) [] [(0,.bp 0 0),(1,.sl 8),(2,.sl 9),(3,.sl 10),(4,.sl 11),(5,.sl 12)] (wa J 2 (eSub [(23,.sl 17)] (j56 (j0.all',j0.p'.Name,j0.p'.Roles,j0.p'.Messages,j0.p'.Body,j0.calls',j0.out'.Protocol,j0.out'.Name,j0.out'.Err,i) h)))
   refine wO J 5 h fun l0 m0 h=>eIo J rR6 m0 (wa J 1 (eLd J oO6 m0 ?_))
   refine wB' J 3 h (fun h=>wa J 3 (eSub [(18,.sl 8),(19,.sl 9),(20,.sl 10),(21,.sl 11),(22,.sl 12),(23,.sl 17)] (j56 (vbk0_0_0_33,vbk0_0_1_33,vbk0_0_2_33,vbk0_0_3_33,vbk0_0_4_33,vbk0_0_5_33,vbk0_0_6_33,vbk0_0_7_33,vbk0_0_8_33,i) h))) fun h=>?_
   exact wO J 5 h fun o0 p0 h=>eCl (z25_ct N (⟨vbk0_0_0_33,(⟨vbk0_0_1_33,vbk0_0_2_33,vbk0_0_3_33,vbk0_0_4_33⟩:T15),vbk0_0_5_33,(⟨vbk0_0_6_33,vbk0_0_7_33,vbk0_0_8_33⟩:T4)⟩:T5) d.Name 7 _ p0) [] [(0,.bp 0 0),(1,.sl 8),(2,.sl 9),(3,.sl 10),(4,.sl 11),(5,.sl 12)] (wa J 2 (eSub [(18,.sl 19),(19,.sl 20),(20,.sl 21),(21,.sl 22),(22,.sl 23),(23,.sl 17)] (j56 (o0.all',o0.p'.Name,o0.p'.Roles,o0.p'.Messages,o0.p'.Body,o0.calls',o0.out'.Protocol,o0.out'.Name,o0.out'.Err,i) h)))
  refine wa J 1 (eLoop (σ:=(List T6) × Int) (fun st=>(zz23 vbk0_0_1_33 vbk0_0_6_33 vbk0_0_7_33 vbk0_0_8_33 vbk0_0_5_33 d.Kind d.From d.Name d.As d.Ticks st.1 c_.all' c_.p' l_ loops_ vbk0_0_0_33 vbk0_0_2_33 vbk0_0_3_33 vbk0_0_4_33 d.To d.Blocks [(0,.B 0 0),(1,.S 6),(2,.S 7),(6,.I c),(7,.B 16 0),(8,.S 17),(14,.S 6),(15,.I (l_.length:Int)),(16,.I c),(24,.I (f.length:Int)),(25,.I st.2)])) (fun n st=>z29_l9 N rc l_ vbk0_0_0_33 vbk0_0_1_33 vbk0_0_2_33 vbk0_0_3_33 vbk0_0_4_33 vbk0_0_5_33 vbk0_0_6_33 vbk0_0_7_33 vbk0_0_8_33 c (z29_l2 N rc l_ loops_ n32) d f n st.1 st.2) (r:=r) (fun _=>rfl) ?_ (fun ih=>?_))
  ·intro n38 ih63
   rintro ⟨q0,s0⟩ h
   replace h:z29_l9 N rc l_ vbk0_0_0_33 vbk0_0_1_33 vbk0_0_2_33 vbk0_0_3_33 vbk0_0_4_33 vbk0_0_5_33 vbk0_0_6_33 vbk0_0_7_33 vbk0_0_8_33 c (z29_l2 N rc l_ loops_ n32) d f (n38+1) q0 s0=some r:=h
   unfold z29_l9 at h
   refine wB' J 5 h (fun h=>wa J 2 (eSub [] (j54 q0 h))) fun h=>?_
   refine wO J 14 h fun t0 u0 h=>eIo J rR6 u0 (wa J 1 (eLd J oO6 u0 ?_))
   refine wB J 1 h (fun h=>?_) fun h=>?_
   ·exact wO J 6 h fun v0 x0 h=>eIo J rR6 x0 (wa J 1 (eSt J [] oO6 (⟨v0.name',(c==(w64 ((l_.length:Int)-1))),v0.hidden'⟩:T6) x0 (wa J 6 (eSub [] (ih63 ((setL' q0 s0 (⟨v0.name',(c==(w64 ((l_.length:Int)-1))),v0.hidden'⟩:T6)),(w64 (s0+1))) h)))))
   exact wO J 6 h fun y0 z0 h=>eIo J rR6 z0 (wa J 1 (eSt J [] oO6 (⟨y0.name',false,y0.hidden'⟩:T6) z0 (wa J 6 (eSub [] (ih63 ((setL' q0 s0 (⟨y0.name',false,y0.hidden'⟩:T6)),(w64 (s0+1))) h)))))
  exact eSub [] (ih N (f,0) h)
 exact eSub [(8,.sl 1),(9,.sl 2),(10,.sl 3),(11,.sl 4),(12,.sl 5)] (ih N (c_.all',c_.p'.Name,c_.p'.Roles,c_.p'.Messages,c_.p'.Body,c_.calls',c_.out'.Protocol,c_.out'.Name,c_.out'.Err,0) h)
theorem z29_rct:∀ (N:Nat) (c_:T5) (l_:(List T13)) (loops_:(List T6)) (r:T5) (h:z29_r N c_ l_ loops_=some r),Fn Tryz.prog 29 ⟨8,[.B 0 0,.S 6,.S 7],((1,.sl rR15 c_.all')::vV15 2 3 4 c_.p' [(6,.sl rR13 l_),(7,.sl rR6 loops_)]),[(0,.box (cC5 1 2 3 4 5 c_) 65),(5,.own rS c_.calls' false)],13,.t [],((8,.sl rR15 r.all')::vV15 9 10 11 r.p' []),[(5,.gone),(12,.own rS r.calls' false),(0,.box (cC5 8 9 10 11 12 r) 65)]⟩:=by
 intro N
 induction N with
 | zero=>intros;rename_i h;cases h
 | succ N ih=>intro c_ l_ loops_ r h;exact z29_b_ct N (z29_r N) ih c_ l_ loops_ r h
theorem z29_ct (N:Nat) (c_:T5) (l_:(List T13)) (loops_:(List T6)) (r:T5) (h:z29 N c_ l_ loops_=some r):Fn Tryz.prog 29 ⟨8,[.B 0 0,.S 6,.S 7],((1,.sl rR15 c_.all')::vV15 2 3 4 c_.p' [(6,.sl rR13 l_),(7,.sl rR6 loops_)]),[(0,.box (cC5 1 2 3 4 5 c_) 65),(5,.own rS c_.calls' false)],13,.t [],((8,.sl rR15 r.all')::vV15 9 10 11 r.p' []),[(5,.gone),(12,.own rS r.calls' false),(0,.box (cC5 8 9 10 11 12 r) 65)]⟩:=z29_rct N c_ l_ loops_ r h
theorem z27_ct (N:Nat) (c_:T5) (r:T5) (h:z27 N c_=some r) :
 Fn Tryz.prog 27 ⟨6,[.B 0 0],((1,.sl rR15 c_.all')::vV15 2 3 4 c_.p' []),[(0,.box (cC5 1 2 3 4 5 c_) 65),(5,.own rS c_.calls' false)],11,.t [],((6,.sl rR15 r.all')::vV15 7 8 9 r.p' []),[(5,.gone),(10,.own rS r.calls' false),(0,.box (cC5 6 7 8 9 10 r) 65)]⟩:=by
 refine eFn func27 rfl (fun E F w=>?_)
 unfold z27 at h
 refine wa J 10 (eCut (σ:=(List T15) × ByteArray × (List ByteArray) × (List T14) × (List T13) × (List ByteArray) × ByteArray × ByteArray × Int) (fun st=>(zz8 st.2.1 st.2.2.2.2.2.2.1 st.2.2.2.2.2.2.2.1 st.2.2.2.2.2.2.2.2 st.2.2.2.2.2.1 c_.all' c_.p' st.1 st.2.2.1 st.2.2.2.1 st.2.2.2.2.1 [])) (fun st=>z27_k1 st.1 st.2.1 st.2.2.1 st.2.2.2.1 st.2.2.2.2.1 st.2.2.2.2.2.1 st.2.2.2.2.2.2.1 st.2.2.2.2.2.2.2.1 st.2.2.2.2.2.2.2.2=some r) ?_ (fun j1=>?_))
 ·rintro ⟨vbk0_0_0_1,vbk0_0_1_1,vbk0_0_2_1,vbk0_0_3_1,vbk0_0_4_1,vbk0_0_5_1,vbk0_0_6_1,vbk0_0_7_1,vbk0_0_8_1⟩ h
  replace h:z27_k1 vbk0_0_0_1 vbk0_0_1_1 vbk0_0_2_1 vbk0_0_3_1 vbk0_0_4_1 vbk0_0_5_1 vbk0_0_6_1 vbk0_0_7_1 vbk0_0_8_1=some r:=h
  unfold z27_k1 at h
  cases h
  exact eRet J func27 [(6,.sl 6),(7,.sl 7),(8,.sl 8),(9,.sl 9),(10,.sl 10)]
 refine wa J 1 (eLoop (σ:=(List T15) × ByteArray × (List ByteArray) × (List T14) × (List T13) × (List ByteArray) × ByteArray × ByteArray × Int × Int) (fun st=>(zz8 st.2.1 st.2.2.2.2.2.2.1 st.2.2.2.2.2.2.2.1 st.2.2.2.2.2.2.2.2.1 st.2.2.2.2.2.1 c_.all' c_.p' st.1 st.2.2.1 st.2.2.2.1 st.2.2.2.2.1 [(0,.B 0 0),(12,.S 3),(13,.I (c_.p'.Messages.length:Int)),(14,.I st.2.2.2.2.2.2.2.2.2)])) (fun n st=>z27_l2 N c_ n st.1 st.2.1 st.2.2.1 st.2.2.2.1 st.2.2.2.2.1 st.2.2.2.2.2.1 st.2.2.2.2.2.2.1 st.2.2.2.2.2.2.2.1 st.2.2.2.2.2.2.2.2.1 st.2.2.2.2.2.2.2.2.2) (r:=r) (fun _=>rfl) ?_ (fun ih=>?_))
 ·intro n12 ih51
  rintro ⟨vbk0_0_0_51,vbk0_0_1_51,vbk0_0_2_51,vbk0_0_3_51,vbk0_0_4_51,vbk0_0_5_51,vbk0_0_6_51,vbk0_0_7_51,vbk0_0_8_51,c⟩ h
  replace h:z27_l2 N c_ (n12+1) vbk0_0_0_51 vbk0_0_1_51 vbk0_0_2_51 vbk0_0_3_51 vbk0_0_4_51 vbk0_0_5_51 vbk0_0_6_51 vbk0_0_7_51 vbk0_0_8_51 c=some r:=h
  unfold z27_l2 at h
  refine wB' J 5 h (fun h=>wa J 2 (eSub [] (j1 (vbk0_0_0_51,vbk0_0_1_51,vbk0_0_2_51,vbk0_0_3_51,vbk0_0_4_51,vbk0_0_5_51,vbk0_0_6_51,vbk0_0_7_51,vbk0_0_8_51) h))) fun h=>?_
  refine wO J 7 h fun d e h=>eIx J oO14 e ?_
  refine wO J 14 h fun f g h=>eIs J rR14 g ?_
  refine wO J 1 h fun i j h=>eCl (z47_22_ct N f d _ j) [] [(0,.sl 15),(1,.bp 14 0),(2,.sl 12),(3,.sl 13)] (wa J 1 (eCut (σ:=(List T15) × ByteArray × (List ByteArray) × (List T14) × (List T13) × (List ByteArray) × ByteArray × ByteArray × Int) (fun st=>⟨[(0,.B 0 0),(3,.B 14 0),(12,.S 3),(13,.I (c_.p'.Messages.length:Int)),(14,.I c)],[(0,.box [.sl 16,.s st.2.1,.sl 17,.sl 18,.sl 19,.sl 20,.s st.2.2.2.2.2.2.1,.s st.2.2.2.2.2.2.2.1,.I st.2.2.2.2.2.2.2.2] 65),(14,.box [.s d.Name,.sl 12,.sl 13] 55),(20,.own rS st.2.2.2.2.2.1 false)],((1,.sl rR15 c_.all')::vV15 2 3 4 c_.p' (vV14 12 13 d [(16,.sl rR15 st.1),(17,.sl rS st.2.2.1),(18,.sl rR14 st.2.2.2.1),(19,.sl rR13 st.2.2.2.2.1)])),21⟩) (fun st=>z27_k7 N c (z27_l2 N c_ n12) d st.1 st.2.1 st.2.2.1 st.2.2.2.1 st.2.2.2.2.1 st.2.2.2.2.2.1 st.2.2.2.2.2.2.1 st.2.2.2.2.2.2.2.1 st.2.2.2.2.2.2.2.2=some r) ?_ (fun j84=>?_)))
  ·rintro ⟨vbk0_0_0_84,vbk0_0_1_84,vbk0_0_2_84,vbk0_0_3_84,vbk0_0_4_84,vbk0_0_5_84,vbk0_0_6_84,vbk0_0_7_84,vbk0_0_8_84⟩ h
   replace h:z27_k7 N c (z27_l2 N c_ n12) d vbk0_0_0_84 vbk0_0_1_84 vbk0_0_2_84 vbk0_0_3_84 vbk0_0_4_84 vbk0_0_5_84 vbk0_0_6_84 vbk0_0_7_84 vbk0_0_8_84=some r:=h
   unfold z27_k7 at h
   refine wa J 7 (eCut (σ:=(List T15) × ByteArray × (List ByteArray) × (List T14) × (List T13) × (List ByteArray) × ByteArray × ByteArray × Int) (fun st=>⟨[(0,.B 0 0),(12,.S 3),(13,.I (c_.p'.Messages.length:Int)),(14,.I c)],[(0,.box [.sl 21,.s st.2.1,.sl 22,.sl 23,.sl 24,.sl 25,.s st.2.2.2.2.2.2.1,.s st.2.2.2.2.2.2.2.1,.I st.2.2.2.2.2.2.2.2] 65),(25,.own rS st.2.2.2.2.2.1 false)],((1,.sl rR15 c_.all')::vV15 2 3 4 c_.p' [(21,.sl rR15 st.1),(22,.sl rS st.2.2.1),(23,.sl rR14 st.2.2.2.1),(24,.sl rR13 st.2.2.2.2.1)]),26⟩) (fun st=>z27_k3 c (z27_l2 N c_ n12) st.1 st.2.1 st.2.2.1 st.2.2.2.1 st.2.2.2.2.1 st.2.2.2.2.2.1 st.2.2.2.2.2.2.1 st.2.2.2.2.2.2.2.1 st.2.2.2.2.2.2.2.2=some r) ?_ (fun j85=>?_))
   ·rintro ⟨vbk0_0_0_85,vbk0_0_1_85,vbk0_0_2_85,vbk0_0_3_85,vbk0_0_4_85,vbk0_0_5_85,vbk0_0_6_85,vbk0_0_7_85,vbk0_0_8_85⟩ h
    replace h:z27_k3 c (z27_l2 N c_ n12) vbk0_0_0_85 vbk0_0_1_85 vbk0_0_2_85 vbk0_0_3_85 vbk0_0_4_85 vbk0_0_5_85 vbk0_0_6_85 vbk0_0_7_85 vbk0_0_8_85=some r:=h
    unfold z27_k3 at h
    exact wa J 5 (eSub [(6,.sl 21),(7,.sl 22),(8,.sl 23),(9,.sl 24),(10,.sl 25)] (ih51 (vbk0_0_0_85,vbk0_0_1_85,vbk0_0_2_85,vbk0_0_3_85,vbk0_0_4_85,vbk0_0_5_85,vbk0_0_6_85,vbk0_0_7_85,vbk0_0_8_85,(w64 (c+1))) h))
   refine wa J 1 (eLoop (σ:=(List T15) × ByteArray × (List ByteArray) × (List T14) × (List T13) × (List ByteArray) × ByteArray × ByteArray × Int × Int) (fun st=>⟨[(0,.B 0 0),(3,.B 14 0),(12,.S 3),(13,.I (c_.p'.Messages.length:Int)),(14,.I c),(33,.S 12),(34,.I (d.Fields.length:Int)),(35,.I st.2.2.2.2.2.2.2.2.2)],[(0,.box [.sl 21,.s st.2.1,.sl 22,.sl 23,.sl 24,.sl 25,.s st.2.2.2.2.2.2.1,.s st.2.2.2.2.2.2.2.1,.I st.2.2.2.2.2.2.2.2.1] 65),(14,.box [.s d.Name,.sl 12,.sl 13] 55),(25,.own rS st.2.2.2.2.2.1 false)],((1,.sl rR15 c_.all')::vV15 2 3 4 c_.p' (vV14 12 13 d [(21,.sl rR15 st.1),(22,.sl rS st.2.2.1),(23,.sl rR14 st.2.2.2.1),(24,.sl rR13 st.2.2.2.2.1)])),26⟩) (fun n st=>z27_l4 N c (z27_l2 N c_ n12) d n st.1 st.2.1 st.2.2.1 st.2.2.2.1 st.2.2.2.2.1 st.2.2.2.2.2.1 st.2.2.2.2.2.2.1 st.2.2.2.2.2.2.2.1 st.2.2.2.2.2.2.2.2.1 st.2.2.2.2.2.2.2.2.2) (r:=r) (fun _=>rfl) ?_ (fun ih=>?_))
   ·intro n14 ih93
    rintro ⟨vbk0_0_0_93,vbk0_0_1_93,vbk0_0_2_93,vbk0_0_3_93,vbk0_0_4_93,vbk0_0_5_93,vbk0_0_6_93,vbk0_0_7_93,vbk0_0_8_93,k⟩ h
    replace h:z27_l4 N c (z27_l2 N c_ n12) d (n14+1) vbk0_0_0_93 vbk0_0_1_93 vbk0_0_2_93 vbk0_0_3_93 vbk0_0_4_93 vbk0_0_5_93 vbk0_0_6_93 vbk0_0_7_93 vbk0_0_8_93 k=some r:=h
    unfold z27_l4 at h
    refine wB' J 5 h (fun h=>wa J 2 (eSub [] (j85 (vbk0_0_0_93,vbk0_0_1_93,vbk0_0_2_93,vbk0_0_3_93,vbk0_0_4_93,vbk0_0_5_93,vbk0_0_6_93,vbk0_0_7_93,vbk0_0_8_93) h))) fun h=>?_
    refine wO J 7 h fun l m h=>eIx J oO0 m ?_
    refine wO J 11 h fun o p h=>eIs J rR0 p ?_
    refine wO J 1 h fun q u h=>eCl (z49_25_ct N o l _ u) [] [(0,.sl 28),(1,.bp 27 0)] (wa J 1 (eCut (σ:=(List T15) × ByteArray × (List ByteArray) × (List T14) × (List T13) × (List ByteArray) × ByteArray × ByteArray × Int) (fun st=>(zz24 st.2.1 st.2.2.2.2.2.2.1 st.2.2.2.2.2.2.2.1 st.2.2.2.2.2.2.2.2 d.Name l st.2.2.2.2.2.1 c_.all' c_.p' d st.1 st.2.2.1 st.2.2.2.1 st.2.2.2.2.1 [(0,.B 0 0),(3,.B 14 0),(5,.B 27 0),(12,.S 3),(13,.I (c_.p'.Messages.length:Int)),(14,.I c),(33,.S 12),(34,.I (d.Fields.length:Int)),(35,.I k)])) (fun st=>z27_k6 N k (z27_l4 N c (z27_l2 N c_ n12) d n14) l st.1 st.2.1 st.2.2.1 st.2.2.2.1 st.2.2.2.2.1 st.2.2.2.2.2.1 st.2.2.2.2.2.2.1 st.2.2.2.2.2.2.2.1 st.2.2.2.2.2.2.2.2=some r) ?_ (fun j98=>?_)))
    ·rintro ⟨vbk0_0_0_98,vbk0_0_1_98,vbk0_0_2_98,vbk0_0_3_98,vbk0_0_4_98,vbk0_0_5_98,vbk0_0_6_98,vbk0_0_7_98,vbk0_0_8_98⟩ h
     replace h:z27_k6 N k (z27_l4 N c (z27_l2 N c_ n12) d n14) l vbk0_0_0_98 vbk0_0_1_98 vbk0_0_2_98 vbk0_0_3_98 vbk0_0_4_98 vbk0_0_5_98 vbk0_0_6_98 vbk0_0_7_98 vbk0_0_8_98=some r:=h
     unfold z27_k6 at h
     refine wa J 13 (eCut (σ:=Int × Int) (fun st=>(zz24 vbk0_0_1_98 vbk0_0_6_98 vbk0_0_7_98 vbk0_0_8_98 d.Name l vbk0_0_5_98 c_.all' c_.p' d vbk0_0_0_98 vbk0_0_2_98 vbk0_0_3_98 vbk0_0_4_98 [(0,.B 0 0),(3,.B 14 0),(5,.B 27 0),(6,.I st.1),(7,.I st.2),(12,.S 3),(13,.I (c_.p'.Messages.length:Int)),(14,.I c),(33,.S 12),(34,.I (d.Fields.length:Int)),(35,.I k)])) (fun st=>z27_k5 N k (z27_l4 N c (z27_l2 N c_ n12) d n14) l vbk0_0_0_98 vbk0_0_1_98 vbk0_0_2_98 vbk0_0_3_98 vbk0_0_4_98 vbk0_0_5_98 vbk0_0_6_98 vbk0_0_7_98 vbk0_0_8_98 st.1 st.2=some r) ?_ (fun j99=>?_))
     ·rintro ⟨v,x⟩ h
      replace h:z27_k5 N k (z27_l4 N c (z27_l2 N c_ n12) d n14) l vbk0_0_0_98 vbk0_0_1_98 vbk0_0_2_98 vbk0_0_3_98 vbk0_0_4_98 vbk0_0_5_98 vbk0_0_6_98 vbk0_0_7_98 vbk0_0_8_98 v x=some r:=h
      unfold z27_k5 at h
      refine wB J 10 h (fun h=>?_) fun h=>?_
      ·exact wO J 19 h fun y z h=>eCl (z25_ct N (⟨vbk0_0_0_98,(⟨vbk0_0_1_98,vbk0_0_2_98,vbk0_0_3_98,vbk0_0_4_98⟩:T15),vbk0_0_5_98,(⟨vbk0_0_6_98,vbk0_0_7_98,vbk0_0_8_98⟩:T4)⟩:T5) l.Name 2 _ z) [] [(0,.bp 0 0),(1,.sl 29),(2,.sl 30),(3,.sl 31),(4,.sl 32),(5,.sl 33)] (wa J 6 (eSub [(21,.sl 34),(22,.sl 35),(23,.sl 36),(24,.sl 37),(25,.sl 38)] (ih93 (y.all',y.p'.Name,y.p'.Roles,y.p'.Messages,y.p'.Body,y.calls',y.out'.Protocol,y.out'.Name,y.out'.Err,(w64 (k+1))) h)))
      refine wB J 7 h (fun h=>?_) fun h=>?_
      ·exact wO J 12 h fun A C h=>eCl (z25_ct N (⟨vbk0_0_0_98,(⟨vbk0_0_1_98,vbk0_0_2_98,vbk0_0_3_98,vbk0_0_4_98⟩:T15),vbk0_0_5_98,(⟨vbk0_0_6_98,vbk0_0_7_98,vbk0_0_8_98⟩:T4)⟩:T5) l.Name 2 _ C) [] [(0,.bp 0 0),(1,.sl 29),(2,.sl 30),(3,.sl 31),(4,.sl 32),(5,.sl 33)] (wa J 6 (eSub [(21,.sl 34),(22,.sl 35),(23,.sl 36),(24,.sl 37),(25,.sl 38)] (ih93 (A.all',A.p'.Name,A.p'.Roles,A.p'.Messages,A.p'.Body,A.calls',A.out'.Protocol,A.out'.Name,A.out'.Err,(w64 (k+1))) h)))
      refine wB' J 7 h (fun h=>wa J 7 (eSub [(21,.sl 29),(22,.sl 30),(23,.sl 31),(24,.sl 32),(25,.sl 33)] (ih93 (vbk0_0_0_98,vbk0_0_1_98,vbk0_0_2_98,vbk0_0_3_98,vbk0_0_4_98,vbk0_0_5_98,vbk0_0_6_98,vbk0_0_7_98,vbk0_0_8_98,(w64 (k+1))) h))) fun h=>?_
      exact wO J 5 h fun D G h=>eCl (z25_ct N (⟨vbk0_0_0_98,(⟨vbk0_0_1_98,vbk0_0_2_98,vbk0_0_3_98,vbk0_0_4_98⟩:T15),vbk0_0_5_98,(⟨vbk0_0_6_98,vbk0_0_7_98,vbk0_0_8_98⟩:T4)⟩:T5) l.Name 2 _ G) [] [(0,.bp 0 0),(1,.sl 29),(2,.sl 30),(3,.sl 31),(4,.sl 32),(5,.sl 33)] (wa J 6 (eSub [(21,.sl 34),(22,.sl 35),(23,.sl 36),(24,.sl 37),(25,.sl 38)] (ih93 (D.all',D.p'.Name,D.p'.Roles,D.p'.Messages,D.p'.Body,D.calls',D.out'.Protocol,D.out'.Name,D.out'.Err,(w64 (k+1))) h)))
     exact eB h (fun h=>wa J 5 (eSub [] (j99 (0,40) h))) fun h=>wa J 2 (eSub [] (j99 ((-1000),1000) h))
    refine eB' h (fun h=>wa J 2 (eSub [(29,.sl 21),(30,.sl 22),(31,.sl 23),(32,.sl 24),(33,.sl 25)] (j98 (vbk0_0_0_93,vbk0_0_1_93,vbk0_0_2_93,vbk0_0_3_93,vbk0_0_4_93,vbk0_0_5_93,vbk0_0_6_93,vbk0_0_7_93,vbk0_0_8_93) h))) fun h=>?_
    exact wO J 5 h fun H R h=>eCl (z25_ct N (⟨vbk0_0_0_93,(⟨vbk0_0_1_93,vbk0_0_2_93,vbk0_0_3_93,vbk0_0_4_93⟩:T15),vbk0_0_5_93,(⟨vbk0_0_6_93,vbk0_0_7_93,vbk0_0_8_93⟩:T4)⟩:T5) l.Name 9 _ R) [] [(0,.bp 0 0),(1,.sl 21),(2,.sl 22),(3,.sl 23),(4,.sl 24),(5,.sl 25)] (wa J 1 (eSub [] (j98 (H.all',H.p'.Name,H.p'.Roles,H.p'.Messages,H.p'.Body,H.calls',H.out'.Protocol,H.out'.Name,H.out'.Err) h)))
   exact eSub [(21,.sl 16),(22,.sl 17),(23,.sl 18),(24,.sl 19),(25,.sl 20)] (ih N (vbk0_0_0_84,vbk0_0_1_84,vbk0_0_2_84,vbk0_0_3_84,vbk0_0_4_84,vbk0_0_5_84,vbk0_0_6_84,vbk0_0_7_84,vbk0_0_8_84,0) h)
  refine eB' h (fun h=>wa J 2 (eSub [(16,.sl 6),(17,.sl 7),(18,.sl 8),(19,.sl 9),(20,.sl 10)] (j84 (vbk0_0_0_51,vbk0_0_1_51,vbk0_0_2_51,vbk0_0_3_51,vbk0_0_4_51,vbk0_0_5_51,vbk0_0_6_51,vbk0_0_7_51,vbk0_0_8_51) h))) fun h=>?_
  exact wO J 5 h fun T U h=>eCl (z25_ct N (⟨vbk0_0_0_51,(⟨vbk0_0_1_51,vbk0_0_2_51,vbk0_0_3_51,vbk0_0_4_51⟩:T15),vbk0_0_5_51,(⟨vbk0_0_6_51,vbk0_0_7_51,vbk0_0_8_51⟩:T4)⟩:T5) d.Name 9 _ U) [] [(0,.bp 0 0),(1,.sl 6),(2,.sl 7),(3,.sl 8),(4,.sl 9),(5,.sl 10)] (wa J 1 (eSub [] (j84 (T.all',T.p'.Name,T.p'.Roles,T.p'.Messages,T.p'.Body,T.calls',T.out'.Protocol,T.out'.Name,T.out'.Err) h)))
 exact eSub [(6,.sl 1),(7,.sl 2),(8,.sl 3),(9,.sl 4),(10,.sl 5)] (ih N (c_.all',c_.p'.Name,c_.p'.Roles,c_.p'.Messages,c_.p'.Body,c_.calls',c_.out'.Protocol,c_.out'.Name,c_.out'.Err,0) h)
theorem z28_ct (N:Nat) (c_:T5) (r:T5) (h:z28 N c_=some r) :
 Fn Tryz.prog 28 ⟨6,[.B 0 0],((1,.sl rR15 c_.all')::vV15 2 3 4 c_.p' []),[(0,.box (cC5 1 2 3 4 5 c_) 65),(5,.own rS c_.calls' false)],11,.t [],((6,.sl rR15 r.all')::vV15 7 8 9 r.p' []),[(5,.gone),(10,.own rS r.calls' false),(0,.box (cC5 6 7 8 9 10 r) 65)]⟩:=by
 refine eFn func28 rfl (fun E F w=>?_)
 unfold z28 at h
 refine wa J 10 (eCut (σ:=(List T15) × ByteArray × (List ByteArray) × (List T14) × (List T13) × (List ByteArray) × ByteArray × ByteArray × Int) (fun st=>(zz8 st.2.1 st.2.2.2.2.2.2.1 st.2.2.2.2.2.2.2.1 st.2.2.2.2.2.2.2.2 st.2.2.2.2.2.1 c_.all' c_.p' st.1 st.2.2.1 st.2.2.2.1 st.2.2.2.2.1 [])) (fun st=>z28_k1 st.1 st.2.1 st.2.2.1 st.2.2.2.1 st.2.2.2.2.1 st.2.2.2.2.2.1 st.2.2.2.2.2.2.1 st.2.2.2.2.2.2.2.1 st.2.2.2.2.2.2.2.2=some r) ?_ (fun j1=>?_))
 ·rintro ⟨vbk0_0_0_1,vbk0_0_1_1,vbk0_0_2_1,vbk0_0_3_1,vbk0_0_4_1,vbk0_0_5_1,vbk0_0_6_1,vbk0_0_7_1,vbk0_0_8_1⟩ h
  replace h:z28_k1 vbk0_0_0_1 vbk0_0_1_1 vbk0_0_2_1 vbk0_0_3_1 vbk0_0_4_1 vbk0_0_5_1 vbk0_0_6_1 vbk0_0_7_1 vbk0_0_8_1=some r:=h
  unfold z28_k1 at h
  cases h
  exact eRet J func28 [(6,.sl 6),(7,.sl 7),(8,.sl 8),(9,.sl 9),(10,.sl 10)]
 refine wa J 1 (eLoop (σ:=(List T15) × ByteArray × (List ByteArray) × (List T14) × (List T13) × (List ByteArray) × ByteArray × ByteArray × Int × Int) (fun st=>(zz8 st.2.1 st.2.2.2.2.2.2.1 st.2.2.2.2.2.2.2.1 st.2.2.2.2.2.2.2.2.1 st.2.2.2.2.2.1 c_.all' c_.p' st.1 st.2.2.1 st.2.2.2.1 st.2.2.2.2.1 [(0,.B 0 0),(17,.S 3),(18,.I (c_.p'.Messages.length:Int)),(19,.I st.2.2.2.2.2.2.2.2.2)])) (fun n st=>z28_l2 N c_ n st.1 st.2.1 st.2.2.1 st.2.2.2.1 st.2.2.2.2.1 st.2.2.2.2.2.1 st.2.2.2.2.2.2.1 st.2.2.2.2.2.2.2.1 st.2.2.2.2.2.2.2.2.1 st.2.2.2.2.2.2.2.2.2) (r:=r) (fun _=>rfl) ?_ (fun ih=>?_))
 ·intro n132 ih516
  rintro ⟨vbk0_0_0_516,vbk0_0_1_516,vbk0_0_2_516,vbk0_0_3_516,vbk0_0_4_516,vbk0_0_5_516,vbk0_0_6_516,vbk0_0_7_516,vbk0_0_8_516,c⟩ h
  replace h:z28_l2 N c_ (n132+1) vbk0_0_0_516 vbk0_0_1_516 vbk0_0_2_516 vbk0_0_3_516 vbk0_0_4_516 vbk0_0_5_516 vbk0_0_6_516 vbk0_0_7_516 vbk0_0_8_516 c=some r:=h
  unfold z28_l2 at h
  refine wB' J 5 h (fun h=>wa J 2 (eSub [] (j1 (vbk0_0_0_516,vbk0_0_1_516,vbk0_0_2_516,vbk0_0_3_516,vbk0_0_4_516,vbk0_0_5_516,vbk0_0_6_516,vbk0_0_7_516,vbk0_0_8_516) h))) fun h=>?_
  refine wO J 6 h fun d e h=>eIx J oO14 e (wa J 11 (eCut (σ:=(List T15) × ByteArray × (List ByteArray) × (List T14) × (List T13) × (List ByteArray) × ByteArray × ByteArray × Int) (fun st=>⟨[(0,.B 0 0),(17,.S 3),(18,.I (c_.p'.Messages.length:Int)),(19,.I c)],[(0,.box [.sl 15,.s st.2.1,.sl 16,.sl 17,.sl 18,.sl 19,.s st.2.2.2.2.2.2.1,.s st.2.2.2.2.2.2.2.1,.I st.2.2.2.2.2.2.2.2] 65),(19,.own rS st.2.2.2.2.2.1 false)],((1,.sl rR15 c_.all')::vV15 2 3 4 c_.p' [(15,.sl rR15 st.1),(16,.sl rS st.2.2.1),(17,.sl rR14 st.2.2.2.1),(18,.sl rR13 st.2.2.2.2.1)]),20⟩) (fun st=>z28_k3 c (z28_l2 N c_ n132) st.1 st.2.1 st.2.2.1 st.2.2.2.1 st.2.2.2.2.1 st.2.2.2.2.2.1 st.2.2.2.2.2.2.1 st.2.2.2.2.2.2.2.1 st.2.2.2.2.2.2.2.2=some r) ?_ (fun j859=>?_)))
  ·rintro ⟨vbk0_0_0_859,vbk0_0_1_859,vbk0_0_2_859,vbk0_0_3_859,vbk0_0_4_859,vbk0_0_5_859,vbk0_0_6_859,vbk0_0_7_859,vbk0_0_8_859⟩ h
   replace h:z28_k3 c (z28_l2 N c_ n132) vbk0_0_0_859 vbk0_0_1_859 vbk0_0_2_859 vbk0_0_3_859 vbk0_0_4_859 vbk0_0_5_859 vbk0_0_6_859 vbk0_0_7_859 vbk0_0_8_859=some r:=h
   unfold z28_k3 at h
   exact wa J 5 (eSub [(6,.sl 15),(7,.sl 16),(8,.sl 17),(9,.sl 18),(10,.sl 19)] (ih516 (vbk0_0_0_859,vbk0_0_1_859,vbk0_0_2_859,vbk0_0_3_859,vbk0_0_4_859,vbk0_0_5_859,vbk0_0_6_859,vbk0_0_7_859,vbk0_0_8_859,(w64 (c+1))) h))
  refine wa J 1 (eLoop (σ:=(List T15) × ByteArray × (List ByteArray) × (List T14) × (List T13) × (List ByteArray) × ByteArray × ByteArray × Int × Int) (fun st=>⟨[(0,.B 0 0),(3,.B 14 0),(17,.S 3),(18,.I (c_.p'.Messages.length:Int)),(19,.I c),(24,.S 13),(25,.I (d.Where.length:Int)),(26,.I st.2.2.2.2.2.2.2.2.2)],[(0,.box [.sl 15,.s st.2.1,.sl 16,.sl 17,.sl 18,.sl 19,.s st.2.2.2.2.2.2.1,.s st.2.2.2.2.2.2.2.1,.I st.2.2.2.2.2.2.2.2.1] 65),(14,.box [.s d.Name,.sl 12,.sl 13] 55),(19,.own rS st.2.2.2.2.2.1 false)],((1,.sl rR15 c_.all')::vV15 2 3 4 c_.p' (vV14 12 13 d [(15,.sl rR15 st.1),(16,.sl rS st.2.2.1),(17,.sl rR14 st.2.2.2.1),(18,.sl rR13 st.2.2.2.2.1)])),20⟩) (fun n st=>z28_l4 N c (z28_l2 N c_ n132) d n st.1 st.2.1 st.2.2.1 st.2.2.2.1 st.2.2.2.2.1 st.2.2.2.2.2.1 st.2.2.2.2.2.2.1 st.2.2.2.2.2.2.2.1 st.2.2.2.2.2.2.2.2.1 st.2.2.2.2.2.2.2.2.2) (r:=r) (fun _=>rfl) ?_ (fun ih=>?_))
  ·intro n154 ih945
   rintro ⟨vbk0_0_0_945,vbk0_0_1_945,vbk0_0_2_945,vbk0_0_3_945,vbk0_0_4_945,vbk0_0_5_945,vbk0_0_6_945,vbk0_0_7_945,vbk0_0_8_945,f⟩ h
   replace h:z28_l4 N c (z28_l2 N c_ n132) d (n154+1) vbk0_0_0_945 vbk0_0_1_945 vbk0_0_2_945 vbk0_0_3_945 vbk0_0_4_945 vbk0_0_5_945 vbk0_0_6_945 vbk0_0_7_945 vbk0_0_8_945 f=some r:=h
   unfold z28_l4 at h
   refine wB' J 5 h (fun h=>wa J 2 (eSub [] (j859 (vbk0_0_0_945,vbk0_0_1_945,vbk0_0_2_945,vbk0_0_3_945,vbk0_0_4_945,vbk0_0_5_945,vbk0_0_6_945,vbk0_0_7_945,vbk0_0_8_945) h))) fun h=>?_
   refine wO J 6 h fun g i h=>eIx J oO12 i (wa J 24 (eCut (σ:=(List T15) × ByteArray × (List ByteArray) × (List T14) × (List T13) × (List ByteArray) × ByteArray × ByteArray × Int × Int × Int) (fun st=>(zz25 st.2.1 st.2.2.2.2.2.2.1 st.2.2.2.2.2.2.2.1 st.2.2.2.2.2.2.2.2.1 d.Name g.Left.Kind g.Left.Message g.Left.Field g.Left.N g.Op g.Right.Kind g.Right.Message g.Right.Field g.Right.N st.2.2.2.2.2.2.2.2.2.1 st.2.2.2.2.2.2.2.2.2.2 st.2.2.2.2.2.1 c_.all' c_.p' d st.1 st.2.2.1 st.2.2.2.1 st.2.2.2.2.1 [(0,.B 0 0),(3,.B 14 0),(5,.B 21 0),(6,.B 22 0),(7,.B 23 0),(17,.S 3),(18,.I (c_.p'.Messages.length:Int)),(19,.I c),(24,.S 13),(25,.I (d.Where.length:Int)),(26,.I f)])) (fun st=>z28_k10 N d f (z28_l4 N c (z28_l2 N c_ n132) d n154) g st.1 st.2.1 st.2.2.1 st.2.2.2.1 st.2.2.2.2.1 st.2.2.2.2.2.1 st.2.2.2.2.2.2.1 st.2.2.2.2.2.2.2.1 st.2.2.2.2.2.2.2.2.1 st.2.2.2.2.2.2.2.2.2.1 st.2.2.2.2.2.2.2.2.2.2=some r) ?_ (fun j1002=>?_)))
   ·rintro ⟨vbk0_0_0_1002,vbk0_0_1_1002,vbk0_0_2_1002,vbk0_0_3_1002,vbk0_0_4_1002,vbk0_0_5_1002,vbk0_0_6_1002,vbk0_0_7_1002,vbk0_0_8_1002,j,k⟩ h
    replace h:z28_k10 N d f (z28_l4 N c (z28_l2 N c_ n132) d n154) g vbk0_0_0_1002 vbk0_0_1_1002 vbk0_0_2_1002 vbk0_0_3_1002 vbk0_0_4_1002 vbk0_0_5_1002 vbk0_0_6_1002 vbk0_0_7_1002 vbk0_0_8_1002 j k=some r:=h
    unfold z28_k10 at h
    refine wa J 10 (eCut (σ:=(List T15) × ByteArray × (List ByteArray) × (List T14) × (List T13) × (List ByteArray) × ByteArray × ByteArray × Int × Int) (fun st=>⟨[(0,.B 0 0),(3,.B 14 0),(5,.B 21 0),(10,.I st.2.2.2.2.2.2.2.2.2),(17,.S 3),(18,.I (c_.p'.Messages.length:Int)),(19,.I c),(24,.S 13),(25,.I (d.Where.length:Int)),(26,.I f)],[(0,.box [.sl 29,.s st.2.1,.sl 30,.sl 31,.sl 32,.sl 33,.s st.2.2.2.2.2.2.1,.s st.2.2.2.2.2.2.2.1,.I st.2.2.2.2.2.2.2.2.1] 65),(14,.box [.s d.Name,.sl 12,.sl 13] 55),(21,.box [.I g.Left.Kind,.s g.Left.Message,.s g.Left.Field,.I g.Left.N,.s g.Op,.I g.Right.Kind,.s g.Right.Message,.s g.Right.Field,.I g.Right.N] 81),(33,.own rS st.2.2.2.2.2.1 false)],((1,.sl rR15 c_.all')::vV15 2 3 4 c_.p' (vV14 12 13 d [(29,.sl rR15 st.1),(30,.sl rS st.2.2.1),(31,.sl rR14 st.2.2.2.1),(32,.sl rR13 st.2.2.2.2.1)])),34⟩) (fun st=>z28_k5 N d f (z28_l4 N c (z28_l2 N c_ n132) d n154) g st.1 st.2.1 st.2.2.1 st.2.2.2.1 st.2.2.2.2.1 st.2.2.2.2.2.1 st.2.2.2.2.2.2.1 st.2.2.2.2.2.2.2.1 st.2.2.2.2.2.2.2.2.1 st.2.2.2.2.2.2.2.2.2=some r) ?_ (fun j1007=>?_))
    ·rintro ⟨vbk0_0_0_1007,vbk0_0_1_1007,vbk0_0_2_1007,vbk0_0_3_1007,vbk0_0_4_1007,vbk0_0_5_1007,vbk0_0_6_1007,vbk0_0_7_1007,vbk0_0_8_1007,l⟩ h
     replace h:z28_k5 N d f (z28_l4 N c (z28_l2 N c_ n132) d n154) g vbk0_0_0_1007 vbk0_0_1_1007 vbk0_0_2_1007 vbk0_0_3_1007 vbk0_0_4_1007 vbk0_0_5_1007 vbk0_0_6_1007 vbk0_0_7_1007 vbk0_0_8_1007 l=some r:=h
     unfold z28_k5 at h
     refine wB J 5 h (fun h=>?_) fun h=>?_
     ·exact wO J 26 h fun m o h=>eCl (z25_ct N (⟨vbk0_0_0_1007,(⟨vbk0_0_1_1007,vbk0_0_2_1007,vbk0_0_3_1007,vbk0_0_4_1007⟩:T15),vbk0_0_5_1007,(⟨vbk0_0_6_1007,vbk0_0_7_1007,vbk0_0_8_1007⟩:T4)⟩:T5) d.Name 11 _ o) [] [(0,.bp 0 0),(1,.sl 29),(2,.sl 30),(3,.sl 31),(4,.sl 32),(5,.sl 33)] (wa J 6 (eSub [(15,.sl 34),(16,.sl 35),(17,.sl 36),(18,.sl 37),(19,.sl 38)] (ih945 (m.all',m.p'.Name,m.p'.Roles,m.p'.Messages,m.p'.Body,m.calls',m.out'.Protocol,m.out'.Name,m.out'.Err,(w64 (f+1))) h)))
     refine wB' J 3 h (fun h=>wa J 25 (eSub [(15,.sl 29),(16,.sl 30),(17,.sl 31),(18,.sl 32),(19,.sl 33)] (ih945 (vbk0_0_0_1007,vbk0_0_1_1007,vbk0_0_2_1007,vbk0_0_3_1007,vbk0_0_4_1007,vbk0_0_5_1007,vbk0_0_6_1007,vbk0_0_7_1007,vbk0_0_8_1007,(w64 (f+1))) h))) fun h=>?_
     refine wB J 4 h (fun h=>?_) fun h=>?_
     ·exact wO J 19 h fun p q h=>eCl (z25_ct N (⟨vbk0_0_0_1007,(⟨vbk0_0_1_1007,vbk0_0_2_1007,vbk0_0_3_1007,vbk0_0_4_1007⟩:T15),vbk0_0_5_1007,(⟨vbk0_0_6_1007,vbk0_0_7_1007,vbk0_0_8_1007⟩:T4)⟩:T5) d.Name 11 _ q) [] [(0,.bp 0 0),(1,.sl 29),(2,.sl 30),(3,.sl 31),(4,.sl 32),(5,.sl 33)] (wa J 6 (eSub [(15,.sl 34),(16,.sl 35),(17,.sl 36),(18,.sl 37),(19,.sl 38)] (ih945 (p.all',p.p'.Name,p.p'.Roles,p.p'.Messages,p.p'.Body,p.calls',p.out'.Protocol,p.out'.Name,p.out'.Err,(w64 (f+1))) h)))
     refine wB J 6 h (fun h=>?_) fun h=>?_
     ·exact wO J 13 h fun u v h=>eCl (z25_ct N (⟨vbk0_0_0_1007,(⟨vbk0_0_1_1007,vbk0_0_2_1007,vbk0_0_3_1007,vbk0_0_4_1007⟩:T15),vbk0_0_5_1007,(⟨vbk0_0_6_1007,vbk0_0_7_1007,vbk0_0_8_1007⟩:T4)⟩:T5) d.Name 11 _ v) [] [(0,.bp 0 0),(1,.sl 29),(2,.sl 30),(3,.sl 31),(4,.sl 32),(5,.sl 33)] (wa J 6 (eSub [(15,.sl 34),(16,.sl 35),(17,.sl 36),(18,.sl 37),(19,.sl 38)] (ih945 (u.all',u.p'.Name,u.p'.Roles,u.p'.Messages,u.p'.Body,u.calls',u.out'.Protocol,u.out'.Name,u.out'.Err,(w64 (f+1))) h)))
     refine wB' J 8 h (fun h=>wa J 7 (eSub [(15,.sl 29),(16,.sl 30),(17,.sl 31),(18,.sl 32),(19,.sl 33)] (ih945 (vbk0_0_0_1007,vbk0_0_1_1007,vbk0_0_2_1007,vbk0_0_3_1007,vbk0_0_4_1007,vbk0_0_5_1007,vbk0_0_6_1007,vbk0_0_7_1007,vbk0_0_8_1007,(w64 (f+1))) h))) fun h=>?_
     exact wO J 5 h fun x y h=>eCl (z25_ct N (⟨vbk0_0_0_1007,(⟨vbk0_0_1_1007,vbk0_0_2_1007,vbk0_0_3_1007,vbk0_0_4_1007⟩:T15),vbk0_0_5_1007,(⟨vbk0_0_6_1007,vbk0_0_7_1007,vbk0_0_8_1007⟩:T4)⟩:T5) d.Name 11 _ y) [] [(0,.bp 0 0),(1,.sl 29),(2,.sl 30),(3,.sl 31),(4,.sl 32),(5,.sl 33)] (wa J 6 (eSub [(15,.sl 34),(16,.sl 35),(17,.sl 36),(18,.sl 37),(19,.sl 38)] (ih945 (x.all',x.p'.Name,x.p'.Roles,x.p'.Messages,x.p'.Body,x.calls',x.out'.Protocol,x.out'.Name,x.out'.Err,(w64 (f+1))) h)))
    refine wa J 1 (eLoop (σ:=(List T15) × ByteArray × (List ByteArray) × (List T14) × (List T13) × (List ByteArray) × ByteArray × ByteArray × Int × Int × Int) (fun st=>⟨[(0,.B 0 0),(3,.B 14 0),(5,.B 21 0),(7,.B 23 0),(10,.I st.2.2.2.2.2.2.2.2.2.1),(17,.S 3),(18,.I (c_.p'.Messages.length:Int)),(19,.I c),(24,.S 13),(25,.I (d.Where.length:Int)),(26,.I f),(58,.a [.I g.Left.Kind,.s g.Left.Message,.s g.Left.Field,.I g.Left.N,.I g.Right.Kind,.s g.Right.Message,.s g.Right.Field,.I g.Right.N]),(59,.I st.2.2.2.2.2.2.2.2.2.2)],[(0,.box [.sl 29,.s st.2.1,.sl 30,.sl 31,.sl 32,.sl 33,.s st.2.2.2.2.2.2.1,.s st.2.2.2.2.2.2.2.1,.I st.2.2.2.2.2.2.2.2.1] 65),(14,.box [.s d.Name,.sl 12,.sl 13] 55),(21,.box [.I g.Left.Kind,.s g.Left.Message,.s g.Left.Field,.I g.Left.N,.s g.Op,.I g.Right.Kind,.s g.Right.Message,.s g.Right.Field,.I g.Right.N] 81),(23,.box [.I j,.I k] 112),(33,.own rS st.2.2.2.2.2.1 false)],((1,.sl rR15 c_.all')::vV15 2 3 4 c_.p' (vV14 12 13 d [(29,.sl rR15 st.1),(30,.sl rS st.2.2.1),(31,.sl rR14 st.2.2.2.1),(32,.sl rR13 st.2.2.2.2.1)])),34⟩) (fun n st=>z28_l6 N d f (z28_l4 N c (z28_l2 N c_ n132) d n154) g j k n st.1 st.2.1 st.2.2.1 st.2.2.2.1 st.2.2.2.2.1 st.2.2.2.2.2.1 st.2.2.2.2.2.2.1 st.2.2.2.2.2.2.2.1 st.2.2.2.2.2.2.2.2.1 st.2.2.2.2.2.2.2.2.2.1 st.2.2.2.2.2.2.2.2.2.2) (r:=r) (fun _=>rfl) ?_ (fun ih=>?_))
    ·intro n157 ih1017
     rintro ⟨vbk0_0_0_1017,vbk0_0_1_1017,vbk0_0_2_1017,vbk0_0_3_1017,vbk0_0_4_1017,vbk0_0_5_1017,vbk0_0_6_1017,vbk0_0_7_1017,vbk0_0_8_1017,z,A⟩ h
     replace h:z28_l6 N d f (z28_l4 N c (z28_l2 N c_ n132) d n154) g j k (n157+1) vbk0_0_0_1017 vbk0_0_1_1017 vbk0_0_2_1017 vbk0_0_3_1017 vbk0_0_4_1017 vbk0_0_5_1017 vbk0_0_6_1017 vbk0_0_7_1017 vbk0_0_8_1017 z A=some r:=h
     unfold z28_l6 at h
     refine wB' J 5 h (fun h=>wa J 2 (eSub [] (j1007 (vbk0_0_0_1017,vbk0_0_1_1017,vbk0_0_2_1017,vbk0_0_3_1017,vbk0_0_4_1017,vbk0_0_5_1017,vbk0_0_6_1017,vbk0_0_7_1017,vbk0_0_8_1017,z) h))) fun h=>?_
     refine wa J 7 (eCut (σ:=Int × ByteArray × ByteArray × Int) (fun st=>(zz26 vbk0_0_1_1017 vbk0_0_6_1017 vbk0_0_7_1017 vbk0_0_8_1017 d.Name g.Left.Kind g.Left.Message g.Left.Field g.Left.N g.Op g.Right.Kind g.Right.Message g.Right.Field g.Right.N j k vbk0_0_5_1017 st.1 st.2.1 st.2.2.1 st.2.2.2 c_.all' c_.p' d vbk0_0_0_1017 vbk0_0_2_1017 vbk0_0_3_1017 vbk0_0_4_1017 [(0,.B 0 0),(3,.B 14 0),(5,.B 21 0),(7,.B 23 0),(10,.I z),(11,.I A),(12,.B 34 0),(17,.S 3),(18,.I (c_.p'.Messages.length:Int)),(19,.I c),(24,.S 13),(25,.I (d.Where.length:Int)),(26,.I f),(58,.a [.I g.Left.Kind,.s g.Left.Message,.s g.Left.Field,.I g.Left.N,.I g.Right.Kind,.s g.Right.Message,.s g.Right.Field,.I g.Right.N]),(59,.I A)])) (fun st=>z28_k9 N d j k vbk0_0_0_1017 vbk0_0_1_1017 vbk0_0_2_1017 vbk0_0_3_1017 vbk0_0_4_1017 vbk0_0_5_1017 vbk0_0_6_1017 vbk0_0_7_1017 vbk0_0_8_1017 z A (z28_l6 N d f (z28_l4 N c (z28_l2 N c_ n132) d n154) g j k n157) st.1 st.2.1 st.2.2.1 st.2.2.2=some r) ?_ (fun j1023=>?_))
     ·rintro ⟨C,D,G,H⟩ h
      replace h:z28_k9 N d j k vbk0_0_0_1017 vbk0_0_1_1017 vbk0_0_2_1017 vbk0_0_3_1017 vbk0_0_4_1017 vbk0_0_5_1017 vbk0_0_6_1017 vbk0_0_7_1017 vbk0_0_8_1017 z A (z28_l6 N d f (z28_l4 N c (z28_l2 N c_ n132) d n154) g j k n157) C D G H=some r:=h
      unfold z28_k9 at h
      refine wa J 7 (eCut (σ:=Bool) (fun st=>(zz26 vbk0_0_1_1017 vbk0_0_6_1017 vbk0_0_7_1017 vbk0_0_8_1017 d.Name g.Left.Kind g.Left.Message g.Left.Field g.Left.N g.Op g.Right.Kind g.Right.Message g.Right.Field g.Right.N j k vbk0_0_5_1017 C D G H c_.all' c_.p' d vbk0_0_0_1017 vbk0_0_2_1017 vbk0_0_3_1017 vbk0_0_4_1017 [(0,.B 0 0),(3,.B 14 0),(5,.B 21 0),(7,.B 23 0),(10,.I z),(11,.I A),(12,.B 34 0),(17,.S 3),(18,.I (c_.p'.Messages.length:Int)),(19,.I c),(24,.S 13),(25,.I (d.Where.length:Int)),(26,.I f),(58,.a [.I g.Left.Kind,.s g.Left.Message,.s g.Left.Field,.I g.Left.N,.I g.Right.Kind,.s g.Right.Message,.s g.Right.Field,.I g.Right.N]),(59,.I A),(71,.O st)])) (fun st=>z28_k8 N d j k vbk0_0_0_1017 vbk0_0_1_1017 vbk0_0_2_1017 vbk0_0_3_1017 vbk0_0_4_1017 vbk0_0_5_1017 vbk0_0_6_1017 vbk0_0_7_1017 vbk0_0_8_1017 z A (z28_l6 N d f (z28_l4 N c (z28_l2 N c_ n132) d n154) g j k n157) C st=some r) ?_ (fun j1024=>?_))
      ·intro R h
       replace h:z28_k8 N d j k vbk0_0_0_1017 vbk0_0_1_1017 vbk0_0_2_1017 vbk0_0_3_1017 vbk0_0_4_1017 vbk0_0_5_1017 vbk0_0_6_1017 vbk0_0_7_1017 vbk0_0_8_1017 z A (z28_l6 N d f (z28_l4 N c (z28_l2 N c_ n132) d n154) g j k n157) C R=some r:=h
       unfold z28_k8 at h
       refine eCut (σ:=(List T15) × ByteArray × (List ByteArray) × (List T14) × (List T13) × (List ByteArray) × ByteArray × ByteArray × Int) (fun st=>⟨[(0,.B 0 0),(3,.B 14 0),(5,.B 21 0),(7,.B 23 0),(10,.I z),(11,.I A),(12,.B 34 0),(17,.S 3),(18,.I (c_.p'.Messages.length:Int)),(19,.I c),(24,.S 13),(25,.I (d.Where.length:Int)),(26,.I f),(58,.a [.I g.Left.Kind,.s g.Left.Message,.s g.Left.Field,.I g.Left.N,.I g.Right.Kind,.s g.Right.Message,.s g.Right.Field,.I g.Right.N]),(59,.I A)],[(0,.box [.sl 35,.s st.2.1,.sl 36,.sl 37,.sl 38,.sl 39,.s st.2.2.2.2.2.2.1,.s st.2.2.2.2.2.2.2.1,.I st.2.2.2.2.2.2.2.2] 65),(14,.box [.s d.Name,.sl 12,.sl 13] 55),(21,.box [.I g.Left.Kind,.s g.Left.Message,.s g.Left.Field,.I g.Left.N,.s g.Op,.I g.Right.Kind,.s g.Right.Message,.s g.Right.Field,.I g.Right.N] 81),(23,.box [.I j,.I k] 112),(34,.box [.I C,.s D,.s G,.I H] 79),(39,.own rS st.2.2.2.2.2.1 false)],((1,.sl rR15 c_.all')::vV15 2 3 4 c_.p' (vV14 12 13 d [(35,.sl rR15 st.1),(36,.sl rS st.2.2.1),(37,.sl rR14 st.2.2.2.1),(38,.sl rR13 st.2.2.2.2.1)])),40⟩) (fun st=>z28_k7 j k z A (z28_l6 N d f (z28_l4 N c (z28_l2 N c_ n132) d n154) g j k n157) C st.1 st.2.1 st.2.2.1 st.2.2.2.1 st.2.2.2.2.1 st.2.2.2.2.2.1 st.2.2.2.2.2.2.1 st.2.2.2.2.2.2.2.1 st.2.2.2.2.2.2.2.2=some r) ?_ (fun j1025=>?_)
       ·rintro ⟨vbk0_0_0_1025,vbk0_0_1_1025,vbk0_0_2_1025,vbk0_0_3_1025,vbk0_0_4_1025,vbk0_0_5_1025,vbk0_0_6_1025,vbk0_0_7_1025,vbk0_0_8_1025⟩ h
        replace h:z28_k7 j k z A (z28_l6 N d f (z28_l4 N c (z28_l2 N c_ n132) d n154) g j k n157) C vbk0_0_0_1025 vbk0_0_1_1025 vbk0_0_2_1025 vbk0_0_3_1025 vbk0_0_4_1025 vbk0_0_5_1025 vbk0_0_6_1025 vbk0_0_7_1025 vbk0_0_8_1025=some r:=h
        unfold z28_k7 at h
        refine wB' J 6 h (fun h=>wa J 13 (eSub [(29,.sl 35),(30,.sl 36),(31,.sl 37),(32,.sl 38),(33,.sl 39)] (ih1017 (vbk0_0_0_1025,vbk0_0_1_1025,vbk0_0_2_1025,vbk0_0_3_1025,vbk0_0_4_1025,vbk0_0_5_1025,vbk0_0_6_1025,vbk0_0_7_1025,vbk0_0_8_1025,z,(w64 (A+1))) h))) fun h=>?_
        obtain ⟨K,h⟩|⟨K,h⟩:=oc h
        ·refine wa J 1 (eAb 0 (by exact eq_of_beq K) ?_)
         exact wB J 4 h (fun h=>wa J 11 (eSub [(29,.sl 35),(30,.sl 36),(31,.sl 37),(32,.sl 38),(33,.sl 39)] (ih1017 (vbk0_0_0_1025,vbk0_0_1_1025,vbk0_0_2_1025,vbk0_0_3_1025,vbk0_0_4_1025,vbk0_0_5_1025,vbk0_0_6_1025,vbk0_0_7_1025,vbk0_0_8_1025,(w64 (z+1)),(w64 (A+1))) h))) fun h=>wa J 7 (eSub [(29,.sl 35),(30,.sl 36),(31,.sl 37),(32,.sl 38),(33,.sl 39)] (ih1017 (vbk0_0_0_1025,vbk0_0_1_1025,vbk0_0_2_1025,vbk0_0_3_1025,vbk0_0_4_1025,vbk0_0_5_1025,vbk0_0_6_1025,vbk0_0_7_1025,vbk0_0_8_1025,z,(w64 (A+1))) h))
        obtain ⟨K,h⟩|⟨K,h⟩:=oc' h
        ·cases h
        refine wa J 1 (eAb 1 (by exact eq_of_beq K) ?_)
        exact wB J 4 h (fun h=>wa J 11 (eSub [(29,.sl 35),(30,.sl 36),(31,.sl 37),(32,.sl 38),(33,.sl 39)] (ih1017 (vbk0_0_0_1025,vbk0_0_1_1025,vbk0_0_2_1025,vbk0_0_3_1025,vbk0_0_4_1025,vbk0_0_5_1025,vbk0_0_6_1025,vbk0_0_7_1025,vbk0_0_8_1025,(w64 (z+1)),(w64 (A+1))) h))) fun h=>wa J 7 (eSub [(29,.sl 35),(30,.sl 36),(31,.sl 37),(32,.sl 38),(33,.sl 39)] (ih1017 (vbk0_0_0_1025,vbk0_0_1_1025,vbk0_0_2_1025,vbk0_0_3_1025,vbk0_0_4_1025,vbk0_0_5_1025,vbk0_0_6_1025,vbk0_0_7_1025,vbk0_0_8_1025,z,(w64 (A+1))) h))
       refine eB' h (fun h=>wa J 2 (eSub [(35,.sl 29),(36,.sl 30),(37,.sl 31),(38,.sl 32),(39,.sl 33)] (j1025 (vbk0_0_0_1017,vbk0_0_1_1017,vbk0_0_2_1017,vbk0_0_3_1017,vbk0_0_4_1017,vbk0_0_5_1017,vbk0_0_6_1017,vbk0_0_7_1017,vbk0_0_8_1017) h))) fun h=>?_
       exact wO J 5 h fun T U h=>eCl (z25_ct N (⟨vbk0_0_0_1017,(⟨vbk0_0_1_1017,vbk0_0_2_1017,vbk0_0_3_1017,vbk0_0_4_1017⟩:T15),vbk0_0_5_1017,(⟨vbk0_0_6_1017,vbk0_0_7_1017,vbk0_0_8_1017⟩:T4)⟩:T5) d.Name 11 _ U) [] [(0,.bp 0 0),(1,.sl 29),(2,.sl 30),(3,.sl 31),(4,.sl 32),(5,.sl 33)] (wa J 1 (eSub [] (j1025 (T.all',T.p'.Name,T.p'.Roles,T.p'.Messages,T.p'.Body,T.calls',T.out'.Protocol,T.out'.Name,T.out'.Err) h)))
      refine eB' h (fun h=>wa J 6 (eSub [] (j1024 false h))) fun h=>?_
      obtain ⟨K,h⟩|⟨K,h⟩:=oc h
      ·exact wa J 1 (eAb 0 (by exact eq_of_beq K) (wa J 4 (eSub [] (j1024 (j != 2) h))))
      obtain ⟨K,h⟩|⟨K,h⟩:=oc h
      ·exact wa J 1 (eAb 1 (by exact eq_of_beq K) (wa J 4 (eSub [] (j1024 (k != 2) h))))
      cases h
     obtain ⟨K,h⟩|⟨K,h⟩:=oc h
     ·exact eAa 0 (by exact eq_of_beq K) (wa J 4 (eSub [] (j1023 (g.Left.Kind,g.Left.Message,g.Left.Field,g.Left.N) h)))
     obtain ⟨K,h⟩|⟨K,h⟩:=oc h
     ·exact eAa 1 (by exact eq_of_beq K) (wa J 4 (eSub [] (j1023 (g.Right.Kind,g.Right.Message,g.Right.Field,g.Right.N) h)))
     cases h
    exact eSub [(29,.sl 24),(30,.sl 25),(31,.sl 26),(32,.sl 27),(33,.sl 28)] (ih N (vbk0_0_0_1002,vbk0_0_1_1002,vbk0_0_2_1002,vbk0_0_3_1002,vbk0_0_4_1002,vbk0_0_5_1002,vbk0_0_6_1002,vbk0_0_7_1002,vbk0_0_8_1002,0,0) h)
   refine wa J 1 (eLoop (σ:=(List T15) × ByteArray × (List ByteArray) × (List T14) × (List T13) × (List ByteArray) × ByteArray × ByteArray × Int × Int × Int × Int) (fun st=>(zz25 st.2.1 st.2.2.2.2.2.2.1 st.2.2.2.2.2.2.2.1 st.2.2.2.2.2.2.2.2.1 d.Name g.Left.Kind g.Left.Message g.Left.Field g.Left.N g.Op g.Right.Kind g.Right.Message g.Right.Field g.Right.N st.2.2.2.2.2.2.2.2.2.1 st.2.2.2.2.2.2.2.2.2.2.1 st.2.2.2.2.2.1 c_.all' c_.p' d st.1 st.2.2.1 st.2.2.2.1 st.2.2.2.2.1 [(0,.B 0 0),(3,.B 14 0),(5,.B 21 0),(6,.B 22 0),(7,.B 23 0),(17,.S 3),(18,.I (c_.p'.Messages.length:Int)),(19,.I c),(24,.S 13),(25,.I (d.Where.length:Int)),(26,.I f),(35,.a [.I g.Left.Kind,.s g.Left.Message,.s g.Left.Field,.I g.Left.N,.I g.Right.Kind,.s g.Right.Message,.s g.Right.Field,.I g.Right.N]),(36,.I st.2.2.2.2.2.2.2.2.2.2.2)])) (fun n st=>z28_l11 N d f (z28_l4 N c (z28_l2 N c_ n132) d n154) g n st.1 st.2.1 st.2.2.1 st.2.2.2.1 st.2.2.2.2.1 st.2.2.2.2.2.1 st.2.2.2.2.2.2.1 st.2.2.2.2.2.2.2.1 st.2.2.2.2.2.2.2.2.1 st.2.2.2.2.2.2.2.2.2.1 st.2.2.2.2.2.2.2.2.2.2.1 st.2.2.2.2.2.2.2.2.2.2.2) (r:=r) (fun _=>rfl) ?_ (fun ih=>?_))
   ·intro n158 ih1026
    rintro ⟨vbk0_0_0_1026,vbk0_0_1_1026,vbk0_0_2_1026,vbk0_0_3_1026,vbk0_0_4_1026,vbk0_0_5_1026,vbk0_0_6_1026,vbk0_0_7_1026,vbk0_0_8_1026,X,Y,Z⟩ h
    replace h:z28_l11 N d f (z28_l4 N c (z28_l2 N c_ n132) d n154) g (n158+1) vbk0_0_0_1026 vbk0_0_1_1026 vbk0_0_2_1026 vbk0_0_3_1026 vbk0_0_4_1026 vbk0_0_5_1026 vbk0_0_6_1026 vbk0_0_7_1026 vbk0_0_8_1026 X Y Z=some r:=h
    unfold z28_l11 at h
    refine wB' J 5 h (fun h=>wa J 2 (eSub [] (j1002 (vbk0_0_0_1026,vbk0_0_1_1026,vbk0_0_2_1026,vbk0_0_3_1026,vbk0_0_4_1026,vbk0_0_5_1026,vbk0_0_6_1026,vbk0_0_7_1026,vbk0_0_8_1026,X,Y) h))) fun h=>?_
    refine wa J 7 (eCut (σ:=Int × ByteArray × ByteArray × Int) (fun st=>⟨[(0,.B 0 0),(3,.B 14 0),(5,.B 21 0),(6,.B 22 0),(7,.B 23 0),(8,.I Z),(9,.B 29 0),(17,.S 3),(18,.I (c_.p'.Messages.length:Int)),(19,.I c),(24,.S 13),(25,.I (d.Where.length:Int)),(26,.I f),(35,.a [.I g.Left.Kind,.s g.Left.Message,.s g.Left.Field,.I g.Left.N,.I g.Right.Kind,.s g.Right.Message,.s g.Right.Field,.I g.Right.N]),(36,.I Z)],[(0,.box [.sl 24,.s vbk0_0_1_1026,.sl 25,.sl 26,.sl 27,.sl 28,.s vbk0_0_6_1026,.s vbk0_0_7_1026,.I vbk0_0_8_1026] 65),(14,.box [.s d.Name,.sl 12,.sl 13] 55),(21,.box [.I g.Left.Kind,.s g.Left.Message,.s g.Left.Field,.I g.Left.N,.s g.Op,.I g.Right.Kind,.s g.Right.Message,.s g.Right.Field,.I g.Right.N] 81),(22,.box [.I g.Left.Kind,.s g.Left.Message,.s g.Left.Field,.I g.Left.N,.I g.Right.Kind,.s g.Right.Message,.s g.Right.Field,.I g.Right.N] 111),(23,.box [.I X,.I Y] 112),(28,.own rS vbk0_0_5_1026 false),(29,.box [.I st.1,.s st.2.1,.s st.2.2.1,.I st.2.2.2] 79)],((1,.sl rR15 c_.all')::vV15 2 3 4 c_.p' (vV14 12 13 d [(24,.sl rR15 vbk0_0_0_1026),(25,.sl rS vbk0_0_2_1026),(26,.sl rR14 vbk0_0_3_1026),(27,.sl rR13 vbk0_0_4_1026)])),30⟩) (fun st=>z28_k12 N d vbk0_0_0_1026 vbk0_0_1_1026 vbk0_0_2_1026 vbk0_0_3_1026 vbk0_0_4_1026 vbk0_0_5_1026 vbk0_0_6_1026 vbk0_0_7_1026 vbk0_0_8_1026 X Y Z (z28_l11 N d f (z28_l4 N c (z28_l2 N c_ n132) d n154) g n158) st.1 st.2.1 st.2.2.1 st.2.2.2=some r) ?_ (fun j1029=>?_))
    ·rintro ⟨a0,b0,c0,d0⟩ h
     replace h:z28_k12 N d vbk0_0_0_1026 vbk0_0_1_1026 vbk0_0_2_1026 vbk0_0_3_1026 vbk0_0_4_1026 vbk0_0_5_1026 vbk0_0_6_1026 vbk0_0_7_1026 vbk0_0_8_1026 X Y Z (z28_l11 N d f (z28_l4 N c (z28_l2 N c_ n132) d n154) g n158) a0 b0 c0 d0=some r:=h
     unfold z28_k12 at h
     refine wB J 7 h (fun h=>wa J 6 (eSub [] (ih1026 (vbk0_0_0_1026,vbk0_0_1_1026,vbk0_0_2_1026,vbk0_0_3_1026,vbk0_0_4_1026,vbk0_0_5_1026,vbk0_0_6_1026,vbk0_0_7_1026,vbk0_0_8_1026,X,Y,(w64 (Z+1))) h))) fun h=>?_
     refine wO J 8 h fun e0 f0 h=>eCb (z51_ct N (⟨vbk0_0_0_1026,(⟨vbk0_0_1_1026,vbk0_0_2_1026,vbk0_0_3_1026,vbk0_0_4_1026⟩:T15),vbk0_0_5_1026,(⟨vbk0_0_6_1026,vbk0_0_7_1026,vbk0_0_8_1026⟩:T4)⟩:T5) d (⟨a0,b0,c0,d0⟩:T11) _ f0) [] [(0,.bp 0 0),(1,.sl 24),(2,.sl 25),(3,.sl 26),(4,.sl 27),(5,.sl 28),(6,.sl 12),(7,.sl 13)] [28] (.inr ⟨rfl,trivial⟩) ?_
     obtain ⟨K,h⟩|⟨K,h⟩:=oc h
     ·refine eAb 0 (by exact eq_of_beq K) ?_
      obtain ⟨K,h⟩|⟨K,h⟩:=oc h
      ·refine wa J 5 (eAb 0 (by exact eq_of_beq K) ?_)
       refine wB' J 3 h (fun h=>wa J 7 (eSub [] (ih1026 (vbk0_0_0_1026,vbk0_0_1_1026,vbk0_0_2_1026,vbk0_0_3_1026,vbk0_0_4_1026,vbk0_0_5_1026,vbk0_0_6_1026,vbk0_0_7_1026,vbk0_0_8_1026,e0,Y,(w64 (Z+1))) h))) fun h=>?_
       exact wO J 5 h fun g0 i0 h=>eCl (z25_ct N (⟨vbk0_0_0_1026,(⟨vbk0_0_1_1026,vbk0_0_2_1026,vbk0_0_3_1026,vbk0_0_4_1026⟩:T15),vbk0_0_5_1026,(⟨vbk0_0_6_1026,vbk0_0_7_1026,vbk0_0_8_1026⟩:T4)⟩:T5) d.Name 10 _ i0) [] [(0,.bp 0 0),(1,.sl 24),(2,.sl 25),(3,.sl 26),(4,.sl 27),(5,.sl 28)] (wa J 6 (eSub [(24,.sl 30),(25,.sl 31),(26,.sl 32),(27,.sl 33),(28,.sl 34)] (ih1026 (g0.all',g0.p'.Name,g0.p'.Roles,g0.p'.Messages,g0.p'.Body,g0.calls',g0.out'.Protocol,g0.out'.Name,g0.out'.Err,e0,Y,(w64 (Z+1))) h)))
      obtain ⟨K,h⟩|⟨K,h⟩:=oc' h
      ·cases h
      refine wa J 5 (eAb 1 (by exact eq_of_beq K) ?_)
      refine wB' J 3 h (fun h=>wa J 7 (eSub [] (ih1026 (vbk0_0_0_1026,vbk0_0_1_1026,vbk0_0_2_1026,vbk0_0_3_1026,vbk0_0_4_1026,vbk0_0_5_1026,vbk0_0_6_1026,vbk0_0_7_1026,vbk0_0_8_1026,e0,Y,(w64 (Z+1))) h))) fun h=>?_
      exact wO J 5 h fun j0 k0 h=>eCl (z25_ct N (⟨vbk0_0_0_1026,(⟨vbk0_0_1_1026,vbk0_0_2_1026,vbk0_0_3_1026,vbk0_0_4_1026⟩:T15),vbk0_0_5_1026,(⟨vbk0_0_6_1026,vbk0_0_7_1026,vbk0_0_8_1026⟩:T4)⟩:T5) d.Name 10 _ k0) [] [(0,.bp 0 0),(1,.sl 24),(2,.sl 25),(3,.sl 26),(4,.sl 27),(5,.sl 28)] (wa J 6 (eSub [(24,.sl 30),(25,.sl 31),(26,.sl 32),(27,.sl 33),(28,.sl 34)] (ih1026 (j0.all',j0.p'.Name,j0.p'.Roles,j0.p'.Messages,j0.p'.Body,j0.calls',j0.out'.Protocol,j0.out'.Name,j0.out'.Err,e0,Y,(w64 (Z+1))) h)))
     obtain ⟨K,h⟩|⟨K,h⟩:=oc' h
     ·cases h
     refine eAb 1 (by exact eq_of_beq K) ?_
     obtain ⟨K,h⟩|⟨K,h⟩:=oc h
     ·refine wa J 5 (eAb 0 (by exact eq_of_beq K) ?_)
      refine wB' J 3 h (fun h=>wa J 7 (eSub [] (ih1026 (vbk0_0_0_1026,vbk0_0_1_1026,vbk0_0_2_1026,vbk0_0_3_1026,vbk0_0_4_1026,vbk0_0_5_1026,vbk0_0_6_1026,vbk0_0_7_1026,vbk0_0_8_1026,X,e0,(w64 (Z+1))) h))) fun h=>?_
      exact wO J 5 h fun l0 m0 h=>eCl (z25_ct N (⟨vbk0_0_0_1026,(⟨vbk0_0_1_1026,vbk0_0_2_1026,vbk0_0_3_1026,vbk0_0_4_1026⟩:T15),vbk0_0_5_1026,(⟨vbk0_0_6_1026,vbk0_0_7_1026,vbk0_0_8_1026⟩:T4)⟩:T5) d.Name 10 _ m0) [] [(0,.bp 0 0),(1,.sl 24),(2,.sl 25),(3,.sl 26),(4,.sl 27),(5,.sl 28)] (wa J 6 (eSub [(24,.sl 30),(25,.sl 31),(26,.sl 32),(27,.sl 33),(28,.sl 34)] (ih1026 (l0.all',l0.p'.Name,l0.p'.Roles,l0.p'.Messages,l0.p'.Body,l0.calls',l0.out'.Protocol,l0.out'.Name,l0.out'.Err,X,e0,(w64 (Z+1))) h)))
     obtain ⟨K,h⟩|⟨K,h⟩:=oc' h
     ·cases h
     refine wa J 5 (eAb 1 (by exact eq_of_beq K) ?_)
     refine wB' J 3 h (fun h=>wa J 7 (eSub [] (ih1026 (vbk0_0_0_1026,vbk0_0_1_1026,vbk0_0_2_1026,vbk0_0_3_1026,vbk0_0_4_1026,vbk0_0_5_1026,vbk0_0_6_1026,vbk0_0_7_1026,vbk0_0_8_1026,X,e0,(w64 (Z+1))) h))) fun h=>?_
     exact wO J 5 h fun o0 p0 h=>eCl (z25_ct N (⟨vbk0_0_0_1026,(⟨vbk0_0_1_1026,vbk0_0_2_1026,vbk0_0_3_1026,vbk0_0_4_1026⟩:T15),vbk0_0_5_1026,(⟨vbk0_0_6_1026,vbk0_0_7_1026,vbk0_0_8_1026⟩:T4)⟩:T5) d.Name 10 _ p0) [] [(0,.bp 0 0),(1,.sl 24),(2,.sl 25),(3,.sl 26),(4,.sl 27),(5,.sl 28)] (wa J 6 (eSub [(24,.sl 30),(25,.sl 31),(26,.sl 32),(27,.sl 33),(28,.sl 34)] (ih1026 (o0.all',o0.p'.Name,o0.p'.Roles,o0.p'.Messages,o0.p'.Body,o0.calls',o0.out'.Protocol,o0.out'.Name,o0.out'.Err,X,e0,(w64 (Z+1))) h)))
    obtain ⟨K,h⟩|⟨K,h⟩:=oc h
    ·exact eAa 0 (by exact eq_of_beq K) (wa J 4 (eSub [] (j1029 (g.Left.Kind,g.Left.Message,g.Left.Field,g.Left.N) h)))
    obtain ⟨K,h⟩|⟨K,h⟩:=oc h
    ·exact eAa 1 (by exact eq_of_beq K) (wa J 4 (eSub [] (j1029 (g.Right.Kind,g.Right.Message,g.Right.Field,g.Right.N) h)))
    cases h
   exact eSub [(24,.sl 15),(25,.sl 16),(26,.sl 17),(27,.sl 18),(28,.sl 19)] (ih N (vbk0_0_0_945,vbk0_0_1_945,vbk0_0_2_945,vbk0_0_3_945,vbk0_0_4_945,vbk0_0_5_945,vbk0_0_6_945,vbk0_0_7_945,vbk0_0_8_945,0,0,0) h)
  exact eSub [(15,.sl 6),(16,.sl 7),(17,.sl 8),(18,.sl 9),(19,.sl 10)] (ih N (vbk0_0_0_516,vbk0_0_1_516,vbk0_0_2_516,vbk0_0_3_516,vbk0_0_4_516,vbk0_0_5_516,vbk0_0_6_516,vbk0_0_7_516,vbk0_0_8_516,0) h)
 exact eSub [(6,.sl 1),(7,.sl 2),(8,.sl 3),(9,.sl 4),(10,.sl 5)] (ih N (c_.all',c_.p'.Name,c_.p'.Roles,c_.p'.Messages,c_.p'.Body,c_.calls',c_.out'.Protocol,c_.out'.Name,c_.out'.Err,0) h)
theorem z60_40_ct (N:Nat) (q_:T15) (c0_:T15) (r:Bool) (h:z60_40 N q_ c0_=some r) :
 Fn Tryz.prog 60 ⟨7,[.a [.s q_.Name,.sl 0,.sl 1,.sl 2],.B 3 0],(vV15 0 1 2 q_ (vV15 4 5 6 c0_ [])),[(3,.box [.s c0_.Name,.sl 4,.sl 5,.sl 6] 40)],7,.O r,[],[(3,.box [.s c0_.Name,.sl 4,.sl 5,.sl 6] 40)]⟩:=by
 refine eFn func60 rfl (fun E F w=>?_)
 unfold z60_40 at h
 cases h
 exact wr J 14 func60 []
theorem z46_41_ct (N:Nat) (s_:(List T15)) (c0_:T15) (r:Int) (h:z46_41 N s_ c0_=some r) :
 Fn Tryz.prog 46 ⟨5,[.S 0,.c (.cl 60 [] [1])],((0,.sl rR15 s_)::vV15 2 3 4 c0_ []),[(1,.box [.s c0_.Name,.sl 2,.sl 3,.sl 4] 40)],5,.I r,[],[(1,.box [.s c0_.Name,.sl 2,.sl 3,.sl 4] 40)]⟩:=by
 refine eFn func46 rfl (fun E F w=>?_)
 unfold z46_41 at h
 refine wa J 11 (eCut (σ:=Unit) (fun st=>(zz6 c0_.Name s_ c0_ [])) (fun st=>z46_41_k1=some r) ?_ (fun j1=>?_))
 ·intro _ h
  replace h:z46_41_k1=some r:=h
  unfold z46_41_k1 at h
  cases h
  exact wr J 4 func46 []
 refine wa J 1 (eLoop (σ:=Int) (fun st=>(zz6 c0_.Name s_ c0_ [(0,.S 0),(1,.c (.cl 60 [] [1])),(7,.I (s_.length:Int)),(8,.I st)])) (fun n st=>z46_41_l2 N s_ c0_ n st) (r:=r) (fun _=>rfl) ?_ (fun ih=>?_))
 ·intro n2 ih3
  intro d h
  replace h:z46_41_l2 N s_ c0_ (n2+1) d=some r:=h
  unfold z46_41_l2 at h
  refine wB' J 5 h (fun h=>wa J 2 (eSub [] (j1 () h))) fun h=>?_
  refine wO J 14 h fun e f h=>eIx J oO15 f ?_
  refine wO J 1 h fun g i h=>eCl (z60_40_ct N e c0_ _ i) [] [(0,.sl 6),(1,.sl 7),(2,.sl 8),(3,.bp 1 0),(4,.sl 2),(5,.sl 3),(6,.sl 4)] ?_
  refine wB J 1 h (fun h=>?_) fun h=>wa J 7 (eSub [] (ih3 (w64 (d+1)) h))
  cases h
  exact wr J 6 func46 []
 exact eSub [] (ih N 0 h)
theorem z61_b_ct (N:Nat) (rc:(List T13)→Option (List ByteArray)) (rc_names_called_ct:(∀ (l_:(List T13)) (r:(List ByteArray)),rc l_=some r→Fn Tryz.prog 61 ⟨1,[.S 0],[(0,.sl rR13 l_)],[],2,.S 1,[],[(1,.own rS r true)]⟩)) (l_:(List T13)) (r:(List ByteArray)) (h:z61_b N rc l_=some r) :
 Fn Tryz.prog 61 ⟨1,[.S 0],[(0,.sl rR13 l_)],[],2,.S 1,[],[(1,.own rS r true)]⟩:=by
 refine eFn func61 rfl (fun E F w=>?_)
 unfold z61_b at h
 refine wa J 15 (eCut (σ:=(List ByteArray)) (fun st=>⟨[(3,.S 1)],[(1,.own rS st true)],[(0,.sl rR13 l_)],2⟩) (fun st=>z61_k1 st=some r) ?_ (fun j1=>?_))
 ·intro c h
  replace h:z61_k1 c=some r:=h
  unfold z61_k1 at h
  cases h
  exact wr J 5 func61 [(1,.sl 1)]
 refine wa J 1 (eLoop (σ:=(List ByteArray) × Int) (fun st=>⟨[(3,.S 1),(8,.S 0),(9,.I (l_.length:Int)),(10,.I st.2)],[(1,.own rS st.1 true)],[(0,.sl rR13 l_)],2⟩) (fun n st=>z61_l2 N rc l_ n st.1 st.2) (r:=r) (fun _=>rfl) ?_ (fun ih=>?_))
 ·intro n12 ih15
  rintro ⟨d,e⟩ h
  replace h:z61_l2 N rc l_ (n12+1) d e=some r:=h
  unfold z61_l2 at h
  refine wB' J 5 h (fun h=>wa J 2 (eSub [] (j1 d h))) fun h=>?_
  refine wO J 6 h fun f g h=>eIx J oO13 g (wa J 11 (eCut (σ:=(List ByteArray)) (fun st=>⟨[(3,.S 6),(5,.B 5 0),(8,.S 0),(9,.I (l_.length:Int)),(10,.I e)],[(5,.box [.I f.Kind,.s f.From,.sl 3,.s f.Name,.s f.As,.I f.Ticks,.sl 4] 51),(6,.own rS st true)],[(0,.sl rR13 l_),(3,.sl rS f.To),(4,.sl (rSl rR13) f.Blocks)],7⟩) (fun st=>z61_k5 N rc e (z61_l2 N rc l_ n12) f st=some r) ?_ (fun j24=>?_)))
  ·intro i h
   replace h:z61_k5 N rc e (z61_l2 N rc l_ n12) f i=some r:=h
   unfold z61_k5 at h
   refine wa J 7 (eCut (σ:=(List ByteArray)) (fun st=>⟨[(3,.S 7),(8,.S 0),(9,.I (l_.length:Int)),(10,.I e)],[(7,.own rS st true)],[(0,.sl rR13 l_)],8⟩) (fun st=>z61_k3 e (z61_l2 N rc l_ n12) st=some r) ?_ (fun j25=>?_))
   ·intro j h
    replace h:z61_k3 e (z61_l2 N rc l_ n12) j=some r:=h
    unfold z61_k3 at h
    exact wa J 5 (eSub [(1,.sl 7)] (ih15 (j,(w64 (e+1))) h))
   refine wa J 1 (eLoop (σ:=(List ByteArray) × Int) (fun st=>⟨[(3,.S 7),(8,.S 0),(9,.I (l_.length:Int)),(10,.I e),(23,.S 4),(24,.I (f.Blocks.length:Int)),(25,.I st.2)],[(7,.own rS st.1 true)],[(0,.sl rR13 l_),(4,.sl (rSl rR13) f.Blocks)],8⟩) (fun n st=>z61_l4 rc e (z61_l2 N rc l_ n12) f n st.1 st.2) (r:=r) (fun _=>rfl) ?_ (fun ih=>?_))
   ·intro n14 ih27
    rintro ⟨k,l⟩ h
    replace h:z61_l4 rc e (z61_l2 N rc l_ n12) f (n14+1) k l=some r:=h
    unfold z61_l4 at h
    refine wB' J 5 h (fun h=>wa J 2 (eSub [] (j25 k h))) fun h=>?_
    refine wO J 6 h fun m o h=>eIx J (oSl rR13) o ?_
    refine wO J 6 h fun p q h=>eCl (rc_names_called_ct m _ q) [] [(0,.sl 9)] ?_
    obtain ⟨t,u,h⟩:=ob h
    exact eAp J rS u (wa J 7 (eSub [(7,.sl 11)] (ih27 (t,(w64 (l+1))) h)))
   exact eSub [(7,.sl 6)] (ih N (i,0) h)
  refine eB' h (fun h=>wa J 2 (eSub [(6,.sl 1)] (j24 d h))) fun h=>wa J 5 (eBs J [] oS ([f.Name]:List ByteArray) ?_)
  obtain ⟨v,x,h⟩:=ob h
  exact eAp J rS x (wa J 2 (eSub [(6,.sl 7)] (j24 v h)))
 exact eSub [(1,.nil)] (ih N (([]:List ByteArray),0) h)
theorem z61_rct:∀ (N:Nat) (l_:(List T13)) (r:(List ByteArray)) (h:z61_r N l_=some r),Fn Tryz.prog 61 ⟨1,[.S 0],[(0,.sl rR13 l_)],[],2,.S 1,[],[(1,.own rS r true)]⟩:=by
 intro N
 induction N with
 | zero=>intros;rename_i h;cases h
 | succ N ih=>intro l_ r h;exact z61_b_ct N (z61_r N) ih l_ r h
theorem z61_ct (N:Nat) (l_:(List T13)) (r:(List ByteArray)) (h:z61 N l_=some r):Fn Tryz.prog 61 ⟨1,[.S 0],[(0,.sl rR13 l_)],[],2,.S 1,[],[(1,.own rS r true)]⟩:=z61_rct N l_ r h
theorem z62_ct (N:Nat) (x_:List ByteArray) (r:List ByteArray) (h:z62 N x_=some r):Fn Tryz.prog 62 ⟨1,[.S 0],[],[(0,.own rS x_ false)],1,.t [],[],[(0,.own rS r false)]⟩:=by
 unfold z62 at h
 cases hb:(decide ((x_.length:Int)≤4611686018427387903)) with
 | false=>rw [hb] at h;cases h
 | true =>
  rw [hb] at h
  simp only [cond_true,Option.some.injEq] at h
  subst h
  simp only [decide_eq_true_eq] at hb
  exact sort_fn x_ (by omega)
theorem z63_ct (N:Nat) (s_:List ByteArray) (r:List ByteArray) (h:z63 N s_=some r):Fn Tryz.prog 63 ⟨1,[.S 0],[],[(0,.own rS s_ false)],2,.S 1,[],[(1,.own rS r false),(0,.gone)]⟩:=by
 unfold z63 at h
 cases hb:(decide ((s_.length:Int)≤4611686018427387903)) with
 | false=>rw [hb] at h;cases h
 | true =>
  rw [hb] at h
  simp only [cond_true,Option.some.injEq] at h
  subst h
  simp only [decide_eq_true_eq] at hb
  exact compact_fn s_ (by omega)
theorem z66_42_ct (N:Nat) (p_:T15) (c0_:ByteArray) (r:Bool) (h:z66_42 N p_ c0_=some r) :
 Fn Tryz.prog 66 ⟨4,[.a [.s p_.Name,.sl 0,.sl 1,.sl 2],.B 3 0],(vV15 0 1 2 p_ []),[(3,.box [.s c0_] 9)],4,.O r,[],[(3,.box [.s c0_] 9)]⟩:=by
 refine eFn func66 rfl (fun E F w=>?_)
 unfold z66_42 at h
 cases h
 exact wr J 13 func66 []
theorem z46_43_ct (N:Nat) (s_:(List T15)) (c0_:ByteArray) (r:Int) (h:z46_43 N s_ c0_=some r) :
 Fn Tryz.prog 46 ⟨2,[.S 0,.c (.cl 66 [] [1])],[(0,.sl rR15 s_)],[(1,.box [.s c0_] 9)],2,.I r,[],[(1,.box [.s c0_] 9)]⟩:=by
 refine eFn func46 rfl (fun E F w=>?_)
 unfold z46_43 at h
 refine wa J 11 (eCut (σ:=Unit) (fun st=>⟨[],[(1,.box [.s c0_] 9)],[(0,.sl rR15 s_)],2⟩) (fun st=>z46_43_k1=some r) ?_ (fun j1=>?_))
 ·intro _ h
  replace h:z46_43_k1=some r:=h
  unfold z46_43_k1 at h
  cases h
  exact wr J 4 func46 []
 refine wa J 1 (eLoop (σ:=Int) (fun st=>⟨[(0,.S 0),(1,.c (.cl 66 [] [1])),(7,.I (s_.length:Int)),(8,.I st)],[(1,.box [.s c0_] 9)],[(0,.sl rR15 s_)],2⟩) (fun n st=>z46_43_l2 N s_ c0_ n st) (r:=r) (fun _=>rfl) ?_ (fun ih=>?_))
 ·intro n2 ih3
  intro d h
  replace h:z46_43_l2 N s_ c0_ (n2+1) d=some r:=h
  unfold z46_43_l2 at h
  refine wB' J 5 h (fun h=>wa J 2 (eSub [] (j1 () h))) fun h=>?_
  refine wO J 14 h fun e f h=>eIx J oO15 f ?_
  refine wO J 1 h fun g i h=>eCl (z66_42_ct N e c0_ _ i) [] [(0,.sl 3),(1,.sl 4),(2,.sl 5),(3,.bp 1 0)] ?_
  refine wB J 1 h (fun h=>?_) fun h=>wa J 7 (eSub [] (ih3 (w64 (d+1)) h))
  cases h
  exact wr J 6 func46 []
 exact eSub [] (ih N 0 h)
theorem z23_44_ct (N:Nat) (s_:(List T15)) (c0_:ByteArray) (r:Bool) (h:z23_44 N s_ c0_=some r) :
 Fn Tryz.prog 23 ⟨2,[.S 0,.c (.cl 66 [] [1])],[(0,.sl rR15 s_)],[(1,.box [.s c0_] 9)],2,.O r,[],[(1,.box [.s c0_] 9)]⟩:=by
 refine eFn func23 rfl (fun E F w=>?_)
 unfold z23_44 at h
 refine wO J 8 h fun x1 d h=>eCl (z46_43_ct N s_ c0_ _ d) [] [(0,.sl 0),(1,.bp 1 0)] ?_
 cases h
 exact wr J 3 func23 []
theorem z65_45_ct (N:Nat) (s_:ByteArray) (c0_:T5) (r:Bool) (h:z65_45 N s_ c0_=some r) :
 Fn Tryz.prog 65 ⟨7,[.c (.s s_),.B 6 0],(vV5 1 2 3 4 5 c0_ []),[(0,.box (cC5 1 2 3 4 5 c0_) 65),(6,.box [.bp 0 0] 63)],7,.O r,[],[(0,.box (cC5 1 2 3 4 5 c0_) 65),(6,.box [.bp 0 0] 63)]⟩:=by
 refine eFn func65 rfl (fun E F w=>?_)
 unfold z65_45 at h
 refine wO J 12 h fun x1 d h=>eCl (z23_44_ct N c0_.all' s_ _ d) [] [(0,.sl 1),(1,.bp 7 0)] ?_
 cases h
 exact wr J 3 func65 []
theorem z102_46_ct (N:Nat) (s_:(List ByteArray)) (c0_:T5) (r:Int) (h:z102_46 N s_ c0_=some r) :
 Fn Tryz.prog 102 ⟨8,[.S 0,.c (.cl 65 [] [7])],((0,.sl rS s_)::vV5 2 3 4 5 6 c0_ []),[(1,.box (cC5 2 3 4 5 6 c0_) 65),(7,.box [.bp 1 0] 63)],8,.I r,[],[(1,.box (cC5 2 3 4 5 6 c0_) 65),(7,.box [.bp 1 0] 63)]⟩:=by
 refine eFn func102 rfl (fun E F w=>?_)
 unfold z102_46 at h
 refine wa J 11 (eCut (σ:=Unit) (fun st=>(zz27 c0_ s_ [])) (fun st=>z102_46_k1=some r) ?_ (fun j1=>?_))
 ·intro _ h
  replace h:z102_46_k1=some r:=h
  unfold z102_46_k1 at h
  cases h
  exact wr J 4 func102 []
 refine wa J 1 (eLoop (σ:=Int) (fun st=>(zz27 c0_ s_ [(0,.S 0),(1,.c (.cl 65 [] [7])),(7,.I (s_.length:Int)),(8,.I st)])) (fun n st=>z102_46_l2 N s_ c0_ n st) (r:=r) (fun _=>rfl) ?_ (fun ih=>?_))
 ·intro n2 ih3
  intro d h
  replace h:z102_46_l2 N s_ c0_ (n2+1) d=some r:=h
  unfold z102_46_l2 at h
  refine wB' J 5 h (fun h=>wa J 2 (eSub [] (j1 () h))) fun h=>?_
  refine wO J 14 h fun e f h=>eIx J oS f ?_
  refine wO J 1 h fun g i h=>eCl (z65_45_ct N e c0_ _ i) [] [(0,.bp 1 0),(1,.sl 2),(2,.sl 3),(3,.sl 4),(4,.sl 5),(5,.sl 6),(6,.bp 7 0)] ?_
  refine wB J 1 h (fun h=>?_) fun h=>wa J 7 (eSub [] (ih3 (w64 (d+1)) h))
  cases h
  exact wr J 6 func102 []
 exact eSub [] (ih N 0 h)
theorem z64_47_ct (N:Nat) (s_:(List ByteArray)) (c0_:T5) (r:(List ByteArray)) (h:z64_47 N s_ c0_=some r) :
 Fn Tryz.prog 64 ⟨8,[.S 0,.c (.cl 65 [] [7])],(vV5 2 3 4 5 6 c0_ []),[(0,.own rS s_ false),(1,.box (cC5 2 3 4 5 6 c0_) 65),(7,.box [.bp 1 0] 63)],9,.S 8,[],[(8,.own rS r false),(0,.gone),(1,.box (cC5 2 3 4 5 6 c0_) 65),(7,.box [.bp 1 0] 63)]⟩:=by
 refine eFn func64 rfl (fun E F w=>?_)
 unfold z64_47 at h
 refine wO J 8 h fun x1 d h=>eCb (z102_46_ct N s_ c0_ _ d) [] [(0,.sl 0),(1,.bp 1 0),(2,.sl 2),(3,.sl 3),(4,.sl 4),(5,.sl 5),(6,.sl 6),(7,.bp 7 0)] [0] (.inr ⟨rfl,trivial⟩) ?_
 refine wB J 8 h (fun h=>?_) fun h=>wa J 9 (eCut (σ:=(List ByteArray) × Int) (fun st=>(zz28 st.1 c0_ [(0,.S 0),(5,.I st.2)])) (fun st=>z64_47_k1 st.1 st.2=some r) ?_ (fun j1=>?_))
 ·cases h
  exact wr J 6 func64 [(8,.sl 0)]
 ·rintro ⟨e,f⟩ h
  replace h:z64_47_k1 e f=some r:=h
  unfold z64_47_k1 at h
  refine wO J 4 h fun g i h=>eVw J rS i ?_
  obtain ⟨j,k,h⟩:=ob h
  refine eCe J k ?_
  refine wO J 5 h fun l m h=>eVw J rS m (wa J 2 (eSl rS 9 m ?_))
  cases h
  exact eRet J func64 [(8,.sl 9)]
 refine wa J 1 (eLoop (σ:=(List ByteArray) × Int × Int) (fun st=>(zz28 st.1 c0_ [(0,.S 0),(1,.c (.cl 65 [] [7])),(5,.I st.2.1),(6,.I st.2.2)])) (fun n st=>z64_47_l2 N c0_ n st.1 st.2.1 st.2.2) (r:=r) (fun _=>rfl) ?_ (fun ih=>?_))
 ·intro n2 ih3
  rintro ⟨o,p,q⟩ h
  replace h:z64_47_l2 N c0_ (n2+1) o p q=some r:=h
  unfold z64_47_l2 at h
  refine wB' J 8 h (fun h=>wa J 2 (eSub [] (j1 (o,p) h))) fun h=>?_
  refine wO J 8 h fun s t h=>eIo J rS t (eLd J oS t ?_)
  refine wO J 6 h fun u v h=>eCl (z65_45_ct N s c0_ _ v) [] [(0,.bp 1 0),(1,.sl 2),(2,.sl 3),(3,.sl 4),(4,.sl 5),(5,.sl 6),(6,.bp 7 0)] ?_
  refine wB' J 2 h (fun h=>wa J 8 (eSub [] (ih3 (o,p,(w64 (q+1))) h))) fun h=>?_
  exact wO J 6 h fun x y h=>eIo J rS y (eSt J [] oS s y (wa J 12 (eSub [] (ih3 ((setL' o p s),(w64 (p+1)),(w64 (q+1))) h))))
 exact eSub [] (ih N (s_,x1,(w64 (x1+1))) h)
theorem z30_ct (N:Nat) (c_:T5) (r:T5) (h:z30 N c_=some r) :
 Fn Tryz.prog 30 ⟨6,[.B 0 0],((1,.sl rR15 c_.all')::vV15 2 3 4 c_.p' []),[(0,.box (cC5 1 2 3 4 5 c_) 65),(5,.own rS c_.calls' false)],11,.t [],((6,.sl rR15 r.all')::vV15 7 8 9 r.p' []),[(5,.gone),(10,.own rS r.calls' false),(0,.box (cC5 6 7 8 9 10 r) 65)]⟩:=by
 refine eFn func30 rfl (fun E F w=>?_)
 unfold z30 at h
 refine wa J 11 (eBs J [] oS ([c_.p'.Name]:List ByteArray) (wa J 7 (eCut (σ:=(List ByteArray)) (fun st=>(zz29 c_ c_.calls' st c_.all' c_.p' [(1,.B 6 0),(2,.S 8)])) (fun st=>z30_k1 N c_ st=some r) ?_ (fun j1=>?_))))
 ·intro c h
  replace h:z30_k1 N c_ c=some r:=h
  unfold z30_k1 at h
  refine wB' J 6 h (fun h=>?_) fun h=>?_
  ·cases h
   exact wr J 2 func30 [(6,.sl 1),(7,.sl 2),(8,.sl 3),(9,.sl 4),(10,.sl 5)]
  refine wO J 8 h fun d e h=>eCl (z25_ct N c_ c_.p'.Name 6 _ e) [] [(0,.bp 0 0),(1,.sl 1),(2,.sl 2),(3,.sl 3),(4,.sl 4),(5,.sl 5)] (eEnd ?_)
  cases h
  exact eRet J func30 [(6,.sl 9),(7,.sl 10),(8,.sl 11),(9,.sl 12),(10,.sl 13)]
 refine wa J 1 (eLoop (σ:=(List ByteArray) × Int) (fun st=>(zz29 c_ c_.calls' st.1 c_.all' c_.p' [(1,.B 6 0),(2,.S 8),(13,.I st.2)])) (fun n st=>z30_l2 N c_ n st.1 st.2) (r:=r) (fun _=>rfl) ?_ (fun ih=>?_))
 ·intro n12 ih12
  rintro ⟨f,g⟩ h
  replace h:z30_l2 N c_ (n12+1) f g=some r:=h
  unfold z30_l2 at h
  refine wB' J 5 h (fun h=>wa J 2 (eSub [] (j1 f h))) fun h=>wa J 18 (eCut (σ:=(List ByteArray)) (fun st=>⟨[(1,.B 6 0),(3,.S 9),(13,.I g)],[(0,.box (cC5 1 2 3 4 5 c_) 65),(5,.own rS c_.calls' false),(6,.box [.bp 0 0] 63),(9,.own rS st true)],((1,.sl rR15 c_.all')::vV15 2 3 4 c_.p' []),10⟩) (fun st=>z30_k3 N c_ g (z30_l2 N c_ n12) st=some r) ?_ (fun j19=>?_))
  ·intro i h
   replace h:z30_k3 N c_ g (z30_l2 N c_ n12) i=some r:=h
   unfold z30_k3 at h
   refine wO J 3 h fun j k h=>eCl (z62_ct N i _ k) [] [(0,.sl 9)] ?_
   refine wO J 4 h fun l m h=>eCl (z63_ct N j _ m) [] [(0,.sl 9)] ?_
   exact wO J 5 h fun o p h=>eCb (z64_47_ct N l c_ _ p) [] [(0,.sl 10),(1,.bp 0 0),(2,.sl 1),(3,.sl 2),(4,.sl 3),(5,.sl 4),(6,.sl 5),(7,.bp 6 0)] [5] (.inr ⟨rfl,⟨rS_flat,trivial⟩⟩) (wa J 7 (eSub [(8,.sl 11)] (ih12 (o,(w64 (g+1))) h)))
  refine wa J 1 (eLoop (σ:=(List ByteArray) × Int) (fun st=>⟨[(1,.B 6 0),(2,.S 8),(3,.S 9),(13,.I g),(18,.S 1),(19,.I (c_.all'.length:Int)),(20,.I st.2)],[(0,.box (cC5 1 2 3 4 5 c_) 65),(5,.own rS c_.calls' false),(6,.box [.bp 0 0] 63),(8,.own rS f true),(9,.own rS st.1 true)],((1,.sl rR15 c_.all')::vV15 2 3 4 c_.p' []),10⟩) (fun n st=>z30_l4 N c_ f g (z30_l2 N c_ n12) n st.1 st.2) (r:=r) (fun _=>rfl) ?_ (fun ih=>?_))
  ·intro n14 ih21
   rintro ⟨q,s⟩ h
   replace h:z30_l4 N c_ f g (z30_l2 N c_ n12) (n14+1) q s=some r:=h
   unfold z30_l4 at h
   refine wB' J 5 h (fun h=>wa J 2 (eSub [] (j19 q h))) fun h=>?_
   refine wO J 7 h fun u v h=>eIx J oO15 v ?_
   refine wO J 12 h fun x y h=>eCl (z46_41_ct N c_.all' u _ y) [] [(0,.sl 1),(1,.bp 14 0),(2,.sl 11),(3,.sl 12),(4,.sl 13)] ?_
   refine wB' J 8 h (fun h=>wa J 13 (eSub [] (ih21 (q,(w64 (s+1))) h))) fun h=>?_
   refine wO J 3 h fun z A h=>eCb (z41_ct N f u.Name _ A) [] [(0,.sl 8)] [8] (.inr ⟨rfl,trivial⟩) ?_
   refine wB' J 2 h (fun h=>wa J 7 (eSub [] (ih21 (q,(w64 (s+1))) h))) fun h=>?_
   refine wO J 5 h fun C D h=>eCl (z61_ct N u.Body _ D) [] [(0,.sl 13)] ?_
   obtain ⟨G,H,h⟩:=ob h
   exact eAp J rS H (wa J 7 (eSub [(9,.sl 16)] (ih21 (G,(w64 (s+1))) h)))
  exact eSub [(9,.nil)] (ih N (([]:List ByteArray),0) h)
 exact eSub [(8,.sl 7)] (ih N (([c_.p'.Name]:List ByteArray),0) h)
theorem z9_ct (N:Nat) (l_:(List T15)) (r:T4) (h:z9 N l_=some r) :
 Fn Tryz.prog 9 ⟨2,[.S 0],[(0,.sl rR15 l_)],[(1,.abs powT)],2,.a (cC4 r),[],[(1,.abs powT)]⟩:=by
 refine eFn func9 rfl (fun E F w=>?_)
 unfold z9 at h
 refine wO J 8 h fun x1 c h=>eCl (z11_ct N l_ _ c) [] [(0,.sl 0),(1,.sl 1)] ?_
 refine wB J 2 h (fun h=>?_) fun h=>wa J 9 (eCut (σ:=Unit) (fun st=>(zz30 powT l_ [(2,.B 2 0)])) (fun st=>z9_k1=some r) ?_ (fun j1=>?_))
 ·cases h
  exact wr J 6 func9 []
 ·intro _ h
  replace h:z9_k1=some r:=h
  unfold z9_k1 at h
  cases h
  exact wr J 5 func9 []
 refine wa J 1 (eLoop (σ:=Int) (fun st=>(zz30 powT l_ [(0,.S 0),(2,.B 2 0),(11,.S 0),(12,.I (l_.length:Int)),(13,.I st)])) (fun n st=>z9_l2 N l_ n st) (r:=r) (fun _=>rfl) ?_ (fun ih=>?_))
 ·intro n12 ih15
  intro d h
  replace h:z9_l2 N l_ (n12+1) d=some r:=h
  unfold z9_l2 at h
  refine wB' J 5 h (fun h=>wa J 2 (eSub [] (j1 () h))) fun h=>?_
  refine wO J 7 h fun e f h=>eIx J oO15 f ?_
  refine wO J 18 h fun g i h=>eIs J rR15 i ?_
  refine wO J 1 h fun j k h=>eCl (z23_19_ct N g e _ k) [] [(0,.sl 9),(1,.bp 7 0),(2,.sl 4),(3,.sl 5),(4,.sl 6)] (wa J 1 (eCut (σ:=(List T15) × ByteArray × (List ByteArray) × (List T14) × (List T13) × (List ByteArray) × ByteArray × ByteArray × Int) (fun st=>⟨[(0,.S 0),(2,.B 2 0),(4,.B 7 0),(5,.B 8 0),(11,.S 0),(12,.I (l_.length:Int)),(13,.I d)],[(1,.abs powT),(2,.box [.s (str []),.s (str []),.I 0] 32),(7,.box [.s e.Name,.sl 4,.sl 5,.sl 6] 40),(8,.box [.sl 10,.s st.2.1,.sl 11,.sl 12,.sl 13,.sl 14,.s st.2.2.2.2.2.2.1,.s st.2.2.2.2.2.2.2.1,.I st.2.2.2.2.2.2.2.2] 65),(14,.own rS st.2.2.2.2.2.1 true)],((0,.sl rR15 l_)::vV15 4 5 6 e [(10,.sl rR15 st.1),(11,.sl rS st.2.2.1),(12,.sl rR14 st.2.2.2.1),(13,.sl rR13 st.2.2.2.2.1)]),15⟩) (fun st=>z9_k5 N d (z9_l2 N l_ n12) e st.1 st.2.1 st.2.2.1 st.2.2.2.1 st.2.2.2.2.1 st.2.2.2.2.2.1 st.2.2.2.2.2.2.1 st.2.2.2.2.2.2.2.1 st.2.2.2.2.2.2.2.2=some r) ?_ (fun j24=>?_)))
  ·rintro ⟨l,m,o,p,q,t,u,v,x⟩ h
   replace h:z9_k5 N d (z9_l2 N l_ n12) e l m o p q t u v x=some r:=h
   unfold z9_k5 at h
   refine wa J 8 (eCut (σ:=(List T15) × ByteArray × (List ByteArray) × (List T14) × (List T13) × (List ByteArray) × ByteArray × ByteArray × Int) (fun st=>(zz31 powT e.Name st.2.1 st.2.2.2.2.2.2.1 st.2.2.2.2.2.2.2.1 st.2.2.2.2.2.2.2.2 st.2.2.2.2.2.1 l_ e st.1 st.2.2.1 st.2.2.2.1 st.2.2.2.2.1 [(0,.S 0),(2,.B 2 0),(4,.B 7 0),(5,.B 8 0),(11,.S 0),(12,.I (l_.length:Int)),(13,.I d)])) (fun st=>z9_k3 N d (z9_l2 N l_ n12) e st.1 st.2.1 st.2.2.1 st.2.2.2.1 st.2.2.2.2.1 st.2.2.2.2.2.1 st.2.2.2.2.2.2.1 st.2.2.2.2.2.2.2.1 st.2.2.2.2.2.2.2.2=some r) ?_ (fun j25=>?_))
   ·rintro ⟨y,z,A,C,D,G,H,R,T⟩ h
    replace h:z9_k3 N d (z9_l2 N l_ n12) e y z A C D G H R T=some r:=h
    unfold z9_k3 at h
    refine wO J 3 h fun U X h=>eCl (z27_ct N (⟨y,(⟨z,A,C,D⟩:T15),G,(⟨H,R,T⟩:T4)⟩:T5) _ X) [] [(0,.bp 8 0),(1,.sl 15),(2,.sl 16),(3,.sl 17),(4,.sl 18),(5,.sl 19)] ?_
    refine wO J 4 h fun Y Z h=>eCl (z28_ct N U _ Z) [] [(0,.bp 8 0),(1,.sl 20),(2,.sl 21),(3,.sl 22),(4,.sl 23),(5,.sl 24)] ?_
    refine wO J 6 h fun a0 b0 h=>eCl (z29_ct N Y e.Body ([]:List T6) _ b0) [] [(0,.bp 8 0),(1,.sl 25),(2,.sl 26),(3,.sl 27),(4,.sl 28),(5,.sl 29),(6,.sl 6),(7,.nil)] ?_
    refine wO J 4 h fun c0 d0 h=>eCl (z30_ct N a0 _ d0) [] [(0,.bp 8 0),(1,.sl 30),(2,.sl 31),(3,.sl 32),(4,.sl 33),(5,.sl 34)] ?_
    refine wB J 10 h (fun h=>?_) fun h=>wa J 7 (eSub [] (ih15 (w64 (d+1)) h))
    cases h
    exact wr J 9 func9 []
   refine wa J 1 (eLoop (σ:=(List T15) × ByteArray × (List ByteArray) × (List T14) × (List T13) × (List ByteArray) × ByteArray × ByteArray × Int × Int) (fun st=>(zz31 powT e.Name st.2.1 st.2.2.2.2.2.2.1 st.2.2.2.2.2.2.2.1 st.2.2.2.2.2.2.2.2.1 st.2.2.2.2.2.1 l_ e st.1 st.2.2.1 st.2.2.2.1 st.2.2.2.2.1 [(0,.S 0),(2,.B 2 0),(4,.B 7 0),(5,.B 8 0),(11,.S 0),(12,.I (l_.length:Int)),(13,.I d),(33,.I (e.Roles.length:Int)),(34,.I st.2.2.2.2.2.2.2.2.2)])) (fun n st=>z9_l4 N d (z9_l2 N l_ n12) e n st.1 st.2.1 st.2.2.1 st.2.2.2.1 st.2.2.2.2.1 st.2.2.2.2.2.1 st.2.2.2.2.2.2.1 st.2.2.2.2.2.2.2.1 st.2.2.2.2.2.2.2.2.1 st.2.2.2.2.2.2.2.2.2) (r:=r) (fun _=>rfl) ?_ (fun ih=>?_))
   ·intro n14 ih27
    rintro ⟨e0,f0,g0,i0,j0,k0,l0,m0,o0,p0⟩ h
    replace h:z9_l4 N d (z9_l2 N l_ n12) e (n14+1) e0 f0 g0 i0 j0 k0 l0 m0 o0 p0=some r:=h
    unfold z9_l4 at h
    refine wB' J 5 h (fun h=>wa J 2 (eSub [] (j25 (e0,f0,g0,i0,j0,k0,l0,m0,o0) h))) fun h=>?_
    refine wO J 14 h fun q0 s0 h=>eCl (z26_ct N e.Roles p0 _ s0) [] [(0,.sl 4)] ?_
    refine wB' J 1 h (fun h=>wa J 7 (eSub [] (ih27 (e0,f0,g0,i0,j0,k0,l0,m0,o0,(w64 (p0+1))) h))) fun h=>?_
    refine wO J 6 h fun t0 u0 h=>eIx J oS u0 ?_
    exact wO J 1 h fun v0 x0 h=>eCl (z25_ct N (⟨e0,(⟨f0,g0,i0,j0⟩:T15),k0,(⟨l0,m0,o0⟩:T4)⟩:T5) t0 9 _ x0) [] [(0,.bp 8 0),(1,.sl 15),(2,.sl 16),(3,.sl 17),(4,.sl 18),(5,.sl 19)] (wa J 6 (eSub [(15,.sl 21),(16,.sl 22),(17,.sl 23),(18,.sl 24),(19,.sl 25)] (ih27 (v0.all',v0.p'.Name,v0.p'.Roles,v0.p'.Messages,v0.p'.Body,v0.calls',v0.out'.Protocol,v0.out'.Name,v0.out'.Err,(w64 (p0+1))) h)))
   exact eSub [(15,.sl 10),(16,.sl 11),(17,.sl 12),(18,.sl 13),(19,.sl 14)] (ih N (l,m,o,p,q,t,u,v,x,0) h)
  refine eB' h (fun h=>wa J 2 (eSub [(10,.sl 0),(11,.sl 4),(12,.sl 5),(13,.sl 6),(14,.nil)] (j24 (l_,e.Name,e.Roles,e.Messages,e.Body,([]:List ByteArray),(str []),(str []),0) h))) fun h=>?_
  exact wO J 5 h fun y0 z0 h=>eCl (z25_ct N (⟨l_,e,([]:List ByteArray),(⟨(str []),(str []),0⟩:T4)⟩:T5) e.Name 9 _ z0) [] [(0,.bp 8 0),(1,.sl 0),(2,.sl 4),(3,.sl 5),(4,.sl 6),(5,.nil)] (wa J 1 (eSub [] (j24 (y0.all',y0.p'.Name,y0.p'.Roles,y0.p'.Messages,y0.p'.Body,y0.calls',y0.out'.Protocol,y0.out'.Name,y0.out'.Err) h)))
 exact eSub [] (ih N 0 h)
theorem z7_ct (N:Nat) (r:Bool) (h:z7 N=some r) :
 Fn Tryz.prog 7 ⟨1,[],[],[(0,.abs powT)],1,.O r,[],[(0,.abs powT)]⟩:=by
 refine eFn func7 rfl (fun E F w=>?_)
 unfold z7 at h
 refine wO J 6 h fun x1 c h=>eCl (z22_ct N (str [112,114,111,116,111,99,111,108,32,80,40,65,44,32,66,41,32,123,32,65,32,45,62,32,67,58,32,109,59,32,125]) _ c) [] [(0,.sl 0)] ?_
 refine wO J 10 h fun x2 d h=>eCl (z22_ct N (str [112,114,111,116,111,99,111,108,32,80,40,65,41,32,123,32,99,97,108,108,32,80,40,65,41,32,97,115,32,120,59,32,125]) _ d) [] [(0,.sl 0)] ?_
 refine wB' J 13 h (fun h=>?_) fun h=>?_
 ·cases h
  exact wr J 17 func7 []
 refine wB' J 4 h (fun h=>?_) fun h=>?_
 ·cases h
  exact wr J 13 func7 []
 refine wO J 1 h fun x3 e h=>eCl (z9_ct N x1.1 _ e) [] [(0,.sl 1),(1,.sl 0)] (wa J 1 (eEq ?_))
 refine wB' J 2 h (fun h=>?_) fun h=>?_
 ·cases h
  exact wr J 7 func7 []
 refine wO J 1 h fun x4 f h=>eCl (z9_ct N x2.1 _ f) [] [(0,.sl 2),(1,.sl 0)] (wa J 1 (eEq ?_))
 cases h
 exact wr J 3 func7 []
theorem z12_b_ct (N:Nat) (rc:(List T8)→Option Int) (rc_law11_calls_ct:(∀ (l_:(List T8)) (r:Int),rc l_=some r→Fn Tryz.prog 12 ⟨1,[.S 0],[(0,.sl rR8 l_)],[],1,.I r,[],[]⟩)) (l_:(List T8)) (r:Int) (h:z12_b N rc l_=some r) :
 Fn Tryz.prog 12 ⟨1,[.S 0],[(0,.sl rR8 l_)],[],1,.I r,[],[]⟩:=by
 refine eFn func12 rfl (fun E F w=>?_)
 unfold z12_b at h
 refine wa J 15 (eCut (σ:=Int) (fun st=>(zz3 l_ [(3,.I st)])) (fun st=>z12_k1 st=some r) ?_ (fun j1=>?_))
 ·intro c h
  replace h:z12_k1 c=some r:=h
  unfold z12_k1 at h
  cases h
  exact wr J 5 func12 []
 refine wa J 1 (eLoop (σ:=Int × Int) (fun st=>(zz3 l_ [(3,.I st.1),(8,.S 0),(9,.I (l_.length:Int)),(10,.I st.2)])) (fun n st=>z12_l2 N rc l_ n st.1 st.2) (r:=r) (fun _=>rfl) ?_ (fun ih=>?_))
 ·intro n12 ih15
  rintro ⟨d,e⟩ h
  replace h:z12_l2 N rc l_ (n12+1) d e=some r:=h
  unfold z12_l2 at h
  refine wB' J 5 h (fun h=>wa J 2 (eSub [] (j1 d h))) fun h=>?_
  refine wO J 6 h fun f g h=>eIx J oO8 g (wa J 11 (eCut (σ:=Int) (fun st=>⟨[(3,.I st),(5,.B 4 0),(8,.S 0),(9,.I (l_.length:Int)),(10,.I e)],[(4,.box [.I f.Kind,.s f.From,.sl 2,.s f.Name,.s f.As,.I f.Ticks,.sl 3] 88)],[(0,.sl rR8 l_),(2,.sl rS f.To),(3,.sl (rSl rR8) f.Blocks)],5⟩) (fun st=>z12_k5 N rc e (z12_l2 N rc l_ n12) f st=some r) ?_ (fun j24=>?_)))
  ·intro i h
   replace h:z12_k5 N rc e (z12_l2 N rc l_ n12) f i=some r:=h
   unfold z12_k5 at h
   refine wa J 7 (eCut (σ:=Int) (fun st=>⟨[(3,.I st),(8,.S 0),(9,.I (l_.length:Int)),(10,.I e)],[],[(0,.sl rR8 l_)],5⟩) (fun st=>z12_k3 e (z12_l2 N rc l_ n12) st=some r) ?_ (fun j25=>?_))
   ·intro j h
    replace h:z12_k3 e (z12_l2 N rc l_ n12) j=some r:=h
    unfold z12_k3 at h
    exact wa J 5 (eSub [] (ih15 (j,(w64 (e+1))) h))
   refine wa J 1 (eLoop (σ:=Int × Int) (fun st=>⟨[(3,.I st.1),(8,.S 0),(9,.I (l_.length:Int)),(10,.I e),(20,.S 3),(21,.I (f.Blocks.length:Int)),(22,.I st.2)],[],[(0,.sl rR8 l_),(3,.sl (rSl rR8) f.Blocks)],5⟩) (fun n st=>z12_l4 rc e (z12_l2 N rc l_ n12) f n st.1 st.2) (r:=r) (fun _=>rfl) ?_ (fun ih=>?_))
   ·intro n14 ih27
    rintro ⟨k,l⟩ h
    replace h:z12_l4 rc e (z12_l2 N rc l_ n12) f (n14+1) k l=some r:=h
    unfold z12_l4 at h
    refine wB' J 5 h (fun h=>wa J 2 (eSub [] (j25 k h))) fun h=>?_
    refine wO J 6 h fun m o h=>eIx J (oSl rR8) o ?_
    exact wO J 6 h fun p q h=>eCl (rc_law11_calls_ct m _ q) [] [(0,.sl 6)] (wa J 8 (eSub [] (ih27 ((w64 (k+p)),(w64 (l+1))) h)))
   exact eSub [] (ih N (i,0) h)
  exact eB h (fun h=>wa J 6 (eSub [] (j24 (w64 (d+1)) h))) fun h=>wa J 2 (eSub [] (j24 d h))
 exact eSub [] (ih N (0,0) h)
theorem z12_rct:∀ (N:Nat) (l_:(List T8)) (r:Int) (h:z12_r N l_=some r),Fn Tryz.prog 12 ⟨1,[.S 0],[(0,.sl rR8 l_)],[],1,.I r,[],[]⟩:=by
 intro N
 induction N with
 | zero=>intros;rename_i h;cases h
 | succ N ih=>intro l_ r h;exact z12_b_ct N (z12_r N) ih l_ r h
theorem z12_ct (N:Nat) (l_:(List T8)) (r:Int) (h:z12 N l_=some r):Fn Tryz.prog 12 ⟨1,[.S 0],[(0,.sl rR8 l_)],[],1,.I r,[],[]⟩:=z12_rct N l_ r h
theorem z39_b_ct (N:Nat) (rc:(List T8)→Option Int) (rc_ref10_Count_ct:(∀ (l_:(List T8)) (r:Int),rc l_=some r→Fn Tryz.prog 39 ⟨1,[.S 0],[(0,.sl rR8 l_)],[],1,.I r,[],[]⟩)) (l_:(List T8)) (r:Int) (h:z39_b N rc l_=some r) :
 Fn Tryz.prog 39 ⟨1,[.S 0],[(0,.sl rR8 l_)],[],1,.I r,[],[]⟩:=by
 refine eFn func39 rfl (fun E F w=>?_)
 unfold z39_b at h
 refine wa J 13 (eCut (σ:=Int) (fun st=>(zz3 l_ [(3,.I st)])) (fun st=>z39_k1 st=some r) ?_ (fun j1=>?_))
 ·intro c h
  replace h:z39_k1 c=some r:=h
  unfold z39_k1 at h
  cases h
  exact wr J 5 func39 []
 refine wa J 1 (eLoop (σ:=Int × Int) (fun st=>(zz3 l_ [(0,.S 0),(3,.I st.1),(4,.I st.2)])) (fun n st=>z39_l2 N rc l_ n st.1 st.2) (r:=r) (fun _=>rfl) ?_ (fun ih=>?_))
 ·intro n12 ih12
  rintro ⟨d,e⟩ h
  replace h:z39_l2 N rc l_ (n12+1) d e=some r:=h
  unfold z39_l2 at h
  refine wB' J 8 h (fun h=>wa J 2 (eSub [] (j1 d h))) fun h=>wa J 14 (eCut (σ:=Int) (fun st=>(zz3 l_ [(0,.S 0),(3,.I st),(4,.I e)])) (fun st=>z39_k3 e (z39_l2 N rc l_ n12) st=some r) ?_ (fun j19=>?_))
  ·intro f h
   replace h:z39_k3 e (z39_l2 N rc l_ n12) f=some r:=h
   unfold z39_k3 at h
   exact wa J 6 (eSub [] (ih12 (f,(w64 (e+1))) h))
  refine wa J 1 (eLoop (σ:=Int × Int) (fun st=>(zz3 l_ [(0,.S 0),(3,.I st.1),(4,.I e),(5,.I st.2)])) (fun n st=>z39_l4 rc l_ e (z39_l2 N rc l_ n12) n st.1 st.2) (r:=r) (fun _=>rfl) ?_ (fun ih=>?_))
  ·intro n14 ih21
   rintro ⟨g,i⟩ h
   replace h:z39_l4 rc l_ e (z39_l2 N rc l_ n12) (n14+1) g i=some r:=h
   unfold z39_l4 at h
   refine wO J 6 h fun j k h=>eIx J oO8 k ?_
   refine wB' J 5 h (fun h=>wa J 2 (eSub [] (j19 g h))) fun h=>?_
   refine wO J 8 h fun l m h=>eIx J oO8 m ?_
   refine wO J 3 h fun o p h=>eIx J (oSl rR8) p ?_
   exact wO J 1 h fun q s h=>eCl (rc_ref10_Count_ct o _ s) [] [(0,.sl 8)] (wa J 9 (eSub [] (ih21 ((w64 (g+q)),(w64 (i+1))) h)))
  exact eSub [] (ih N ((w64 (d+1)),0) h)
 exact eSub [] (ih N (0,0) h)
theorem z39_rct:∀ (N:Nat) (l_:(List T8)) (r:Int) (h:z39_r N l_=some r),Fn Tryz.prog 39 ⟨1,[.S 0],[(0,.sl rR8 l_)],[],1,.I r,[],[]⟩:=by
 intro N
 induction N with
 | zero=>intros;rename_i h;cases h
 | succ N ih=>intro l_ r h;exact z39_b_ct N (z39_r N) ih l_ r h
theorem z39_ct (N:Nat) (l_:(List T8)) (r:Int) (h:z39 N l_=some r):Fn Tryz.prog 39 ⟨1,[.S 0],[(0,.sl rR8 l_)],[],1,.I r,[],[]⟩:=z39_rct N l_ r h
theorem z19_ct (N:Nat) (l_:(List T10)) (r:Bool) (h:z19 N l_=some r) :
 Fn Tryz.prog 19 ⟨1,[.S 0],[(0,.sl rR10 l_)],[],1,.O r,[],[]⟩:=by
 refine eFn func19 rfl (fun E F w=>?_)
 unfold z19 at h
 refine wa J 14 (eCut (σ:=Int × Int) (fun st=>⟨[(0,.S 0),(3,.I st.1),(4,.I st.2)],[],[(0,.sl rR10 l_)],1⟩) (fun st=>z19_k1 l_ st.1 st.2=some r) ?_ (fun j1=>?_))
 ·rintro ⟨c,d⟩ h
  replace h:z19_k1 l_ c d=some r:=h
  unfold z19_k1 at h
  refine wB' J 6 h (fun h=>?_) fun h=>?_
  ·cases h
   exact wr J 9 func19 []
  refine wB J 4 h (fun h=>?_) fun h=>?_
  ·cases h
   exact wr J 5 func19 []
  cases h
  exact wr J 5 func19 []
 refine wa J 1 (eLoop (σ:=Int × Int × Int) (fun st=>⟨[(0,.S 0),(3,.I st.1),(4,.I st.2.1),(5,.I st.2.2)],[],[(0,.sl rR10 l_)],1⟩) (fun n st=>z19_l2 N l_ n st.1 st.2.1 st.2.2) (r:=r) (fun _=>rfl) ?_ (fun ih=>?_))
 ·intro n12 ih12
  rintro ⟨e,f,g⟩ h
  replace h:z19_l2 N l_ (n12+1) e f g=some r:=h
  unfold z19_l2 at h
  refine wB' J 8 h (fun h=>wa J 2 (eSub [] (j1 (e,f) h))) fun h=>?_
  refine wO J 9 h fun i j h=>eIx J oO10 j ?_
  refine wO J 2 h fun k l h=>eCl (z39_ct N i.Body _ l) [] [(0,.sl 4)] ?_
  refine wO J 8 h fun m o h=>eIx J oO10 o (wa J 10 (eCut (σ:=Unit) (fun st=>⟨[(0,.S 0),(3,.I (w64 (e+k))),(4,.I (w64 (f+(m.Messages.length:Int)))),(5,.I g)],[],[(0,.sl rR10 l_)],9⟩) (fun st=>z19_k3 e f g (z19_l2 N l_ n12) k m=some r) ?_ (fun j19=>?_)))
  ·intro _ h
   replace h:z19_k3 e f g (z19_l2 N l_ n12) k m=some r:=h
   unfold z19_k3 at h
   exact wa J 6 (eSub [] (ih12 ((w64 (e+k)),(w64 (f+(m.Messages.length:Int))),(w64 (g+1))) h))
  refine wa J 1 (eLoop (σ:=Int) (fun st=>⟨[(0,.S 0),(3,.I (w64 (e+k))),(4,.I (w64 (f+(m.Messages.length:Int)))),(5,.I g),(6,.I st)],[],[(0,.sl rR10 l_)],9⟩) (fun n st=>z19_l4 l_ e f g (z19_l2 N l_ n12) k m n st) (r:=r) (fun _=>rfl) ?_ (fun ih=>?_))
  ·intro n14 ih21
   intro p h
   replace h:z19_l4 l_ e f g (z19_l2 N l_ n12) k m (n14+1) p=some r:=h
   unfold z19_l4 at h
   refine wO J 6 h fun q s h=>eIx J oO10 s ?_
   refine wB' J 5 h (fun h=>wa J 2 (eSub [] (j19 () h))) fun h=>?_
   refine wO J 8 h fun t u h=>eIx J oO10 u ?_
   refine wO J 3 h fun v x h=>eIx J oO9 x ?_
   refine wB J 5 h (fun h=>?_) fun h=>?_
   ·cases h
    exact wr J 18 func19 []
   refine wO J 2 h fun y z h=>eIx J oO10 z ?_
   refine wO J 3 h fun A C h=>eIx J oO9 C ?_
   refine wB J 6 h (fun h=>?_) fun h=>wa J 8 (eSub [] (ih21 (w64 (p+1)) h))
   cases h
   exact wr J 5 func19 []
  exact eSub [] (ih N 0 h)
 exact eSub [] (ih N (0,0,0) h)
theorem z8_ct (N:Nat) (l_:(List T10)) (r:Bool) (h:z8 N l_=some r) :
 Fn Tryz.prog 8 ⟨1,[.S 0],[(0,.sl rR10 l_)],[],1,.O r,[],[]⟩:=by
 refine eFn func8 rfl (fun E F w=>?_)
 unfold z8 at h
 refine wa J 11 (eCut (σ:=Unit) (fun st=>⟨[(0,.S 0)],[],[(0,.sl rR10 l_)],1⟩) (fun st=>z8_k1 N l_=some r) ?_ (fun j1=>?_))
 ·intro _ h
  replace h:z8_k1 N l_=some r:=h
  unfold z8_k1 at h
  refine wO J 3 h fun x9 c h=>eCl (z19_ct N l_ _ c) [] [(0,.sl 0)] ?_
  cases h
  exact wr J 2 func8 []
 refine wa J 1 (eLoop (σ:=Int) (fun st=>⟨[(0,.S 0),(5,.S 0),(6,.I (l_.length:Int)),(7,.I st)],[],[(0,.sl rR10 l_)],1⟩) (fun n st=>z8_l2 N l_ n st) (r:=r) (fun _=>rfl) ?_ (fun ih=>?_))
 ·intro n2 ih3
  intro d h
  replace h:z8_l2 N l_ (n2+1) d=some r:=h
  unfold z8_l2 at h
  refine wB' J 5 h (fun h=>wa J 2 (eSub [] (j1 () h))) fun h=>?_
  refine wO J 6 h fun e f h=>eIx J oO10 f ?_
  refine wO J 8 h fun g i h=>eCl (z12_ct N e.Body _ i) [] [(0,.sl 4)] ?_
  refine wB J 2 h (fun h=>?_) fun h=>wa J 7 (eSub [] (ih3 (w64 (d+1)) h))
  cases h
  exact wr J 5 func8 []
 exact eSub [] (ih N 0 h)
theorem z31_b_ct (N:Nat) (rc:(List T8)→Option (List T13)) (rc_law10_ownItems_ct:(∀ (l_:(List T8)) (r:(List T13)),rc l_=some r→Fn Tryz.prog 31 ⟨1,[.S 0],[(0,.sl rR8 l_)],[],2,.S 1,[],[(1,.own rR13 r true)]⟩)) (l_:(List T8)) (r:(List T13)) (h:z31_b N rc l_=some r) :
 Fn Tryz.prog 31 ⟨1,[.S 0],[(0,.sl rR8 l_)],[],2,.S 1,[],[(1,.own rR13 r true)]⟩:=by
 refine eFn func31 rfl (fun E F w=>?_)
 unfold z31_b at h
 refine wa J 15 (eCut (σ:=(List T13)) (fun st=>⟨[(3,.S 1)],[(1,.own rR13 st true)],[(0,.sl rR8 l_)],2⟩) (fun st=>z31_k1 st=some r) ?_ (fun j1=>?_))
 ·intro c h
  replace h:z31_k1 c=some r:=h
  unfold z31_k1 at h
  cases h
  exact wr J 5 func31 [(1,.sl 1)]
 refine wa J 1 (eLoop (σ:=(List T13) × Int) (fun st=>⟨[(3,.S 1),(9,.S 0),(10,.I (l_.length:Int)),(11,.I st.2)],[(1,.own rR13 st.1 true)],[(0,.sl rR8 l_)],2⟩) (fun n st=>z31_l2 N rc l_ n st.1 st.2) (r:=r) (fun _=>rfl) ?_ (fun ih=>?_))
 ·intro n12 ih12
  rintro ⟨d,e⟩ h
  replace h:z31_l2 N rc l_ (n12+1) d e=some r:=h
  unfold z31_l2 at h
  refine wB' J 5 h (fun h=>wa J 2 (eSub [] (j1 d h))) fun h=>?_
  refine wO J 6 h fun f g h=>eIx J oO8 g (wa J 30 (eCut (σ:=(List (List T13))) (fun st=>⟨[(3,.S 1),(6,.B 6 0),(9,.S 0),(10,.I (l_.length:Int)),(11,.I e)],[(1,.own rR13 d true),(6,.box [.I f.Kind,.s f.From,.sl 3,.s f.Name,.s f.As,.I f.Ticks,.sl 7] 51),(7,.own (rSl rR13) st true)],[(0,.sl rR8 l_),(3,.sl rS f.To)],8⟩) (fun st=>z31_k3 d e (z31_l2 N rc l_ n12) f st=some r) ?_ (fun j19=>?_)))
  ·intro i h
   replace h:z31_k3 d e (z31_l2 N rc l_ n12) f i=some r:=h
   unfold z31_k3 at h
   refine wa J 3 (eBs J [7] oO13 ([(⟨f.Kind,f.From,f.To,f.Name,f.As,f.Ticks,i⟩:T13)]:List T13) ?_)
   obtain ⟨j,k,h⟩:=ob h
   exact eAp J rR13 k (wa J 7 (eSub [(1,.sl 9)] (ih12 (j,(w64 (e+1))) h)))
  refine wa J 1 (eLoop (σ:=(List (List T13)) × Int) (fun st=>⟨[(3,.S 1),(6,.B 6 0),(9,.S 0),(10,.I (l_.length:Int)),(11,.I e),(29,.S 4),(30,.I (f.Blocks.length:Int)),(31,.I st.2)],[(1,.own rR13 d true),(6,.box [.I f.Kind,.s f.From,.sl 3,.s f.Name,.s f.As,.I f.Ticks,.sl 7] 51),(7,.own (rSl rR13) st.1 true)],[(0,.sl rR8 l_),(3,.sl rS f.To),(4,.sl (rSl rR8) f.Blocks)],8⟩) (fun n st=>z31_l4 rc d e (z31_l2 N rc l_ n12) f n st.1 st.2) (r:=r) (fun _=>rfl) ?_ (fun ih=>?_))
  ·intro n14 ih21
   rintro ⟨l,m⟩ h
   replace h:z31_l4 rc d e (z31_l2 N rc l_ n12) f (n14+1) l m=some r:=h
   unfold z31_l4 at h
   refine wB' J 5 h (fun h=>wa J 2 (eSub [] (j19 l h))) fun h=>?_
   refine wO J 6 h fun o p h=>eIx J (oSl rR8) p ?_
   refine wO J 7 h fun q t h=>eCl (rc_law10_ownItems_ct o _ t) [] [(0,.sl 9)] (eBs J [10] (oSl rR13) ([q]:List (List T13)) ?_)
   obtain ⟨u,v,h⟩:=ob h
   exact eAp J (rSl rR13) v (wa J 2 (eEnd (wa J 5 (eSub [(7,.sl 12)] (ih21 (u,(w64 (m+1))) h)))))
  exact eSub [(7,.nil)] (ih N (([]:List (List T13)),0) h)
 exact eSub [(1,.nil)] (ih N (([]:List T13),0) h)
theorem z31_rct:∀ (N:Nat) (l_:(List T8)) (r:(List T13)) (h:z31_r N l_=some r),Fn Tryz.prog 31 ⟨1,[.S 0],[(0,.sl rR8 l_)],[],2,.S 1,[],[(1,.own rR13 r true)]⟩:=by
 intro N
 induction N with
 | zero=>intros;rename_i h;cases h
 | succ N ih=>intro l_ r h;exact z31_b_ct N (z31_r N) ih l_ r h
theorem z31_ct (N:Nat) (l_:(List T8)) (r:(List T13)) (h:z31 N l_=some r):Fn Tryz.prog 31 ⟨1,[.S 0],[(0,.sl rR8 l_)],[],2,.S 1,[],[(1,.own rR13 r true)]⟩:=z31_rct N l_ r h
theorem z10_ct (N:Nat) (l_:(List T10)) (r:(List T15)) (h:z10 N l_=some r) :
 Fn Tryz.prog 10 ⟨1,[.S 0],[(0,.sl rR10 l_)],[],2,.S 1,[],[(1,.own rR15 r true)]⟩:=by
 refine eFn func10 rfl (fun E F w=>?_)
 unfold z10 at h
 refine wa J 15 (eCut (σ:=(List T15)) (fun st=>⟨[(3,.S 1)],[(1,.own rR15 st true)],[(0,.sl rR10 l_)],2⟩) (fun st=>z10_k1 st=some r) ?_ (fun j1=>?_))
 ·intro c h
  replace h:z10_k1 c=some r:=h
  unfold z10_k1 at h
  cases h
  exact wr J 5 func10 [(1,.sl 1)]
 refine wa J 1 (eLoop (σ:=(List T15) × Int) (fun st=>⟨[(3,.S 1),(12,.S 0),(13,.I (l_.length:Int)),(14,.I st.2)],[(1,.own rR15 st.1 true)],[(0,.sl rR10 l_)],2⟩) (fun n st=>z10_l2 N l_ n st.1 st.2) (r:=r) (fun _=>rfl) ?_ (fun ih=>?_))
 ·intro n72 ih66
  rintro ⟨d,e⟩ h
  replace h:z10_l2 N l_ (n72+1) d e=some r:=h
  unfold z10_l2 at h
  refine wB' J 5 h (fun h=>wa J 2 (eSub [] (j1 d h))) fun h=>?_
  refine wO J 6 h fun f g h=>eIx J oO10 g ?_
  refine wO J 12 h fun i j h=>eCl (z31_ct N f.Body _ j) [] [(0,.sl 5)] (wa J 3 (eEnd (wa J 8 (eCut (σ:=(List T14)) (fun st=>⟨[(3,.S 1),(6,.B 8 0),(12,.S 0),(13,.I (l_.length:Int)),(14,.I e)],[(1,.own rR15 d true),(7,.own rR13 i true),(8,.box [.s f.Name,.sl 3,.sl 9,.sl 7] 40),(9,.own rR14 st true)],[(0,.sl rR10 l_),(3,.sl rS f.Roles)],10⟩) (fun st=>z10_k3 d e (z10_l2 N l_ n72) f i st=some r) ?_ (fun j109=>?_)))))
  ·intro k h
   replace h:z10_k3 d e (z10_l2 N l_ n72) f i k=some r:=h
   unfold z10_k3 at h
   refine wa J 3 (eBs J [9,7] oO15 ([(⟨f.Name,f.Roles,k,i⟩:T15)]:List T15) ?_)
   obtain ⟨l,m,h⟩:=ob h
   exact eAp J rR15 m (wa J 7 (eSub [(1,.sl 11)] (ih66 (l,(w64 (e+1))) h)))
  refine wa J 1 (eLoop (σ:=(List T14) × Int) (fun st=>⟨[(3,.S 1),(6,.B 8 0),(12,.S 0),(13,.I (l_.length:Int)),(14,.I e),(27,.S 4),(28,.I (f.Messages.length:Int)),(29,.I st.2)],[(1,.own rR15 d true),(7,.own rR13 i true),(8,.box [.s f.Name,.sl 3,.sl 9,.sl 7] 40),(9,.own rR14 st.1 true)],[(0,.sl rR10 l_),(3,.sl rS f.Roles),(4,.sl rR9 f.Messages)],10⟩) (fun n st=>z10_l4 N d e (z10_l2 N l_ n72) f i n st.1 st.2) (r:=r) (fun _=>rfl) ?_ (fun ih=>?_))
  ·intro n84 ih120
   rintro ⟨o,p⟩ h
   replace h:z10_l4 N d e (z10_l2 N l_ n72) f i (n84+1) o p=some r:=h
   unfold z10_l4 at h
   refine wB' J 5 h (fun h=>wa J 2 (eSub [] (j109 o h))) fun h=>?_
   refine wO J 6 h fun q t h=>eIx J oO9 t (wa J 22 (eCut (σ:=(List T12)) (fun st=>⟨[(3,.S 1),(6,.B 8 0),(9,.B 14 0),(12,.S 0),(13,.I (l_.length:Int)),(14,.I e),(27,.S 4),(28,.I (f.Messages.length:Int)),(29,.I p)],[(1,.own rR15 d true),(7,.own rR13 i true),(8,.box [.s f.Name,.sl 3,.sl 9,.sl 7] 40),(9,.own rR14 o true),(14,.box [.s q.Name,.sl 11,.sl 15] 55),(15,.own rR12 st true)],[(0,.sl rR10 l_),(3,.sl rS f.Roles),(4,.sl rR9 f.Messages),(11,.sl rR0 q.Fields)],16⟩) (fun st=>z10_k5 o p (z10_l4 N d e (z10_l2 N l_ n72) f i n84) q st=some r) ?_ (fun j127=>?_)))
   ·intro u h
    replace h:z10_k5 o p (z10_l4 N d e (z10_l2 N l_ n72) f i n84) q u=some r:=h
    unfold z10_k5 at h
    refine wa J 4 (eBs J [15] oO14 ([(⟨q.Name,q.Fields,u⟩:T14)]:List T14) ?_)
    obtain ⟨v,x,h⟩:=ob h
    exact eAp J rR14 x (wa J 8 (eSub [(9,.sl 17)] (ih120 (v,(w64 (p+1))) h)))
   refine wa J 1 (eLoop (σ:=(List T12) × Int) (fun st=>⟨[(3,.S 1),(6,.B 8 0),(9,.B 14 0),(12,.S 0),(13,.I (l_.length:Int)),(14,.I e),(27,.S 4),(28,.I (f.Messages.length:Int)),(29,.I p),(39,.S 12),(40,.I (q.Where.length:Int)),(41,.I st.2)],[(1,.own rR15 d true),(7,.own rR13 i true),(8,.box [.s f.Name,.sl 3,.sl 9,.sl 7] 40),(9,.own rR14 o true),(14,.box [.s q.Name,.sl 11,.sl 15] 55),(15,.own rR12 st.1 true)],((0,.sl rR10 l_)::(3,.sl rS f.Roles)::(4,.sl rR9 f.Messages)::vV9 11 12 q []),16⟩) (fun n st=>z10_l6 o p (z10_l4 N d e (z10_l2 N l_ n72) f i n84) q n st.1 st.2) (r:=r) (fun _=>rfl) ?_ (fun ih=>?_))
   ·intro n86 ih129
    rintro ⟨y,z⟩ h
    replace h:z10_l6 o p (z10_l4 N d e (z10_l2 N l_ n72) f i n84) q (n86+1) y z=some r:=h
    unfold z10_l6 at h
    refine wB' J 5 h (fun h=>wa J 2 (eSub [] (j127 y h))) fun h=>?_
    refine wO J 6 h fun A C h=>eIx J oO7 C (wa J 14 (eBs J [] oO12 ([(⟨A.Left,A.Op,A.Right⟩:T12)]:List T12) ?_))
    obtain ⟨D,G,h⟩:=ob h
    exact eAp J rR12 G (wa J 8 (eSub [(15,.sl 19)] (ih129 (D,(w64 (z+1))) h)))
   exact eSub [(15,.nil)] (ih N (([]:List T12),0) h)
  exact eSub [(9,.nil)] (ih N (([]:List T14),0) h)
 exact eSub [(1,.nil)] (ih N (([]:List T15),0) h)
theorem z14_ct (N:Nat) (l_:(List T15)) (r:ByteArray × Int) (h:z14 N l_=some r) :
 Fn Tryz.prog 14 ⟨2,[.S 0],[(0,.sl rR15 l_)],[(1,.abs powT)],2,.t [.inl (.s r.1),.inl (.I r.2)],[],[(1,.abs powT)]⟩:=by
 refine eFn func14 rfl (fun E F w=>?_)
 unfold z14 at h
 refine wO J 9 h fun x1 c h=>eCl (z11_ct N l_ _ c) [] [(0,.sl 0),(1,.sl 1)] ?_
 refine wB J 2 h (fun h=>?_) fun h=>?_
 ·cases h
  exact wr J 6 func14 []
 refine wO J 5 h fun x2 d h=>eCl (z36_ct N l_ _ d) [] [(0,.sl 0),(1,.sl 1)] ?_
 cases h
 exact wr J 3 func14 []
theorem z38_ct (N:Nat) (s_:ByteArray) (from_:ByteArray) (to_:ByteArray) (r:ByteArray) (h:z38 N s_ from_ to_=some r) :
 Fn Tryz.prog 38 ⟨0,[.c (.s s_),.c (.s from_),.c (.s to_)],[],[],0,.c (.s r),[],[]⟩:=by
 refine eFn func38 rfl (fun E F w=>?_)
 unfold z38 at h
 refine wB J 11 h (fun h=>?_) fun h=>?_
 ·cases h
  exact wr J 6 func38 []
 cases h
 exact wr J 7 func38 []
theorem z16_ct (N:Nat) (l_:(List ByteArray)) (from_:ByteArray) (to_:ByteArray) (r:(List ByteArray)) (h:z16 N l_ from_ to_=some r) :
 Fn Tryz.prog 16 ⟨1,[.S 0,.c (.s from_),.c (.s to_)],[(0,.sl rS l_)],[],2,.S 1,[],[(1,.own rS r true)]⟩:=by
 refine eFn func16 rfl (fun E F w=>?_)
 unfold z16 at h
 refine wa J 15 (eCut (σ:=(List ByteArray)) (fun st=>⟨[(7,.S 1)],[(1,.own rS st true)],[(0,.sl rS l_)],2⟩) (fun st=>z16_k1 st=some r) ?_ (fun j1=>?_))
 ·intro d h
  replace h:z16_k1 d=some r:=h
  unfold z16_k1 at h
  cases h
  exact wr J 5 func16 [(1,.sl 1)]
 refine wa J 1 (eLoop (σ:=(List ByteArray) × Int) (fun st=>⟨[(1,.c (.s from_)),(2,.c (.s to_)),(7,.S 1),(10,.S 0),(11,.I (l_.length:Int)),(12,.I st.2)],[(1,.own rS st.1 true)],[(0,.sl rS l_)],2⟩) (fun n st=>z16_l2 N l_ from_ to_ n st.1 st.2) (r:=r) (fun _=>rfl) ?_ (fun ih=>?_))
 ·intro n2 ih3
  rintro ⟨e,f⟩ h
  replace h:z16_l2 N l_ from_ to_ (n2+1) e f=some r:=h
  unfold z16_l2 at h
  refine wB' J 5 h (fun h=>wa J 2 (eSub [] (j1 e h))) fun h=>?_
  refine wO J 6 h fun g i h=>eIx J oS i ?_
  refine wO J 8 h fun j k h=>eCl (z38_ct N g from_ to_ _ k) [] [] (eBs J [] oS ([j]:List ByteArray) ?_)
  obtain ⟨l,m,h⟩:=ob h
  exact eAp J rS m (wa J 7 (eSub [(1,.sl 4)] (ih3 (l,(w64 (f+1))) h)))
 exact eSub [(1,.nil)] (ih N (([]:List ByteArray),0) h)
theorem z17_b_ct (N:Nat) (rc:(List T13)→Int→ByteArray→ByteArray→Option (List T13)) (rc_law11_items_ct:(∀ (l_:(List T13)) (kind_:Int) (from_:ByteArray) (to_:ByteArray) (r:(List T13)),rc l_ kind_ from_ to_=some r→Fn Tryz.prog 17 ⟨1,[.S 0,.I kind_,.c (.s from_),.c (.s to_)],[(0,.sl rR13 l_)],[],2,.S 1,[],[(1,.own rR13 r true)]⟩)) (l_:(List T13)) (kind_:Int) (from_:ByteArray) (to_:ByteArray) (r:(List T13)) (h:z17_b N rc l_ kind_ from_ to_=some r) :
 Fn Tryz.prog 17 ⟨1,[.S 0,.I kind_,.c (.s from_),.c (.s to_)],[(0,.sl rR13 l_)],[],2,.S 1,[],[(1,.own rR13 r true)]⟩:=by
 refine eFn func17 rfl (fun E F w=>?_)
 unfold z17_b at h
 refine wa J 15 (eCut (σ:=(List T13)) (fun st=>⟨[(9,.S 1)],[(1,.own rR13 st true)],[(0,.sl rR13 l_)],2⟩) (fun st=>z17_k1 st=some r) ?_ (fun j1=>?_))
 ·intro d h
  replace h:z17_k1 d=some r:=h
  unfold z17_k1 at h
  cases h
  exact wr J 5 func17 [(1,.sl 1)]
 refine wa J 1 (eLoop (σ:=(List T13) × Int) (fun st=>⟨[(1,.I kind_),(2,.c (.s from_)),(3,.c (.s to_)),(9,.S 1),(16,.S 0),(17,.I (l_.length:Int)),(18,.I st.2)],[(1,.own rR13 st.1 true)],[(0,.sl rR13 l_)],2⟩) (fun n st=>z17_l2 N rc l_ kind_ from_ to_ n st.1 st.2) (r:=r) (fun _=>rfl) ?_ (fun ih=>?_))
 ·intro n12 ih18
  rintro ⟨e,f⟩ h
  replace h:z17_l2 N rc l_ kind_ from_ to_ (n12+1) e f=some r:=h
  unfold z17_l2 at h
  refine wB' J 5 h (fun h=>wa J 2 (eSub [] (j1 e h))) fun h=>?_
  refine wO J 6 h fun g i h=>eIx J oO13 i ?_
  refine wa J 10 (eCut (σ:=Bool) (fun st=>⟨[(1,.I kind_),(2,.c (.s from_)),(3,.c (.s to_)),(9,.S 1),(11,.B 5 0),(12,.O st),(16,.S 0),(17,.I (l_.length:Int)),(18,.I f)],[(1,.own rR13 e true),(5,.box [.I g.Kind,.s g.From,.sl 3,.s g.Name,.s g.As,.I g.Ticks,.sl 4] 51)],[(0,.sl rR13 l_),(3,.sl rS g.To),(4,.sl (rSl rR13) g.Blocks)],6⟩) (fun st=>z17_k6 N rc kind_ from_ to_ e f (z17_l2 N rc l_ kind_ from_ to_ n12) g st=some r) ?_ (fun j29=>?_))
  ·intro j h
   replace h:z17_k6 N rc kind_ from_ to_ e f (z17_l2 N rc l_ kind_ from_ to_ n12) g j=some r:=h
   unfold z17_k6 at h
   refine wa J 8 (eCut (σ:=ByteArray × (List ByteArray) × ByteArray) (fun st=>⟨[(1,.I kind_),(2,.c (.s from_)),(3,.c (.s to_)),(9,.S 1),(11,.B 5 0),(16,.S 0),(17,.I (l_.length:Int)),(18,.I f)],[(1,.own rR13 e true),(5,.box [.I g.Kind,.s st.1,.sl 6,.s st.2.2,.s g.As,.I g.Ticks,.sl 4] 51)],[(0,.sl rR13 l_),(4,.sl (rSl rR13) g.Blocks),(6,.sl rS st.2.1)],7⟩) (fun st=>z17_k5 N rc kind_ from_ to_ e f (z17_l2 N rc l_ kind_ from_ to_ n12) g st.1 st.2.1 st.2.2=some r) ?_ (fun j30=>?_))
   ·rintro ⟨k,l,m⟩ h
    replace h:z17_k5 N rc kind_ from_ to_ e f (z17_l2 N rc l_ kind_ from_ to_ n12) g k l m=some r:=h
    unfold z17_k5 at h
    refine wa J 13 (eCut (σ:=(List (List T13))) (fun st=>(zz32 e g.Kind k m g.As g.Ticks st l_ g.Blocks l [(1,.I kind_),(2,.c (.s from_)),(3,.c (.s to_)),(9,.S 1),(11,.B 5 0),(13,.S 7),(16,.S 0),(17,.I (l_.length:Int)),(18,.I f)])) (fun st=>z17_k3 e f (z17_l2 N rc l_ kind_ from_ to_ n12) g k l m st=some r) ?_ (fun j31=>?_))
    ·intro o h
     replace h:z17_k3 e f (z17_l2 N rc l_ kind_ from_ to_ n12) g k l m o=some r:=h
     unfold z17_k3 at h
     refine wa J 9 (eBs J [7] oO13 ([(⟨g.Kind,k,l,m,g.As,g.Ticks,o⟩:T13)]:List T13) ?_)
     obtain ⟨p,q,h⟩:=ob h
     exact eAp J rR13 q (wa J 7 (eSub [(1,.sl 9)] (ih18 (p,(w64 (f+1))) h)))
    refine wa J 1 (eLoop (σ:=(List (List T13)) × Int) (fun st=>(zz32 e g.Kind k m g.As g.Ticks st.1 l_ g.Blocks l [(1,.I kind_),(2,.c (.s from_)),(3,.c (.s to_)),(9,.S 1),(11,.B 5 0),(13,.S 7),(16,.S 0),(17,.I (l_.length:Int)),(18,.I f),(67,.S 4),(68,.I (g.Blocks.length:Int)),(69,.I st.2)])) (fun n st=>z17_l4 rc kind_ from_ to_ e f (z17_l2 N rc l_ kind_ from_ to_ n12) g k l m n st.1 st.2) (r:=r) (fun _=>rfl) ?_ (fun ih=>?_))
    ·intro n14 ih33
     rintro ⟨t,u⟩ h
     replace h:z17_l4 rc kind_ from_ to_ e f (z17_l2 N rc l_ kind_ from_ to_ n12) g k l m (n14+1) t u=some r:=h
     unfold z17_l4 at h
     refine wB' J 5 h (fun h=>wa J 2 (eSub [] (j31 t h))) fun h=>?_
     refine wO J 6 h fun v x h=>eIx J (oSl rR13) x ?_
     refine wO J 9 h fun y z h=>eCl (rc_law11_items_ct v kind_ from_ to_ _ z) [] [(0,.sl 9)] (eBs J [10] (oSl rR13) ([y]:List (List T13)) ?_)
     obtain ⟨A,C,h⟩:=ob h
     exact eAp J (rSl rR13) C (wa J 7 (eSub [(7,.sl 12)] (ih33 (A,(w64 (u+1))) h)))
    exact eSub [(7,.nil)] (ih N (([]:List (List T13)),0) h)
   refine eB h (fun h=>?_) fun h=>?_
   ·refine wO J 6 h fun D G h=>eCl (z38_ct N g.From from_ to_ _ G) [] [] ?_
    exact wO J 4 h fun H R h=>eCl (z16_ct N g.To from_ to_ _ R) [] [(0,.sl 3)] (wa J 4 (eEnd (eFr [6] (eSub [] (j30 (D,H,g.Name) h)))))
   refine wB' J 6 h (fun h=>?_) fun h=>?_
   ·refine wB' J 6 h (fun h=>wa J 9 (eSub [(6,.sl 3)] (j30 (g.From,g.To,g.Name) h))) fun h=>?_
    refine wB' J 7 h (fun h=>wa J 2 (eSub [(6,.sl 3)] (j30 (g.From,g.To,g.Name) h))) fun h=>?_
    exact wO J 6 h fun T U h=>eCl (z38_ct N g.Name from_ to_ _ U) [] [] (wa J 3 (eSub [(6,.sl 3)] (j30 (g.From,g.To,T) h)))
   refine wB J 3 h (fun h=>?_) fun h=>?_
   ·exact wO J 16 h fun X Y h=>eCl (z38_ct N g.Name from_ to_ _ Y) [] [] (wa J 3 (eSub [(6,.sl 3)] (j30 (g.From,g.To,X) h)))
   refine wB' J 3 h (fun h=>wa J 9 (eSub [(6,.sl 3)] (j30 (g.From,g.To,g.Name) h))) fun h=>?_
   refine wB' J 7 h (fun h=>wa J 2 (eSub [(6,.sl 3)] (j30 (g.From,g.To,g.Name) h))) fun h=>?_
   exact wO J 6 h fun Z a0 h=>eCl (z38_ct N g.Name from_ to_ _ a0) [] [] (wa J 3 (eSub [(6,.sl 3)] (j30 (g.From,g.To,Z) h)))
  exact eB h (fun h=>wa J 6 (eSub [] (j29 true h))) fun h=>wa J 6 (eSub [] (j29 (g.Kind==4) h))
 exact eSub [(1,.nil)] (ih N (([]:List T13),0) h)
theorem z17_rct:∀ (N:Nat) (l_:(List T13)) (kind_:Int) (from_:ByteArray) (to_:ByteArray) (r:(List T13)) (h:z17_r N l_ kind_ from_ to_=some r),Fn Tryz.prog 17 ⟨1,[.S 0,.I kind_,.c (.s from_),.c (.s to_)],[(0,.sl rR13 l_)],[],2,.S 1,[],[(1,.own rR13 r true)]⟩:=by
 intro N
 induction N with
 | zero=>intros;rename_i h;cases h
 | succ N ih=>intro l_ kind_ from_ to_ r h;exact z17_b_ct N (z17_r N) ih l_ kind_ from_ to_ r h
theorem z17_ct (N:Nat) (l_:(List T13)) (kind_:Int) (from_:ByteArray) (to_:ByteArray) (r:(List T13)) (h:z17 N l_ kind_ from_ to_=some r):Fn Tryz.prog 17 ⟨1,[.S 0,.I kind_,.c (.s from_),.c (.s to_)],[(0,.sl rR13 l_)],[],2,.S 1,[],[(1,.own rR13 r true)]⟩:=z17_rct N l_ kind_ from_ to_ r h
theorem z18_ct (N:Nat) (l_:(List T14)) (from_:ByteArray) (to_:ByteArray) (r:(List T14)) (h:z18 N l_ from_ to_=some r) :
 Fn Tryz.prog 18 ⟨1,[.S 0,.c (.s from_),.c (.s to_)],[(0,.sl rR14 l_)],[],2,.S 1,[],[(1,.own rR14 r true)]⟩:=by
 refine eFn func18 rfl (fun E F w=>?_)
 unfold z18 at h
 refine wa J 15 (eCut (σ:=(List T14)) (fun st=>⟨[(7,.S 1)],[(1,.own rR14 st true)],[(0,.sl rR14 l_)],2⟩) (fun st=>z18_k1 st=some r) ?_ (fun j1=>?_))
 ·intro d h
  replace h:z18_k1 d=some r:=h
  unfold z18_k1 at h
  cases h
  exact wr J 5 func18 [(1,.sl 1)]
 refine wa J 1 (eLoop (σ:=(List T14) × Int) (fun st=>⟨[(1,.c (.s from_)),(2,.c (.s to_)),(7,.S 1),(13,.S 0),(14,.I (l_.length:Int)),(15,.I st.2)],[(1,.own rR14 st.1 true)],[(0,.sl rR14 l_)],2⟩) (fun n st=>z18_l2 N l_ from_ to_ n st.1 st.2) (r:=r) (fun _=>rfl) ?_ (fun ih=>?_))
 ·intro n12 ih12
  rintro ⟨e,f⟩ h
  replace h:z18_l2 N l_ from_ to_ (n12+1) e f=some r:=h
  unfold z18_l2 at h
  refine wB' J 5 h (fun h=>wa J 2 (eSub [] (j1 e h))) fun h=>?_
  refine wO J 6 h fun g i h=>eIx J oO14 i ?_
  refine wO J 10 h fun j k h=>eCl (z38_ct N g.Name from_ to_ _ k) [] [] (wa J 5 (eEnd (wa J 8 (eCut (σ:=(List T12)) (fun st=>⟨[(1,.c (.s from_)),(2,.c (.s to_)),(7,.S 1),(10,.B 6 0),(13,.S 0),(14,.I (l_.length:Int)),(15,.I f)],[(1,.own rR14 e true),(6,.box [.s j,.sl 3,.sl 7] 55),(7,.own rR12 st true)],[(0,.sl rR14 l_),(3,.sl rR0 g.Fields)],8⟩) (fun st=>z18_k3 e f (z18_l2 N l_ from_ to_ n12) g j st=some r) ?_ (fun j19=>?_)))))
  ·intro l h
   replace h:z18_k3 e f (z18_l2 N l_ from_ to_ n12) g j l=some r:=h
   unfold z18_k3 at h
   refine wa J 3 (eBs J [7] oO14 ([(⟨j,g.Fields,l⟩:T14)]:List T14) ?_)
   obtain ⟨m,o,h⟩:=ob h
   exact eAp J rR14 o (wa J 7 (eSub [(1,.sl 9)] (ih12 (m,(w64 (f+1))) h)))
  refine wa J 1 (eLoop (σ:=(List T12) × Int) (fun st=>⟨[(1,.c (.s from_)),(2,.c (.s to_)),(7,.S 1),(10,.B 6 0),(13,.S 0),(14,.I (l_.length:Int)),(15,.I f),(28,.S 4),(29,.I (g.Where.length:Int)),(30,.I st.2)],[(1,.own rR14 e true),(6,.box [.s j,.sl 3,.sl 7] 55),(7,.own rR12 st.1 true)],((0,.sl rR14 l_)::vV14 3 4 g []),8⟩) (fun n st=>z18_l4 N from_ to_ e f (z18_l2 N l_ from_ to_ n12) g j n st.1 st.2) (r:=r) (fun _=>rfl) ?_ (fun ih=>?_))
  ·intro n14 ih21
   rintro ⟨p,q⟩ h
   replace h:z18_l4 N from_ to_ e f (z18_l2 N l_ from_ to_ n12) g j (n14+1) p q=some r:=h
   unfold z18_l4 at h
   refine wB' J 5 h (fun h=>wa J 2 (eSub [] (j19 p h))) fun h=>?_
   refine wO J 6 h fun t u h=>eIx J oO12 u ?_
   refine wO J 11 h fun v x h=>eCl (z38_ct N t.Left.Message from_ to_ _ x) [] [] ?_
   refine wO J 5 h fun y z h=>eCl (z38_ct N t.Right.Message from_ to_ _ z) [] [] (wa J 6 (eEnd (wa J 4 (eBs J [] oO12 ([(⟨(⟨t.Left.Kind,v,t.Left.Field,t.Left.N⟩:T11),t.Op,(⟨t.Right.Kind,y,t.Right.Field,t.Right.N⟩:T11)⟩:T12)]:List T12) ?_))))
   obtain ⟨A,C,h⟩:=ob h
   exact eAp J rR12 C (wa J 8 (eSub [(7,.sl 11)] (ih21 (A,(w64 (q+1))) h)))
  exact eSub [(7,.nil)] (ih N (([]:List T12),0) h)
 exact eSub [(1,.nil)] (ih N (([]:List T14),0) h)
theorem law11_NamesRename_ct (N:Nat) (l_:(List T10)) (kind_:Int) (at_:Int) (r:Bool) (h:law11_NamesRename N l_ kind_ at_=some r) :
 Fn Tryz.prog 5 ⟨2,[.S 0,.c (.i .u8 kind_),.c (.i .u8 at_)],[(0,.sl rR10 l_)],[(1,.abs powT)],2,.O r,[],[(1,.abs powT)]⟩:=by
 refine eFn func5 rfl (fun E F w=>?_)
 unfold law11_NamesRename at h
 refine wO J 7 h fun x1 d h=>eCl (z7_ct N _ d) [] [(0,.sl 1)] ?_
 refine wB J 2 h (fun h=>?_) fun h=>?_
 ·refine wO J 13 h fun x2 e h=>eCl (z7_ct N _ e) [] [(0,.sl 1)] ?_
  cases h
  exact wr J 2 func5 []
 refine wO J 1 h fun x3 f h=>eCl (z8_ct N l_ _ f) [] [(0,.sl 0)] ?_
 refine wB J 3 h (fun h=>?_) fun h=>?_
 ·refine wO J 8 h fun x4 g h=>eCl (z7_ct N _ g) [] [(0,.sl 1)] ?_
  cases h
  exact wr J 2 func5 []
 refine wB J 5 h (fun h=>?_) fun h=>?_
 ·refine wO J 3 h fun x5 j h=>eCl (z7_ct N _ j) [] [(0,.sl 1)] ?_
  cases h
  exact wr J 2 func5 []
 refine wO J 5 h fun x6 k h=>eCl (z10_ct N l_ _ k) [] [(0,.sl 0)] ?_
 refine wO J 6 h fun x7 l h=>eCl (z9_ct N x6 _ l) [2] [(0,.sl 2),(1,.sl 1)] ?_
 refine wB J 3 h (fun h=>?_) fun h=>?_
 ·cases h
  exact wr J 5 func5 []
 refine wO J 5 h fun x8 m h=>eIx J oO15 m ?_
 refine wO J 8 h fun x9 o h=>eCl (z14_ct N x6 _ o) [] [(0,.sl 2),(1,.sl 1)] ?_
 refine wO J 9 h fun p q h=>eCl (hasS_ct N x9.1 (str [122,122,95,110,101,119]) _ q) [] [(0,.sl 1)] ?_
 refine wB J 1 h (fun h=>?_) fun h=>wa J 14 (eCut (σ:=(List ByteArray) × (List T14) × (List T13)) (fun st=>⟨[(7,.S 2),(8,.B 7 0)],[(1,.abs powT),(7,.box [.s x8.Name,.sl 8,.sl 9,.sl 10] 40)],[(0,.sl rR10 l_),(2,.sl rR15 x6),(8,.sl rS st.1),(9,.sl rR14 st.2.1),(10,.sl rR13 st.2.2)],11⟩) (fun st=>law11_NamesRename_k1 N x6 x8 st.1 st.2.1 st.2.2=some r) ?_ (fun j1=>?_))
 ·cases h
  exact wr J 5 func5 []
 ·rintro ⟨t,u,v⟩ h
  replace h:law11_NamesRename_k1 N x6 x8 t u v=some r:=h
  unfold law11_NamesRename_k1 at h
  refine wa J 4 (eBs J [] oO15 ([(⟨x8.Name,t,u,v⟩:T15)]:List T15) ?_)
  refine wO J 1 h fun x y h=>eIs J rR15 y ?_
  obtain ⟨z,A,h⟩:=ob h
  refine eAp J rR15 A (wa J 1 (eEnd ?_))
  refine wO J 3 h fun C D h=>eCl (z11_ct N z _ D) [13] [(0,.sl 13),(1,.sl 1)] ?_
  refine wB J 2 h (fun h=>?_) fun h=>?_
  ·cases h
   exact wr J 7 func5 []
  refine wO J 1 h fun G H h=>eCl (z9_ct N z _ H) [] [(0,.sl 13),(1,.sl 1)] ?_
  cases h
  exact wr J 5 func5 []
 refine eB h (fun h=>?_) fun h=>?_
 ·refine wO J 10 h fun R T h=>eBi T ?_
  obtain ⟨U,X,h⟩:=ob h
  refine eIx J oS X (wa J 2 (eEnd ?_))
  refine wO J 4 h fun Y Z h=>eCl (z16_ct N x8.Roles U (str [122,122,95,110,101,119]) _ Z) [] [(0,.sl 4)] ?_
  exact wO J 3 h fun a0 b0 h=>eCl (z17_ct N x8.Body 0 U (str [122,122,95,110,101,119]) _ b0) [] [(0,.sl 6)] (wa J 4 (eEnd (eFr [9,10] (eSub [(8,.sl 9),(9,.sl 5)] (j1 (Y,x8.Messages,a0) h)))))
 refine wB' J 6 h (fun h=>?_) fun h=>wa J 8 (eCut (σ:=(List T13)) (fun st=>⟨[(7,.S 2),(8,.B 7 0)],[(1,.abs powT),(7,.box [.s x8.Name,.sl 4,.sl 5,.sl 8] 40)],[(0,.sl rR10 l_),(2,.sl rR15 x6),(4,.sl rS x8.Roles),(5,.sl rR14 x8.Messages),(8,.sl rR13 st)],9⟩) (fun st=>law11_NamesRename_k2 N x6 x8 st=some r) ?_ (fun j5=>?_))
 ·refine wB' J 8 h (fun h=>wa J 2 (eSub [(8,.sl 4),(9,.sl 5),(10,.sl 6)] (j1 (x8.Roles,x8.Messages,x8.Body) h))) fun h=>?_
  refine wO J 10 h fun c0 d0 h=>eBi d0 ?_
  obtain ⟨e0,f0,h⟩:=ob h
  refine eIx J oO14 f0 (wa J 3 (eEnd ?_))
  refine wO J 4 h fun g0 i0 h=>eCl (z18_ct N x8.Messages e0.Name (str [122,122,95,110,101,119]) _ i0) [] [(0,.sl 5)] ?_
  exact wO J 3 h fun j0 k0 h=>eCl (z17_ct N x8.Body 2 e0.Name (str [122,122,95,110,101,119]) _ k0) [] [(0,.sl 6)] (wa J 4 (eEnd (eFr [11,12] (eSub [(8,.sl 4),(9,.sl 11),(10,.sl 12)] (j1 (x8.Roles,g0,j0) h)))))
 ·intro l0 h
  replace h:law11_NamesRename_k2 N x6 x8 l0=some r:=h
  unfold law11_NamesRename_k2 at h
  exact eSub [(8,.sl 4),(9,.sl 5),(10,.sl 8)] (j1 (x8.Roles,x8.Messages,l0) h)
 refine wa J 1 (eLoop (σ:=Int) (fun st=>⟨[(7,.S 2),(8,.B 7 0),(97,.S 6),(98,.I (x8.Body.length:Int)),(99,.I st)],[(1,.abs powT),(7,.box [.s x8.Name,.sl 4,.sl 5,.sl 6] 40)],((0,.sl rR10 l_)::(2,.sl rR15 x6)::vV15 4 5 6 x8 []),8⟩) (fun n st=>law11_NamesRename_l3 N x6 x8 n st) (r:=r) (fun _=>rfl) ?_ (fun ih=>?_))
 ·intro n4 ih7
  intro m0 h
  replace h:law11_NamesRename_l3 N x6 x8 (n4+1) m0=some r:=h
  unfold law11_NamesRename_l3 at h
  refine wB' J 5 h (fun h=>wa J 2 (eSub [(8,.sl 6)] (j5 x8.Body h))) fun h=>?_
  refine wO J 6 h fun o0 p0 h=>eIx J oO13 p0 ?_
  refine wB' J 10 h (fun h=>wa J 7 (eSub [] (ih7 (w64 (m0+1)) h))) fun h=>?_
  exact wO J 7 h fun q0 s0 h=>eCl (z17_ct N x8.Body 1 o0.Name (str [122,122,95,110,101,119]) _ s0) [] [(0,.sl 6)] (wa J 4 (eFr [12] (eSub [(8,.sl 12)] (j5 q0 h))))
 exact eSub [] (ih N 0 h)
end Gx
end
