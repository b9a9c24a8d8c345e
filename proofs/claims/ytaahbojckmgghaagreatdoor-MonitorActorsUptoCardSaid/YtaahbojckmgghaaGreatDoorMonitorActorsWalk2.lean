/- Each function of the statement computes what its plain definition says, part 2. -/
import Derived.Test.YtaahbojckmgghaaGreatDoorMonitorActorsWalk1
set_option linter.all false
section
set_option maxRecDepth 10000
set_option maxHeartbeats 4000000
open Go Go.Kx Go.Proofs Tryz
namespace Gx
theorem Zsx (N:Nat) (m_:T8) (r:Bool) (h:GH N m_=some r) :
 Fn Tryz.prog 63 ⟨3,[.a (YT 0 1 2 m_)],(YZ 0 1 2 m_ []),[],3,.O r,[],[]⟩:=by
 refine Zv func63 rfl (fun E F w=>?_)
 unfold GH at h
 refine wB J 12 h (fun h=>?_) fun h=>?_
 ·cases h
  exact wr J 46 func63 []
 refine wB J 5 h (fun h=>?_) fun h=>?_
 ·cases h
  exact wr J 41 func63 []
 refine wB J 5 h (fun h=>?_) fun h=>?_
 ·cases h
  exact wr J 36 func63 []
 refine wB J 5 h (fun h=>?_) fun h=>?_
 ·cases h
  exact wr J 31 func63 []
 refine wB J 5 h (fun h=>?_) fun h=>?_
 ·cases h
  exact wr J 26 func63 []
 refine wB J 7 h (fun h=>?_) fun h=>?_
 ·cases h
  exact wr J 19 func63 []
 refine wB J 8 h (fun h=>?_) fun h=>?_
 ·cases h
  exact wr J 11 func63 []
 refine wB J 6 h (fun h=>?_) fun h=>wa J 7 (Zz (σ:=Unit) (fun st=>(H6 m_ [])) (fun st=>ZaT=some r) ?_ (fun j1=>?_))
 ·cases h
  exact wr J 5 func63 []
 ·intro _ h
  replace h:ZaT=some r:=h
  unfold ZaT at h
  cases h
  exact wr J 4 func63 []
 refine wa J 1 (ZH (σ:=Int) (fun st=>(DO m_ [(1,.B 3 0),(3,.I st)])) (fun n st=>SU m_ n st) (r:=r) (fun _=>rfl) ?_ (fun ih=>?_))
 ·intro n2 ih3
  intro c h
  replace h:SU m_ (n2+1) c=some r:=h
  unfold SU at h
  refine Zp J 9 h (fun h=>wa J 2 (Zj [] (j1 () h))) fun h=>?_
  refine wO J 9 h fun x9 d h=>Zt J YX d ?_
  refine wB J 10 h (fun h=>?_) fun h=>?_
  ·cases h
   exact wr J 51 func63 []
  refine wB J 7 h (fun h=>?_) fun h=>?_
  ·cases h
   exact wr J 44 func63 []
  refine wB J 5 h (fun h=>?_) fun h=>?_
  ·cases h
   exact wr J 39 func63 []
  refine wB J 7 h (fun h=>?_) fun h=>?_
  ·cases h
   exact wr J 32 func63 []
  refine wB J 5 h (fun h=>?_) fun h=>?_
  ·cases h
   exact wr J 27 func63 []
  refine wB J 5 h (fun h=>?_) fun h=>?_
  ·cases h
   exact wr J 22 func63 []
  refine wB J 7 h (fun h=>?_) fun h=>?_
  ·cases h
   exact wr J 15 func63 []
  refine wB J 5 h (fun h=>?_) fun h=>?_
  ·cases h
   exact wr J 10 func63 []
  refine wB J 5 h (fun h=>?_) fun h=>wa J 8 (Zj [] (ih3 (Zi (c+1)) h))
  cases h
  exact wr J 5 func63 []
 exact Zj [] (ih N 0 h)
theorem Zpf (N:Nat) (m_:T8) (r:Bool) (h:Ba N m_=some r) :
 Fn Tryz.prog 64 ⟨3,[.a (YT 0 1 2 m_)],(YZ 0 1 2 m_ []),[],3,.O r,[],[]⟩:=by
 refine Zv func64 rfl (fun E F w=>?_)
 unfold Ba at h
 refine wa J 10 (Zz (σ:=Unit) (fun st=>(H6 m_ [])) (fun st=>Za9=some r) ?_ (fun j1=>?_))
 ·intro _ h
  replace h:Za9=some r:=h
  unfold Za9 at h
  cases h
  exact wr J 4 func64 []
 refine wa J 1 (ZH (σ:=Int) (fun st=>(DO m_ [(1,.B 3 0),(3,.I st)])) (fun n st=>XJ N m_ n st) (r:=r) (fun _=>rfl) ?_ (fun ih=>?_))
 ·intro n12 ih33
  intro c h
  replace h:XJ N m_ (n12+1) c=some r:=h
  unfold XJ at h
  refine Zp J 9 h (fun h=>wa J 2 (Zj [] (j1 () h))) fun h=>?_
  refine wO J 9 h fun d e h=>Zt J YX e ?_
  refine wa J 10 (Zz (σ:=Bool) (fun st=>⟨[(1,.B 3 0),(3,.I c),(4,.B 5 0),(40,.O st)],[(3,.box (YT 0 1 2 m_) 31),(5,.box (QJ d) 84)],(YZ 0 1 2 m_ []),6⟩) (fun st=>RP N m_ c (XJ N m_ n12) d st=some r) ?_ (fun j54=>?_))
  ·intro f h
   replace h:RP N m_ c (XJ N m_ n12) d f=some r:=h
   unfold RP at h
   refine eB h (fun h=>?_) fun h=>wa J 6 (Zz (σ:=Unit) (fun st=>⟨[(1,.B 3 0),(3,.I c)],[(3,.box (YT 0 1 2 m_) 31)],(YZ 0 1 2 m_ []),6⟩) (fun st=>BY c (XJ N m_ n12)=some r) ?_ (fun j55=>?_))
   ·cases h
    exact wr J 5 func64 []
   ·intro _ h
    replace h:BY c (XJ N m_ n12)=some r:=h
    unfold BY at h
    exact wa J 6 (Zj [] (ih33 (Zi (c+1)) h))
   refine wa J 1 (ZH (σ:=Int) (fun st=>⟨[(1,.B 3 0),(3,.I c),(4,.B 5 0),(5,.I st)],[(3,.box (YT 0 1 2 m_) 31),(5,.box (QJ d) 84)],(YZ 0 1 2 m_ []),6⟩) (fun n st=>WV m_ c (XJ N m_ n12) d n st) (r:=r) (fun _=>rfl) ?_ (fun ih=>?_))
   ·intro n14 ih60
    intro g h
    replace h:WV m_ c (XJ N m_ n12) d (n14+1) g=some r:=h
    unfold WV at h
    refine Zp J 9 h (fun h=>wa J 2 (Zj [] (j55 () h))) fun h=>?_
    refine wO J 9 h fun i j h=>Zt J YX j ?_
    refine wa J 11 (Zz (σ:=Bool) (fun st=>⟨[(1,.B 3 0),(3,.I c),(4,.B 5 0),(5,.I g),(6,.B 7 0),(87,.O st)],[(3,.box (YT 0 1 2 m_) 31),(5,.box (QJ d) 84),(7,.box (QJ i) 84)],(YZ 0 1 2 m_ []),8⟩) (fun st=>TT d g (WV m_ c (XJ N m_ n12) d n14) i st=some r) ?_ (fun j63=>?_))
    ·intro k h
     replace h:TT d g (WV m_ c (XJ N m_ n12) d n14) i k=some r:=h
     unfold TT at h
     refine eB h (fun h=>?_) fun h=>?_
     ·cases h
      exact wr J 5 func64 []
     refine Zp J 7 h (fun h=>wa J 27 (Zj [] (ih60 (Zi (g+1)) h))) fun h=>?_
     refine Zp J 7 h (fun h=>wa J 20 (Zj [] (ih60 (Zi (g+1)) h))) fun h=>?_
     refine wB J 4 h (fun h=>?_) fun h=>?_
     ·cases h
      exact wr J 13 func64 []
     refine wB J 8 h (fun h=>?_) fun h=>wa J 8 (Zj [] (ih60 (Zi (g+1)) h))
     cases h
     exact wr J 5 func64 []
    refine WA h (fun h=>wa J 32 (Zj [] (j63 false h))) fun h=>?_
    refine Zp J 7 h (fun h=>wa J 25 (Zj [] (j63 false h))) fun h=>?_
    refine wB J 6 h (fun h=>wa J 19 (Zj [] (j63 true h))) fun h=>?_
    refine Zp J 6 h (fun h=>wa J 13 (Zj [] (j63 d.Again h))) fun h=>?_
    exact wB J 8 h (fun h=>wa J 5 (Zj [] (j63 true h))) fun h=>wa J 5 (Zj [] (j63 d.Again h))
   exact Zj [] (ih N 0 h)
  refine WA h (fun h=>wa J 20 (Zj [] (j54 false h))) fun h=>?_
  refine wB J 4 h (fun h=>wa J 16 (Zj [] (j54 true h))) fun h=>?_
  refine wB J 7 h (fun h=>wa J 9 (Zj [] (j54 true h))) fun h=>?_
  exact wO J 4 h fun l m h=>Zt J oB m (wa J 4 (Zj [] (j54 l h)))
 exact Zj [] (ih N 0 h)
theorem Zk7 (N:Nat) (m_:T8) (r:Bool) (h:GF N m_=some r) :
 Fn Tryz.prog 65 ⟨3,[.a (YT 0 1 2 m_)],(YZ 0 1 2 m_ []),[],3,.O r,[],[]⟩:=by
 refine Zv func65 rfl (fun E F w=>?_)
 unfold GF at h
 refine wa J 10 (Zz (σ:=Unit) (fun st=>(H6 m_ [])) (fun st=>ZcW=some r) ?_ (fun j1=>?_))
 ·intro _ h
  replace h:ZcW=some r:=h
  unfold ZcW at h
  cases h
  exact wr J 4 func65 []
 refine wa J 1 (ZH (σ:=Int) (fun st=>(DO m_ [(1,.B 3 0),(3,.I st)])) (fun n st=>WN m_ n st) (r:=r) (fun _=>rfl) ?_ (fun ih=>?_))
 ·intro n2 ih6
  intro c h
  replace h:WN m_ (n2+1) c=some r:=h
  unfold WN at h
  refine Zp J 9 h (fun h=>wa J 2 (Zj [] (j1 () h))) fun h=>?_
  refine wO J 9 h fun d e h=>Zt J RZ e ?_
  refine wa J 11 (Zz (σ:=Bool) (fun st=>⟨[(1,.B 3 0),(3,.I c),(4,.B 5 0),(54,.O st)],[(3,.box (YT 0 1 2 m_) 31),(5,.box (Zfg d) 171)],(YZ 0 1 2 m_ []),6⟩) (fun st=>UO m_ c (WN m_ n2) d st=some r) ?_ (fun j9=>?_))
  ·intro f h
   replace h:UO m_ c (WN m_ n2) d f=some r:=h
   unfold UO at h
   refine eB h (fun h=>?_) fun h=>?_
   ·cases h
    exact wr J 5 func65 []
   refine wO J 8 h fun g i h=>Zt J YX i ?_
   refine wB J 12 h (fun h=>?_) fun h=>?_
   ·cases h
    exact wr J 14 func65 []
   refine wB J 5 h (fun h=>?_) fun h=>?_
   ·cases h
    exact wr J 9 func65 []
   refine wB J 4 h (fun h=>?_) fun h=>wa J 8 (Zj [] (ih6 (Zi (c+1)) h))
   cases h
   exact wr J 5 func65 []
  refine eB h (fun h=>wa J 33 (Zy (Zj [] (j9 true h)))) fun h=>?_
  refine wB J 5 h (fun h=>wa J 28 (Zy (Zj [] (j9 true h)))) fun h=>?_
  refine wB J 5 h (fun h=>wa J 23 (Zy (Zj [] (j9 true h)))) fun h=>?_
  refine wB J 8 h (fun h=>wa J 15 (Zy (Zj [] (j9 true h)))) fun h=>?_
  refine Zp J 3 h (fun h=>wa J 12 (Zy (Zj [] (j9 false h)))) fun h=>?_
  exact wO J 6 h fun j k h=>Zt J RZ k (wa J 5 (Zy (Zj [] (j9 (decide (d.State≤j.State)) h))))
 exact Zj [] (ih N 0 h)
theorem Znv (N:Nat) (l_:(List Int)) (n_:Int) (r:Bool) (h:GJ N l_ n_=some r) :
 Fn Tryz.prog 103 ⟨1,[.S 0,.I n_],[(0,.sl (rI .i64) l_)],[],1,.O r,[],[]⟩:=by
 refine Zv func103 rfl (fun E F w=>?_)
 unfold GJ at h
 refine wa J 9 (Zz (σ:=Unit) (fun st=>(PL l_ [])) (fun st=>Zae=some r) ?_ (fun j1=>?_))
 ·intro _ h
  replace h:Zae=some r:=h
  unfold Zae at h
  cases h
  exact wr J 4 func103 []
 refine wa J 1 (ZH (σ:=Int) (fun st=>(PL l_ [(0,.S 0),(1,.I n_),(5,.I st)])) (fun n st=>Ul l_ n_ n st) (r:=r) (fun _=>rfl) ?_ (fun ih=>?_))
 ·intro n2 ih3
  intro c h
  replace h:Ul l_ n_ (n2+1) c=some r:=h
  unfold Ul at h
  refine Zp J 8 h (fun h=>wa J 2 (Zj [] (j1 () h))) fun h=>?_
  refine wO J 8 h fun x9 d h=>Zt J (oI .i64) d ?_
  refine wB J 4 h (fun h=>?_) fun h=>wa J 8 (Zj [] (ih3 (Zi (c+1)) h))
  cases h
  exact wr J 5 func103 []
 exact Zj [] (ih N 0 h)
theorem Zn3 (N:Nat) (l_:(List Int)) (n_:Int) (r:(List Int)) (h:DT N l_ n_=some r) :
 Fn Tryz.prog 104 ⟨1,[.S 0,.I n_],[(0,.sl (rI .i64) l_)],[],2,.S 1,[],[(1,.own (rI .i64) r true)]⟩:=by
 refine Zv func104 rfl (fun E F w=>?_)
 unfold DT at h
 refine wa J 17 (Zz (σ:=(List Int) × Bool) (fun st=>(ZaM st.1 l_ [(1,.I n_),(5,.S 1),(6,.O st.2)])) (fun st=>BR n_ st.1 st.2=some r) ?_ (fun j1=>?_))
 ·rintro ⟨c,d⟩ h
  replace h:BR n_ c d=some r:=h
  unfold BR at h
  refine Zp J 6 h (fun h=>?_) fun h=>wa J 4 (Z5 J [] (oI .i64) ([n_]:List Int) ?_)
  ·cases h
   exact wr J 7 func104 [(1,.sl 1)]
  obtain ⟨e,f,h⟩:=ob h
  refine Yk J (rI .i64) f ?_
  cases h
  exact wr J 7 func104 [(1,.sl 3)]
 refine wa J 1 (ZH (σ:=(List Int) × Bool × Int) (fun st=>(ZaM st.1 l_ [(0,.S 0),(1,.I n_),(5,.S 1),(6,.O st.2.1),(7,.I st.2.2)])) (fun n st=>Ta l_ n_ n st.1 st.2.1 st.2.2) (r:=r) (fun _=>rfl) ?_ (fun ih=>?_))
 ·intro n2 ih3
  rintro ⟨g,i,j⟩ h
  replace h:Ta l_ n_ (n2+1) g i j=some r:=h
  unfold Ta at h
  refine Zp J 8 h (fun h=>wa J 2 (Zj [] (j1 (g,i) h))) fun h=>?_
  refine Zp J 10 h (fun h=>?_) fun h=>?_
  ·refine wO J 14 h fun k l h=>Zt J (oI .i64) l (wa J 1 (Z5 J [] (oI .i64) ([k]:List Int) ?_))
   obtain ⟨m,o,h⟩:=ob h
   exact Yk J (rI .i64) o (wa J 8 (Zj [(1,.sl 4)] (ih3 (m,i,(Zi (j+1))) h)))
  refine wO J 2 h fun p q h=>Zt J (oI .i64) q ?_
  refine Zp J 5 h (fun h=>?_) fun h=>?_
  ·refine wO J 6 h fun s t h=>Zt J (oI .i64) t (wa J 1 (Z5 J [] (oI .i64) ([s]:List Int) ?_))
   obtain ⟨u,v,h⟩:=ob h
   exact Yk J (rI .i64) v (wa J 8 (Zj [(1,.sl 5)] (ih3 (u,i,(Zi (j+1))) h)))
  refine wO J 6 h fun x y h=>Zt J (oI .i64) y ?_
  refine Zp J 4 h (fun h=>?_) fun h=>wa J 4 (Z5 J [] (oI .i64) ([n_]:List Int) ?_)
  ·refine wO J 9 h fun z A h=>Zt J (oI .i64) A (wa J 1 (Z5 J [] (oI .i64) ([z]:List Int) ?_))
   obtain ⟨C,D,h⟩:=ob h
   exact Yk J (rI .i64) D (wa J 8 (Zj [(1,.sl 6)] (ih3 (C,true,(Zi (j+1))) h)))
  obtain ⟨G,H,h⟩:=ob h
  refine Yk J (rI .i64) H ?_
  refine wO J 9 h fun R T h=>Zt J (oI .i64) T (wa J 1 (Z5 J [] (oI .i64) ([R]:List Int) ?_))
  obtain ⟨U,X,h⟩:=ob h
  exact Yk J (rI .i64) X (wa J 8 (Zj [(1,.sl 8)] (ih3 (U,true,(Zi (j+1))) h)))
 exact Zj [(1,.nil)] (ih N (([]:List Int),false,0) h)
theorem Zqk (N:Nat) (m_:T8) (r:(List Int)) (h:z66 N m_=some r) :
 Fn Tryz.prog 66 ⟨3,[.a (YT 0 1 2 m_)],(YZ 0 1 2 m_ []),[],4,.S 3,[],[(3,.own (rI .i64) r true)]⟩:=by
 refine Zv func66 rfl (fun E F w=>?_)
 unfold z66 at h
 refine wa J 9 (Z5 J [] (oI .i64) ([m_.Start]:List Int) (wa J 7 (Zz (σ:=(List Int)) (fun st=>⟨[(3,.S 5)],[(5,.own (rI .i64) st true)],(YZ 0 1 2 m_ []),6⟩) (fun st=>Zb0 st=some r) ?_ (fun j1=>?_))))
 ·intro c h
  replace h:Zb0 c=some r:=h
  unfold Zb0 at h
  cases h
  exact wr J 5 func66 [(3,.sl 5)]
 refine wa J 1 (ZH (σ:=(List Int) × Int) (fun st=>⟨[(1,.B 3 0),(3,.S 5),(4,.I st.2)],[(3,.box (YT 0 1 2 m_) 31),(5,.own (rI .i64) st.1 true)],(YZ 0 1 2 m_ []),6⟩) (fun n st=>Ug N m_ n st.1 st.2) (r:=r) (fun _=>rfl) ?_ (fun ih=>?_))
 ·intro n12 ih12
  rintro ⟨d,e⟩ h
  replace h:Ug N m_ (n12+1) d e=some r:=h
  unfold Ug at h
  refine Zp J 8 h (fun h=>wa J 2 (Zj [] (j1 d h))) fun h=>wa J 8 (Zz (σ:=(List Int)) (fun st=>⟨[(1,.B 3 0),(3,.S 6),(4,.I e)],[(3,.box (YT 0 1 2 m_) 31),(6,.own (rI .i64) st true)],(YZ 0 1 2 m_ []),7⟩) (fun st=>ZbF e (Ug N m_ n12) st=some r) ?_ (fun j19=>?_))
  ·intro f h
   replace h:ZbF e (Ug N m_ n12) f=some r:=h
   unfold ZbF at h
   exact wa J 6 (Zj [(5,.sl 6)] (ih12 (f,(Zi (e+1))) h))
  refine wa J 1 (ZH (σ:=(List Int) × Int) (fun st=>⟨[(1,.B 3 0),(3,.S 6),(4,.I e),(5,.I st.2)],[(3,.box (YT 0 1 2 m_) 31),(6,.own (rI .i64) st.1 true)],(YZ 0 1 2 m_ []),7⟩) (fun n st=>Ra N m_ e (Ug N m_ n12) n st.1 st.2) (r:=r) (fun _=>rfl) ?_ (fun ih=>?_))
  ·intro n14 ih21
   rintro ⟨g,i⟩ h
   replace h:Ra N m_ e (Ug N m_ n12) (n14+1) g i=some r:=h
   unfold Ra at h
   refine Zp J 9 h (fun h=>wa J 2 (Zj [] (j19 g h))) fun h=>?_
   refine wO J 10 h fun j k h=>Zt J YX k ?_
   refine wO J 2 h fun l m h=>W2 (Znv N g j.From _ m) [] [(0,.sl 6)] [6] (.inr ⟨rfl,trivial⟩) ?_
   refine Zp J 1 h (fun h=>wa J 8 (Zj [] (ih21 (g,(Zi (i+1))) h))) fun h=>?_
   refine wO J 6 h fun o p h=>Zt J YX p ?_
   exact wO J 2 h fun q s h=>W2 (Zn3 N g o.To _ s) [] [(0,.sl 6)] [6] (.inr ⟨rfl,⟨(Zc5 _),trivial⟩⟩) (wa J 8 (Zj [(6,.sl 9)] (ih21 (q,(Zi (i+1))) h)))
  exact Zj [(6,.sl 5)] (ih N (d,0) h)
 exact Zj [(5,.sl 4)] (ih N (([m_.Start]:List Int),0) h)
theorem Zsd (N:Nat) (m_:T8) (r:Bool) (h:L7 N m_=some r) :
 Fn Tryz.prog 31 ⟨3,[.a (YT 0 1 2 m_)],(YZ 0 1 2 m_ []),[],3,.O r,[],[]⟩:=by
 refine Zv func31 rfl (fun E F w=>?_)
 unfold L7 at h
 refine wO J 8 h fun x1 c h=>Zo (Zsx N m_ _ c) [] [(0,.sl 0),(1,.sl 1),(2,.sl 2)] ?_
 refine Zp J 1 h (fun h=>wa J 16 (Zy ?_)) fun h=>?_
 ·cases h
  exact Yc J func31 []
 refine wO J 1 h fun x2 d h=>Zo (Zpf N m_ _ d) [] [(0,.sl 0),(1,.sl 1),(2,.sl 2)] ?_
 refine Zp J 2 h (fun h=>wa J 12 (Zy ?_)) fun h=>?_
 ·cases h
  exact Yc J func31 []
 refine wO J 1 h fun x3 e h=>Zo (Zk7 N m_ _ e) [] [(0,.sl 0),(1,.sl 1),(2,.sl 2)] ?_
 refine Zp J 2 h (fun h=>wa J 8 (Zy ?_)) fun h=>?_
 ·cases h
  exact Yc J func31 []
 refine wO J 1 h fun x4 f h=>Zo (Zqk N m_ _ f) [] [(0,.sl 0),(1,.sl 1),(2,.sl 2)] (wa J 6 (Zy ?_))
 cases h
 exact Yc J func31 []
theorem BG (N:Nat) (v_:Zk) (r:Int) (h:Rv N v_=some r) :
 Fn Tryz.prog 119 ⟨0,[.a (XI v_)],[],[],0,.I r,[],[]⟩:=by
 refine Zv func119 rfl (fun E F w=>?_)
 unfold Rv at h
 refine wB J 12 h (fun h=>?_) fun h=>?_
 ·cases h
  exact wr J 8 func119 []
 cases h
 exact wr J 8 func119 []
theorem Zf9 (N:Nat) (s_:Yg) (v_:Zk) (r:Bool) (h:Hr N s_ v_=some r) :
 Fn Tryz.prog 142 ⟨0,[.a (V8 s_),.a (XI v_)],[],[],0,.O r,[],[]⟩:=by
 refine Zv func142 rfl (fun E F w=>?_)
 unfold Hr at h
 refine wa J 11 (Zz (σ:=Unit) (fun st=>(ZdI s_ v_ [(2,.B 0 0),(3,.B 1 0)])) (fun st=>Pw N s_ v_=some r) ?_ (fun j1=>?_))
 ·intro _ h
  replace h:Pw N s_ v_=some r:=h
  unfold Pw at h
  refine wa J 7 (Zz (σ:=Bool) (fun st=>(ZdI s_ v_ [(2,.B 0 0),(3,.B 1 0),(42,.O st)])) (fun st=>Sc N s_ v_ st=some r) ?_ (fun j3=>?_))
  ·intro c h
   replace h:Sc N s_ v_ c=some r:=h
   unfold Sc at h
   refine eB h (fun h=>?_) fun h=>?_
   ·cases h
    exact wr J 5 func142 []
   refine Zp J 10 h (fun h=>wa J 14 (Zy ?_)) fun h=>?_
   ·cases h
    exact Yc J func142 []
   refine wO J 1 h fun x9 d h=>Zo (BG N v_ _ d) [] [] ?_
   refine Zp J 5 h (fun h=>wa J 7 (Zy ?_)) fun h=>?_
   ·cases h
    exact Yc J func142 []
   refine wO J 1 h fun e f h=>Zo (BG N v_ _ f) [] [] (wa J 5 (Zy ?_))
   cases h
   exact Yc J func142 []
  refine WA h (fun h=>?_) fun h=>?_
  ·exact wB J 9 h (fun h=>wa J 6 (Zj [] (j3 (!(v_.S.toList==(str []).toList)) h))) fun h=>wa J 6 (Zj [] (j3 false h))
  refine wB J 5 h (fun h=>wa J 10 (Zj [] (j3 true h))) fun h=>?_
  exact wB J 4 h (fun h=>wa J 6 (Zj [] (j3 (!(v_.S.toList==(str []).toList)) h))) fun h=>wa J 6 (Zj [] (j3 false h))
 refine wa J 1 (ZH (σ:=Int) (fun st=>(ZdI s_ v_ [(2,.B 0 0),(3,.B 1 0),(5,.I st)])) (fun n st=>Qi N s_ v_ n st) (r:=r) (fun _=>rfl) ?_ (fun ih=>?_))
 ·intro n2 ih4
  intro g h
  replace h:Qi N s_ v_ (n2+1) g=some r:=h
  unfold Qi at h
  refine Zp J 9 h (fun h=>wa J 2 (Zj [] (j1 () h))) fun h=>?_
  refine wO J 9 h fun i j h=>W3 J j ?_
  refine wB J 2 h (fun h=>?_) fun h=>?_
  ·cases h
   exact wr J 12 func142 []
  refine wO J 3 h fun k l h=>W3 J l ?_
  refine wB J 3 h (fun h=>?_) fun h=>wa J 8 (Zj [] (ih4 (Zi (g+1)) h))
  cases h
  exact wr J 5 func142 []
 exact Zj [] (ih N 0 h)
theorem ZeR (N:Nat) (decls_:(List T0)) (known_:(List Zk)) (r:Bool) (h:So N decls_ known_=some r) :
 Fn Tryz.prog 91 ⟨2,[.S 0,.S 1],[(0,.sl ZQ decls_),(1,.sl Zw known_)],[],2,.O r,[],[]⟩:=by
 refine Zv func91 rfl (fun E F w=>?_)
 unfold So at h
 refine wO J 10 h fun x1 c h=>Zo (ZaK N decls_ _ c) [] [(0,.sl 0)] ?_
 refine wB J 2 h (fun h=>?_) fun h=>wa J 7 (Zz (σ:=Unit) (fun st=>⟨[],[],[(0,.sl ZQ decls_),(1,.sl Zw known_)],2⟩) (fun st=>ZbU=some r) ?_ (fun j1=>?_))
 ·cases h
  exact wr J 5 func91 []
 ·intro _ h
  replace h:ZbU=some r:=h
  unfold ZbU at h
  cases h
  exact wr J 4 func91 []
 refine wa J 1 (ZH (σ:=Int) (fun st=>⟨[(0,.S 0),(1,.S 1),(5,.I st)],[],[(0,.sl ZQ decls_),(1,.sl Zw known_)],2⟩) (fun n st=>S6 N decls_ known_ n st) (r:=r) (fun _=>rfl) ?_ (fun ih=>?_))
 ·intro n2 ih3
  intro d h
  replace h:S6 N decls_ known_ (n2+1) d=some r:=h
  unfold S6 at h
  refine Zp J 8 h (fun h=>wa J 2 (Zj [] (j1 () h))) fun h=>?_
  refine wO J 8 h fun e f h=>Zt J Yd f (wa J 2 (QU ?_))
  refine Zp J 1 h (fun h=>wa J 11 (Zy (wa J 8 (Zj [] (ih3 (Zi (d+1)) h))))) fun h=>?_
  refine wO J 2 h fun g i h=>Zo (Zgv N decls_ d _ i) [] [(0,.sl 0)] ?_
  refine wO J 3 h fun j k h=>Zt J Yd k ?_
  refine wO J 1 h fun l m h=>Zo (Zf9 N g.Sort' j _ m) [] [] (wa J 2 (Zy ?_))
  refine eB h (fun h=>?_) fun h=>wa J 8 (Zj [] (ih3 (Zi (d+1)) h))
  cases h
  exact wr J 5 func91 []
 exact Zj [] (ih N 0 h)
theorem Zi3 (N:Nat) (s_:Yg) (r:Bool) (h:Hz N s_=some r) :
 Fn Tryz.prog 193 ⟨0,[.a (V8 s_)],[],[],0,.O r,[],[]⟩:=by
 refine Zv func193 rfl (fun E F w=>?_)
 unfold Hz at h
 refine wB J 17 h (fun h=>?_) fun h=>?_
 ·refine Zp J 7 h (fun h=>?_) fun h=>?_
  ·cases h
   exact wr J 13 func193 []
  refine wB J 7 h (fun h=>?_) fun h=>?_
  ·cases h
   exact wr J 6 func193 []
  cases h
  exact wr J 6 func193 []
 refine Zp J 6 h (fun h=>?_) fun h=>?_
 ·cases h
  exact wr J 7 func193 []
 refine Zp J 7 h (fun h=>?_) fun h=>?_
 ·cases h
  exact wr J 13 func193 []
 refine wB J 7 h (fun h=>?_) fun h=>?_
 ·cases h
  exact wr J 6 func193 []
 cases h
 exact wr J 6 func193 []
theorem ZpE (N:Nat) (s_:ByteArray) (r:Bool) (h:BW N s_=some r) :
 Fn Tryz.prog 163 ⟨0,[.c (.s s_)],[],[],0,.O r,[],[]⟩:=by
 refine Zv func163 rfl (fun E F w=>?_)
 unfold BW at h
 refine wa J 9 (Zz (σ:=Unit) (fun st=>(Wp [])) (fun st=>ZcS=some r) ?_ (fun j1=>?_))
 ·intro _ h
  replace h:ZcS=some r:=h
  unfold ZcS at h
  cases h
  exact wr J 4 func163 []
 refine wa J 1 (ZH (σ:=Int) (fun st=>(Wp [(0,.c (.s s_)),(3,.I st)])) (fun n st=>Rj s_ n st) (r:=r) (fun _=>rfl) ?_ (fun ih=>?_))
 ·intro n2 ih3
  intro d h
  replace h:Rj s_ (n2+1) d=some r:=h
  unfold Rj at h
  refine Zp J 8 h (fun h=>wa J 2 (Zj [] (j1 () h))) fun h=>?_
  refine wO J 8 h fun e f h=>W3 J f ?_
  refine wB J 2 h (fun h=>?_) fun h=>?_
  ·cases h
   exact wr J 11 func163 []
  refine wO J 2 h fun g i h=>W3 J i ?_
  refine wB J 3 h (fun h=>?_) fun h=>wa J 8 (Zj [] (ih3 (Zi (d+1)) h))
  cases h
  exact wr J 5 func163 []
 exact Zj [] (ih N 0 h)
theorem ZbQ (N:Nat) (v_:Zk) (r:Bool) (h:Rh N v_=some r) :
 Fn Tryz.prog 124 ⟨0,[.a (XI v_)],[],[],0,.O r,[],[]⟩:=by
 refine Zv func124 rfl (fun E F w=>?_)
 unfold Rh at h
 refine wB J 17 h (fun h=>?_) fun h=>?_
 ·refine Zp J 7 h (fun h=>?_) fun h=>?_
  ·cases h
   exact wr J 11 func124 []
  refine wB J 5 h (fun h=>?_) fun h=>?_
  ·cases h
   exact wr J 6 func124 []
  cases h
  exact wr J 6 func124 []
 refine Zp J 6 h (fun h=>?_) fun h=>?_
 ·cases h
  exact wr J 7 func124 []
 refine Zp J 7 h (fun h=>?_) fun h=>?_
 ·cases h
  exact wr J 12 func124 []
 refine Zp J 6 h (fun h=>?_) fun h=>?_
 ·cases h
  exact wr J 6 func124 []
 refine wO J 2 h fun x1 c h=>Zo (ZpE N v_.S _ c) [] [] ?_
 cases h
 exact wr J 3 func124 []
theorem ZiF (N:Nat) (v_:Zk) (r:Int) (h:L8 N v_=some r) :
 Fn Tryz.prog 194 ⟨0,[.a (XI v_)],[],[],0,.I r,[],[]⟩:=by
 refine Zv func194 rfl (fun E F w=>?_)
 unfold L8 at h
 refine wB J 17 h (fun h=>?_) fun h=>?_
 ·cases h
  exact wr J 7 func194 []
 refine wB J 6 h (fun h=>?_) fun h=>?_
 ·cases h
  exact wr J 8 func194 []
 cases h
 exact wr J 7 func194 []
theorem ZjL (N:Nat) (s_:Yg) (v_:Zk) (r:Bool) (h:Pz N s_ v_=some r) :
 Fn Tryz.prog 144 ⟨0,[.a (V8 s_),.a (XI v_)],[],[],0,.O r,[],[]⟩:=by
 refine Zv func144 rfl (fun E F w=>?_)
 unfold Pz at h
 refine wO J 9 h fun x1 c h=>Zo (Zi3 N s_ _ c) [] [] ?_
 refine Zp J 1 h (fun h=>wa J 25 (Zy ?_)) fun h=>?_
 ·cases h
  exact Yc J func144 []
 refine wO J 1 h fun x2 d h=>Zo (ZbQ N v_ _ d) [] [] ?_
 refine Zp J 2 h (fun h=>wa J 21 (Zy ?_)) fun h=>?_
 ·cases h
  exact Yc J func144 []
 refine Zp J 7 h (fun h=>wa J 14 (Zy ?_)) fun h=>?_
 ·cases h
  exact Yc J func144 []
 refine wO J 1 h fun x3 e h=>Zo (ZiF N v_ _ e) [] [] ?_
 refine Zp J 5 h (fun h=>wa J 7 (Zy ?_)) fun h=>?_
 ·cases h
  exact Yc J func144 []
 refine wO J 1 h fun x4 f h=>Zo (ZiF N v_ _ f) [] [] (wa J 5 (Zy ?_))
 cases h
 exact Yc J func144 []
theorem Zc8 (N:Nat) (decls_:(List T0)) (label_:Int) (r:Bool) (h:Tu N decls_ label_=some r) :
 Fn Tryz.prog 93 ⟨1,[.S 0,.I label_],[(0,.sl ZQ decls_)],[],1,.O r,[],[]⟩:=by
 refine Zv func93 rfl (fun E F w=>?_)
 unfold Tu at h
 refine wO J 7 h fun x1 c h=>Zo (ZjB N decls_ _ c) [] [(0,.sl 0)] ?_
 refine Zp J 1 h (fun h=>?_) fun h=>?_
 ·cases h
  exact wr J 11 func93 []
 refine wB J 4 h (fun h=>?_) fun h=>?_
 ·cases h
  exact wr J 7 func93 []
 cases h
 exact wr J 7 func93 []
theorem Zgn (N:Nat) (d_:T0) (values_:(List Zk)) (r:Bool) (h:LX N d_ values_=some r) :
 Fn Tryz.prog 94 ⟨4,[.a (YM 0 1 2 d_),.S 3],(YJ 0 1 2 d_ [(3,.sl Zw values_)]),[],4,.O r,[],[]⟩:=by
 refine Zv func94 rfl (fun E F w=>?_)
 unfold LX at h
 refine wa J 10 (Zz (σ:=Unit) (fun st=>⟨[(1,.S 3),(2,.B 4 0)],[(4,.box (YM 0 1 2 d_) 106)],(YJ 0 1 2 d_ [(3,.sl Zw values_)]),5⟩) (fun st=>PE d_ values_=some r) ?_ (fun j1=>?_))
 ·intro _ h
  replace h:PE d_ values_=some r:=h
  unfold PE at h
  cases h
  exact wr J 10 func94 []
 refine wa J 1 (ZH (σ:=Int) (fun st=>⟨[(1,.S 3),(2,.B 4 0),(5,.I st)],[(4,.box (YM 0 1 2 d_) 106)],(YJ 0 1 2 d_ [(3,.sl Zw values_)]),5⟩) (fun n st=>Rf N d_ values_ n st) (r:=r) (fun _=>rfl) ?_ (fun ih=>?_))
 ·intro n2 ih3
  intro c h
  replace h:Rf N d_ values_ (n2+1) c=some r:=h
  unfold Rf at h
  refine Zp J 8 h (fun h=>wa J 9 (Zj [] (j1 () h))) fun h=>?_
  refine Zp J 7 h (fun h=>wa J 2 (Zj [] (j1 () h))) fun h=>?_
  refine wO J 9 h fun d e h=>Zt J WD e ?_
  refine wO J 4 h fun f g h=>Zt J Yd g ?_
  refine wO J 1 h fun i j h=>Zo (Zf9 N d.Sort' f _ j) [] [] (wa J 1 (Zy ?_))
  refine eB h (fun h=>?_) fun h=>wa J 8 (Zj [] (ih3 (Zi (c+1)) h))
  cases h
  exact wr J 5 func94 []
 exact Zj [] (ih N 0 h)
theorem ZeO (N:Nat) (d_:T0) (values_:(List Zk)) (known_:(List Zk)) (r:(List Zk)) (h:PU N d_ values_ known_=some r) :
 Fn Tryz.prog 96 ⟨5,[.a (YM 0 1 2 d_),.S 3,.S 4],(YJ 0 1 2 d_ [(3,.sl Zw values_),(4,.sl Zw known_)]),[],6,.S 5,[],[(5,.own Zw r true)]⟩:=by
 refine Zv func96 rfl (fun E F w=>?_)
 unfold PU at h
 refine wa J 7 (Z5 J [] Yd ([]:List Zk) ?_)
 refine wO J 1 h fun x1 c h=>Yk J Zw c (wa J 7 (Zz (σ:=(List Zk)) (fun st=>⟨[(7,.S 7)],[(7,.own Zw st true)],(YJ 0 1 2 d_ [(3,.sl Zw values_),(4,.sl Zw known_)]),8⟩) (fun st=>Za6 st=some r) ?_ (fun j1=>?_)))
 ·intro d h
  replace h:Za6 d=some r:=h
  unfold Za6 at h
  cases h
  exact wr J 5 func96 [(5,.sl 7)]
 refine wa J 1 (ZH (σ:=(List Zk) × Int) (fun st=>⟨[(1,.S 3),(3,.B 5 0),(7,.S 7),(8,.I st.2)],[(5,.box (YM 0 1 2 d_) 106),(7,.own Zw st.1 true)],(YJ 0 1 2 d_ [(3,.sl Zw values_),(4,.sl Zw known_)]),8⟩) (fun n st=>QO d_ values_ n st.1 st.2) (r:=r) (fun _=>rfl) ?_ (fun ih=>?_))
 ·intro n2 ih3
  rintro ⟨e,f⟩ h
  replace h:QO d_ values_ (n2+1) e f=some r:=h
  unfold QO at h
  refine Zp J 8 h (fun h=>wa J 2 (Zj [] (j1 e h))) fun h=>?_
  refine wO J 12 h fun g i h=>Zt J Yd i ?_
  exact wO J 1 h fun j k h=>ZT J Zw k (XW J [] Yd g k (Zy (wa J 6 (Zj [] (ih3 ((ZW e (Zi (d_.First+f)) g),(Zi (f+1))) h)))))
 exact Zj [] (ih N (x1,0) h)
theorem Zh9 (N:Nat) (g_:T6) (all_:(List Zk)) (r:Bool) (h:MI N g_ all_=some r) :
 Fn Tryz.prog 95 ⟨3,[.a [.sl 0,.sl 1],.S 2],[(0,.sl Yy g_.Diffs),(1,.sl (rP (rI .i64) (rI .i64)) g_.Equals),(2,.sl Zw all_)],[],3,.O r,[],[]⟩:=by
 refine Zv func95 rfl (fun E F w=>?_)
 unfold MI at h
 refine wa J 10 (Zz (σ:=Unit) (fun st=>(By g_.Diffs g_.Equals all_ [(1,.S 2),(2,.B 3 0)])) (fun st=>DE N g_ all_=some r) ?_ (fun j1=>?_))
 ·intro _ h
  replace h:DE N g_ all_=some r:=h
  unfold DE at h
  refine wa J 5 (Zz (σ:=Unit) (fun st=>(ZeQ g_.Diffs g_.Equals all_ [])) (fun st=>ZcO=some r) ?_ (fun j9=>?_))
  ·intro _ h
   replace h:ZcO=some r:=h
   unfold ZcO at h
   cases h
   exact wr J 4 func95 []
  refine wa J 1 (ZH (σ:=Int) (fun st=>(By g_.Diffs g_.Equals all_ [(1,.S 2),(2,.B 3 0),(9,.I st)])) (fun n st=>SF g_ all_ n st) (r:=r) (fun _=>rfl) ?_ (fun ih=>?_))
  ·intro n3 ih11
   intro c h
   replace h:SF g_ all_ (n3+1) c=some r:=h
   unfold SF at h
   refine Zp J 9 h (fun h=>wa J 2 (Zj [] (j9 () h))) fun h=>?_
   refine wO J 10 h fun d e h=>Zt J (oP (oI .i64) (oI .i64)) e (UD 0 rfl ?_)
   refine wO J 1 h fun f g h=>Zt J Yd g ?_
   refine wO J 5 h fun i j h=>Zt J (oP (oI .i64) (oI .i64)) j (UD 1 rfl ?_)
   refine wO J 1 h fun k l h=>Zt J Yd l (wa J 5 (Zy ?_))
   refine wB J 6 h (fun h=>?_) fun h=>?_
   ·cases h
    exact wr J 17 func95 []
   refine wB J 5 h (fun h=>?_) fun h=>?_
   ·cases h
    exact wr J 12 func95 []
   refine wB J 7 h (fun h=>?_) fun h=>wa J 8 (Zj [] (ih11 (Zi (c+1)) h))
   cases h
   exact wr J 5 func95 []
  exact Zj [] (ih N 0 h)
 refine wa J 1 (ZH (σ:=Int) (fun st=>(By g_.Diffs g_.Equals all_ [(1,.S 2),(2,.B 3 0),(5,.I st)])) (fun n st=>Vt N g_ all_ n st) (r:=r) (fun _=>rfl) ?_ (fun ih=>?_))
 ·intro n4 ih12
  intro m h
  replace h:Vt N g_ all_ (n4+1) m=some r:=h
  unfold Vt at h
  refine Zp J 9 h (fun h=>wa J 2 (Zj [] (j1 () h))) fun h=>?_
  refine wO J 9 h fun o p h=>Zt J Tx p (wa J 16 (Zz (σ:=Int) (fun st=>(Zi7 o g_.Diffs g_.Equals all_ [(1,.S 2),(2,.B 3 0),(5,.I m),(6,.B 5 0),(7,.I st),(8,.I 0)])) (fun st=>Mb N all_ m (Vt N g_ all_ n4) o st=some r) ?_ (fun j17=>?_)))
  ·intro q h
   replace h:Mb N all_ m (Vt N g_ all_ n4) o q=some r:=h
   unfold Mb at h
   refine wa J 7 (Zz (σ:=Int) (fun st=>(Zi7 o g_.Diffs g_.Equals all_ [(1,.S 2),(2,.B 3 0),(5,.I m),(6,.B 5 0),(7,.I q),(8,.I st)])) (fun st=>PS all_ m (Vt N g_ all_ n4) o q st=some r) ?_ (fun j18=>?_))
   ·intro s h
    replace h:PS all_ m (Vt N g_ all_ n4) o q s=some r:=h
    unfold PS at h
    refine Zp J 6 h (fun h=>?_) fun h=>?_
    ·refine Zp J 13 h (fun h=>?_) fun h=>?_
     ·refine wB J 18 h (fun h=>?_) fun h=>wa J 8 (Zj [] (ih12 (Zi (m+1)) h))
      cases h
      exact wr J 5 func95 []
     refine wO J 3 h fun t u h=>Zt J Yd u ?_
     refine wB J 6 h (fun h=>?_) fun h=>?_
     ·cases h
      exact wr J 13 func95 []
     refine wB J 8 h (fun h=>?_) fun h=>wa J 8 (Zj [] (ih12 (Zi (m+1)) h))
     cases h
     exact wr J 5 func95 []
    refine wO J 3 h fun v x h=>Zt J Yd x ?_
    refine wB J 5 h (fun h=>?_) fun h=>?_
    ·cases h
     exact wr J 27 func95 []
    refine Zp J 4 h (fun h=>?_) fun h=>?_
    ·refine wB J 18 h (fun h=>?_) fun h=>wa J 8 (Zj [] (ih12 (Zi (m+1)) h))
     cases h
     exact wr J 5 func95 []
    refine wO J 3 h fun y z h=>Zt J Yd z ?_
    refine wB J 6 h (fun h=>?_) fun h=>?_
    ·cases h
     exact wr J 13 func95 []
    refine wB J 8 h (fun h=>?_) fun h=>wa J 8 (Zj [] (ih12 (Zi (m+1)) h))
    cases h
    exact wr J 5 func95 []
   refine WA h (fun h=>wa J 2 (Zj [] (j18 0 h))) fun h=>?_
   refine wO J 5 h fun A C h=>Zt J Yd C ?_
   exact wO J 1 h fun D G h=>Zo (BG N A _ G) [] [] (wa J 2 (Zj [] (j18 D h)))
  refine WA h (fun h=>wa J 2 (Zj [] (j17 0 h))) fun h=>?_
  refine wO J 5 h fun H R h=>Zt J Yd R ?_
  exact wO J 1 h fun T U h=>Zo (BG N H _ U) [] [] (wa J 2 (Zj [] (j17 T h)))
 exact Zj [] (ih N 0 h)
theorem ZcB (N:Nat) (decls_:(List T0)) (label_:Int) (values_:(List Zk)) (known_:(List Zk)) (r:Bool) (h:TG N decls_ label_ values_ known_=some r) :
 Fn Tryz.prog 56 ⟨3,[.S 0,.I label_,.S 1,.S 2],[(0,.sl ZQ decls_),(1,.sl Zw values_),(2,.sl Zw known_)],[],3,.O r,[],[]⟩:=by
 refine Zv func56 rfl (fun E F w=>?_)
 unfold TG at h
 refine wO J 9 h fun x1 c h=>Zo (Zc8 N decls_ label_ _ c) [] [(0,.sl 0)] ?_
 refine wB J 2 h (fun h=>?_) fun h=>?_
 ·cases h
  exact wr J 20 func56 []
 refine wO J 2 h fun x2 d h=>Zo (ZeR N decls_ known_ _ d) [] [(0,.sl 0),(1,.sl 2)] ?_
 refine wB J 3 h (fun h=>?_) fun h=>?_
 ·cases h
  exact wr J 14 func56 []
 refine wO J 2 h fun x3 e h=>Zt J Xf e ?_
 refine wO J 2 h fun x4 f h=>Zo (Zgn N x3 values_ _ f) [] [(0,.sl 4),(1,.sl 5),(2,.sl 6),(3,.sl 1)] ?_
 refine wB J 3 h (fun h=>?_) fun h=>?_
 ·cases h
  exact wr J 5 func56 []
 refine wO J 6 h fun x5 g h=>Zt J Xf g ?_
 refine wO J 4 h fun x6 i h=>Zt J Xf i ?_
 refine wO J 3 h fun x7 j h=>Zo (ZeO N x6 values_ known_ _ j) [] [(0,.sl 12),(1,.sl 13),(2,.sl 14),(3,.sl 1),(4,.sl 2)] ?_
 obtain ⟨x8,k,h⟩:=ob h
 refine W2 (Zh9 N x5.Guard x7 _ k) [] [(0,.sl 9),(1,.sl 10),(2,.sl 15)] [15] (.inr ⟨rfl,trivial⟩) (wa J 1 (Zy ?_))
 cases h
 exact Yc J func56 []
theorem ZoU (N:Nat) (a_:(List Zk)) (b_:(List Zk)) (r:Bool) (h:TO N a_ b_=some r) :
 Fn Tryz.prog 14 ⟨2,[.S 0,.S 1],[(0,.sl Zw a_),(1,.sl Zw b_)],[],2,.O r,[],[]⟩:=by
 refine Zv func14 rfl (fun E F w=>?_)
 unfold TO at h
 refine wB J 13 h (fun h=>?_) fun h=>wa J 7 (Zz (σ:=Unit) (fun st=>(ZbJ a_ b_ [])) (fun st=>Zad=some r) ?_ (fun j1=>?_))
 ·cases h
  exact wr J 5 func14 []
 ·intro _ h
  replace h:Zad=some r:=h
  unfold Zad at h
  cases h
  exact wr J 4 func14 []
 refine wa J 1 (ZH (σ:=Int) (fun st=>(ZbJ a_ b_ [(0,.S 0),(1,.S 1),(5,.I st)])) (fun n st=>VP a_ b_ n st) (r:=r) (fun _=>rfl) ?_ (fun ih=>?_))
 ·intro n2 ih3
  intro c h
  replace h:VP a_ b_ (n2+1) c=some r:=h
  unfold VP at h
  refine Zp J 8 h (fun h=>wa J 2 (Zj [] (j1 () h))) fun h=>?_
  refine wO J 8 h fun d e h=>Zt J Yd e ?_
  refine wO J 3 h fun f g h=>Zt J Yd g (wa J 1 (QU (Zy ?_)))
  refine eB h (fun h=>?_) fun h=>wa J 8 (Zj [] (ih3 (Zi (c+1)) h))
  cases h
  exact wr J 5 func14 []
 exact Zj [] (ih N 0 h)
theorem Zij (N:Nat) (decls_:(List T0)) (label_:Int) (values_:(List Zk)) (known_:(List Zk)) (r:(List Zk) × Int) (h:QP N decls_ label_ values_ known_=some r) :
 Fn Tryz.prog 57 ⟨3,[.S 0,.I label_,.S 1,.S 2],[(0,.sl ZQ decls_),(1,.sl Zw values_),(2,.sl Zw known_)],[],4,.t [.inl (.sl 3),.inl (.I r.2)],[],[(3,.own Zw r.1 true)]⟩:=by
 refine Zv func57 rfl (fun E F w=>?_)
 unfold QP at h
 refine wO J 11 h fun x1 c h=>Zo (Zc8 N decls_ label_ _ c) [] [(0,.sl 0)] ?_
 refine wB J 2 h (fun h=>?_) fun h=>?_
 ·cases h
  exact wr J 13 func57 [(3,.nil)]
 refine wO J 2 h fun x2 d h=>Zo (ZeR N decls_ known_ _ d) [] [(0,.sl 0),(1,.sl 2)] ?_
 refine wB J 4 h (fun h=>?_) fun h=>?_
 ·cases h
  exact wr J 6 func57 [(3,.nil)]
 refine wO J 5 h fun x3 e h=>Zt J Xf e ?_
 refine wO J 2 h fun x4 f h=>Zo (Zgn N x3 values_ _ f) [] [(0,.sl 4),(1,.sl 5),(2,.sl 6),(3,.sl 1)] ?_
 refine wB J 3 h (fun h=>?_) fun h=>?_
 ·cases h
  exact wr J 6 func57 [(3,.nil)]
 refine wO J 7 h fun x5 g h=>Zt J Xf g ?_
 refine wO J 3 h fun x6 i h=>Zo (ZeO N x5 values_ known_ _ i) [] [(0,.sl 8),(1,.sl 9),(2,.sl 10),(3,.sl 1),(4,.sl 2)] ?_
 cases h
 exact wr J 3 func57 [(3,.sl 11)]
theorem Zmp (N:Nat) (p_:Z6) (r:Bool) (h:Ds N p_=some r) :
 Fn Tryz.prog 29 ⟨4,[.a (XU 0 1 2 3 p_)],(Y5 0 1 2 3 p_ []),[],4,.O r,[],[]⟩:=by
 refine Zv func29 rfl (fun E F w=>?_)
 unfold Ds at h
 refine wa J 10 (Zz (σ:=Unit) (fun st=>(S4 p_ [(1,.B 4 0)])) (fun st=>DY N p_=some r) ?_ (fun j1=>?_))
 ·intro _ h
  replace h:DY N p_=some r:=h
  unfold DY at h
  refine wa J 5 (Zz (σ:=Unit) (fun st=>(S4 p_ [(1,.B 4 0)])) (fun st=>G7 p_=some r) ?_ (fun j3=>?_))
  ·intro _ h
   replace h:G7 p_=some r:=h
   unfold G7 at h
   refine Zp J 7 h (fun h=>?_) fun h=>?_
   ·cases h
    exact wr J 25 func29 []
   refine Zp J 6 h (fun h=>?_) fun h=>?_
   ·cases h
    exact wr J 19 func29 []
   refine Zp J 6 h (fun h=>?_) fun h=>?_
   ·cases h
    exact wr J 13 func29 []
   refine wB J 6 h (fun h=>?_) fun h=>?_
   ·cases h
    exact wr J 7 func29 []
   cases h
   exact wr J 7 func29 []
  refine wa J 1 (ZH (σ:=Int) (fun st=>(S4 p_ [(1,.B 4 0),(4,.I st)])) (fun n st=>Qb p_ n st) (r:=r) (fun _=>rfl) ?_ (fun ih=>?_))
  ·intro n3 ih5
   intro c h
   replace h:Qb p_ (n3+1) c=some r:=h
   unfold Qb at h
   refine Zp J 9 h (fun h=>wa J 2 (Zj [] (j3 () h))) fun h=>?_
   refine wO J 9 h fun d e h=>Zt J Uw e ?_
   refine wB J 5 h (fun h=>?_) fun h=>?_
   ·cases h
    exact wr J 16 func29 []
   refine wO J 3 h fun f g h=>Zt J Uw g ?_
   refine wB J 7 h (fun h=>?_) fun h=>wa J 8 (Zj [] (ih5 (Zi (c+1)) h))
   cases h
   exact wr J 5 func29 []
  exact Zj [] (ih N 0 h)
 refine wa J 1 (ZH (σ:=Int) (fun st=>(S4 p_ [(1,.B 4 0),(3,.I st)])) (fun n st=>Qo N p_ n st) (r:=r) (fun _=>rfl) ?_ (fun ih=>?_))
 ·intro n4 ih6
  intro i h
  replace h:Qo N p_ (n4+1) i=some r:=h
  unfold Qo at h
  refine Zp J 9 h (fun h=>wa J 2 (Zj [] (j1 () h))) fun h=>?_
  refine wO J 9 h fun j k h=>Zt J PI k ?_
  refine wB J 5 h (fun h=>?_) fun h=>wa J 8 (Zj [] (ih6 (Zi (i+1)) h))
  cases h
  exact wr J 5 func29 []
 exact Zj [] (ih N 0 h)
theorem Zsf (N:Nat) (k_:Z7) (r:Bool) (h:HT N k_=some r) :
 Fn Tryz.prog 10 ⟨11,[.a (XQ 0 1 2 3 4 5 6 7 8 9 10 k_)],(U9 0 1 2 3 4 5 6 7 8 9 10 k_ []),[],11,.O r,[],[]⟩:=by
 refine Zv func10 rfl (fun E F w=>?_)
 unfold HT at h
 refine wO J 9 h fun x1 c h=>Zo (Zoq N k_.G _ c) [] [(0,.sl 0),(1,.sl 1),(2,.sl 2),(3,.sl 3)] ?_
 refine Zp J 1 h (fun h=>?_) fun h=>?_
 ·cases h
  exact wr J 11 func10 []
 refine wO J 2 h fun x2 d h=>Zo (ZpL N k_.M _ d) [] [(0,.sl 4),(1,.sl 5),(2,.sl 6)] ?_
 refine Zp J 2 h (fun h=>?_) fun h=>?_
 ·cases h
  exact wr J 6 func10 []
 refine wO J 2 h fun x3 e h=>Zo (Zmp N k_.P _ e) [] [(0,.sl 7),(1,.sl 8),(2,.sl 9),(3,.sl 10)] ?_
 cases h
 exact wr J 3 func10 []
theorem Zod (N:Nat) (l_:(List Tf)) (r:Bool) (h:D7 N l_=some r) :
 Fn Tryz.prog 106 ⟨1,[.S 0],[(0,.sl Y6 l_)],[],1,.O r,[],[]⟩:=by
 refine Zv func106 rfl (fun E F w=>?_)
 unfold D7 at h
 refine wa J 9 (Zz (σ:=Unit) (fun st=>⟨[(0,.S 0)],[],[(0,.sl Y6 l_)],1⟩) (fun st=>Za7 l_=some r) ?_ (fun j1=>?_))
 ·intro _ h
  replace h:Za7 l_=some r:=h
  unfold Za7 at h
  cases h
  exact wr J 7 func106 []
 refine wa J 1 (ZH (σ:=Int) (fun st=>⟨[(0,.S 0),(3,.I st)],[],[(0,.sl Y6 l_)],1⟩) (fun n st=>V6 N l_ n st) (r:=r) (fun _=>rfl) ?_ (fun ih=>?_))
 ·intro n12 ih12
  intro c h
  replace h:V6 N l_ (n12+1) c=some r:=h
  unfold V6 at h
  refine Zp J 8 h (fun h=>wa J 2 (Zj [] (j1 () h))) fun h=>?_
  refine wO J 9 h fun d e h=>Zt J Uw e ?_
  refine wO J 2 h fun f g h=>Zo (Zes N d.Name _ g) [] [] ?_
  refine wB J 2 h (fun h=>wa J 13 (Zy ?_)) fun h=>?_
  ·cases h
   exact wr J 5 func106 []
  refine wO J 2 h fun i j h=>Zt J Uw j ?_
  refine wO J 4 h fun k l h=>Zt J Uw l ?_
  refine wO J 2 h fun m o h=>Zo (ZjL N i.Sort' k.Init _ o) [] [] (wa J 2 (Zy ?_))
  refine eB h (fun h=>?_) fun h=>wa J 6 (Zz (σ:=Unit) (fun st=>⟨[(0,.S 0),(3,.I c)],[],[(0,.sl Y6 l_)],4⟩) (fun st=>H9 c (V6 N l_ n12)=some r) ?_ (fun j19=>?_))
  ·cases h
   exact wr J 5 func106 []
  ·intro _ h
   replace h:H9 c (V6 N l_ n12)=some r:=h
   unfold H9 at h
   exact wa J 6 (Zj [] (ih12 (Zi (c+1)) h))
  refine wa J 1 (ZH (σ:=Int) (fun st=>⟨[(0,.S 0),(3,.I c),(4,.I st)],[],[(0,.sl Y6 l_)],4⟩) (fun n st=>R4 l_ c (V6 N l_ n12) n st) (r:=r) (fun _=>rfl) ?_ (fun ih=>?_))
  ·intro n14 ih21
   intro p h
   replace h:R4 l_ c (V6 N l_ n12) (n14+1) p=some r:=h
   unfold R4 at h
   refine Zp J 7 h (fun h=>wa J 2 (Zj [] (j19 () h))) fun h=>?_
   refine wO J 8 h fun q s h=>Zt J Uw s ?_
   refine wO J 4 h fun t u h=>Zt J Uw u (wa J 3 (Zy ?_))
   refine eB h (fun h=>?_) fun h=>wa J 8 (Zj [] (ih21 (Zi (p+1)) h))
   cases h
   exact wr J 5 func106 []
  exact Zj [] (ih N 0 h)
 exact Zj [] (ih N 0 h)
theorem ZhV (N:Nat) (peer_:Int) (label_:Int) (role_:Int) (r:Bool) (h:HF N peer_ label_ role_=some r) :
 Fn Tryz.prog 107 ⟨0,[.I peer_,.I label_,.I role_],[],[],0,.O r,[],[]⟩:=by
 refine Zv func107 rfl (fun E F w=>?_)
 unfold HF at h
 refine Zp J 9 h (fun h=>?_) fun h=>?_
 ·cases h
  exact wr J 18 func107 []
 refine Zp J 4 h (fun h=>?_) fun h=>?_
 ·cases h
  exact wr J 14 func107 []
 refine Zp J 5 h (fun h=>?_) fun h=>?_
 ·cases h
  exact wr J 9 func107 []
 refine wB J 4 h (fun h=>?_) fun h=>?_
 ·cases h
  exact wr J 5 func107 []
 cases h
 exact wr J 5 func107 []
theorem ZoH (N:Nat) (op_:Int) (r:Int × Int) (h:Gf N op_=some r) :
 Fn Tryz.prog 153 ⟨0,[.I op_],[],[],0,.t [.inl (.I r.1),.inl (.I r.2)],[],[]⟩:=by
 refine Zv func153 rfl (fun E F w=>?_)
 unfold Gf at h
 refine wB J 16 h (fun h=>?_) fun h=>wa J 7 (Zz (σ:=Bool) (fun st=>(Wp [(4,.I op_),(7,.O st)])) (fun st=>LN op_ st=some r) ?_ (fun j1=>?_))
 ·cases h
  exact wr J 6 func153 []
 ·intro c h
  replace h:LN op_ c=some r:=h
  unfold LN at h
  refine eB h (fun h=>?_) fun h=>?_
  ·cases h
   exact wr J 6 func153 []
  refine wB J 6 h (fun h=>?_) fun h=>?_
  ·cases h
   exact wr J 6 func153 []
  refine wB J 7 h (fun h=>?_) fun h=>?_
  ·cases h
   exact wr J 8 func153 []
  refine wB J 6 h (fun h=>?_) fun h=>?_
  ·cases h
   exact wr J 8 func153 []
  refine wB J 5 h (fun h=>?_) fun h=>?_
  ·cases h
   exact wr J 6 func153 []
  refine wB J 6 h (fun h=>?_) fun h=>?_
  ·cases h
   exact wr J 6 func153 []
  cases h
  exact wr J 8 func153 []
 exact eB h (fun h=>wa J 2 (Zj [] (j1 true h))) fun h=>wa J 5 (Zj [] (j1 (op_==5) h))
theorem D3 (N:Nat) (s_:ByteArray) (r:Zk) (h:Mz N s_=some r) :
 Fn Tryz.prog 154 ⟨0,[.c (.s s_)],[],[],0,.a (XI r),[],[]⟩:=by
 refine Zv func154 rfl (fun E F w=>?_)
 unfold Mz at h
 cases h
 exact wr J 10 func154 []
theorem Zma (N:Nat) (x_:Wy) (r:Bool) (h:Gd N x_=some r) :
 Fn Tryz.prog 108 ⟨0,[.a (BV x_)],[],[],0,.O r,[],[]⟩:=by
 refine Zv func108 rfl (fun E F w=>?_)
 unfold Gd at h
 refine wB J 12 h (fun h=>?_) fun h=>?_
 ·cases h
  exact wr J 10 func108 []
 refine wB J 5 h (fun h=>?_) fun h=>?_
 ·cases h
  exact wr J 5 func108 []
 refine wO J 6 h fun x1 c h=>Zo (ZoH N x_.Op _ c) [] [] ?_
 refine wB J 14 h (fun h=>?_) fun h=>?_
 ·cases h
  exact wr J 11 func108 []
 refine wB J 6 h (fun h=>?_) fun h=>?_
 ·cases h
  exact wr J 5 func108 []
 refine Zp J 9 h (fun h=>?_) fun h=>?_
 ·cases h
  exact wr J 9 func108 []
 refine wO J 5 h fun x2 d h=>Zo (D3 N x_.S _ d) [] [] ?_
 obtain ⟨x3,e,h⟩:=ob h
 refine Zo (ZbQ N x2 _ e) [] [] ?_
 cases h
 exact wr J 2 func108 []
theorem Zge (N:Nat) (op_:Int) (r:Bool) (h:L5 N op_=some r) :
 Fn Tryz.prog 109 ⟨0,[.I op_],[],[],0,.O r,[],[]⟩:=by
 refine Zv func109 rfl (fun E F w=>?_)
 unfold L5 at h
 refine wB J 9 h (fun h=>?_) fun h=>?_
 ·cases h
  exact wr J 9 func109 []
 refine wB J 4 h (fun h=>?_) fun h=>?_
 ·cases h
  exact wr J 5 func109 []
 cases h
 exact wr J 5 func109 []
theorem ZeG (N:Nat) (p_:Z6) (r:Bool) (h:Ms N p_=some r) :
 Fn Tryz.prog 67 ⟨4,[.a (XU 0 1 2 3 p_)],(Y5 0 1 2 3 p_ []),[],4,.O r,[],[]⟩:=by
 refine Zv func67 rfl (fun E F w=>?_)
 unfold Ms at h
 refine wO J 17 h fun x1 c h=>Zo (Zes N p_.Name _ c) [] [] ?_
 refine wB J 2 h (fun h=>?_) fun h=>?_
 ·cases h
  exact wr J 41 func67 []
 refine wB J 5 h (fun h=>?_) fun h=>?_
 ·cases h
  exact wr J 36 func67 []
 refine wB J 5 h (fun h=>?_) fun h=>?_
 ·cases h
  exact wr J 31 func67 []
 refine wO J 2 h fun x2 d h=>Zo (Zod N p_.Vars _ d) [] [(0,.sl 0)] ?_
 refine wB J 3 h (fun h=>?_) fun h=>?_
 ·cases h
  exact wr J 25 func67 []
 refine wB J 6 h (fun h=>?_) fun h=>?_
 ·cases h
  exact wr J 19 func67 []
 refine wB J 6 h (fun h=>?_) fun h=>?_
 ·cases h
  exact wr J 13 func67 []
 refine wB J 4 h (fun h=>?_) fun h=>?_
 ·cases h
  exact wr J 9 func67 []
 refine wB J 4 h (fun h=>?_) fun h=>wa J 7 (Zz (σ:=Unit) (fun st=>(S4 p_ [(1,.B 4 0),(3,.I (p_.Code.length:Int))])) (fun st=>PF N p_=some r) ?_ (fun j1=>?_))
 ·cases h
  exact wr J 5 func67 []
 ·intro _ h
  replace h:PF N p_=some r:=h
  unfold PF at h
  refine wa J 5 (Zz (σ:=Unit) (fun st=>(S4 p_ [(1,.B 4 0),(3,.I (p_.Code.length:Int))])) (fun st=>Mf N p_=some r) ?_ (fun j12=>?_))
  ·intro _ h
   replace h:Mf N p_=some r:=h
   unfold Mf at h
   refine wa J 5 (Zz (σ:=Unit) (fun st=>⟨[],[],(Y5 0 1 2 3 p_ []),5⟩) (fun st=>Zbi=some r) ?_ (fun j14=>?_))
   ·intro _ h
    replace h:Zbi=some r:=h
    unfold Zbi at h
    cases h
    exact wr J 4 func67 []
   refine wa J 1 (ZH (σ:=Int) (fun st=>(S4 p_ [(1,.B 4 0),(3,.I (p_.Code.length:Int)),(9,.I st)])) (fun n st=>VU N p_ n st) (r:=r) (fun _=>rfl) ?_ (fun ih=>?_))
   ·intro n10 ih16
    intro e h
    replace h:VU N p_ (n10+1) e=some r:=h
    unfold VU at h
    refine Zp J 7 h (fun h=>wa J 2 (Zj [] (j14 () h))) fun h=>?_
    refine wO J 9 h fun f g h=>Zt J PI g ?_
    refine wO J 7 h fun i j h=>Zo (Zma N f _ j) [] [] ?_
    refine wB J 2 h (fun h=>?_) fun h=>?_
    ·cases h
     exact wr J 34 func67 []
    refine wO J 2 h fun k l h=>Zo (Zge N f.Op _ l) [] [] ?_
    refine Zp J 1 h (fun h=>?_) fun h=>?_
    ·refine wB J 11 h (fun h=>?_) fun h=>?_
     ·refine wB J 14 h (fun h=>?_) fun h=>wa J 8 (Zj [] (ih16 (Zi (e+1)) h))
      cases h
      exact wr J 5 func67 []
     refine Zp J 5 h (fun h=>wa J 17 (Zj [] (ih16 (Zi (e+1)) h))) fun h=>?_
     refine wB J 9 h (fun h=>?_) fun h=>wa J 8 (Zj [] (ih16 (Zi (e+1)) h))
     cases h
     exact wr J 5 func67 []
    refine wB J 7 h (fun h=>?_) fun h=>?_
    ·cases h
     exact wr J 23 func67 []
    refine wB J 4 h (fun h=>?_) fun h=>?_
    ·refine wB J 14 h (fun h=>?_) fun h=>wa J 8 (Zj [] (ih16 (Zi (e+1)) h))
     cases h
     exact wr J 5 func67 []
    refine Zp J 5 h (fun h=>wa J 17 (Zj [] (ih16 (Zi (e+1)) h))) fun h=>?_
    refine wB J 9 h (fun h=>?_) fun h=>wa J 8 (Zj [] (ih16 (Zi (e+1)) h))
    cases h
    exact wr J 5 func67 []
   exact Zj [] (ih N 0 h)
  refine wa J 1 (ZH (σ:=Int) (fun st=>(S4 p_ [(1,.B 4 0),(3,.I (p_.Code.length:Int)),(7,.I st)])) (fun n st=>Ql N p_ n st) (r:=r) (fun _=>rfl) ?_ (fun ih=>?_))
  ·intro n11 ih17
   intro m h
   replace h:Ql N p_ (n11+1) m=some r:=h
   unfold Ql at h
   refine Zp J 9 h (fun h=>wa J 2 (Zj [] (j12 () h))) fun h=>?_
   refine wO J 9 h fun o p h=>Zt J Zev p ?_
   refine wO J 12 h fun q s h=>Zo (ZhV N o.Peer o.Label p_.Role _ s) [] [] ?_
   refine wB J 2 h (fun h=>?_) fun h=>?_
   ·cases h
    exact wr J 27 func67 []
   refine wB J 5 h (fun h=>?_) fun h=>?_
   ·cases h
    exact wr J 22 func67 []
   refine wB J 6 h (fun h=>?_) fun h=>?_
   ·cases h
    exact wr J 16 func67 []
   refine wB J 5 h (fun h=>?_) fun h=>?_
   ·cases h
    exact wr J 11 func67 []
   refine wB J 6 h (fun h=>?_) fun h=>wa J 8 (Zj [] (ih17 (Zi (m+1)) h))
   cases h
   exact wr J 5 func67 []
  exact Zj [] (ih N 0 h)
 refine wa J 1 (ZH (σ:=Int) (fun st=>(S4 p_ [(1,.B 4 0),(3,.I (p_.Code.length:Int)),(4,.I st)])) (fun n st=>Vl N p_ n st) (r:=r) (fun _=>rfl) ?_ (fun ih=>?_))
 ·intro n16 ih18
  intro t h
  replace h:Vl N p_ (n16+1) t=some r:=h
  unfold Vl at h
  refine Zp J 9 h (fun h=>wa J 2 (Zj [] (j1 () h))) fun h=>?_
  refine wO J 9 h fun u v h=>Zt J Gu v ?_
  refine wO J 13 h fun x y h=>Zo (ZhV N u.Peer u.Label p_.Role _ y) [] [] ?_
  refine wB J 2 h (fun h=>?_) fun h=>?_
  ·cases h
   exact wr J 16 func67 []
  refine wB J 5 h (fun h=>?_) fun h=>?_
  ·cases h
   exact wr J 11 func67 []
  refine wB J 6 h (fun h=>?_) fun h=>wa J 6 (Zz (σ:=Unit) (fun st=>⟨[(1,.B 4 0),(3,.I (p_.Code.length:Int)),(4,.I t)],[(4,.box (XU 0 1 2 3 p_) 50)],(Y5 0 1 2 3 p_ []),7⟩) (fun st=>BT t (Vl N p_ n16)=some r) ?_ (fun j25=>?_))
  ·cases h
   exact wr J 5 func67 []
  ·intro _ h
   replace h:BT t (Vl N p_ n16)=some r:=h
   unfold BT at h
   exact wa J 6 (Zj [] (ih18 (Zi (t+1)) h))
  refine wa J 1 (ZH (σ:=Int) (fun st=>⟨[(1,.B 4 0),(3,.I (p_.Code.length:Int)),(4,.I t),(5,.B 6 0),(6,.I st)],[(4,.box (XU 0 1 2 3 p_) 50),(6,.box (Zs3 u) 147)],(Y5 0 1 2 3 p_ []),7⟩) (fun n st=>SD p_ t (Vl N p_ n16) u n st) (r:=r) (fun _=>rfl) ?_ (fun ih=>?_))
  ·intro n18 ih27
   intro z h
   replace h:SD p_ t (Vl N p_ n16) u (n18+1) z=some r:=h
   unfold SD at h
   refine Zp J 7 h (fun h=>wa J 2 (Zj [] (j25 () h))) fun h=>?_
   refine wO J 9 h fun A C h=>Zt J Gu C ?_
   refine Zp J 6 h (fun h=>wa J 10 (Zy (wa J 8 (Zj [] (ih27 (Zi (z+1)) h))))) fun h=>?_
   refine wO J 3 h fun D G h=>Zt J Gu G (wa J 6 (Zy ?_))
   refine eB h (fun h=>?_) fun h=>wa J 8 (Zj [] (ih27 (Zi (z+1)) h))
   cases h
   exact wr J 5 func67 []
  exact Zj [] (ih N 0 h)
 exact Zj [] (ih N 0 h)
theorem ZhL (N:Nat) (decls_:(List T0)) (label_:Int) (r:(List Int)) (h:Hq N decls_ label_=some r) :
 Fn Tryz.prog 110 ⟨1,[.S 0,.I label_],[(0,.sl ZQ decls_)],[],2,.S 1,[],[(1,.own (rI .i64) r true)]⟩:=by
 refine Zv func110 rfl (fun E F w=>?_)
 unfold Hq at h
 refine wa J 13 (Zz (σ:=(List Int)) (fun st=>⟨[(5,.S 1)],[(1,.own (rI .i64) st true)],[(0,.sl ZQ decls_)],2⟩) (fun st=>HL st=some r) ?_ (fun j1=>?_))
 ·intro c h
  replace h:HL c=some r:=h
  unfold HL at h
  cases h
  exact wr J 5 func110 [(1,.sl 1)]
 refine wa J 1 (ZH (σ:=(List Int) × Int) (fun st=>⟨[(0,.S 0),(1,.I label_),(5,.S 1),(6,.I st.2)],[(1,.own (rI .i64) st.1 true)],[(0,.sl ZQ decls_)],2⟩) (fun n st=>S2 decls_ label_ n st.1 st.2) (r:=r) (fun _=>rfl) ?_ (fun ih=>?_))
 ·intro n2 ih3
  rintro ⟨d,e⟩ h
  replace h:S2 decls_ label_ (n2+1) d e=some r:=h
  unfold S2 at h
  refine Zp J 8 h (fun h=>wa J 12 (Zj [] (j1 d h))) fun h=>?_
  refine wO J 3 h fun f g h=>Zt J Xf g ?_
  refine Zp J 6 h (fun h=>wa J 2 (Zj [] (j1 d h))) fun h=>?_
  refine wO J 8 h fun i j h=>Zt J Xf j ?_
  refine wO J 3 h fun k l h=>Zt J WD l (wa J 3 (Z5 J [] (oI .i64) ([k.Sort'.Kind]:List Int) ?_))
  obtain ⟨m,o,h⟩:=ob h
  exact Yk J (rI .i64) o (wa J 8 (Zj [(1,.sl 12)] (ih3 (m,(Zi (e+1))) h)))
 exact Zj [(1,.nil)] (ih N (([]:List Int),0) h)
theorem ZoC (N:Nat) (p_:Z6) (decls_:(List T0)) (r:(List YI)) (h:z68 N p_ decls_=some r) :
 Fn Tryz.prog 68 ⟨5,[.a (XU 0 1 2 3 p_),.S 4],(Y5 0 1 2 3 p_ [(4,.sl ZQ decls_)]),[],6,.S 5,[],[(5,.own Vf r true)]⟩:=by
 refine Zv func68 rfl (fun E F w=>?_)
 unfold z68 at h
 refine wa J 14 (Zz (σ:=(List YI)) (fun st=>(Zd2 p_ st decls_ [(1,.S 4),(2,.B 5 0),(5,.S 6)])) (fun st=>Gi N p_ decls_ st=some r) ?_ (fun j1=>?_))
 ·intro c h
  replace h:Gi N p_ decls_ c=some r:=h
  unfold Gi at h
  refine wa J 5 (Zz (σ:=(List YI)) (fun st=>⟨[(5,.S 7)],[(7,.own Vf st true)],(Y5 0 1 2 3 p_ [(4,.sl ZQ decls_)]),8⟩) (fun st=>Zce st=some r) ?_ (fun j3=>?_))
  ·intro d h
   replace h:Zce d=some r:=h
   unfold Zce at h
   cases h
   exact wr J 5 func68 [(5,.sl 7)]
  refine wa J 1 (ZH (σ:=(List YI) × Int) (fun st=>⟨[(1,.S 4),(2,.B 5 0),(5,.S 7),(8,.I st.2)],[(5,.box (XU 0 1 2 3 p_) 50),(7,.own Vf st.1 true)],(Y5 0 1 2 3 p_ [(4,.sl ZQ decls_)]),8⟩) (fun n st=>Uu N p_ decls_ n st.1 st.2) (r:=r) (fun _=>rfl) ?_ (fun ih=>?_))
  ·intro n3 ih8
   rintro ⟨e,f⟩ h
   replace h:Uu N p_ decls_ (n3+1) e f=some r:=h
   unfold Uu at h
   refine Zp J 9 h (fun h=>wa J 2 (Zj [] (j3 e h))) fun h=>?_
   refine wO J 9 h fun g i h=>Zt J Zev i (wa J 11 (Zz (σ:=(List YI)) (fun st=>⟨[(1,.S 4),(2,.B 5 0),(5,.S 10),(8,.I f),(9,.B 9 0)],[(5,.box (XU 0 1 2 3 p_) 50),(9,.box (Zbf g) 177),(10,.own Vf st true)],(Y5 0 1 2 3 p_ [(4,.sl ZQ decls_)]),11⟩) (fun st=>Pf N decls_ f (Uu N p_ decls_ n3) g st=some r) ?_ (fun j11=>?_)))
   ·intro j h
    replace h:Pf N decls_ f (Uu N p_ decls_ n3) g j=some r:=h
    unfold Pf at h
    refine wO J 9 h fun k l h=>Zo (ZhL N decls_ g.Label _ l) [] [(0,.sl 4)] (wa J 1 (Z5 J [11] Sz ([(⟨g.Args,g.Label,([]:List Int),k⟩:YI)]:List YI) ?_))
    obtain ⟨m,o,h⟩:=ob h
    exact Yk J Vf o (wa J 1 (Zy (wa J 6 (Zj [(7,.sl 13)] (ih8 (m,(Zi (f+1))) h)))))
   refine WA h (fun h=>wa J 2 (Zj [(10,.sl 7)] (j11 e h))) fun h=>wa J 7 (Z5 J [] (oI .i64) ([1]:List Int) (wa J 1 (Z5 J [10] Sz ([(⟨g.When,g.Label,([]:List Int),([1]:List Int)⟩:YI)]:List YI) ?_)))
   obtain ⟨p,q,h⟩:=ob h
   exact Yk J Vf q (wa J 2 (Zj [(10,.sl 12)] (j11 p h)))
  exact Zj [(7,.sl 6)] (ih N (c,0) h)
 refine wa J 1 (ZH (σ:=(List YI) × Int) (fun st=>(Zd2 p_ st.1 decls_ [(1,.S 4),(2,.B 5 0),(5,.S 6),(6,.I st.2)])) (fun n st=>QW N p_ decls_ n st.1 st.2) (r:=r) (fun _=>rfl) ?_ (fun ih=>?_))
 ·intro n4 ih12
  rintro ⟨s,t⟩ h
  replace h:QW N p_ decls_ (n4+1) s t=some r:=h
  unfold QW at h
  refine Zp J 9 h (fun h=>wa J 2 (Zj [] (j1 s h))) fun h=>?_
  refine wO J 9 h fun u v h=>Zt J Gu v ?_
  refine wO J 13 h fun x y h=>Zo (ZhL N decls_ u.Label _ y) [] [(0,.sl 4)] (wa J 1 (Z5 J [9] Sz ([(⟨u.Entry,u.Label,x,([]:List Int)⟩:YI)]:List YI) ?_))
  obtain ⟨z,A,h⟩:=ob h
  exact Yk J Vf A (wa J 1 (Zy (wa J 6 (Zj [(6,.sl 11)] (ih12 (z,(Zi (t+1))) h)))))
 exact Zj [(6,.nil)] (ih N (([]:List YI),0) h)
theorem Zqi (N:Nat) (op_:Int) (r:ByteArray × ByteArray) (h:Gs N op_=some r) :
 Fn Tryz.prog 198 ⟨0,[.I op_],[],[],0,.t [.inl (.s r.1),.inl (.s r.2)],[],[]⟩:=by
 refine Zv func198 rfl (fun E F w=>?_)
 unfold Gs at h
 refine wB J 16 h (fun h=>?_) fun h=>?_
 ·cases h
  exact wr J 6 func198 []
 refine wB J 6 h (fun h=>?_) fun h=>wa J 7 (Zz (σ:=Bool) (fun st=>(Wp [(4,.I op_),(9,.O st)])) (fun st=>VZ op_ st=some r) ?_ (fun j1=>?_))
 ·cases h
  exact wr J 6 func198 []
 ·intro c h
  replace h:VZ op_ c=some r:=h
  unfold VZ at h
  refine eB h (fun h=>?_) fun h=>wa J 7 (Zz (σ:=Bool) (fun st=>(Wp [(4,.I op_),(18,.O st)])) (fun st=>Mg op_ st=some r) ?_ (fun j2=>?_))
  ·cases h
   exact wr J 6 func198 []
  ·intro d h
   replace h:Mg op_ d=some r:=h
   unfold Mg at h
   refine eB h (fun h=>?_) fun h=>?_
   ·cases h
    exact wr J 6 func198 []
   refine wB J 6 h (fun h=>?_) fun h=>?_
   ·cases h
    exact wr J 6 func198 []
   refine wB J 6 h (fun h=>?_) fun h=>?_
   ·cases h
    exact wr J 6 func198 []
   refine wB J 6 h (fun h=>?_) fun h=>?_
   ·cases h
    exact wr J 6 func198 []
   cases h
   exact wr J 8 func198 []
  exact eB h (fun h=>wa J 2 (Zj [] (j2 true h))) fun h=>wa J 5 (Zj [] (j2 (op_==14) h))
 refine eB h (fun h=>wa J 2 (Zj [] (j1 true h))) fun h=>?_
 refine wB J 6 h (fun h=>wa J 2 (Zj [] (j1 true h))) fun h=>?_
 refine wB J 6 h (fun h=>wa J 2 (Zj [] (j1 true h))) fun h=>?_
 refine wB J 6 h (fun h=>wa J 2 (Zj [] (j1 true h))) fun h=>?_
 refine wB J 6 h (fun h=>wa J 2 (Zj [] (j1 true h))) fun h=>?_
 refine wB J 6 h (fun h=>wa J 2 (Zj [] (j1 true h))) fun h=>?_
 exact wB J 6 h (fun h=>wa J 2 (Zj [] (j1 true h))) fun h=>wa J 5 (Zj [] (j1 (op_==16) h))
theorem ZgC (N:Nat) (c_:Int) (r:Int) (h:Hb N c_=some r) :
 Fn Tryz.prog 199 ⟨0,[.c (.i .u8 c_)],[],[],0,.I r,[],[]⟩:=by
 refine Zv func199 rfl (fun E F w=>?_)
 unfold Hb at h
 refine wB J 10 h (fun h=>?_) fun h=>?_
 ·cases h
  exact wr J 5 func199 []
 cases h
 exact wr J 6 func199 []
theorem Zoy (N:Nat) (p_:Z6) (x_:Wy) (l_:(List Int)) (params_:(List Int)) (r:(List Int) × Bool) (h:GQ N p_ x_ l_ params_=some r) :
 Fn Tryz.prog 155 ⟨6,[.a (XU 0 1 2 3 p_),.a (BV x_),.S 4,.S 5],(Y5 0 1 2 3 p_ [(4,.sl (rI .i64) l_),(5,.sl (rI .i64) params_)]),[],7,.t [.inl (.sl 6),.inl (.b r.2)],[(6,.sl (rI .i64) r.1)],[]⟩:=by
 refine Zv func155 rfl (fun E F w=>?_)
 unfold GQ at h
 refine wB J 25 h (fun h=>wa J 3 (Z5 J [] (oI .i64) ([]:List Int) ?_)) fun h=>?_
 ·refine wO J 1 h fun x1 d h=>Yk J (rI .i64) d ?_
  refine wO J 4 h fun x2 e h=>Zt J Uw e (wa J 3 (Z5 J [] (oI .i64) ([x2.Sort'.Kind]:List Int) ?_))
  obtain ⟨x3,f,h⟩:=ob h
  refine Yk J (rI .i64) f (wa J 4 (Zy (Xh [12] ?_)))
  cases h
  exact Yc J func155 [(6,.sl 12)]
 refine wB J 6 h (fun h=>?_) fun h=>?_
 ·refine wB J 10 h (fun h=>?_) fun h=>wa J 4 (Z5 J [] (oI .i64) ([]:List Int) ?_)
  ·cases h
   exact wr J 6 func155 [(6,.nil)]
  refine wO J 1 h fun x4 g h=>Yk J (rI .i64) g ?_
  refine wO J 3 h fun x5 i h=>Zt J (oI .i64) i (wa J 1 (Z5 J [] (oI .i64) ([x5]:List Int) ?_))
  obtain ⟨x6,j,h⟩:=ob h
  refine Yk J (rI .i64) j (wa J 4 (Zy (Xh [12] ?_)))
  cases h
  exact Yc J func155 [(6,.sl 12)]
 refine wB J 6 h (fun h=>?_) fun h=>?_
 ·refine wB J 7 h (fun h=>wa J 15 (Zy ?_)) fun h=>?_
  ·cases h
   exact wr J 6 func155 [(6,.nil)]
  refine wO J 3 h fun x7 k h=>Zt J (oI .i64) k ?_
  refine wO J 5 h fun x8 l h=>Zt J Uw l (wa J 5 (Zy ?_))
  refine eB h (fun h=>?_) fun h=>?_
  ·cases h
   exact wr J 6 func155 [(6,.nil)]
  refine wO J 7 h fun x9 m h=>Qn J (rI .i64) m ?_
  cases h
  exact wr J 3 func155 [(6,.sl 10)]
 refine wB J 6 h (fun h=>?_) fun h=>?_
 ·refine wB J 7 h (fun h=>wa J 28 (Zy ?_)) fun h=>?_
  ·cases h
   exact wr J 6 func155 [(6,.nil)]
  refine wO J 3 h fun o p h=>Zt J (oI .i64) p ?_
  refine wO J 4 h fun q u h=>Zt J (oI .i64) u ?_
  refine wB J 4 h (fun h=>wa J 15 (Zy ?_)) fun h=>?_
  ·cases h
   exact wr J 6 func155 [(6,.nil)]
  refine wO J 3 h fun v x h=>Zt J (oI .i64) x ?_
  refine Zp J 3 h (fun h=>wa J 8 (Zy (wa J 4 (Z5 J [] (oI .i64) ([]:List Int) ?_)))) fun h=>?_
  ·refine wO J 3 h fun y z h=>Qn J (rI .i64) z ?_
   obtain ⟨A,C,h⟩:=ob h
   refine Yk J (rI .i64) C (Z5 J [] (oI .i64) ([1]:List Int) ?_)
   obtain ⟨D,G,h⟩:=ob h
   refine Yk J (rI .i64) G (wa J 3 (Xh [15] ?_))
   cases h
   exact Yc J func155 [(6,.sl 15)]
  refine wO J 3 h fun H R h=>Zt J (oI .i64) R (wa J 4 (Zy ?_))
  refine eB h (fun h=>?_) fun h=>wa J 4 (Z5 J [] (oI .i64) ([]:List Int) ?_)
  ·cases h
   exact wr J 6 func155 [(6,.nil)]
  refine wO J 3 h fun T U h=>Qn J (rI .i64) U ?_
  obtain ⟨X,Y,h⟩:=ob h
  refine Yk J (rI .i64) Y (Z5 J [] (oI .i64) ([1]:List Int) ?_)
  obtain ⟨Z,a0,h⟩:=ob h
  refine Yk J (rI .i64) a0 (wa J 3 (Xh [16] ?_))
  cases h
  exact Yc J func155 [(6,.sl 16)]
 refine wO J 7 h fun b0 c0 h=>Zo (Zqi N x_.Op _ c0) [] [] (wa J 11 (Zz (σ:=Unit) (fun st=>⟨[(2,.S 4),(10,.I (l_.length:Int)),(11,.c (.s b0.1)),(12,.c (.s b0.2))],[],(Y5 0 1 2 3 p_ [(4,.sl (rI .i64) l_),(5,.sl (rI .i64) params_)]),8⟩) (fun st=>GR N l_ b0=some r) ?_ (fun j1=>?_)))
 ·intro _ h
  replace h:GR N l_ b0=some r:=h
  unfold GR at h
  refine wa J 2 (Z5 J [] (oI .i64) ([]:List Int) ?_)
  refine wO J 5 h fun d0 e0 h=>Qn J (rI .i64) e0 ?_
  obtain ⟨f0,g0,h⟩:=ob h
  refine Yk J (rI .i64) g0 (wa J 7 (Zz (σ:=(List Int)) (fun st=>(Zhj st p_ l_ params_ [(14,.S 11)])) (fun st=>ZcI st=some r) ?_ (fun j3=>?_)))
  ·intro i0 h
   replace h:ZcI i0=some r:=h
   unfold ZcI at h
   refine wa J 9 (Xh [11] ?_)
   cases h
   exact Yc J func155 [(6,.sl 11)]
  refine wa J 1 (ZH (σ:=(List Int) × Int) (fun st=>(Zhj st.1 p_ l_ params_ [(12,.c (.s b0.2)),(14,.S 11),(15,.I st.2)])) (fun n st=>Pb N b0 n st.1 st.2) (r:=r) (fun _=>rfl) ?_ (fun ih=>?_))
  ·intro n3 ih5
   rintro ⟨j0,k0⟩ h
   replace h:Pb N b0 (n3+1) j0 k0=some r:=h
   unfold Pb at h
   refine Zp J 8 h (fun h=>wa J 2 (Zj [] (j3 j0 h))) fun h=>?_
   refine wO J 8 h fun l0 m0 h=>W3 J m0 ?_
   obtain ⟨o0,p0,h⟩:=ob h
   refine Zo (ZgC N l0 _ p0) [] [] (Z5 J [] (oI .i64) ([o0]:List Int) ?_)
   obtain ⟨q0,s0,h⟩:=ob h
   exact Yk J (rI .i64) s0 (wa J 8 (Zj [(11,.sl 13)] (ih5 (q0,(Zi (k0+1))) h)))
  exact Zj [(11,.sl 10)] (ih N (f0,0) h)
 refine wa J 1 (ZH (σ:=Int) (fun st=>⟨[(2,.S 4),(10,.I (l_.length:Int)),(11,.c (.s b0.1)),(12,.c (.s b0.2)),(13,.I st)],[],(Y5 0 1 2 3 p_ [(4,.sl (rI .i64) l_),(5,.sl (rI .i64) params_)]),8⟩) (fun n st=>RA N l_ b0 n st) (r:=r) (fun _=>rfl) ?_ (fun ih=>?_))
 ·intro n4 ih6
  intro t0 h
  replace h:RA N l_ b0 (n4+1) t0=some r:=h
  unfold RA at h
  refine Zp J 8 h (fun h=>wa J 2 (Zj [] (j1 () h))) fun h=>?_
  refine wB J 10 h (fun h=>wa J 13 (Zy ?_)) fun h=>?_
  ·cases h
   exact wr J 6 func155 [(6,.nil)]
  refine wO J 5 h fun u0 v0 h=>Zt J (oI .i64) v0 ?_
  refine wO J 3 h fun x0 y0 h=>W3 J y0 ?_
  obtain ⟨z0,A0,h⟩:=ob h
  refine Zo (ZgC N x0 _ A0) [] [] (wa J 2 (Zy ?_))
  refine eB h (fun h=>?_) fun h=>wa J 8 (Zj [] (ih6 (Zi (t0+1)) h))
  cases h
  exact wr J 6 func155 [(6,.nil)]
 exact Zj [] (ih N 0 h)
theorem ZfR (N:Nat) (a_:(List Int)) (b_:(List Int)) (r:Bool) (h:P5 N a_ b_=some r) :
 Fn Tryz.prog 156 ⟨2,[.S 0,.S 1],[(0,.sl (rI .i64) a_),(1,.sl (rI .i64) b_)],[],2,.O r,[],[]⟩:=by
 refine Zv func156 rfl (fun E F w=>?_)
 unfold P5 at h
 refine wB J 13 h (fun h=>?_) fun h=>wa J 7 (Zz (σ:=Unit) (fun st=>⟨[],[],[(0,.sl (rI .i64) a_),(1,.sl (rI .i64) b_)],2⟩) (fun st=>ZaL=some r) ?_ (fun j1=>?_))
 ·cases h
  exact wr J 5 func156 []
 ·intro _ h
  replace h:ZaL=some r:=h
  unfold ZaL at h
  cases h
  exact wr J 4 func156 []
 refine wa J 1 (ZH (σ:=Int) (fun st=>⟨[(0,.S 0),(1,.S 1),(5,.I st)],[],[(0,.sl (rI .i64) a_),(1,.sl (rI .i64) b_)],2⟩) (fun n st=>RC a_ b_ n st) (r:=r) (fun _=>rfl) ?_ (fun ih=>?_))
 ·intro n2 ih3
  intro c h
  replace h:RC a_ b_ (n2+1) c=some r:=h
  unfold RC at h
  refine Zp J 8 h (fun h=>wa J 2 (Zj [] (j1 () h))) fun h=>?_
  refine wO J 8 h fun d e h=>Zt J (oI .i64) e ?_
  refine wO J 3 h fun f g h=>Zt J (oI .i64) g (wa J 2 (Zy ?_))
  refine eB h (fun h=>?_) fun h=>wa J 8 (Zj [] (ih3 (Zi (c+1)) h))
  cases h
  exact wr J 5 func156 []
 exact Zj [] (ih N 0 h)
theorem Zly (N:Nat) (p_:Z6) (at_:Int) (loops_:(List Int)) (r:Bool) (h:Gb N p_ at_ loops_=some r) :
 Fn Tryz.prog 157 ⟨5,[.a (XU 0 1 2 3 p_),.I at_,.S 4],(Y5 0 1 2 3 p_ [(4,.sl (rI .i64) loops_)]),[],5,.O r,[],[]⟩:=by
 refine Zv func157 rfl (fun E F w=>?_)
 unfold Gb at h
 refine wO J 10 h fun x1 c h=>Zt J PI c ?_
 refine wB J 23 h (fun h=>?_) fun h=>?_
 ·refine wB J 11 h (fun h=>?_) fun h=>?_
  ·cases h
   exact wr J 9 func157 []
  cases h
  exact wr J 9 func157 []
 refine wB J 6 h (fun h=>?_) fun h=>?_
 ·refine Zp J 5 h (fun h=>wa J 11 (Zy ?_)) fun h=>?_
  ·cases h
   exact wr J 14 func157 []
  refine wO J 5 h fun x2 d h=>Zt J (oI .i64) d (wa J 5 (Zy ?_))
  refine wB J 5 h (fun h=>?_) fun h=>?_
  ·cases h
   exact wr J 9 func157 []
  cases h
  exact wr J 9 func157 []
 refine wB J 6 h (fun h=>?_) fun h=>?_
 ·refine wB J 11 h (fun h=>?_) fun h=>?_
  ·cases h
   exact wr J 9 func157 []
  cases h
  exact wr J 9 func157 []
 refine wB J 6 h (fun h=>?_) fun h=>?_
 ·cases h
  exact wr J 7 func157 []
 refine wB J 6 h (fun h=>?_) fun h=>?_
 ·cases h
  exact wr J 9 func157 []
 refine Zp J 6 h (fun h=>?_) fun h=>?_
 ·cases h
  exact wr J 16 func157 []
 refine wB J 13 h (fun h=>?_) fun h=>?_
 ·cases h
  exact wr J 9 func157 []
 cases h
 exact wr J 9 func157 []
theorem Zgm (N:Nat) (all_:(List Yq)) (at_:Int) (s_:Yq) (r:Int × (List Yq)) (h:Ll N all_ at_ s_=some r) :
 Fn Tryz.prog 158 ⟨3,[.S 0,.I at_,.a (ZkM 1 2 s_)],(ZkD 1 2 s_ []),[(0,.own WM all_ false)],3,.I r.1,[],[(0,.own WM r.2 false)]⟩:=by
 refine Zv func158 rfl (fun E F w=>?_)
 unfold Ll at h
 refine wO J 11 h fun x1 c h=>ZT J WM c (wa J 1 (Z9 J Si c ?_))
 refine wB J 3 h (fun h=>?_) fun h=>?_
 ·refine wO J 5 h fun x2 d h=>ZT J WM d (XW J [] Si s_ d ?_)
  cases h
  exact wr J 6 func158 []
 refine wO J 5 h fun x3 e h=>ZT J WM e (wa J 1 (Z9 J Si e ?_))
 refine wO J 2 h fun x4 f h=>Zo (ZfR N x3.stack' s_.stack' _ f) [] [(0,.sl 8),(1,.sl 1)] (wa J 2 (Zy ?_))
 refine eB h (fun h=>?_) fun h=>?_
 ·cases h
  exact wr J 5 func158 []
 refine wO J 5 h fun x5 g h=>ZT J WM g (wa J 1 (Z9 J Si g ?_))
 refine wO J 2 h fun x6 i h=>Zo (ZfR N x5.loops' s_.loops' _ i) [] [(0,.sl 12),(1,.sl 2)] (wa J 2 (Zy ?_))
 refine eB h (fun h=>?_) fun h=>?_
 ·cases h
  exact wr J 5 func158 []
 cases h
 exact wr J 7 func158 []
theorem Zt0 (N:Nat) (p_:Z6) (all_:(List Yq)) (at_:Int) (params_:(List Int)) (results_:(List Int)) (r:Int × (List Yq)) (h:Bh N p_ all_ at_ params_ results_=some r) :
 Fn Tryz.prog 111 ⟨7,[.a (XU 0 1 2 3 p_),.S 4,.I at_,.S 5,.S 6],(Y5 0 1 2 3 p_ [(5,.sl (rI .i64) params_),(6,.sl (rI .i64) results_)]),[(4,.own WM all_ false)],7,.I r.1,[],[(4,.own WM r.2 false)]⟩:=by
 refine Zv func111 rfl (fun E F w=>?_)
 unfold Bh at h
 refine wO J 10 h fun x1 c h=>Zt J PI c ?_
 refine wO J 3 h fun x2 d h=>ZT J WM d (Z9 J Si d (wa J 4 (Zy ?_)))
 refine wO J 7 h fun x3 e h=>Zo (Zoy N p_ x1 x2.stack' params_ _ e) [] [(0,.sl 0),(1,.sl 1),(2,.sl 2),(3,.sl 3),(4,.sl 10),(5,.sl 5)] ?_
 refine wa J 12 (Zz (σ:=Bool) (fun st=>⟨[(1,.S 4),(2,.I at_),(5,.B 7 0),(11,.B 12 0),(12,.B 13 0),(13,.S 14),(48,.O st)],[(4,.own WM all_ false),(7,.box (XU 0 1 2 3 p_) 50),(12,.box (BV x1) 129),(13,.box (ZkM 10 11 x2) 183)],((0,.sl Y6 p_.Vars)::(1,.sl Xw p_.Handlers)::(2,.sl Xx p_.Offers)::(3,.sl Xz p_.Code)::(5,.sl (rI .i64) params_)::(6,.sl (rI .i64) results_)::ZkD 10 11 x2 [(14,.sl (rI .i64) x3.1)]),15⟩) (fun st=>S7 N p_ all_ at_ x1 x2 x3 st=some r) ?_ (fun j1=>?_))
 ·intro f h
  replace h:S7 N p_ all_ at_ x1 x2 x3 f=some r:=h
  unfold S7 at h
  refine eB h (fun h=>?_) fun h=>?_
  ·cases h
   exact wr J 5 func111 []
  refine wO J 9 h fun x5 g h=>Zo (Zly N p_ at_ x2.loops' _ g) [] [(0,.sl 0),(1,.sl 1),(2,.sl 2),(3,.sl 3),(4,.sl 11)] ?_
  refine wB J 2 h (fun h=>?_) fun h=>wa J 23 (Zz (σ:=(List Int)) (fun st=>(ZeS all_ x1 p_ params_ results_ x3.1 st [(1,.S 4),(2,.I at_),(11,.B 12 0),(15,.B 15 0)])) (fun st=>QH N all_ at_ x1 x3 st=some r) ?_ (fun j2=>?_))
  ·cases h
   exact wr J 5 func111 []
  ·intro i h
   replace h:QH N all_ at_ x1 x3 i=some r:=h
   unfold QH at h
   refine wa J 12 (Zz (σ:=Bool) (fun st=>(ZeS all_ x1 p_ params_ results_ x3.1 i [(1,.S 4),(2,.I at_),(11,.B 12 0),(15,.B 15 0),(16,.I 0),(88,.O st)])) (fun st=>MF N all_ at_ x1 x3 i st=some r) ?_ (fun j3=>?_))
   ·intro j h
    replace h:MF N all_ at_ x1 x3 i j=some r:=h
    unfold MF at h
    refine Zz (σ:=(List Yq) × Int) (fun st=>(ZeS st.1 x1 p_ params_ results_ x3.1 i [(1,.S 4),(11,.B 12 0),(15,.B 15 0),(16,.I st.2)])) (fun st=>PR N x1 x3 i st.1 st.2=some r) ?_ (fun j4=>?_)
    ·rintro ⟨k,l⟩ h
     replace h:PR N x1 x3 i k l=some r:=h
     unfold PR at h
     refine wO J 5 h fun m o h=>Zo (Zge N x1.Op _ o) [] [] ?_
     refine Zp J 1 h (fun h=>?_) fun h=>?_
     ·cases h
      exact wr J 11 func111 []
     refine Zp J 4 h (fun h=>?_) fun h=>?_
     ·cases h
      exact wr J 7 func111 []
     refine wO J 6 h fun p q h=>Zo (Zgm N k x1.N (⟨true,x3.1,i⟩:Yq) _ q) [] [(0,.sl 4),(1,.sl 14),(2,.sl 16)] ?_
     cases h
     exact wr J 7 func111 []
    refine WA h (fun h=>wa J 2 (Zj [] (j4 (all_,0) h))) fun h=>?_
    exact wO J 6 h fun s t h=>Zo (Zgm N all_ (Zi (at_+1)) (⟨true,x3.1,i⟩:Yq) _ t) [] [(0,.sl 4),(1,.sl 14),(2,.sl 16)] (wa J 2 (Zj [] (j4 (s.2,s.1) h)))
   exact eB h (fun h=>wa J 5 (Zj [] (j3 (x1.Op != 24) h))) fun h=>wa J 5 (Zj [] (j3 false h))
  refine eB h (fun h=>wa J 2 (Z5 J [] (oI .i64) ([]:List Int) ?_)) fun h=>?_
  ·refine wO J 2 h fun u v h=>Yk J (rI .i64) v (wa J 1 (Z5 J [] (oI .i64) ([at_]:List Int) ?_))
   obtain ⟨x,y,h⟩:=ob h
   exact Yk J (rI .i64) y (wa J 3 (Xh [19] (Zj [(16,.sl 19)] (j2 x h))))
  refine Zp J 6 h (fun h=>wa J 2 (Zj [(16,.sl 11)] (j2 x2.loops' h))) fun h=>?_
  exact wO J 8 h fun z A h=>Qn J (rI .i64) A (wa J 3 (Zj [] (j2 z h)))
 refine eB h (fun h=>wa J 12 (Zj [] (j1 true h))) fun h=>?_
 refine Zp J 4 h (fun h=>wa J 8 (Zj [] (j1 false h))) fun h=>?_
 exact wO J 3 h fun C D h=>Zo (ZfR N x2.stack' results_ _ D) [] [(0,.sl 10),(1,.sl 6)] (wa J 4 (Zj [] (j1 (!C) h)))
theorem Znb (N:Nat) (p_:Z6) (entry_:Int) (params_:(List Int)) (results_:(List Int)) (r:Int × Int × Int) (h:GX N p_ entry_ params_ results_=some r) :
 Fn Tryz.prog 69 ⟨6,[.a (XU 0 1 2 3 p_),.I entry_,.S 4,.S 5],(Y5 0 1 2 3 p_ [(4,.sl (rI .i64) params_),(5,.sl (rI .i64) results_)]),[],6,.t [.inl (.I r.1),.inl (.I r.2.1),.inl (.I r.2.2)],[],[]⟩:=by
 refine Zv func69 rfl (fun E F w=>?_)
 unfold GX at h
 refine wO J 11 h fun x1 c h=>Zo (ZeG N p_ _ c) [] [(0,.sl 0),(1,.sl 1),(2,.sl 2),(3,.sl 3)] ?_
 refine wB J 2 h (fun h=>?_) fun h=>?_
 ·cases h
  exact wr J 18 func69 []
 refine wB J 4 h (fun h=>?_) fun h=>?_
 ·cases h
  exact wr J 14 func69 []
 refine wB J 7 h (fun h=>?_) fun h=>?_
 ·cases h
  exact wr J 7 func69 []
 refine wO J 7 h fun x2 d h=>UM J Si d ?_
 refine wO J 6 h fun x3 e h=>ZT J WM e (wa J 1 (eSp J [] Si (⟨true,x3.stack',x3.loops'⟩:Yq) e (wa J 11 (Zz (σ:=Int) (fun st=>⟨[(12,.I st)],[],(Y5 0 1 2 3 p_ [(4,.sl (rI .i64) params_),(5,.sl (rI .i64) results_)]),11⟩) (fun st=>Zcb st=some r) ?_ (fun j1=>?_)))))
 ·intro f h
  replace h:Zcb f=some r:=h
  unfold Zcb at h
  cases h
  exact wr J 7 func69 []
 refine wa J 1 (ZH (σ:=(List Yq) × Int × Int) (fun st=>⟨[(2,.S 4),(3,.S 5),(4,.B 6 0),(11,.S 7),(12,.I st.2.1),(13,.I st.2.2)],[(6,.box (XU 0 1 2 3 p_) 50),(7,.own WM st.1 true)],(Y5 0 1 2 3 p_ [(4,.sl (rI .i64) params_),(5,.sl (rI .i64) results_)]),11⟩) (fun n st=>VK N p_ params_ results_ n st.1 st.2.1 st.2.2) (r:=r) (fun _=>rfl) ?_ (fun ih=>?_))
 ·intro n12 ih12
  rintro ⟨g,i,j⟩ h
  replace h:VK N p_ params_ results_ (n12+1) g i j=some r:=h
  unfold VK at h
  refine Zp J 9 h (fun h=>wa J 2 (Zj [] (j1 i h))) fun h=>?_
  refine wO J 9 h fun k l h=>ZT J WM l (wa J 1 (Z9 J Si l ?_))
  refine wB J 2 h (fun h=>wa J 7 (Zj [] (ih12 (g,i,(Zi (j+1))) h))) fun h=>?_
  refine wO J 10 h fun m o h=>Zo (Zt0 N p_ g j params_ results_ _ o) [] [(0,.sl 0),(1,.sl 1),(2,.sl 2),(3,.sl 3),(4,.sl 7),(5,.sl 4),(6,.sl 5)] ?_
  refine wB J 7 h (fun h=>?_) fun h=>wa J 11 (Zz (σ:=Int) (fun st=>(Zh7 p_ m.2 params_ results_ [(2,.S 4),(3,.S 5),(4,.B 6 0),(11,.S 7),(12,.I i),(13,.I j),(15,.I st)])) (fun st=>DJ i j (VK N p_ params_ results_ n12) m st=some r) ?_ (fun j19=>?_))
  ·cases h
   exact wr J 9 func69 []
  ·intro p h
   replace h:DJ i j (VK N p_ params_ results_ n12) m p=some r:=h
   unfold DJ at h
   exact wa J 12 (Zj [] (ih12 (m.2,(Zi (i+p)),(Zi (j+1))) h))
  refine wa J 1 (ZH (σ:=Int × Int) (fun st=>(Zh7 p_ m.2 params_ results_ [(2,.S 4),(3,.S 5),(4,.B 6 0),(11,.S 7),(12,.I i),(13,.I j),(15,.I st.1),(16,.I st.2)])) (fun n st=>RU p_ i j (VK N p_ params_ results_ n12) m n st.1 st.2) (r:=r) (fun _=>rfl) ?_ (fun ih=>?_))
  ·intro n14 ih21
   rintro ⟨q,s⟩ h
   replace h:RU p_ i j (VK N p_ params_ results_ n12) m (n14+1) q s=some r:=h
   unfold RU at h
   refine wO J 6 h fun u v h=>ZT J WM v (wa J 1 (Z9 J Si v ?_))
   refine Zp J 3 h (fun h=>wa J 2 (Zj [] (j19 q h))) fun h=>?_
   refine wO J 10 h fun x y h=>ZT J WM y (wa J 1 (Z9 J Si y ?_))
   refine wO J 1 h fun z A h=>Zt J (oI .i64) A ?_
   exact wO J 1 h fun C D h=>Zt J PI D (wa J 4 (Zy (wa J 6 (Zj [] (ih21 ((Zi (q * C.N)),(Zi (s+1))) h)))))
  exact Zj [] (ih N (1,0) h)
 exact Zj [] (ih N ((ZW x2 entry_ (⟨true,x3.stack',x3.loops'⟩:Yq)),0,entry_) h)
theorem ZmL (N:Nat) (p_:Z6) (decls_:(List T0)) (r:Int × Int) (h:Dw N p_ decls_=some r) :
 Fn Tryz.prog 32 ⟨5,[.a (XU 0 1 2 3 p_),.S 4],(Y5 0 1 2 3 p_ [(4,.sl ZQ decls_)]),[],5,.t [.inl (.I r.1),.inl (.I r.2)],[],[]⟩:=by
 refine Zv func32 rfl (fun E F w=>?_)
 unfold Dw at h
 refine wO J 10 h fun x1 c h=>Zo (ZeG N p_ _ c) [] [(0,.sl 0),(1,.sl 1),(2,.sl 2),(3,.sl 3)] ?_
 refine wB J 2 h (fun h=>?_) fun h=>?_
 ·cases h
  exact wr J 6 func32 []
 refine wO J 6 h fun x2 d h=>Zo (ZoC N p_ decls_ _ d) [] [(0,.sl 0),(1,.sl 1),(2,.sl 2),(3,.sl 3),(4,.sl 4)] (wa J 7 (Zz (σ:=Unit) (fun st=>⟨[],[],(Y5 0 1 2 3 p_ [(4,.sl ZQ decls_)]),7⟩) (fun st=>ZbD=some r) ?_ (fun j1=>?_)))
 ·intro _ h
  replace h:ZbD=some r:=h
  unfold ZbD at h
  cases h
  exact wr J 5 func32 []
 refine wa J 1 (ZH (σ:=Int) (fun st=>(Zd2 p_ x2 decls_ [(1,.S 4),(2,.B 5 0),(6,.S 6),(7,.I st)])) (fun n st=>R5 N p_ decls_ x2 n st) (r:=r) (fun _=>rfl) ?_ (fun ih=>?_))
 ·intro n2 ih3
  intro e h
  replace h:R5 N p_ decls_ x2 (n2+1) e=some r:=h
  unfold R5 at h
  refine Zp J 8 h (fun h=>wa J 2 (Zj [] (j1 () h))) fun h=>?_
  refine wO J 9 h fun f g h=>ZT J Vf g (wa J 1 (Z9 J Sz g ?_))
  refine wB J 4 h (fun h=>?_) fun h=>?_
  ·refine wO J 5 h fun i j h=>ZT J Vf j (wa J 1 (Z9 J Sz j ?_))
   cases h
   exact wr J 3 func32 []
  refine wO J 7 h fun k l h=>ZT J Vf l (wa J 1 (Z9 J Sz l ?_))
  refine wO J 2 h fun m o h=>ZT J Vf o (wa J 1 (Z9 J Sz o ?_))
  refine wO J 2 h fun p q h=>ZT J Vf q (wa J 1 (Z9 J Sz q ?_))
  obtain ⟨s,u,h⟩:=ob h
  refine Zo (Znb N p_ k.At m.Params p.Results _ u) [] [(0,.sl 0),(1,.sl 1),(2,.sl 2),(3,.sl 3),(4,.sl 14),(5,.sl 18)] (wa J 7 (Zy ?_))
  refine wB J 6 h (fun h=>?_) fun h=>?_
  ·cases h
   exact wr J 8 func32 []
  refine Zp J 7 h (fun h=>wa J 8 (Zj [] (ih3 (Zi (e+1)) h))) fun h=>?_
  refine wO J 5 h fun v x h=>ZT J Vf x (wa J 1 (Z9 J Sz x ?_))
  cases h
  exact wr J 3 func32 []
 exact Zj [] (ih N 0 h)
theorem ZmM (N:Nat) (k_:Z7) (r:Bool) (h:GC N k_=some r) :
 Fn Tryz.prog 11 ⟨11,[.a (XQ 0 1 2 3 4 5 6 7 8 9 10 k_)],(U9 0 1 2 3 4 5 6 7 8 9 10 k_ []),[],11,.O r,[],[]⟩:=by
 refine Zv func11 rfl (fun E F w=>?_)
 unfold GC at h
 refine wO J 10 h fun x1 c h=>Zo (Zqh N k_.G _ c) [] [(0,.sl 0),(1,.sl 1),(2,.sl 2),(3,.sl 3)] ?_
 refine wB J 2 h (fun h=>?_) fun h=>?_
 ·cases h
  exact wr J 30 func11 []
 refine wO J 2 h fun x2 d h=>Zo (Zsd N k_.M _ d) [] [(0,.sl 4),(1,.sl 5),(2,.sl 6)] ?_
 refine wB J 3 h (fun h=>?_) fun h=>?_
 ·cases h
  exact wr J 24 func11 []
 refine wB J 10 h (fun h=>?_) fun h=>?_
 ·cases h
  exact wr J 14 func11 []
 refine wB J 9 h (fun h=>?_) fun h=>wa J 7 (Zz (σ:=Unit) (fun st=>(Zhb k_ [(1,.B 11 0)])) (fun st=>Lh N k_=some r) ?_ (fun j1=>?_))
 ·cases h
  exact wr J 5 func11 []
 ·intro _ h
  replace h:Lh N k_=some r:=h
  unfold Lh at h
  refine wO J 7 h fun x7 e h=>Zo (ZmL N k_.P k_.G.Decls _ e) [] [(0,.sl 7),(1,.sl 8),(2,.sl 9),(3,.sl 10),(4,.sl 1)] ?_
  cases h
  exact wr J 12 func11 []
 refine wa J 1 (ZH (σ:=Int) (fun st=>(Zhb k_ [(1,.B 11 0),(3,.I st)])) (fun n st=>Rk N k_ n st) (r:=r) (fun _=>rfl) ?_ (fun ih=>?_))
 ·intro n2 ih3
  intro f h
  replace h:Rk N k_ (n2+1) f=some r:=h
  unfold Rk at h
  refine Zp J 10 h (fun h=>wa J 2 (Zj [] (j1 () h))) fun h=>?_
  refine wO J 10 h fun g i h=>Zt J YX i ?_
  refine wB J 14 h (fun h=>?_) fun h=>?_
  ·cases h
   exact wr J 14 func11 []
  refine wB J 9 h (fun h=>?_) fun h=>wa J 8 (Zj [] (ih3 (Zi (f+1)) h))
  cases h
  exact wr J 5 func11 []
 exact Zj [] (ih N 0 h)
theorem ZkK (N:Nat) (g_:T5) (r:Int) (h:z70 N g_=some r) :
 Fn Tryz.prog 70 ⟨4,[.a (Yr 0 1 2 3 g_)],(Yx 0 1 2 3 g_ []),[],4,.I r,[],[]⟩:=by
 refine Zv func70 rfl (fun E F w=>?_)
 unfold z70 at h
 refine wa J 14 (Zz (σ:=Int) (fun st=>(MA g_ [(3,.I st)])) (fun st=>Zc7 st=some r) ?_ (fun j1=>?_))
 ·intro c h
  replace h:Zc7 c=some r:=h
  unfold Zc7 at h
  cases h
  exact wr J 5 func70 []
 refine wa J 1 (ZH (σ:=Int × Int) (fun st=>(Tp g_ [(1,.B 4 0),(3,.I st.1),(4,.I st.2)])) (fun n st=>Q3 g_ n st.1 st.2) (r:=r) (fun _=>rfl) ?_ (fun ih=>?_))
 ·intro n2 ih3
  rintro ⟨d,e⟩ h
  replace h:Q3 g_ (n2+1) d e=some r:=h
  unfold Q3 at h
  refine Zp J 9 h (fun h=>wa J 2 (Zj [] (j1 d h))) fun h=>?_
  exact wO J 9 h fun x9 f h=>Zt J Xf f (wa J 12 (Zj [] (ih3 ((Zi (d+(x9.Fields.length:Int))),(Zi (e+1))) h)))
 exact Zj [] (ih N (0,0) h)
theorem Zq7 (N:Nat) (k_:Z7) (r:ZS) (h:BO N k_=some r) :
 Fn Tryz.prog 33 ⟨11,[.a (XQ 0 1 2 3 4 5 6 7 8 9 10 k_)],(U9 0 1 2 3 4 5 6 7 8 9 10 k_ []),[],14,.a (Wz 11 12 13 r),(X1 11 12 13 r []),[]⟩:=by
 refine Zv func33 rfl (fun E F w=>?_)
 unfold BO at h
 refine wO J 12 h fun x1 c h=>Zo (ZkK N k_.G _ c) [] [(0,.sl 0),(1,.sl 1),(2,.sl 2),(3,.sl 3)] ?_
 obtain ⟨x2,d,h⟩:=ob h
 refine UM J Yd d (wa J 3 (Zy (wa J 5 (Zz (σ:=(List Zk)) (fun st=>⟨[(2,.B 12 0),(3,.B 14 0)],[(12,.box [.I 0,.nil,.nil,.nil] 59),(13,.own Zw x2 true),(14,.box [.I k_.M.Start,.sl 13,.sl 15,.nil] 59),(15,.own Zw st true)],(U9 0 1 2 3 4 5 6 7 8 9 10 k_ []),16⟩) (fun st=>Zcl k_ x2 st=some r) ?_ (fun j1=>?_)))))
 ·intro e h
  replace h:Zcl k_ x2 e=some r:=h
  unfold Zcl at h
  refine wa J 5 (Xh [13] (Xh [15] ?_))
  cases h
  exact Yc J func33 [(11,.sl 13),(12,.sl 15),(13,.nil)]
 refine wa J 1 (ZH (σ:=(List Zk) × Int) (fun st=>⟨[(1,.B 11 0),(2,.B 12 0),(3,.B 14 0),(4,.I st.2)],[(11,.box (XQ 0 1 2 3 4 5 6 7 8 9 10 k_) 52),(12,.box [.I 0,.nil,.nil,.nil] 59),(13,.own Zw x2 true),(14,.box [.I k_.M.Start,.sl 13,.sl 15,.nil] 59),(15,.own Zw st.1 true)],(U9 0 1 2 3 4 5 6 7 8 9 10 k_ []),16⟩) (fun n st=>Qu k_ x2 n st.1 st.2) (r:=r) (fun _=>rfl) ?_ (fun ih=>?_))
 ·intro n2 ih3
  rintro ⟨f,g⟩ h
  replace h:Qu k_ x2 (n2+1) f g=some r:=h
  unfold Qu at h
  refine Zp J 10 h (fun h=>wa J 2 (Zj [] (j1 f h))) fun h=>?_
  refine wO J 11 h fun i j h=>Zt J Uw j (wa J 2 (Z5 J [] Yd ([i.Init]:List Zk) ?_))
  obtain ⟨k,l,h⟩:=ob h
  exact Yk J Zw l (wa J 2 (Zy (wa J 6 (Zj [(15,.sl 18)] (ih3 (k,(Zi (g+1))) h)))))
 exact Zj [(15,.nil)] (ih N (([]:List Zk),0) h)
theorem Zah (N:Nat) (k_:Z7) (a_:ZS) (r:Bool) (h:RV N k_ a_=some r) :
 Fn Tryz.prog 37 ⟨14,[.a (XQ 0 1 2 3 4 5 6 7 8 9 10 k_),.a (Wz 11 12 13 a_)],((0,.sl rS k_.G.Roles)::(1,.sl ZQ k_.G.Decls)::(2,.sl YQ k_.G.Edges)::(3,.sl Z8 k_.G.Timeouts)::(4,.sl rB k_.M.Finals)::(5,.sl YL k_.M.Moves)::(6,.sl Z8 k_.M.Timeouts)::(7,.sl Y6 k_.P.Vars)::(8,.sl Xw k_.P.Handlers)::(9,.sl Xx k_.P.Offers)::(10,.sl Xz k_.P.Code)::X1 11 12 13 a_ []),[],14,.O r,[],[]⟩:=by
 refine Zv func37 rfl (fun E F w=>?_)
 unfold RV at h
 refine Zp J 12 h (fun h=>wa J 27 (Zy ?_)) fun h=>?_
 ·cases h
  exact Yc J func37 []
 refine Zp J 8 h (fun h=>wa J 19 (Zy ?_)) fun h=>?_
 ·cases h
  exact Yc J func37 []
 refine wO J 5 h fun x1 c h=>Zo (ZkK N k_.G _ c) [] [(0,.sl 0),(1,.sl 1),(2,.sl 2),(3,.sl 3)] ?_
 refine wB J 3 h (fun h=>wa J 10 (Zy ?_)) fun h=>wa J 10 (Zy ?_)
 ·cases h
  exact Yc J func37 []
 cases h
 exact Yc J func37 []
theorem ZrE (N:Nat) (k_:Z7) (a_:ZS) (r:(List Int)) (h:ZaJ N k_ a_=some r) :
 Fn Tryz.prog 112 ⟨14,[.a (XQ 0 1 2 3 4 5 6 7 8 9 10 k_),.a (Wz 11 12 13 a_),.c .nil],((0,.sl rS k_.G.Roles)::(1,.sl ZQ k_.G.Decls)::(2,.sl YQ k_.G.Edges)::(3,.sl Z8 k_.G.Timeouts)::(4,.sl rB k_.M.Finals)::(5,.sl YL k_.M.Moves)::(6,.sl Z8 k_.M.Timeouts)::(7,.sl Y6 k_.P.Vars)::(8,.sl Xw k_.P.Handlers)::(9,.sl Xx k_.P.Offers)::(10,.sl Xz k_.P.Code)::X1 11 12 13 a_ []),[],15,.S 14,[],[(14,.own (rI .i64) r true)]⟩:=by
 refine Zv func112 rfl (fun E F w=>?_)
 unfold ZaJ at h
 refine wa J 15 (Zz (σ:=(List Int)) (fun st=>⟨[(7,.S 16)],[(16,.own (rI .i64) st true)],((0,.sl rS k_.G.Roles)::(1,.sl ZQ k_.G.Decls)::(2,.sl YQ k_.G.Edges)::(3,.sl Z8 k_.G.Timeouts)::(4,.sl rB k_.M.Finals)::(5,.sl YL k_.M.Moves)::(6,.sl Z8 k_.M.Timeouts)::(7,.sl Y6 k_.P.Vars)::(8,.sl Xw k_.P.Handlers)::(9,.sl Xx k_.P.Offers)::(10,.sl Xz k_.P.Code)::X1 11 12 13 a_ []),17⟩) (fun st=>ZaI st=some r) ?_ (fun j1=>?_))
 ·intro d h
  replace h:ZaI d=some r:=h
  unfold ZaI at h
  cases h
  exact wr J 5 func112 [(14,.sl 16)]
 refine wa J 1 (ZH (σ:=(List Int) × Int) (fun st=>(RX k_ a_ st.1 k_.G.Roles k_.G.Decls k_.G.Edges k_.G.Timeouts k_.M.Finals k_.M.Moves k_.M.Timeouts k_.P.Vars k_.P.Handlers k_.P.Offers k_.P.Code [(2,.c .nil),(3,.B 14 0),(4,.B 15 0),(7,.S 16),(8,.I st.2)])) (fun n st=>TK k_ a_ n st.1 st.2) (r:=r) (fun _=>rfl) ?_ (fun ih=>?_))
 ·intro n2 ih3
  rintro ⟨e,f⟩ h
  replace h:TK k_ a_ (n2+1) e f=some r:=h
  unfold TK at h
  refine Zp J 10 h (fun h=>wa J 2 (Zj [] (j1 e h))) fun h=>?_
  refine wO J 10 h fun g i h=>Zt J YX i ?_
  refine Zp J 6 h (fun h=>wa J 24 (Zy (wa J 8 (Zj [] (ih3 (e,(Zi (f+1))) h))))) fun h=>?_
  refine wO J 4 h fun j k h=>Zt J YX k ?_
  refine Zp J 4 h (fun h=>wa J 15 (Zy (wa J 8 (Zj [] (ih3 (e,(Zi (f+1))) h))))) fun h=>wa J 1 (eNz false (wa J 13 (Zy (wa J 4 (Z5 J [] (oI .i64) ([f]:List Int) ?_)))))
  obtain ⟨l,m,h⟩:=ob h
  exact Yk J (rI .i64) m (wa J 8 (Zj [(16,.sl 20)] (ih3 (l,(Zi (f+1))) h)))
 exact Zj [(16,.nil)] (ih N (([]:List Int),0) h)
theorem ZpQ (N:Nat) (p_:Z6) (vars_:(List Zk)) (r:Bool) (h:ZbH N p_ vars_=some r) :
 Fn Tryz.prog 123 ⟨5,[.a (XU 0 1 2 3 p_),.S 4],(Y5 0 1 2 3 p_ [(4,.sl Zw vars_)]),[],5,.O r,[],[]⟩:=by
 refine Zv func123 rfl (fun E F w=>?_)
 unfold ZbH at h
 refine wO J 9 h fun x1 c h=>Zo (ZeG N p_ _ c) [] [(0,.sl 0),(1,.sl 1),(2,.sl 2),(3,.sl 3)] ?_
 refine wB J 2 h (fun h=>?_) fun h=>?_
 ·cases h
  exact wr J 13 func123 []
 refine wB J 8 h (fun h=>?_) fun h=>wa J 7 (Zz (σ:=Unit) (fun st=>⟨[],[],(Y5 0 1 2 3 p_ [(4,.sl Zw vars_)]),6⟩) (fun st=>Zan=some r) ?_ (fun j1=>?_))
 ·cases h
  exact wr J 5 func123 []
 ·intro _ h
  replace h:Zan=some r:=h
  unfold Zan at h
  cases h
  exact wr J 4 func123 []
 refine wa J 1 (ZH (σ:=Int) (fun st=>⟨[(1,.S 4),(2,.B 5 0),(5,.I st)],[(5,.box (XU 0 1 2 3 p_) 50)],(Y5 0 1 2 3 p_ [(4,.sl Zw vars_)]),6⟩) (fun n st=>RQ N p_ vars_ n st) (r:=r) (fun _=>rfl) ?_ (fun ih=>?_))
 ·intro n2 ih3
  intro d h
  replace h:RQ N p_ vars_ (n2+1) d=some r:=h
  unfold RQ at h
  refine Zp J 8 h (fun h=>wa J 2 (Zj [] (j1 () h))) fun h=>?_
  refine wO J 9 h fun e f h=>Zt J Uw f ?_
  refine wO J 4 h fun g i h=>Zt J Yd i ?_
  refine wO J 1 h fun j k h=>Zo (ZjL N e.Sort' g _ k) [] [] (wa J 1 (Zy ?_))
  refine eB h (fun h=>?_) fun h=>wa J 8 (Zj [] (ih3 (Zi (d+1)) h))
  cases h
  exact wr J 5 func123 []
 exact Zj [] (ih N 0 h)
theorem ZtM (N:Nat) (n_:Int) (r:ByteArray) (h:ZaG N n_=some r) :
 Fn Tryz.prog 216 ⟨0,[.I n_],[],[],0,.c (.s r),[],[]⟩:=by
 refine Zv func216 rfl (fun E F w=>?_)
 unfold ZaG at h
 refine wa J 13 (Zz (σ:=ByteArray) (fun st=>(Wp [(3,.c (.s st))])) (fun st=>Zao st=some r) ?_ (fun j1=>?_))
 ·intro d h
  replace h:Zao d=some r:=h
  unfold Zao at h
  cases h
  exact wr J 5 func216 []
 refine wa J 1 (ZH (σ:=ByteArray × Int) (fun st=>(Wp [(0,.I n_),(3,.c (.s st.1)),(4,.I st.2)])) (fun n st=>Qw n_ n st.1 st.2) (r:=r) (fun _=>rfl) ?_ (fun ih=>?_))
 ·intro n2 ih3
  rintro ⟨e,f⟩ h
  replace h:Qw n_ (n2+1) e f=some r:=h
  unfold Qw at h
  refine Zp J 7 h (fun h=>wa J 2 (Zj [] (j1 e h))) fun h=>?_
  exact wO J 6 h fun x9 g h=>eCa g (wa J 8 (Zj [] (ih3 (x9,(Zi (f+1))) h)))
 exact Zj [] (ih N ((str []),0) h)
theorem ZtL (N:Nat) (s_:Yg) (v_:Zk) (r:Zk × Int) (h:ZbI N s_ v_=some r) :
 Fn Tryz.prog 200 ⟨0,[.a (V8 s_),.a (XI v_)],[],[],0,.t [.inr (XI r.1),.inl (.I r.2)],[],[]⟩:=by
 refine Zv func200 rfl (fun E F w=>?_)
 unfold ZbI at h
 refine wO J 12 h fun x1 c h=>Zo (Zi3 N s_ _ c) [] [] ?_
 refine wB J 2 h (fun h=>?_) fun h=>?_
 ·cases h
  exact wr J 13 func200 []
 refine wO J 1 h fun x2 d h=>Zo (ZbQ N v_ _ d) [] [] ?_
 refine wB J 4 h (fun h=>?_) fun h=>?_
 ·cases h
  exact wr J 7 func200 []
 refine wB J 10 h (fun h=>?_) fun h=>?_
 ·cases h
  exact wr J 7 func200 []
 refine wB J 8 h (fun h=>?_) fun h=>?_
 ·refine wO J 11 h fun x3 e h=>Zo (Dr N (Z1 (ZX v_.N s_.Lo) s_.Hi) _ e) [] [] ?_
  cases h
  exact wr J 3 func200 []
 refine wB J 11 h (fun h=>?_) fun h=>?_
 ·refine wO J 7 h fun x4 f h=>Q6 J f ?_
  obtain ⟨x5,g,h⟩:=ob h
  refine Zo (D3 N x4 _ g) [] [] ?_
  cases h
  exact wr J 3 func200 []
 refine wO J 13 h fun x6 i h=>Zo (ZtM N (Zi (s_.Lo-(v_.S.size:Int))) _ i) [] [] ?_
 obtain ⟨x7,j,h⟩:=ob h
 refine eCa j ?_
 obtain ⟨x8,k,h⟩:=ob h
 refine Zo (D3 N x7 _ k) [] [] (wa J 2 (Zy ?_))
 cases h
 exact Yc J func200 []
theorem Zns (N:Nat) (s_:Yg) (v_:Zk) (r:Zk) (h:B5 N s_ v_=some r) :
 Fn Tryz.prog 167 ⟨0,[.a (V8 s_),.a (XI v_)],[],[],0,.a (XI r),[],[]⟩:=by
 refine Zv func167 rfl (fun E F w=>?_)
 unfold B5 at h
 refine wB J 13 h (fun h=>?_) fun h=>?_
 ·refine wO J 11 h fun x1 c h=>Zo (Dr N (ZX s_.Lo (Z1 v_.N s_.Hi)) _ c) [] [] ?_
  cases h
  exact wr J 2 func167 []
 refine wO J 6 h fun x2 d h=>Zo (ZtL N s_ v_ _ d) [] [] ?_
 cases h
 exact wr J 12 func167 []
theorem Db (N:Nat) (m_:Yh) (v_:Zk) (r:Yh) (h:SQ N m_ v_=some r) :
 Fn Tryz.prog 165 ⟨5,[.B 0 0,.a (XI v_)],[(3,.sl Zw m_.params')],[(0,.box (VG 1 2 3 4 m_) 206),(1,.own Zw m_.stack' false),(2,.own Zw m_.vars' false),(4,.own (rI .i64) m_.loops' false)],9,.t [],[(7,.sl Zw r.params')],[(1,.gone),(2,.gone),(4,.gone),(5,.own Zw r.stack' false),(6,.own Zw r.vars' false),(8,.own (rI .i64) r.loops' false),(0,.box (VG 5 6 7 8 r) 206)]⟩:=by
 refine Zv func165 rfl (fun E F w=>?_)
 unfold SQ at h
 refine wB J 14 h (fun h=>?_) fun h=>wa J 9 (Z5 J [] Yd ([v_]:List Zk) ?_)
 ·cases h
  exact wr J 8 func165 [(5,.sl 1),(6,.sl 2),(7,.sl 3),(8,.sl 4)]
 obtain ⟨x1,c,h⟩:=ob h
 refine Yk J Zw c (wa J 3 (Zy ?_))
 cases h
 exact Yc J func165 [(5,.sl 7),(6,.sl 2),(7,.sl 3),(8,.sl 4)]
theorem UW (N:Nat) (m_:Yh) (n_:Int) (r:Yh) (h:Vk N m_ n_=some r) :
 Fn Tryz.prog 164 ⟨5,[.B 0 0,.I n_],[(3,.sl Zw m_.params')],[(0,.box (VG 1 2 3 4 m_) 206),(1,.own Zw m_.stack' false),(2,.own Zw m_.vars' false),(4,.own (rI .i64) m_.loops' false)],9,.t [],[(7,.sl Zw r.params')],[(1,.gone),(2,.gone),(4,.gone),(5,.own Zw r.stack' false),(6,.own Zw r.vars' false),(8,.own (rI .i64) r.loops' false),(0,.box (VG 5 6 7 8 r) 206)]⟩:=by
 refine Zv func164 rfl (fun E F w=>?_)
 unfold Vk at h
 refine wO J 5 h fun x1 c h=>Zo (Dr N (ZX (-1000000) (Z1 n_ 1000000)) _ c) [] [] ?_
 obtain ⟨x2,d,h⟩:=ob h
 refine Zo (Db N m_ x1 _ d) [] [(0,.bp 0 0),(1,.sl 1),(2,.sl 2),(3,.sl 3),(4,.sl 4)] ?_
 cases h
 exact wr J 1 func164 [(5,.sl 5),(6,.sl 6),(7,.sl 7),(8,.sl 8)]
theorem Tb (N:Nat) (m_:Yh) (kind_:Int) (r:Zk × Yh) (h:Vn N m_ kind_=some r) :
 Fn Tryz.prog 166 ⟨5,[.B 0 0,.I kind_],[(3,.sl Zw m_.params')],[(0,.box (VG 1 2 3 4 m_) 206),(1,.own Zw m_.stack' false),(2,.own Zw m_.vars' false),(4,.own (rI .i64) m_.loops' false)],9,.a (XI r.1),[(7,.sl Zw r.2.params')],[(1,.gone),(2,.gone),(4,.gone),(5,.own Zw r.2.stack' false),(6,.own Zw r.2.vars' false),(8,.own (rI .i64) r.2.loops' false),(0,.box (VG 5 6 7 8 r.2) 206)]⟩:=by
 refine Zv func166 rfl (fun E F w=>?_)
 unfold Vn at h
 refine wa J 21 (Zz (σ:=Bool) (fun st=>⟨[(0,.B 0 0),(1,.I kind_),(4,.B 5 0),(5,.I (m_.stack'.length:Int)),(36,.O st)],[(0,.box (VG 1 2 3 4 m_) 206),(1,.own Zw m_.stack' false),(2,.own Zw m_.vars' false),(4,.own (rI .i64) m_.loops' false),(5,.box [.I 0,.I 0,.s (str [])] 88)],[(3,.sl Zw m_.params')],6⟩) (fun st=>Se m_ kind_ st=some r) ?_ (fun j1=>?_))
 ·intro c h
  replace h:Se m_ kind_ c=some r:=h
  unfold Se at h
  refine eB h (fun h=>?_) fun h=>?_
  ·cases h
   exact wr J 14 func166 [(5,.sl 1),(6,.sl 2),(7,.sl 3),(8,.sl 4)]
  refine wO J 10 h fun x2 d h=>ZT J Zw d (Z9 J Yd d ?_)
  refine wO J 12 h fun x3 e h=>SO J Zw e (wa J 9 (eSl Zw 8 e ?_))
  cases h
  exact Yc J func166 [(5,.sl 8),(6,.sl 2),(7,.sl 3),(8,.sl 4)]
 refine eB h (fun h=>wa J 21 (Zj [] (j1 true h))) fun h=>?_
 refine wB J 4 h (fun h=>wa J 17 (Zj [] (j1 true h))) fun h=>?_
 refine Zp J 3 h (fun h=>wa J 14 (Zj [] (j1 false h))) fun h=>?_
 exact wO J 6 h fun x4 f h=>ZT J Zw f (wa J 1 (Z9 J Yd f (wa J 5 (Zj [] (j1 (x4.Kind != kind_) h)))))
theorem Pp (N:Nat) (m_:Yh) (v_:Bool) (r:Yh) (h:U4 N m_ v_=some r) :
 Fn Tryz.prog 168 ⟨5,[.B 0 0,.O v_],[(3,.sl Zw m_.params')],[(0,.box (VG 1 2 3 4 m_) 206),(1,.own Zw m_.stack' false),(2,.own Zw m_.vars' false),(4,.own (rI .i64) m_.loops' false)],9,.t [],[(7,.sl Zw r.params')],[(1,.gone),(2,.gone),(4,.gone),(5,.own Zw r.stack' false),(6,.own Zw r.vars' false),(8,.own (rI .i64) r.loops' false),(0,.box (VG 5 6 7 8 r) 206)]⟩:=by
 refine Zv func168 rfl (fun E F w=>?_)
 unfold U4 at h
 refine wB J 5 h (fun h=>?_) fun h=>?_
 ·refine wO J 4 h fun x1 c h=>Zo (UW N m_ 1 _ c) [] [(0,.bp 0 0),(1,.sl 1),(2,.sl 2),(3,.sl 3),(4,.sl 4)] ?_
  cases h
  exact wr J 1 func168 [(5,.sl 5),(6,.sl 6),(7,.sl 7),(8,.sl 8)]
 refine wO J 4 h fun x2 d h=>Zo (UW N m_ 0 _ d) [] [(0,.bp 0 0),(1,.sl 1),(2,.sl 2),(3,.sl 3),(4,.sl 4)] ?_
 cases h
 exact wr J 1 func168 [(5,.sl 5),(6,.sl 6),(7,.sl 7),(8,.sl 8)]
theorem Zou (N:Nat) (m_:Yh) (op_:Int) (r:Yh) (h:Dm N m_ op_=some r) :
 Fn Tryz.prog 169 ⟨5,[.B 0 0,.I op_],[(3,.sl Zw m_.params')],[(0,.box (VG 1 2 3 4 m_) 206),(1,.own Zw m_.stack' false),(2,.own Zw m_.vars' false),(4,.own (rI .i64) m_.loops' false)],9,.t [],[(7,.sl Zw r.params')],[(1,.gone),(2,.gone),(4,.gone),(5,.own Zw r.stack' false),(6,.own Zw r.vars' false),(8,.own (rI .i64) r.loops' false),(0,.box (VG 5 6 7 8 r) 206)]⟩:=by
 refine Zv func169 rfl (fun E F w=>?_)
 unfold Dm at h
 refine wO J 3 h fun x1 c h=>Zo (Tb N m_ 1 _ c) [] [(0,.bp 0 0),(1,.sl 1),(2,.sl 2),(3,.sl 3),(4,.sl 4)] ?_
 refine wO J 6 h fun x2 d h=>Zo (Tb N x1.2 1 _ d) [] [(0,.bp 0 0),(1,.sl 5),(2,.sl 6),(3,.sl 7),(4,.sl 8)] ?_
 refine wB J 11 h (fun h=>?_) fun h=>?_
 ·cases h
  exact wr J 1 func169 [(5,.sl 9),(6,.sl 10),(7,.sl 11),(8,.sl 12)]
 refine wB J 12 h (fun h=>?_) fun h=>?_
 ·refine wO J 6 h fun x3 e h=>Zo (UW N x2.2 (Zi (x2.1.N+x1.1.N)) _ e) [] [(0,.bp 0 0),(1,.sl 9),(2,.sl 10),(3,.sl 11),(4,.sl 12)] ?_
  cases h
  exact wr J 2 func169 [(5,.sl 13),(6,.sl 14),(7,.sl 15),(8,.sl 16)]
 refine wB J 6 h (fun h=>?_) fun h=>?_
 ·refine wO J 6 h fun x4 f h=>Zo (UW N x2.2 (Zi (x2.1.N-x1.1.N)) _ f) [] [(0,.bp 0 0),(1,.sl 9),(2,.sl 10),(3,.sl 11),(4,.sl 12)] ?_
  cases h
  exact wr J 2 func169 [(5,.sl 13),(6,.sl 14),(7,.sl 15),(8,.sl 16)]
 refine wB J 6 h (fun h=>?_) fun h=>?_
 ·refine wO J 6 h fun x5 g h=>Zo (UW N x2.2 (Zi (x2.1.N * x1.1.N)) _ g) [] [(0,.bp 0 0),(1,.sl 9),(2,.sl 10),(3,.sl 11),(4,.sl 12)] ?_
  cases h
  exact wr J 2 func169 [(5,.sl 13),(6,.sl 14),(7,.sl 15),(8,.sl 16)]
 refine wB J 6 h (fun h=>?_) fun h=>?_
 ·refine wO J 6 h fun x6 i h=>Zo (Pp N x2.2 (decide (x2.1.N < x1.1.N)) _ i) [] [(0,.bp 0 0),(1,.sl 9),(2,.sl 10),(3,.sl 11),(4,.sl 12)] ?_
  cases h
  exact wr J 2 func169 [(5,.sl 13),(6,.sl 14),(7,.sl 15),(8,.sl 16)]
 refine wB J 6 h (fun h=>?_) fun h=>?_
 ·refine wB J 6 h (fun h=>?_) fun h=>?_
  ·refine wO J 3 h fun x7 j h=>Zo (Pp N x2.2 (x1.1.N != 0) _ j) [] [(0,.bp 0 0),(1,.sl 9),(2,.sl 10),(3,.sl 11),(4,.sl 12)] ?_
   cases h
   exact wr J 2 func169 [(5,.sl 13),(6,.sl 14),(7,.sl 15),(8,.sl 16)]
  refine wO J 3 h fun x8 k h=>Zo (Pp N x2.2 false _ k) [] [(0,.bp 0 0),(1,.sl 9),(2,.sl 10),(3,.sl 11),(4,.sl 12)] ?_
  cases h
  exact wr J 2 func169 [(5,.sl 13),(6,.sl 14),(7,.sl 15),(8,.sl 16)]
 refine wB J 6 h (fun h=>?_) fun h=>?_
 ·refine wB J 6 h (fun h=>?_) fun h=>?_
  ·refine wO J 3 h fun x9 l h=>Zo (Pp N x2.2 true _ l) [] [(0,.bp 0 0),(1,.sl 9),(2,.sl 10),(3,.sl 11),(4,.sl 12)] ?_
   cases h
   exact wr J 2 func169 [(5,.sl 13),(6,.sl 14),(7,.sl 15),(8,.sl 16)]
  refine wO J 3 h fun m o h=>Zo (Pp N x2.2 (x1.1.N != 0) _ o) [] [(0,.bp 0 0),(1,.sl 9),(2,.sl 10),(3,.sl 11),(4,.sl 12)] ?_
  cases h
  exact wr J 2 func169 [(5,.sl 13),(6,.sl 14),(7,.sl 15),(8,.sl 16)]
 refine wB J 8 h (fun h=>?_) fun h=>?_
 ·refine wO J 3 h fun p q h=>Zo (UW N x2.2 0 _ q) [] [(0,.bp 0 0),(1,.sl 9),(2,.sl 10),(3,.sl 11),(4,.sl 12)] ?_
  cases h
  exact wr J 3 func169 [(5,.sl 13),(6,.sl 14),(7,.sl 15),(8,.sl 16)]
 refine wB J 7 h (fun h=>?_) fun h=>?_
 ·refine wO J 5 h fun s u h=>UV u ?_
  obtain ⟨v,x,h⟩:=ob h
  refine Zo (UW N x2.2 s _ x) [] [(0,.bp 0 0),(1,.sl 9),(2,.sl 10),(3,.sl 11),(4,.sl 12)] ?_
  cases h
  exact wr J 3 func169 [(5,.sl 13),(6,.sl 14),(7,.sl 15),(8,.sl 16)]
 refine wO J 5 h fun y z h=>UV z ?_
 obtain ⟨A,C,h⟩:=ob h
 refine Zo (UW N x2.2 y _ C) [] [(0,.bp 0 0),(1,.sl 9),(2,.sl 10),(3,.sl 11),(4,.sl 12)] ?_
 cases h
 exact wr J 3 func169 [(5,.sl 13),(6,.sl 14),(7,.sl 15),(8,.sl 16)]
theorem ZlO (N:Nat) (m_:Yh) (p_:Z6) (at_:Int) (r:Int × Yh) (h:DB N m_ p_ at_=some r) :
 Fn Tryz.prog 125 ⟨9,[.B 0 0,.a (XU 5 6 7 8 p_),.I at_],((3,.sl Zw m_.params')::Y5 5 6 7 8 p_ []),[(0,.box (VG 1 2 3 4 m_) 206),(1,.own Zw m_.stack' false),(2,.own Zw m_.vars' false),(4,.own (rI .i64) m_.loops' false)],13,.I r.1,[(11,.sl Zw r.2.params')],[(1,.gone),(2,.gone),(4,.gone),(9,.own Zw r.2.stack' false),(10,.own Zw r.2.vars' false),(12,.own (rI .i64) r.2.loops' false),(0,.box (VG 9 10 11 12 r.2) 206)]⟩:=by
 refine Zv func125 rfl (fun E F w=>?_)
 unfold DB at h
 refine wO J 10 h fun x1 c h=>Zt J PI c ?_
 refine wB J 16 h (fun h=>?_) fun h=>?_
 ·refine wO J 5 h fun x2 d h=>Zo (UW N m_ x1.N _ d) [] [(0,.bp 0 0),(1,.sl 1),(2,.sl 2),(3,.sl 3),(4,.sl 4)] ?_
  cases h
  exact wr J 8 func125 [(9,.sl 12),(10,.sl 13),(11,.sl 14),(12,.sl 15)]
 refine wB J 6 h (fun h=>?_) fun h=>?_
 ·refine wO J 5 h fun x3 e h=>Zo (D3 N x1.S _ e) [] [] ?_
  obtain ⟨x4,f,h⟩:=ob h
  refine Zo (Db N m_ x3 _ f) [] [(0,.bp 0 0),(1,.sl 1),(2,.sl 2),(3,.sl 3),(4,.sl 4)] ?_
  cases h
  exact wr J 8 func125 [(9,.sl 12),(10,.sl 13),(11,.sl 14),(12,.sl 15)]
 refine wB J 6 h (fun h=>?_) fun h=>?_
 ·refine wO J 9 h fun x5 g h=>ZT J Zw g (Z9 J Yd g ?_)
  obtain ⟨x6,i,h⟩:=ob h
  refine Zo (Db N m_ x5 _ i) [] [(0,.bp 0 0),(1,.sl 1),(2,.sl 2),(3,.sl 3),(4,.sl 4)] (Zy ?_)
  cases h
  exact wr J 7 func125 [(9,.sl 13),(10,.sl 14),(11,.sl 15),(12,.sl 16)]
 refine wB J 6 h (fun h=>wa J 12 (Zy ?_)) fun h=>?_
 ·refine eB h (fun h=>?_) fun h=>?_
  ·cases h
   exact wr J 13 func125 [(9,.sl 1),(10,.sl 2),(11,.sl 3),(12,.sl 4)]
  refine wO J 10 h fun x7 j h=>Zt J Yd j ?_
  refine wO J 1 h fun x8 k h=>Zo (Db N m_ x7 _ k) [] [(0,.bp 0 0),(1,.sl 1),(2,.sl 2),(3,.sl 3),(4,.sl 4)] (Zy ?_)
  cases h
  exact wr J 7 func125 [(9,.sl 13),(10,.sl 14),(11,.sl 15),(12,.sl 16)]
 refine wB J 6 h (fun h=>?_) fun h=>?_
 ·refine wO J 7 h fun x9 l h=>Zt J Uw l ?_
  refine wO J 10 h fun m o h=>Zo (Tb N m_ x9.Sort'.Kind _ o) [] [(0,.bp 0 0),(1,.sl 1),(2,.sl 2),(3,.sl 3),(4,.sl 4)] ?_
  refine Zp J 11 h (fun h=>?_) fun h=>?_
  ·cases h
   exact wr J 9 func125 [(9,.sl 14),(10,.sl 15),(11,.sl 16),(12,.sl 17)]
  refine wO J 10 h fun p q h=>Zo (Zns N x9.Sort' m.1 _ q) [] [] ?_
  obtain ⟨s,t,h⟩:=ob h
  refine ZT J Zw t (XW J [] Yd p t (Zy ?_))
  cases h
  exact wr J 7 func125 [(9,.sl 14),(10,.sl 15),(11,.sl 16),(12,.sl 17)]
 refine wB J 6 h (fun h=>?_) fun h=>?_
 ·refine wO J 4 h fun u v h=>Zo (Tb N m_ 1 _ v) [] [(0,.bp 0 0),(1,.sl 1),(2,.sl 2),(3,.sl 3),(4,.sl 4)] ?_
  refine Zp J 11 h (fun h=>?_) fun h=>?_
  ·cases h
   exact wr J 9 func125 [(9,.sl 12),(10,.sl 13),(11,.sl 14),(12,.sl 15)]
  refine wO J 6 h fun x y h=>Zo (UW N u.2 (Zi (0-u.1.N)) _ y) [] [(0,.bp 0 0),(1,.sl 12),(2,.sl 13),(3,.sl 14),(4,.sl 15)] ?_
  cases h
  exact wr J 8 func125 [(9,.sl 17),(10,.sl 18),(11,.sl 19),(12,.sl 20)]
 refine wB J 6 h (fun h=>?_) fun h=>?_
 ·refine wO J 4 h fun z A h=>Zo (Tb N m_ 1 _ A) [] [(0,.bp 0 0),(1,.sl 1),(2,.sl 2),(3,.sl 3),(4,.sl 4)] ?_
  refine Zp J 11 h (fun h=>?_) fun h=>?_
  ·cases h
   exact wr J 9 func125 [(9,.sl 12),(10,.sl 13),(11,.sl 14),(12,.sl 15)]
  refine wO J 6 h fun C D h=>Zo (Pp N z.2 (z.1.N==0) _ D) [] [(0,.bp 0 0),(1,.sl 12),(2,.sl 13),(3,.sl 14),(4,.sl 15)] ?_
  cases h
  exact wr J 8 func125 [(9,.sl 17),(10,.sl 18),(11,.sl 19),(12,.sl 20)]
 refine wB J 6 h (fun h=>?_) fun h=>?_
 ·refine wO J 4 h fun G H h=>Zo (Tb N m_ 0 _ H) [] [(0,.bp 0 0),(1,.sl 1),(2,.sl 2),(3,.sl 3),(4,.sl 4)] ?_
  refine wO J 8 h fun R T h=>Zo (Tb N G.2 G.1.Kind _ T) [] [(0,.bp 0 0),(1,.sl 12),(2,.sl 13),(3,.sl 14),(4,.sl 15)] ?_
  refine Zp J 11 h (fun h=>?_) fun h=>wa J 5 (QU ?_)
  ·cases h
   exact wr J 9 func125 [(9,.sl 17),(10,.sl 18),(11,.sl 19),(12,.sl 20)]
  obtain ⟨U,X,h⟩:=ob h
  refine Zo (Pp N R.2 ((R.1.Kind==G.1.Kind) && ((R.1.N==G.1.N) && ((R.1.S.toList==G.1.S.toList) && true))) _ X) [] [(0,.bp 0 0),(1,.sl 17),(2,.sl 18),(3,.sl 19),(4,.sl 20)] ?_
  cases h
  exact wr J 8 func125 [(9,.sl 22),(10,.sl 23),(11,.sl 24),(12,.sl 25)]
 refine wB J 6 h (fun h=>?_) fun h=>?_
 ·refine wO J 4 h fun Y Z h=>Zo (Tb N m_ 2 _ Z) [] [(0,.bp 0 0),(1,.sl 1),(2,.sl 2),(3,.sl 3),(4,.sl 4)] ?_
  refine wO J 6 h fun a0 b0 h=>Zo (Tb N Y.2 2 _ b0) [] [(0,.bp 0 0),(1,.sl 12),(2,.sl 13),(3,.sl 14),(4,.sl 15)] ?_
  refine wO J 9 h fun c0 d0 h=>eCa d0 ?_
  refine Zp J 10 h (fun h=>?_) fun h=>?_
  ·cases h
   exact wr J 9 func125 [(9,.sl 17),(10,.sl 18),(11,.sl 19),(12,.sl 20)]
  refine wO J 7 h fun e0 f0 h=>Q6 J f0 ?_
  obtain ⟨g0,i0,h⟩:=ob h
  refine Zo (D3 N e0 _ i0) [] [] ?_
  obtain ⟨j0,k0,h⟩:=ob h
  refine Zo (Db N a0.2 g0 _ k0) [] [(0,.bp 0 0),(1,.sl 17),(2,.sl 18),(3,.sl 19),(4,.sl 20)] ?_
  cases h
  exact wr J 8 func125 [(9,.sl 22),(10,.sl 23),(11,.sl 24),(12,.sl 25)]
 refine wB J 6 h (fun h=>?_) fun h=>?_
 ·refine wO J 4 h fun l0 m0 h=>Zo (Tb N m_ 2 _ m0) [] [(0,.bp 0 0),(1,.sl 1),(2,.sl 2),(3,.sl 3),(4,.sl 4)] ?_
  refine Zp J 11 h (fun h=>?_) fun h=>?_
  ·cases h
   exact wr J 9 func125 [(9,.sl 12),(10,.sl 13),(11,.sl 14),(12,.sl 15)]
  refine wO J 6 h fun o0 p0 h=>Zo (UW N l0.2 (l0.1.S.size:Int) _ p0) [] [(0,.bp 0 0),(1,.sl 12),(2,.sl 13),(3,.sl 14),(4,.sl 15)] ?_
  cases h
  exact wr J 8 func125 [(9,.sl 17),(10,.sl 18),(11,.sl 19),(12,.sl 20)]
 refine wB J 6 h (fun h=>?_) fun h=>?_
 ·cases h
  exact wr J 7 func125 [(9,.sl 1),(10,.sl 2),(11,.sl 3),(12,.sl 4)]
 refine wB J 6 h (fun h=>?_) fun h=>?_
 ·refine wO J 4 h fun q0 s0 h=>Zo (Tb N m_ 1 _ s0) [] [(0,.bp 0 0),(1,.sl 1),(2,.sl 2),(3,.sl 3),(4,.sl 4)] ?_
  refine Zp J 11 h (fun h=>?_) fun h=>?_
  ·cases h
   exact wr J 14 func125 [(9,.sl 12),(10,.sl 13),(11,.sl 14),(12,.sl 15)]
  refine wB J 5 h (fun h=>?_) fun h=>?_
  ·cases h
   exact wr J 7 func125 [(9,.sl 12),(10,.sl 13),(11,.sl 14),(12,.sl 15)]
  cases h
  exact wr J 9 func125 [(9,.sl 12),(10,.sl 13),(11,.sl 14),(12,.sl 15)]
 refine wB J 6 h (fun h=>?_) fun h=>wa J 7 (Zz (σ:=Bool) (fun st=>⟨[(0,.B 0 0),(2,.I at_),(7,.B 11 0),(235,.O st)],[(0,.box (VG 1 2 3 4 m_) 206),(1,.own Zw m_.stack' false),(2,.own Zw m_.vars' false),(4,.own (rI .i64) m_.loops' false),(11,.box (BV x1) 129)],((3,.sl Zw m_.params')::Y5 5 6 7 8 p_ []),12⟩) (fun st=>P6 N m_ at_ x1 st=some r) ?_ (fun j1=>?_))
 ·refine wB J 11 h (fun h=>?_) fun h=>wa J 10 (Z5 J [] (oI .i64) ([x1.N]:List Int) ?_)
  ·cases h
   exact wr J 13 func125 [(9,.sl 1),(10,.sl 2),(11,.sl 3),(12,.sl 4)]
  obtain ⟨t0,u0,h⟩:=ob h
  refine Yk J (rI .i64) u0 (wa J 3 (Zy ?_))
  cases h
  exact wr J 7 func125 [(9,.sl 1),(10,.sl 2),(11,.sl 3),(12,.sl 13)]
 ·intro v0 h
  replace h:P6 N m_ at_ x1 v0=some r:=h
  unfold P6 at h
  refine WA h (fun h=>?_) fun h=>?_
  ·refine wO J 5 h fun x0 y0 h=>Zo (Zou N m_ x1.Op _ y0) [] [(0,.bp 0 0),(1,.sl 1),(2,.sl 2),(3,.sl 3),(4,.sl 4)] ?_
   cases h
   exact wr J 8 func125 [(9,.sl 12),(10,.sl 13),(11,.sl 14),(12,.sl 15)]
  refine wB J 16 h (fun h=>?_) fun h=>?_
  ·cases h
   exact wr J 13 func125 [(9,.sl 1),(10,.sl 2),(11,.sl 3),(12,.sl 4)]
  refine wB J 9 h (fun h=>?_) fun h=>?_
  ·refine wO J 10 h fun z0 A0 h=>SO J (rI .i64) A0 (wa J 10 (eSl (rI .i64) 12 A0 ?_))
   cases h
   exact Yc J func125 [(9,.sl 1),(10,.sl 2),(11,.sl 3),(12,.sl 12)]
  refine wO J 10 h fun B0 C0 h=>ZT J (rI .i64) C0 (Z9 J (oI .i64) C0 ?_)
  refine wO J 1 h fun D0 G0 h=>ZT J (rI .i64) G0 (XW J [] (oI .i64) (Zi (B0-1)) G0 ?_)
  refine wO J 9 h fun H0 I0 h=>ZT J (rI .i64) I0 (Z9 J (oI .i64) I0 ?_)
  refine wB J 2 h (fun h=>?_) fun h=>?_
  ·cases h
   exact wr J 7 func125 [(9,.sl 1),(10,.sl 2),(11,.sl 3),(12,.sl 4)]
  cases h
  exact wr J 9 func125 [(9,.sl 1),(10,.sl 2),(11,.sl 3),(12,.sl 4)]
 exact eB h (fun h=>wa J 2 (Zj [] (j1 true h))) fun h=>wa J 5 (Zj [] (j1 (x1.Op==23) h))
theorem ZpZ (N:Nat) (decls_:(List T0)) (label_:Int) (r:(List T1) × Int) (h:Zdi N decls_ label_=some r) :
 Fn Tryz.prog 114 ⟨1,[.S 0,.I label_],[(0,.sl ZQ decls_)],[],2,.t [.inl (.sl 1),.inl (.I r.2)],[],[(1,.own Yy r.1 true)]⟩:=by
 refine Zv func114 rfl (fun E F w=>?_)
 unfold Zdi at h
 refine wO J 10 h fun x1 c h=>Zo (Zc8 N decls_ label_ _ c) [] [(0,.sl 0)] ?_
 refine wB J 2 h (fun h=>?_) fun h=>?_
 ·cases h
  exact wr J 6 func114 [(1,.nil)]
 refine wO J 10 h fun x2 d h=>Zt J Xf d (wa J 9 (Zz (σ:=(List T1)) (fun st=>(Zjo x2 st decls_ [(6,.S 6),(7,.B 5 0)])) (fun st=>MQ N x2 st=some r) ?_ (fun j1=>?_)))
 ·intro e h
  replace h:MQ N x2 e=some r:=h
  unfold MQ at h
  refine wO J 6 h fun f g h=>Yk J Yy g (wa J 7 (Zz (σ:=(List T1)) (fun st=>⟨[(6,.S 8)],[(8,.own Yy st true)],[(0,.sl ZQ decls_)],9⟩) (fun st=>Dt st=some r) ?_ (fun j3=>?_)))
  ·intro i h
   replace h:Dt i=some r:=h
   unfold Dt at h
   cases h
   exact wr J 6 func114 [(1,.sl 8)]
  refine wa J 1 (ZH (σ:=(List T1) × Int) (fun st=>⟨[(6,.S 8),(7,.B 5 0),(10,.I st.2)],[(5,.box (YM 2 3 4 x2) 106),(8,.own Yy st.1 true)],((0,.sl ZQ decls_)::YJ 2 3 4 x2 []),9⟩) (fun n st=>Rq x2 n st.1 st.2) (r:=r) (fun _=>rfl) ?_ (fun ih=>?_))
  ·intro n3 ih5
   rintro ⟨j,k⟩ h
   replace h:Rq x2 (n3+1) j k=some r:=h
   unfold Rq at h
   refine Zp J 10 h (fun h=>wa J 2 (Zj [] (j3 j h))) fun h=>?_
   refine wO J 10 h fun l m h=>Zt J (oP (oI .i64) (oI .i64)) m (UD 0 rfl ?_)
   refine wO J 5 h fun o p h=>Zt J (oP (oI .i64) (oI .i64)) p (UD 1 rfl (wa J 3 (Zy (wa J 8 (Z5 J [] Tx ([(⟨l.1,o.2,0⟩:T1),(⟨o.2,l.1,0⟩:T1)]:List T1) ?_)))))
   obtain ⟨q,s,h⟩:=ob h
   exact Yk J Yy s (wa J 8 (Zj [(8,.sl 12)] (ih5 (q,(Zi (k+1))) h)))
  exact Zj [(8,.sl 7)] (ih N (f,0) h)
 refine wa J 1 (ZH (σ:=(List T1) × Int) (fun st=>(Zjo x2 st.1 decls_ [(6,.S 6),(7,.B 5 0),(8,.I st.2)])) (fun n st=>Ri N x2 n st.1 st.2) (r:=r) (fun _=>rfl) ?_ (fun ih=>?_))
 ·intro n4 ih6
  rintro ⟨u,v⟩ h
  replace h:Ri N x2 (n4+1) u v=some r:=h
  unfold Ri at h
  refine Zp J 9 h (fun h=>wa J 2 (Zj [] (j1 u h))) fun h=>?_
  refine wO J 18 h fun x y h=>Zt J WD y ?_
  refine wO J 8 h fun z A h=>Zt J WD A (wa J 5 (Z5 J [] Tx ([(⟨(Zi (x2.First+v)),(-1),x.Sort'.Hi⟩:T1),(⟨(-1),(Zi (x2.First+v)),(Zi (0-z.Sort'.Lo))⟩:T1)]:List T1) ?_))
  obtain ⟨C,D,h⟩:=ob h
  exact Yk J Yy D (wa J 1 (Zy (wa J 6 (Zj [(6,.sl 10)] (ih6 (C,(Zi (v+1))) h)))))
 exact Zj [(6,.nil)] (ih N (([]:List T1),0) h)
theorem MT (N:Nat) (d_:T0) (x_:Int) (r:Bool) (h:Sm N d_ x_=some r) :
 Fn Tryz.prog 120 ⟨3,[.a (YM 0 1 2 d_),.I x_],(YJ 0 1 2 d_ []),[],3,.O r,[],[]⟩:=by
 refine Zv func120 rfl (fun E F w=>?_)
 unfold Sm at h
 refine wB J 12 h (fun h=>?_) fun h=>?_
 ·cases h
  exact wr J 11 func120 []
 cases h
 exact wr J 11 func120 []
theorem Zhl (N:Nat) (d_:T0) (known_:(List Zk)) (x_:Int) (r:Bool) (h:HE N d_ known_ x_=some r) :
 Fn Tryz.prog 115 ⟨4,[.a (YM 0 1 2 d_),.S 3,.I x_],(YJ 0 1 2 d_ [(3,.sl Zw known_)]),[],4,.O r,[],[]⟩:=by
 refine Zv func115 rfl (fun E F w=>?_)
 unfold HE at h
 refine Zp J 10 h (fun h=>?_) fun h=>?_
 ·cases h
  exact wr J 15 func115 []
 refine wO J 2 h fun x1 c h=>Zo (MT N d_ x_ _ c) [] [(0,.sl 0),(1,.sl 1),(2,.sl 2)] ?_
 refine Zp J 3 h (fun h=>?_) fun h=>?_
 ·cases h
  exact wr J 9 func115 []
 refine wO J 2 h fun x2 d h=>Zt J Yd d ?_
 cases h
 exact wr J 6 func115 []
theorem Zp1 (N:Nat) (d_:T0) (known_:(List Zk)) (r:(List ByteArray) × (List Bool) × Bool) (h:HA N d_ known_=some r) :
 Fn Tryz.prog 116 ⟨4,[.a (YM 0 1 2 d_),.S 3],(YJ 0 1 2 d_ [(3,.sl Zw known_)]),[],6,.t [.inl (.sl 4),.inl (.sl 5),.inl (.b r.2.2)],[],[(4,.own rS r.1 true),(5,.own rB r.2.1 true)]⟩:=by
 refine Zv func116 rfl (fun E F w=>?_)
 unfold HA at h
 refine wO J 12 h fun x1 d h=>UM J oS d ?_
 refine wO J 3 h fun x2 e h=>UM J oB e (wa J 2 (Zy (wa J 5 (Zz (σ:=(List ByteArray) × (List Bool)) (fun st=>⟨[(7,.S 5),(8,.S 6)],[(5,.own rS st.1 true),(6,.own rB st.2 true)],(YJ 0 1 2 d_ [(3,.sl Zw known_)]),7⟩) (fun st=>Zcp st.1 st.2=some r) ?_ (fun j1=>?_)))))
 ·rintro ⟨f,g⟩ h
  replace h:Zcp f g=some r:=h
  unfold Zcp at h
  cases h
  exact wr J 8 func116 [(4,.sl 5),(5,.sl 6)]
 refine wa J 1 (ZH (σ:=(List ByteArray) × (List Bool) × Int) (fun st=>(Be d_ st.1 st.2.1 known_ [(1,.S 3),(2,.B 4 0),(7,.S 5),(8,.S 6),(9,.I st.2.2)])) (fun n st=>XH N d_ known_ n st.1 st.2.1 st.2.2) (r:=r) (fun _=>rfl) ?_ (fun ih=>?_))
 ·intro n72 ih390
  rintro ⟨i,j,k⟩ h
  replace h:XH N d_ known_ (n72+1) i j k=some r:=h
  unfold XH at h
  refine Zp J 9 h (fun h=>wa J 2 (Zj [] (j1 (i,j) h))) fun h=>wa J 8 (Zz (σ:=(List ByteArray) × (List Bool)) (fun st=>(Be d_ st.1 st.2 known_ [(1,.S 3),(2,.B 4 0),(7,.S 5),(8,.S 6),(9,.I k)])) (fun st=>Zdd k (XH N d_ known_ n72) st.1 st.2=some r) ?_ (fun j649=>?_))
  ·rintro ⟨l,m⟩ h
   replace h:Zdd k (XH N d_ known_ n72) l m=some r:=h
   unfold Zdd at h
   exact wa J 6 (Zj [] (ih390 (l,m,(Zi (k+1))) h))
  refine wa J 1 (ZH (σ:=(List ByteArray) × (List Bool) × Int) (fun st=>(Be d_ st.1 st.2.1 known_ [(1,.S 3),(2,.B 4 0),(7,.S 5),(8,.S 6),(9,.I k),(10,.I st.2.2)])) (fun n st=>We N d_ known_ k (XH N d_ known_ n72) n st.1 st.2.1 st.2.2) (r:=r) (fun _=>rfl) ?_ (fun ih=>?_))
  ·intro n84 ih714
   rintro ⟨o,p,q⟩ h
   replace h:We N d_ known_ k (XH N d_ known_ n72) (n84+1) o p q=some r:=h
   unfold We at h
   refine Zp J 10 h (fun h=>wa J 2 (Zj [] (j649 (o,p) h))) fun h=>wa J 8 (Zz (σ:=(List ByteArray) × (List Bool)) (fun st=>(Be d_ st.1 st.2 known_ [(1,.S 3),(2,.B 4 0),(7,.S 5),(8,.S 6),(9,.I k),(10,.I q)])) (fun st=>DZ q (We N d_ known_ k (XH N d_ known_ n72) n84) st.1 st.2=some r) ?_ (fun j757=>?_))
   ·rintro ⟨u,v⟩ h
    replace h:DZ q (We N d_ known_ k (XH N d_ known_ n72) n84) u v=some r:=h
    unfold DZ at h
    exact wa J 6 (Zj [] (ih714 (u,v,(Zi (q+1))) h))
   refine wa J 1 (ZH (σ:=(List ByteArray) × (List Bool) × Int) (fun st=>(Be d_ st.1 st.2.1 known_ [(1,.S 3),(2,.B 4 0),(7,.S 5),(8,.S 6),(9,.I k),(10,.I q),(11,.I st.2.2)])) (fun n st=>Wo N d_ known_ q (We N d_ known_ k (XH N d_ known_ n72) n84) n st.1 st.2.1 st.2.2) (r:=r) (fun _=>rfl) ?_ (fun ih=>?_))
   ·intro n86 ih768
    rintro ⟨x,y,z⟩ h
    replace h:Wo N d_ known_ q (We N d_ known_ k (XH N d_ known_ n72) n84) (n86+1) x y z=some r:=h
    unfold Wo at h
    refine Zp J 6 h (fun h=>wa J 2 (Zj [] (j757 (x,y) h))) fun h=>?_
    refine wO J 11 h fun A C h=>Zt J (oP (oI .i64) (oI .i64)) C ?_
    refine Zz (σ:=Int × Int) (fun st=>(ZfI d_ x y known_ [(1,.S 3),(2,.B 4 0),(7,.S 5),(8,.S 6),(9,.I k),(10,.I q),(11,.I z),(12,.I st.1),(13,.I st.2)])) (fun st=>TL N d_ known_ x y z (Wo N d_ known_ q (We N d_ known_ k (XH N d_ known_ n72) n84) n86) st.1 st.2=some r) ?_ (fun j775=>?_)
    ·rintro ⟨D,G⟩ h
     replace h:TL N d_ known_ x y z (Wo N d_ known_ q (We N d_ known_ k (XH N d_ known_ n72) n84) n86) D G=some r:=h
     unfold TL at h
     refine wO J 5 h fun H R h=>Zo (MT N d_ D _ R) [] [(0,.sl 0),(1,.sl 1),(2,.sl 2)] ?_
     refine wB J 2 h (fun h=>wa J 7 (Zj [] (ih768 (x,y,(Zi (z+1))) h))) fun h=>?_
     refine wO J 12 h fun T U h=>Zo (MT N d_ G _ U) [] [(0,.sl 0),(1,.sl 1),(2,.sl 2)] (wa J 1 (Zz (σ:=ByteArray × Bool) (fun st=>(ZfI d_ x y known_ [(1,.S 3),(2,.B 4 0),(7,.S 5),(8,.S 6),(9,.I k),(10,.I q),(11,.I z),(12,.I D),(14,.c (.s st.1)),(15,.O st.2)])) (fun st=>S8 d_ x y z (Wo N d_ known_ q (We N d_ known_ k (XH N d_ known_ n72) n84) n86) D st.1 st.2=some r) ?_ (fun j776=>?_)))
     ·rintro ⟨X,Y⟩ h
      replace h:S8 d_ x y z (Wo N d_ known_ q (We N d_ known_ k (XH N d_ known_ n72) n84) n86) D X Y=some r:=h
      unfold S8 at h
      refine wa J 5 (Zz (σ:=Bool) (fun st=>(ZfI d_ x y known_ [(1,.S 3),(2,.B 4 0),(7,.S 5),(8,.S 6),(9,.I k),(10,.I q),(11,.I z),(12,.I D),(14,.c (.s X)),(15,.O Y),(106,.O st)])) (fun st=>Tm d_ x y z (Wo N d_ known_ q (We N d_ known_ k (XH N d_ known_ n72) n84) n86) D X Y st=some r) ?_ (fun j777=>?_))
      ·intro Z h
       replace h:Tm d_ x y z (Wo N d_ known_ q (We N d_ known_ k (XH N d_ known_ n72) n84) n86) D X Y Z=some r:=h
       unfold Tm at h
       refine eB h (fun h=>?_) fun h=>?_
       ·cases h
        exact wr J 7 func116 [(4,.nil),(5,.nil)]
       refine Zp J 6 h (fun h=>wa J 8 (Zj [] (ih768 (x,y,(Zi (z+1))) h))) fun h=>?_
       refine wO J 13 h fun a0 b0 h=>ZT J rS b0 (XW J [] oS X b0 ?_)
       obtain ⟨c0,d0,h⟩:=ob h
       exact ZT J rB d0 (XW J [] oB true d0 (Zy (wa J 6 (Zj [] (ih768 ((ZW x (Zi (D-d_.First)) X),(ZW y (Zi (D-d_.First)) true),(Zi (z+1))) h)))))
      refine WA h (fun h=>wa J 20 (Zj [] (j777 false h))) fun h=>?_
      refine wO J 5 h fun e0 f0 h=>ZT J rB f0 (Z9 J oB f0 ?_)
      refine Zp J 2 h (fun h=>wa J 11 (Zj [] (j777 false h))) fun h=>?_
      exact wO J 5 h fun g0 i0 h=>ZT J rS i0 (Z9 J oS i0 (wa J 4 (Zj [] (j777 (!(g0.toList==X.toList)) h))))
     refine WA h (fun h=>?_) fun h=>?_
     ·exact wO J 4 h fun j0 k0 h=>Zt J Yd k0 (wa J 5 (Zj [] (j776 (j0.S,true) h)))
     refine wO J 7 h fun l0 m0 h=>ZT J rS m0 (Z9 J oS m0 ?_)
     exact wO J 5 h fun o0 p0 h=>ZT J rB p0 (Z9 J oB p0 (wa J 2 (Zy (Zj [] (j776 (l0,o0) h)))))
    obtain ⟨K,h⟩|⟨K,h⟩:=oc h
    ·refine UD 0 (by exact eq_of_beq K) ?_
     refine wO J 7 h fun q0 s0 h=>Zt J (oP (oI .i64) (oI .i64)) s0 ?_
     obtain ⟨K,h⟩|⟨K,h⟩:=oc h
     ·exact UD 0 (by exact eq_of_beq K) (wa J 3 (Zy (Zj [] (j775 (A.1,q0.1) h))))
     obtain ⟨K,h⟩|⟨K,h⟩:=oc h
     ·exact UD 1 (by exact eq_of_beq K) (wa J 3 (Zy (Zj [] (j775 (A.1,q0.2) h))))
     cases h
    obtain ⟨K,h⟩|⟨K,h⟩:=Bm h
    ·cases h
    refine UD 1 (by exact eq_of_beq K) ?_
    refine wO J 7 h fun t0 u0 h=>Zt J (oP (oI .i64) (oI .i64)) u0 ?_
    obtain ⟨K,h⟩|⟨K,h⟩:=oc h
    ·exact UD 0 (by exact eq_of_beq K) (wa J 3 (Zy (Zj [] (j775 (A.2,t0.1) h))))
    obtain ⟨K,h⟩|⟨K,h⟩:=oc h
    ·exact UD 1 (by exact eq_of_beq K) (wa J 3 (Zy (Zj [] (j775 (A.2,t0.2) h))))
    cases h
   exact Zj [] (ih N (o,p,0) h)
  exact Zj [] (ih N (i,j,0) h)
 exact Zj [] (ih N (x1,x2,0) h)
theorem ZjT (N:Nat) (i_:Int) (j_:Int) (r:Int) (h:HJ N i_ j_=some r) :
 Fn Tryz.prog 159 ⟨0,[.I i_,.I j_],[],[],0,.I r,[],[]⟩:=by
 refine Zv func159 rfl (fun E F w=>?_)
 unfold HJ at h
 refine wB J 13 h (fun h=>?_) fun h=>?_
 ·cases h
  exact wr J 5 func159 []
 refine wB J 6 h (fun h=>?_) fun h=>?_
 ·cases h
  exact wr J 10 func159 []
 refine wB J 5 h (fun h=>?_) fun h=>?_
 ·cases h
  exact wr J 5 func159 []
 cases h
 exact wr J 7 func159 []
theorem ZtU (N:Nat) (n_:Int) (r:ZU × Int) (h:DG N n_=some r) :
 Fn Tryz.prog 117 ⟨0,[.I n_],[],[],1,.t [.inr (Ts 0 r.1),.inl (.I r.2)],[(0,.sl (rI .i64) r.1.B)],[]⟩:=by
 refine Zv func117 rfl (fun E F w=>?_)
 unfold DG at h
 refine wB J 11 h (fun h=>?_) fun h=>?_
 ·cases h
  exact wr J 11 func117 [(0,.nil)]
 refine wB J 4 h (fun h=>?_) fun h=>wa J 14 (Zz (σ:=(List Int)) (fun st=>(ZiE n_ st [(2,.B 0 0),(4,.B 1 0)])) (fun st=>HW n_ st=some r) ?_ (fun j1=>?_))
 ·cases h
  exact wr J 7 func117 [(0,.nil)]
 ·intro c h
  replace h:HW n_ c=some r:=h
  unfold HW at h
  refine wa J 6 (Xh [2] ?_)
  cases h
  exact Yc J func117 [(0,.sl 2)]
 refine wa J 1 (ZH (σ:=(List Int) × Int) (fun st=>(ZiE n_ st.1 [(0,.I n_),(2,.B 0 0),(4,.B 1 0),(5,.I st.2)])) (fun n st=>Vu N n_ n st.1 st.2) (r:=r) (fun _=>rfl) ?_ (fun ih=>?_))
 ·intro n12 ih12
  rintro ⟨d,e⟩ h
  replace h:Vu N n_ (n12+1) d e=some r:=h
  unfold Vu at h
  refine Zp J 7 h (fun h=>wa J 2 (Zj [] (j1 d h))) fun h=>wa J 8 (Zz (σ:=(List Int)) (fun st=>(Zgz n_ st [(0,.I n_),(2,.B 0 0),(4,.B 1 0),(5,.I e)])) (fun st=>L6 e (Vu N n_ n12) st=some r) ?_ (fun j19=>?_))
  ·intro f h
   replace h:L6 e (Vu N n_ n12) f=some r:=h
   unfold L6 at h
   exact wa J 6 (Zj [(2,.sl 3)] (ih12 (f,(Zi (e+1))) h))
  refine wa J 1 (ZH (σ:=(List Int) × Int) (fun st=>(Zgz n_ st.1 [(0,.I n_),(2,.B 0 0),(4,.B 1 0),(5,.I e),(6,.I st.2)])) (fun n st=>Q4 N n_ e (Vu N n_ n12) n st.1 st.2) (r:=r) (fun _=>rfl) ?_ (fun ih=>?_))
  ·intro n14 ih21
   rintro ⟨g,i⟩ h
   replace h:Q4 N n_ e (Vu N n_ n12) (n14+1) g i=some r:=h
   unfold Q4 at h
   refine Zp J 7 h (fun h=>wa J 2 (Zj [] (j19 g h))) fun h=>?_
   refine wO J 9 h fun j k h=>Zo (ZjT N e i _ k) [] [] (Z5 J [] (oI .i64) ([j]:List Int) ?_)
   obtain ⟨l,m,h⟩:=ob h
   exact Yk J (rI .i64) m (wa J 2 (Zy (wa J 6 (Zj [(3,.sl 5)] (ih21 (l,(Zi (i+1))) h)))))
  exact Zj [(3,.sl 2)] (ih N (d,0) h)
 exact Zj [(2,.nil)] (ih N (([]:List Int),0) h)
theorem Zh2 (N:Nat) (z_:ZU) (r:Bool) (h:Lp N z_=some r) :
 Fn Tryz.prog 160 ⟨1,[.a (Ts 0 z_)],[(0,.sl (rI .i64) z_.B)],[],1,.O r,[],[]⟩:=by
 refine Zv func160 rfl (fun E F w=>?_)
 unfold Lp at h
 refine wB J 12 h (fun h=>?_) fun h=>?_
 ·cases h
  exact wr J 23 func160 []
 refine wB J 5 h (fun h=>?_) fun h=>?_
 ·cases h
  exact wr J 18 func160 []
 refine wB J 13 h (fun h=>?_) fun h=>wa J 7 (Zz (σ:=Unit) (fun st=>⟨[],[],[(0,.sl (rI .i64) z_.B)],2⟩) (fun st=>Zba=some r) ?_ (fun j1=>?_))
 ·cases h
  exact wr J 5 func160 []
 ·intro _ h
  replace h:Zba=some r:=h
  unfold Zba at h
  cases h
  exact wr J 4 func160 []
 refine wa J 1 (ZH (σ:=Int) (fun st=>⟨[(1,.B 1 0),(3,.I st)],[(1,.box (Ts 0 z_) 195)],[(0,.sl (rI .i64) z_.B)],2⟩) (fun n st=>Sy z_ n st) (r:=r) (fun _=>rfl) ?_ (fun ih=>?_))
 ·intro n2 ih3
  intro c h
  replace h:Sy z_ (n2+1) c=some r:=h
  unfold Sy at h
  refine Zp J 9 h (fun h=>wa J 2 (Zj [] (j1 () h))) fun h=>?_
  refine wO J 9 h fun d e h=>Zt J (oI .i64) e ?_
  refine wB J 3 h (fun h=>?_) fun h=>?_
  ·cases h
   exact wr J 13 func160 []
  refine wO J 3 h fun f g h=>Zt J (oI .i64) g ?_
  refine wB J 4 h (fun h=>?_) fun h=>wa J 8 (Zj [] (ih3 (Zi (c+1)) h))
  cases h
  exact wr J 5 func160 []
 exact Zj [] (ih N 0 h)
theorem Zh0 (N:Nat) (z_:ZU) (x_:Int) (r:Bool) (h:Gt N z_ x_=some r) :
 Fn Tryz.prog 161 ⟨1,[.a (Ts 0 z_),.I x_],[(0,.sl (rI .i64) z_.B)],[],1,.O r,[],[]⟩:=by
 refine Zv func161 rfl (fun E F w=>?_)
 unfold Gt at h
 refine wB J 10 h (fun h=>?_) fun h=>?_
 ·cases h
  exact wr J 7 func161 []
 cases h
 exact wr J 7 func161 []
theorem Qg (N:Nat) (z_:ZU) (d_:T1) (r:ZU × Int) (h:W7 N z_ d_=some r) :
 Fn Tryz.prog 118 ⟨1,[.a (Ts 0 z_),.a (cC1 d_)],[(0,.sl (rI .i64) z_.B)],[],2,.t [.inr (Ts 1 r.1),.inl (.I r.2)],[(1,.sl (rI .i64) r.1.B)],[]⟩:=by
 refine Zv func118 rfl (fun E F w=>?_)
 unfold W7 at h
 refine wO J 12 h fun x1 c h=>Zo (Zh2 N z_ _ c) [] [(0,.sl 0)] ?_
 refine wB J 3 h (fun h=>?_) fun h=>?_
 ·cases h
  exact wr J 7 func118 [(1,.nil)]
 refine wO J 6 h fun x2 d h=>Zo (Zh0 N z_ d_.X _ d) [] [(0,.sl 0)] ?_
 refine wB J 2 h (fun h=>?_) fun h=>?_
 ·cases h
  exact wr J 15 func118 [(1,.nil)]
 refine wO J 3 h fun x3 e h=>Zo (Zh0 N z_ d_.Y _ e) [] [(0,.sl 0)] ?_
 refine wB J 4 h (fun h=>?_) fun h=>wa J 7 (Z5 J [] (oI .i64) ([]:List Int) ?_)
 ·cases h
  exact wr J 7 func118 [(1,.nil)]
 refine wO J 2 h fun x4 f h=>Yk J (rI .i64) f (wa J 3 (Zy ?_))
 refine wO J 23 h fun x5 g h=>ZT J (rI .i64) g (Z9 J (oI .i64) g ?_)
 refine wO J 4 h fun x6 i h=>ZT J (rI .i64) i (XW J [] (oI .i64) (Z1 x5 (ZX d_.C (-20001))) i (Zy (wa J 6 (Xh [5] ?_))))
 cases h
 exact Yc J func118 [(1,.sl 5)]
theorem Zj8 (N:Nat) (z_:ZU) (r:ZU × Bool) (h:Rx N z_=some r) :
 Fn Tryz.prog 162 ⟨1,[.a (Ts 0 z_)],[(0,.sl (rI .i64) z_.B)],[],2,.t [.inr (Ts 1 r.1),.inl (.b r.2)],[(1,.sl (rI .i64) r.1.B)],[]⟩:=by
 refine Zv func162 rfl (fun E F w=>?_)
 unfold Rx at h
 refine wO J 10 h fun x1 c h=>Zo (Zh2 N z_ _ c) [] [(0,.sl 0)] ?_
 refine wB J 2 h (fun h=>?_) fun h=>wa J 13 (Z5 J [] (oI .i64) ([]:List Int) ?_)
 ·cases h
  exact wr J 7 func162 [(1,.nil)]
 refine wO J 2 h fun x2 d h=>Yk J (rI .i64) d (wa J 3 (Zy (wa J 5 (Zz (σ:=(List Int)) (fun st=>(UT st z_ z_.B [(2,.B 2 0),(4,.I (Zi (z_.N+1))),(5,.B 5 0)])) (fun st=>GM N z_ st=some r) ?_ (fun j1=>?_)))))
 ·intro e h
  replace h:GM N z_ e=some r:=h
  unfold GM at h
  refine wa J 5 (Zz (σ:=(List Int)) (fun st=>(UT st z_ z_.B [(2,.B 2 0),(4,.I (Zi (z_.N+1))),(5,.B 5 0)])) (fun st=>PQ N z_ st=some r) ?_ (fun j12=>?_))
  ·intro f h
   replace h:PQ N z_ f=some r:=h
   unfold PQ at h
   refine wa J 5 (Zz (σ:=Unit) (fun st=>(UT f z_ z_.B [(2,.B 2 0),(5,.B 5 0)])) (fun st=>ZaS z_ f=some r) ?_ (fun j77=>?_))
   ·intro _ h
    replace h:ZaS z_ f=some r:=h
    unfold ZaS at h
    refine wa J 6 (Xh [4] ?_)
    cases h
    exact Yc J func162 [(1,.sl 4)]
   refine wa J 1 (ZH (σ:=Int) (fun st=>(UT f z_ z_.B [(2,.B 2 0),(4,.I (Zi (z_.N+1))),(5,.B 5 0),(11,.I st)])) (fun n st=>SN z_ f n st) (r:=r) (fun _=>rfl) ?_ (fun ih=>?_))
   ·intro n52 ih79
    intro g h
    replace h:SN z_ f (n52+1) g=some r:=h
    unfold SN at h
    refine Zp J 7 h (fun h=>wa J 2 (Zj [] (j77 () h))) fun h=>?_
    refine wO J 13 h fun i j h=>ZT J (rI .i64) j (Z9 J (oI .i64) j ?_)
    refine wB J 2 h (fun h=>?_) fun h=>wa J 8 (Zj [] (ih79 (Zi (g+1)) h))
    cases h
    exact wr J 7 func162 [(1,.nil)]
   exact Zj [] (ih N 0 h)
  refine wa J 1 (ZH (σ:=(List Int) × Int) (fun st=>(UT st.1 z_ z_.B [(2,.B 2 0),(4,.I (Zi (z_.N+1))),(5,.B 5 0),(8,.I st.2)])) (fun n st=>WW N z_ n st.1 st.2) (r:=r) (fun _=>rfl) ?_ (fun ih=>?_))
  ·intro n81 ih80
   rintro ⟨k,l⟩ h
   replace h:WW N z_ (n81+1) k l=some r:=h
   unfold WW at h
   refine Zp J 7 h (fun h=>wa J 2 (Zj [] (j12 k h))) fun h=>wa J 8 (Zz (σ:=(List Int)) (fun st=>(UT st z_ z_.B [(2,.B 2 0),(4,.I (Zi (z_.N+1))),(5,.B 5 0),(8,.I l)])) (fun st=>HI l (WW N z_ n81) st=some r) ?_ (fun j123=>?_))
   ·intro m h
    replace h:HI l (WW N z_ n81) m=some r:=h
    unfold HI at h
    exact wa J 6 (Zj [] (ih80 (m,(Zi (l+1))) h))
   refine wa J 1 (ZH (σ:=(List Int) × Int) (fun st=>(UT st.1 z_ z_.B [(2,.B 2 0),(4,.I (Zi (z_.N+1))),(5,.B 5 0),(8,.I l),(9,.I st.2)])) (fun n st=>Vm N z_ l (WW N z_ n81) n st.1 st.2) (r:=r) (fun _=>rfl) ?_ (fun ih=>?_))
   ·intro n93 ih134
    rintro ⟨o,p⟩ h
    replace h:Vm N z_ l (WW N z_ n81) (n93+1) o p=some r:=h
    unfold Vm at h
    refine Zp J 7 h (fun h=>wa J 2 (Zj [] (j123 o h))) fun h=>wa J 8 (Zz (σ:=(List Int)) (fun st=>(UT st z_ z_.B [(2,.B 2 0),(4,.I (Zi (z_.N+1))),(5,.B 5 0),(8,.I l),(9,.I p)])) (fun st=>DM p (Vm N z_ l (WW N z_ n81) n93) st=some r) ?_ (fun j141=>?_))
    ·intro q h
     replace h:DM p (Vm N z_ l (WW N z_ n81) n93) q=some r:=h
     unfold DM at h
     exact wa J 6 (Zj [] (ih134 (q,(Zi (p+1))) h))
    refine wa J 1 (ZH (σ:=(List Int) × Int) (fun st=>(UT st.1 z_ z_.B [(2,.B 2 0),(4,.I (Zi (z_.N+1))),(5,.B 5 0),(8,.I l),(9,.I p),(10,.I st.2)])) (fun n st=>RT z_ l p (Vm N z_ l (WW N z_ n81) n93) n st.1 st.2) (r:=r) (fun _=>rfl) ?_ (fun ih=>?_))
    ·intro n95 ih143
     rintro ⟨s,u⟩ h
     replace h:RT z_ l p (Vm N z_ l (WW N z_ n81) n93) (n95+1) s u=some r:=h
     unfold RT at h
     refine Zp J 7 h (fun h=>wa J 2 (Zj [] (j141 s h))) fun h=>?_
     refine wO J 19 h fun v x h=>ZT J (rI .i64) x (Z9 J (oI .i64) x ?_)
     refine wO J 7 h fun y z h=>ZT J (rI .i64) z (Z9 J (oI .i64) z ?_)
     refine wO J 7 h fun A C h=>ZT J (rI .i64) C (Z9 J (oI .i64) C ?_)
     exact wO J 3 h fun D G h=>ZT J (rI .i64) G (XW J [] (oI .i64) (Z1 v (ZX (-20001) (Zi (y+A)))) G (Zy (wa J 6 (Zj [] (ih143 ((ZW s (Zi ((Zi (p * (Zi (z_.N+1))))+u)) (Z1 v (ZX (-20001) (Zi (y+A))))),(Zi (u+1))) h)))))
    exact Zj [] (ih N (o,0) h)
   exact Zj [] (ih N (k,0) h)
  exact Zj [] (ih N (e,0) h)
 refine wa J 1 (ZH (σ:=(List Int) × Int) (fun st=>(UT st.1 z_ z_.B [(2,.B 2 0),(4,.I (Zi (z_.N+1))),(5,.B 5 0),(6,.I st.2)])) (fun n st=>VO N z_ n st.1 st.2) (r:=r) (fun _=>rfl) ?_ (fun ih=>?_))
 ·intro n100 ih144
  rintro ⟨H,R⟩ h
  replace h:VO N z_ (n100+1) H R=some r:=h
  unfold VO at h
  refine Zp J 7 h (fun h=>wa J 2 (Zj [] (j1 H h))) fun h=>wa J 8 (Zz (σ:=(List Int)) (fun st=>(UT st z_ z_.B [(2,.B 2 0),(4,.I (Zi (z_.N+1))),(5,.B 5 0),(6,.I R)])) (fun st=>Lx R (VO N z_ n100) st=some r) ?_ (fun j151=>?_))
  ·intro T h
   replace h:Lx R (VO N z_ n100) T=some r:=h
   unfold Lx at h
   exact wa J 6 (Zj [] (ih144 (T,(Zi (R+1))) h))
  refine wa J 1 (ZH (σ:=(List Int) × Int) (fun st=>(UT st.1 z_ z_.B [(2,.B 2 0),(4,.I (Zi (z_.N+1))),(5,.B 5 0),(6,.I R),(7,.I st.2)])) (fun n st=>QT N z_ R (VO N z_ n100) n st.1 st.2) (r:=r) (fun _=>rfl) ?_ (fun ih=>?_))
  ·intro n102 ih153
   rintro ⟨U,X⟩ h
   replace h:QT N z_ R (VO N z_ n100) (n102+1) U X=some r:=h
   unfold QT at h
   refine Zp J 7 h (fun h=>wa J 2 (Zj [] (j151 U h))) fun h=>?_
   refine wO J 19 h fun Y Z h=>ZT J (rI .i64) Z (Z9 J (oI .i64) Z ?_)
   refine wO J 2 h fun a0 b0 h=>Zo (ZjT N R X _ b0) [] [] ?_
   exact wO J 1 h fun c0 d0 h=>ZT J (rI .i64) d0 (XW J [] (oI .i64) (Z1 Y a0) d0 (Zy (wa J 6 (Zj [] (ih153 ((ZW U (Zi ((Zi (R * (Zi (z_.N+1))))+X)) (Z1 Y a0)),(Zi (X+1))) h)))))
  exact Zj [] (ih N (H,0) h)
 exact Zj [] (ih N (x2,0) h)
theorem ZlQ (N:Nat) (z_:ZU) (r:(List Int) × Bool) (h:Lg N z_=some r) :
 Fn Tryz.prog 121 ⟨1,[.a (Ts 0 z_)],[(0,.sl (rI .i64) z_.B)],[],2,.t [.inl (.sl 1),.inl (.b r.2)],[],[(1,.own (rI .i64) r.1 true)]⟩:=by
 refine Zv func121 rfl (fun E F w=>?_)
 unfold Lg at h
 refine wO J 9 h fun x1 c h=>Zo (Zj8 N z_ _ c) [] [(0,.sl 0)] ?_
 refine wB J 13 h (fun h=>?_) fun h=>wa J 11 (Zz (σ:=(List Int)) (fun st=>⟨[(6,.S 4)],[(4,.own (rI .i64) st true)],[(0,.sl (rI .i64) z_.B)],5⟩) (fun st=>Zdg st=some r) ?_ (fun j1=>?_))
 ·cases h
  exact wr J 6 func121 [(1,.nil)]
 ·intro d h
  replace h:Zdg d=some r:=h
  unfold Zdg at h
  cases h
  exact wr J 6 func121 [(1,.sl 4)]
 refine wa J 1 (ZH (σ:=Int × (List Int) × (List Int) × Int) (fun st=>⟨[(1,.B 1 0),(4,.B 3 0),(6,.S 5),(7,.I st.2.2.2)],[(1,.box (Ts 0 z_) 195),(3,.box [.I st.1,.sl 4] 195),(5,.own (rI .i64) st.2.2.1 true)],[(0,.sl (rI .i64) z_.B),(4,.sl (rI .i64) st.2.1)],6⟩) (fun n st=>QM N z_ n st.1 st.2.1 st.2.2.1 st.2.2.2) (r:=r) (fun _=>rfl) ?_ (fun ih=>?_))
 ·intro n2 ih3
  rintro ⟨e,f,g,i⟩ h
  replace h:QM N z_ (n2+1) e f g i=some r:=h
  unfold QM at h
  refine Zp J 8 h (fun h=>wa J 2 (Zj [(4,.sl 5)] (j1 g h))) fun h=>?_
  refine wO J 10 h fun j k h=>Zt J (oI .i64) k (wa J 8 (Z5 J [] (oI .i64) ([(Zi (0-j))]:List Int) ?_))
  obtain ⟨l,m,h⟩:=ob h
  refine Yk J (rI .i64) m ?_
  refine wO J 8 h fun o p h=>Zo (Qg N (⟨e,f⟩:ZU) (⟨i,(-1),(Zi (0-j))⟩:T1) _ p) [] [(0,.sl 4)] ?_
  exact wO J 7 h fun q s h=>Zo (Zj8 N o.1 _ s) [] [(0,.sl 9)] (wa J 11 (Zj [(4,.sl 10),(5,.sl 8)] (ih3 (q.1.N,q.1.B,l,(Zi (i+1))) h)))
 exact Zj [(4,.sl 2),(5,.nil)] (ih N (x1.1.N,x1.1.B,([]:List Int),0) h)
theorem Znc (N:Nat) (n_:Int) (r:ByteArray) (h:Zbx N n_=some r) :
 Fn Tryz.prog 122 ⟨0,[.I n_],[],[],0,.c (.s r),[],[]⟩:=by
 refine Zv func122 rfl (fun E F w=>?_)
 unfold Zbx at h
 refine wa J 13 (Zz (σ:=ByteArray) (fun st=>(Wp [(3,.c (.s st))])) (fun st=>Zby st=some r) ?_ (fun j1=>?_))
 ·intro d h
  replace h:Zby d=some r:=h
  unfold Zby at h
  cases h
  exact wr J 5 func122 []
 refine wa J 1 (ZH (σ:=ByteArray × Int) (fun st=>(Wp [(0,.I n_),(3,.c (.s st.1)),(4,.I st.2)])) (fun n st=>Q7 n_ n st.1 st.2) (r:=r) (fun _=>rfl) ?_ (fun ih=>?_))
 ·intro n2 ih3
  rintro ⟨e,f⟩ h
  replace h:Q7 n_ (n2+1) e f=some r:=h
  unfold Q7 at h
  refine Zp J 7 h (fun h=>wa J 2 (Zj [] (j1 e h))) fun h=>?_
  exact wO J 6 h fun x9 g h=>eCa g (wa J 8 (Zj [] (ih3 (x9,(Zi (f+1))) h)))
 exact Zj [] (ih N ((str []),0) h)
theorem ZfC (N:Nat) (decls_:(List T0)) (label_:Int) (known_:(List Zk)) (r:(List Zk) × Bool) (h:VM N decls_ label_ known_=some r) :
 Fn Tryz.prog 72 ⟨2,[.S 0,.I label_,.S 1],[(0,.sl ZQ decls_),(1,.sl Zw known_)],[],3,.t [.inl (.sl 2),.inl (.b r.2)],[],[(2,.own Zw r.1 true)]⟩:=by
 refine Zv func72 rfl (fun E F w=>?_)
 unfold VM at h
 refine wO J 10 h fun x1 c h=>Zo (Zc8 N decls_ label_ _ c) [] [(0,.sl 0)] ?_
 refine wB J 2 h (fun h=>?_) fun h=>?_
 ·cases h
  exact wr J 12 func72 [(2,.nil)]
 refine wO J 2 h fun x2 d h=>Zo (ZeR N decls_ known_ _ d) [] [(0,.sl 0),(1,.sl 1)] ?_
 refine wB J 3 h (fun h=>?_) fun h=>?_
 ·cases h
  exact wr J 6 func72 [(2,.nil)]
 refine wO J 6 h fun x3 e h=>Zt J Xf e ?_
 refine wO J 8 h fun x4 f h=>Zo (ZpZ N decls_ label_ _ f) [] [(0,.sl 0)] (wa J 11 (Zz (σ:=Unit) (fun st=>(Zko x3 x4.1 decls_ known_ [(2,.S 1),(8,.B 6 0),(9,.S 7)])) (fun st=>Pi N known_ x3 x4=some r) ?_ (fun j1=>?_)))
 ·intro _ h
  replace h:Pi N known_ x3 x4=some r:=h
  unfold Pi at h
  refine wO J 4 h fun g i h=>Zo (Zp1 N x3 known_ _ i) [] [(0,.sl 3),(1,.sl 4),(2,.sl 5),(3,.sl 1)] ?_
  refine wB J 14 h (fun h=>?_) fun h=>?_
  ·cases h
   exact wr J 6 func72 [(2,.nil)]
  refine wO J 6 h fun j k h=>Zo (ZtU N (known_.length:Int) _ k) [] [] (wa J 12 (Zz (σ:=Int × (List Int)) (fun st=>⟨[(2,.S 1),(8,.B 6 0),(12,.S 8),(13,.S 9),(15,.B 11 0)],[(6,.box (YM 3 4 5 x3) 106),(8,.own rS g.1 true),(9,.own rB g.2.1 true),(11,.box [.I st.1,.sl 12] 195)],((0,.sl ZQ decls_)::(1,.sl Zw known_)::YJ 3 4 5 x3 [(12,.sl (rI .i64) st.2)]),13⟩) (fun st=>Pl N known_ x3 g st.1 st.2=some r) ?_ (fun j3=>?_)))
  ·rintro ⟨l,m⟩ h
   replace h:Pl N known_ x3 g l m=some r:=h
   unfold Pl at h
   refine wa J 5 (Zz (σ:=Int × (List Int)) (fun st=>(Zg9 x3 g.1 g.2.1 st.1 decls_ known_ st.2 [(2,.S 1),(8,.B 6 0),(12,.S 8),(13,.S 9),(15,.B 11 0)])) (fun st=>SP N known_ x3 g st.1 st.2=some r) ?_ (fun j5=>?_))
   ·rintro ⟨o,p⟩ h
    replace h:SP N known_ x3 g o p=some r:=h
    unfold SP at h
    refine wO J 3 h fun q s h=>Zo (ZlQ N (⟨o,p⟩:ZU) _ s) [] [(0,.sl 13)] ?_
    refine wB J 12 h (fun h=>?_) fun h=>wa J 11 (Zz (σ:=(List Zk)) (fun st=>⟨[(2,.S 1),(8,.B 6 0),(23,.S 15)],[(6,.box (YM 3 4 5 x3) 106),(15,.own Zw st true)],((0,.sl ZQ decls_)::(1,.sl Zw known_)::YJ 3 4 5 x3 []),16⟩) (fun st=>PO N known_ x3 st=some r) ?_ (fun j13=>?_))
    ·cases h
     exact wr J 6 func72 [(2,.nil)]
    ·intro u h
     replace h:PO N known_ x3 u=some r:=h
     unfold PO at h
     refine wO J 8 h fun v x h=>W2 (ZeO N x3 u known_ _ x) [] [(0,.sl 3),(1,.sl 4),(2,.sl 5),(3,.sl 15),(4,.sl 1)] [15] (.inr ⟨rfl,⟨(Zsp (Zgy (Zc5 _) (Zgy (Zc5 _) ZmZ))),trivial⟩⟩) ?_
     obtain ⟨y,z,h⟩:=ob h
     refine W2 (Zh9 N x3.Guard v _ z) [] [(0,.sl 4),(1,.sl 5),(2,.sl 16)] [16] (.inr ⟨rfl,trivial⟩) (wa J 1 (Zy ?_))
     refine eB h (fun h=>?_) fun h=>?_
     ·cases h
      exact wr J 6 func72 [(2,.nil)]
     cases h
     exact wr J 8 func72 [(2,.sl 15)]
    refine wa J 1 (ZH (σ:=(List Zk) × Int) (fun st=>⟨[(2,.S 1),(8,.B 6 0),(12,.S 8),(13,.S 9),(21,.S 14),(23,.S 15),(24,.I st.2)],[(6,.box (YM 3 4 5 x3) 106),(8,.own rS g.1 true),(9,.own rB g.2.1 true),(14,.own (rI .i64) q.1 true),(15,.own Zw st.1 true)],((0,.sl ZQ decls_)::(1,.sl Zw known_)::YJ 3 4 5 x3 []),16⟩) (fun n st=>U1 N known_ x3 g q n st.1 st.2) (r:=r) (fun _=>rfl) ?_ (fun ih=>?_))
    ·intro n5 ih15
     rintro ⟨A,C⟩ h
     replace h:U1 N known_ x3 g q (n5+1) A C=some r:=h
     unfold U1 at h
     refine Zp J 9 h (fun h=>wa J 2 (Zj [] (j13 A h))) fun h=>?_
     refine wO J 9 h fun D G h=>Zt J WD G ?_
     refine wB J 16 h (fun h=>?_) fun h=>?_
     ·refine wO J 7 h fun H R h=>ZT J (rI .i64) R (Z9 J (oI .i64) R (wa J 7 (Z5 J [] Yd ([(⟨D.Sort'.Kind,H,(str [])⟩:Zk)]:List Zk) ?_)))
      obtain ⟨T,U,h⟩:=ob h
      exact Yk J Zw U (wa J 8 (Zj [(15,.sl 20)] (ih15 (T,(Zi (C+1))) h)))
     refine wO J 5 h fun Z a0 h=>ZT J rB a0 (Z9 J oB a0 ?_)
     refine wB J 2 h (fun h=>?_) fun h=>?_
     ·refine wO J 4 h fun b0 c0 h=>ZT J rS c0 (Z9 J oS c0 (wa J 7 (Z5 J [] Yd ([(⟨D.Sort'.Kind,0,b0⟩:Zk)]:List Zk) ?_)))
      obtain ⟨d0,e0,h⟩:=ob h
      exact Yk J Zw e0 (wa J 8 (Zj [(15,.sl 21)] (ih15 (d0,(Zi (C+1))) h)))
     refine wO J 7 h fun f0 g0 h=>ZT J (rI .i64) g0 (Z9 J (oI .i64) g0 ?_)
     obtain ⟨i0,j0,h⟩:=ob h
     refine Zo (Znc N f0 _ j0) [] [] (wa J 7 (Z5 J [] Yd ([(⟨D.Sort'.Kind,0,i0⟩:Zk)]:List Zk) ?_))
     obtain ⟨k0,l0,h⟩:=ob h
     exact Yk J Zw l0 (wa J 8 (Zj [(15,.sl 21)] (ih15 (k0,(Zi (C+1))) h)))
    exact Zj [(15,.nil)] (ih N (([]:List Zk),0) h)
   refine wa J 1 (ZH (σ:=Int × (List Int) × Int) (fun st=>(Zg9 x3 g.1 g.2.1 st.1 decls_ known_ st.2.1 [(2,.S 1),(8,.B 6 0),(12,.S 8),(13,.S 9),(15,.B 11 0),(18,.I st.2.2)])) (fun n st=>Xs N known_ x3 g n st.1 st.2.1 st.2.2) (r:=r) (fun _=>rfl) ?_ (fun ih=>?_))
   ·intro n6 ih16
    rintro ⟨m0,o0,p0⟩ h
    replace h:Xs N known_ x3 g (n6+1) m0 o0 p0=some r:=h
    unfold Xs at h
    refine Zp J 8 h (fun h=>wa J 2 (Zj [] (j5 (m0,o0) h))) fun h=>?_
    refine wO J 8 h fun q0 s0 h=>Zt J Yd s0 ?_
    refine wO J 1 h fun t0 u0 h=>Zo (BG N q0 _ u0) [] [] ?_
    refine wO J 2 h fun v0 x0 h=>Zo (MT N x3 p0 _ x0) [] [(0,.sl 3),(1,.sl 4),(2,.sl 5)] ?_
    refine Zp J 2 h (fun h=>wa J 9 (Zy ?_)) fun h=>?_
    ·refine wO J 5 h fun y0 z0 h=>Zo (MT N x3 p0 _ z0) [] [(0,.sl 3),(1,.sl 4),(2,.sl 5)] ?_
     refine Zp J 1 h (fun h=>wa J 23 (Zj [] (ih16 (m0,o0,(Zi (p0+1))) h))) fun h=>?_
     refine wO J 5 h fun A0 B0 h=>ZT J rB B0 (Z9 J oB B0 (wa J 2 (Zz (σ:=Int × Bool) (fun st=>⟨[(2,.S 1),(8,.B 6 0),(12,.S 8),(13,.S 9),(15,.B 11 0),(18,.I p0),(19,.I st.1),(20,.O st.2)],[(6,.box (YM 3 4 5 x3) 106),(8,.own rS g.1 true),(9,.own rB g.2.1 true),(11,.box [.I m0,.sl 13] 195)],((0,.sl ZQ decls_)::(1,.sl Zw known_)::YJ 3 4 5 x3 [(13,.sl (rI .i64) o0)]),16⟩) (fun st=>Ps N m0 o0 p0 (Xs N known_ x3 g n6) st.1 st.2=some r) ?_ (fun j22=>?_))))
     ·rintro ⟨C0,D0⟩ h
      replace h:Ps N m0 o0 p0 (Xs N known_ x3 g n6) C0 D0=some r:=h
      unfold Ps at h
      refine Zp J 4 h (fun h=>wa J 8 (Zj [] (ih16 (m0,o0,(Zi (p0+1))) h))) fun h=>?_
      refine wO J 7 h fun G0 H0 h=>Zo (Qg N (⟨m0,o0⟩:ZU) (⟨p0,(-1),C0⟩:T1) _ H0) [] [(0,.sl 13)] ?_
      exact wO J 11 h fun I0 L0 h=>Zo (Qg N G0.1 (⟨(-1),p0,(Zi (0-C0))⟩:T1) _ L0) [] [(0,.sl 16)] (wa J 11 (Zj [(13,.sl 17)] (ih16 (I0.1.N,I0.1.B,(Zi (p0+1))) h)))
     refine WA h (fun h=>wa J 2 (Zj [] (j22 (t0,false) h))) fun h=>?_
     exact wO J 7 h fun M0 O0 h=>ZT J rS O0 (Z9 J oS O0 (wa J 4 (Zj [] (j22 ((M0.size:Int),true) h))))
    refine wO J 2 h fun R0 S0 h=>Zt J Yd S0 (wa J 6 (Zy ?_))
    refine wO J 5 h fun T0 U0 h=>Zo (MT N x3 p0 _ U0) [] [(0,.sl 3),(1,.sl 4),(2,.sl 5)] ?_
    refine Zp J 1 h (fun h=>?_) fun h=>?_
    ·refine Zp J 15 h (fun h=>wa J 8 (Zj [] (ih16 (m0,o0,(Zi (p0+1))) h))) fun h=>?_
     refine wO J 7 h fun V0 X0 h=>Zo (Qg N (⟨m0,o0⟩:ZU) (⟨p0,(-1),t0⟩:T1) _ X0) [] [(0,.sl 13)] ?_
     exact wO J 11 h fun Y0 Z0 h=>Zo (Qg N V0.1 (⟨(-1),p0,(Zi (0-t0))⟩:T1) _ Z0) [] [(0,.sl 16)] (wa J 11 (Zj [(13,.sl 17)] (ih16 (Y0.1.N,Y0.1.B,(Zi (p0+1))) h)))
    refine wO J 5 h fun a1 b1 h=>ZT J rB b1 (Z9 J oB b1 (wa J 2 (Zz (σ:=Int × Bool) (fun st=>⟨[(2,.S 1),(8,.B 6 0),(12,.S 8),(13,.S 9),(15,.B 11 0),(18,.I p0),(19,.I st.1),(20,.O st.2)],[(6,.box (YM 3 4 5 x3) 106),(8,.own rS g.1 true),(9,.own rB g.2.1 true),(11,.box [.I m0,.sl 13] 195)],((0,.sl ZQ decls_)::(1,.sl Zw known_)::YJ 3 4 5 x3 [(13,.sl (rI .i64) o0)]),17⟩) (fun st=>D9 N m0 o0 p0 (Xs N known_ x3 g n6) st.1 st.2=some r) ?_ (fun j21=>?_))))
    ·rintro ⟨c1,d1⟩ h
     replace h:D9 N m0 o0 p0 (Xs N known_ x3 g n6) c1 d1=some r:=h
     unfold D9 at h
     refine Zp J 4 h (fun h=>wa J 8 (Zj [] (ih16 (m0,o0,(Zi (p0+1))) h))) fun h=>?_
     refine wO J 7 h fun e1 f1 h=>Zo (Qg N (⟨m0,o0⟩:ZU) (⟨p0,(-1),c1⟩:T1) _ f1) [] [(0,.sl 13)] ?_
     exact wO J 11 h fun g1 i1 h=>Zo (Qg N e1.1 (⟨(-1),p0,(Zi (0-c1))⟩:T1) _ i1) [] [(0,.sl 17)] (wa J 11 (Zj [(13,.sl 18)] (ih16 (g1.1.N,g1.1.B,(Zi (p0+1))) h)))
    refine WA h (fun h=>wa J 2 (Zj [] (j21 (t0,(R0.Kind != 0)) h))) fun h=>?_
    exact wO J 7 h fun k1 l1 h=>ZT J rS l1 (Z9 J oS l1 (wa J 4 (Zj [] (j21 ((k1.size:Int),true) h))))
   exact Zj [(13,.sl 12)] (ih N (l,m,0) h)
  refine wa J 1 (ZH (σ:=Int × (List Int) × Int) (fun st=>⟨[(2,.S 1),(8,.B 6 0),(9,.S 7),(12,.S 8),(13,.S 9),(15,.B 11 0),(17,.I st.2.2)],[(6,.box (YM 3 4 5 x3) 106),(7,.own Yy x4.1 true),(8,.own rS g.1 true),(9,.own rB g.2.1 true),(11,.box [.I st.1,.sl 12] 195)],((0,.sl ZQ decls_)::(1,.sl Zw known_)::YJ 3 4 5 x3 [(12,.sl (rI .i64) st.2.1)]),13⟩) (fun n st=>Sq N known_ x3 x4 g n st.1 st.2.1 st.2.2) (r:=r) (fun _=>rfl) ?_ (fun ih=>?_))
  ·intro n7 ih23
   rintro ⟨m1,o1,p1⟩ h
   replace h:Sq N known_ x3 x4 g (n7+1) m1 o1 p1=some r:=h
   unfold Sq at h
   refine Zp J 8 h (fun h=>wa J 2 (Zj [] (j3 (m1,o1) h))) fun h=>?_
   refine wO J 8 h fun q1 s1 h=>ZT J Yy s1 (Z9 J Tx s1 ?_)
   obtain ⟨t1,u1,h⟩:=ob h
   exact Zo (Qg N (⟨m1,o1⟩:ZU) q1 _ u1) [] [(0,.sl 12)] (wa J 4 (Zy (wa J 6 (Zj [(12,.sl 14)] (ih23 (t1.1.N,t1.1.B,(Zi (p1+1))) h)))))
  exact Zj [(12,.sl 10)] (ih N (j.1.N,j.1.B,0) h)
 refine wa J 1 (ZH (σ:=Int) (fun st=>(Zko x3 x4.1 decls_ known_ [(2,.S 1),(8,.B 6 0),(9,.S 7),(11,.I st)])) (fun n st=>Tj N known_ x3 x4 n st) (r:=r) (fun _=>rfl) ?_ (fun ih=>?_))
 ·intro n8 ih24
  intro v1 h
  replace h:Tj N known_ x3 x4 (n8+1) v1=some r:=h
  unfold Tj at h
  refine Zp J 8 h (fun h=>wa J 2 (Zj [] (j1 () h))) fun h=>?_
  refine wO J 10 h fun y1 z1 h=>ZT J Yy z1 (wa J 1 (Z9 J Tx z1 ?_))
  obtain ⟨A1,B1,h⟩:=ob h
  refine Zo (Zhl N x3 known_ y1.X _ B1) [] [(0,.sl 3),(1,.sl 4),(2,.sl 5),(3,.sl 1)] ?_
  refine wB J 1 h (fun h=>wa J 9 (Zy ?_)) fun h=>?_
  ·cases h
   exact wr J 6 func72 [(2,.nil)]
  refine wO J 4 h fun C1 D1 h=>ZT J Yy D1 (wa J 1 (Z9 J Tx D1 ?_))
  obtain ⟨G1,H1,h⟩:=ob h
  refine Zo (Zhl N x3 known_ C1.Y _ H1) [] [(0,.sl 3),(1,.sl 4),(2,.sl 5),(3,.sl 1)] (wa J 1 (Zy ?_))
  refine eB h (fun h=>?_) fun h=>wa J 8 (Zj [] (ih24 (Zi (v1+1)) h))
  cases h
  exact wr J 6 func72 [(2,.nil)]
 exact Zj [] (ih N 0 h)
theorem Zom (N:Nat) (k_:Z7) (a_:ZS) (x_:XA) (r:Int × Int × (List Zk) × Bool) (h:G9 N k_ a_ x_=some r) :
 Fn Tryz.prog 35 ⟨15,[.a (XQ 0 1 2 3 4 5 6 7 8 9 10 k_),.a (Wz 11 12 13 a_),.a (ZiI 14 x_)],((0,.sl rS k_.G.Roles)::(1,.sl ZQ k_.G.Decls)::(2,.sl YQ k_.G.Edges)::(3,.sl Z8 k_.G.Timeouts)::(4,.sl rB k_.M.Finals)::(5,.sl YL k_.M.Moves)::(6,.sl Z8 k_.M.Timeouts)::(7,.sl Y6 k_.P.Vars)::(8,.sl Xw k_.P.Handlers)::(9,.sl Xx k_.P.Offers)::(10,.sl Xz k_.P.Code)::X1 11 12 13 a_ [(14,.sl Zw x_.Values)]),[],16,.t [.inl (.I r.1),.inl (.I r.2.1),.inl (.sl 15),.inl (.b r.2.2.2)],[(15,.sl Zw r.2.2.1)],[]⟩:=by
 refine Zv func35 rfl (fun E F w=>?_)
 unfold G9 at h
 refine wa J 19 (Zz (σ:=(List Int)) (fun st=>(ZjM k_ a_ x_ st k_.G.Roles k_.G.Decls k_.G.Edges k_.G.Timeouts k_.M.Finals k_.M.Moves k_.M.Timeouts k_.P.Vars k_.P.Handlers k_.P.Offers k_.P.Code x_.Values [(3,.B 15 0),(4,.B 16 0),(5,.B 17 0),(10,.S 18)])) (fun st=>LV N k_ a_ x_ st=some r) ?_ (fun j1=>?_))
 ·intro c h
  replace h:LV N k_ a_ x_ c=some r:=h
  unfold LV at h
  refine wB J 7 h (fun h=>?_) fun h=>?_
  ·cases h
   exact wr J 14 func35 [(15,.nil)]
  refine wO J 2 h fun d e h=>Zo (Zah N k_ a_ _ e) [] [(0,.sl 0),(1,.sl 1),(2,.sl 2),(3,.sl 3),(4,.sl 4),(5,.sl 5),(6,.sl 6),(7,.sl 7),(8,.sl 8),(9,.sl 9),(10,.sl 10),(11,.sl 11),(12,.sl 12),(13,.sl 13)] ?_
  refine wB J 3 h (fun h=>?_) fun h=>?_
  ·cases h
   exact wr J 8 func35 [(15,.nil)]
  refine wO J 13 h fun f g h=>UV g ?_
  obtain ⟨i,j,h⟩:=ob h
  refine ZT J (rI .i64) j (Z9 J (oI .i64) j ?_)
  obtain ⟨k,l,h⟩:=ob h
  refine Zt J YX l (wa J 3 (Zy ?_))
  refine wO J 12 h fun m o h=>Zo (ZcB N k_.G.Decls k.Label x_.Values a_.Known _ o) [] [(0,.sl 1),(1,.sl 14),(2,.sl 11)] ?_
  refine wB J 1 h (fun h=>wa J 13 (Zy ?_)) fun h=>?_
  ·cases h
   exact Yc J func35 [(15,.sl 14)]
  refine wO J 11 h fun p q h=>Zo (ZfC N k_.G.Decls k.Label a_.Known _ q) [] [(0,.sl 1),(1,.sl 11)] (wa J 18 (Zy (Xh [22] ?_)))
  cases h
  exact Yc J func35 [(15,.sl 22)]
 refine wa J 1 (ZH (σ:=(List Int) × Int) (fun st=>(ZjM k_ a_ x_ st.1 k_.G.Roles k_.G.Decls k_.G.Edges k_.G.Timeouts k_.M.Finals k_.M.Moves k_.M.Timeouts k_.P.Vars k_.P.Handlers k_.P.Offers k_.P.Code x_.Values [(3,.B 15 0),(4,.B 16 0),(5,.B 17 0),(10,.S 18),(11,.I st.2)])) (fun n st=>Sf N k_ a_ x_ n st.1 st.2) (r:=r) (fun _=>rfl) ?_ (fun ih=>?_))
 ·intro n2 ih3
  rintro ⟨s,u⟩ h
  replace h:Sf N k_ a_ x_ (n2+1) s u=some r:=h
  unfold Sf at h
  refine Zp J 10 h (fun h=>wa J 2 (Zj [] (j1 s h))) fun h=>?_
  refine wO J 10 h fun v x h=>Zt J YX x ?_
  refine Zp J 6 h (fun h=>wa J 9 (Zy (wa J 8 (Zj [] (ih3 (s,(Zi (u+1))) h))))) fun h=>?_
  refine wO J 4 h fun y z h=>Zt J YX z (wa J 4 (Zy ?_))
  refine WA h (fun h=>wa J 8 (Zj [] (ih3 (s,(Zi (u+1))) h))) fun h=>wa J 4 (Z5 J [] (oI .i64) ([u]:List Int) ?_)
  obtain ⟨A,C,h⟩:=ob h
  exact Yk J (rI .i64) C (wa J 8 (Zj [(18,.sl 22)] (ih3 (A,(Zi (u+1))) h)))
 exact Zj [(18,.nil)] (ih N (([]:List Int),0) h)
theorem ZoG (N:Nat) (m_:T8) (state_:Int) (send_:Bool) (peer_:Int) (label_:Int) (r:Int) (h:z73 N m_ state_ send_ peer_ label_=some r) :
 Fn Tryz.prog 73 ⟨3,[.a (YT 0 1 2 m_),.I state_,.O send_,.I peer_,.I label_],(YZ 0 1 2 m_ []),[],3,.I r,[],[]⟩:=by
 refine Zv func73 rfl (fun E F w=>?_)
 unfold z73 at h
 refine wa J 10 (Zz (σ:=Unit) (fun st=>(H6 m_ [])) (fun st=>Zds=some r) ?_ (fun j1=>?_))
 ·intro _ h
  replace h:Zds=some r:=h
  unfold Zds at h
  cases h
  exact wr J 4 func73 []
 refine wa J 1 (ZH (σ:=Int) (fun st=>(DO m_ [(1,.I state_),(2,.O send_),(3,.I peer_),(4,.I label_),(5,.B 3 0),(11,.I st)])) (fun n st=>TE m_ state_ send_ peer_ label_ n st) (r:=r) (fun _=>rfl) ?_ (fun ih=>?_))
 ·intro n2 ih3
  intro c h
  replace h:TE m_ state_ send_ peer_ label_ (n2+1) c=some r:=h
  unfold TE at h
  refine Zp J 9 h (fun h=>wa J 2 (Zj [] (j1 () h))) fun h=>?_
  refine wO J 9 h fun x9 d h=>Zt J YX d ?_
  refine Zp J 11 h (fun h=>wa J 26 (Zj [] (ih3 (Zi (c+1)) h))) fun h=>?_
  refine Zp J 6 h (fun h=>wa J 20 (Zj [] (ih3 (Zi (c+1)) h))) fun h=>?_
  refine Zp J 6 h (fun h=>wa J 14 (Zj [] (ih3 (Zi (c+1)) h))) fun h=>?_
  refine wB J 6 h (fun h=>?_) fun h=>wa J 8 (Zj [] (ih3 (Zi (c+1)) h))
  cases h
  exact wr J 6 func73 []
 exact Zj [] (ih N 0 h)
theorem ZeC (N:Nat) (p_:Z6) (entry_:Int) (vars_:(List Zk)) (params_:(List Zk)) (steps_:Int) (r:X8 × Int) (h:QA N p_ entry_ vars_ params_ steps_=some r) :
 Fn Tryz.prog 74 ⟨6,[.a (XU 0 1 2 3 p_),.I entry_,.S 4,.S 5,.I steps_],(Y5 0 1 2 3 p_ [(4,.sl Zw vars_),(5,.sl Zw params_)]),[],8,.t [.inr (Zqm 6 7 r.1),.inl (.I r.2)],[(6,.sl Zw r.1.Stack)],[(7,.own Zw r.1.Vars true)]⟩:=by
 refine Zv func74 rfl (fun E F w=>?_)
 unfold QA at h
 refine wO J 11 h fun x1 c h=>Zo (ZpQ N p_ vars_ _ c) [] [(0,.sl 0),(1,.sl 1),(2,.sl 2),(3,.sl 3),(4,.sl 4)] ?_
 refine wB J 2 h (fun h=>?_) fun h=>?_
 ·cases h
  exact wr J 23 func74 [(6,.nil),(7,.nil)]
 refine wB J 4 h (fun h=>?_) fun h=>?_
 ·cases h
  exact wr J 19 func74 [(6,.nil),(7,.nil)]
 refine wB J 7 h (fun h=>?_) fun h=>?_
 ·cases h
  exact wr J 12 func74 [(6,.nil),(7,.nil)]
 refine wB J 5 h (fun h=>?_) fun h=>wa J 7 (Zz (σ:=Unit) (fun st=>(ZfZ p_ vars_ params_ [(1,.I entry_),(2,.S 4),(3,.S 5),(4,.I steps_),(5,.B 6 0),(10,.B 7 0)])) (fun st=>Gj N p_ entry_ vars_ params_ steps_=some r) ?_ (fun j1=>?_))
 ·cases h
  exact wr J 7 func74 [(6,.nil),(7,.nil)]
 ·intro _ h
  replace h:Gj N p_ entry_ vars_ params_ steps_=some r:=h
  unfold Gj at h
  refine wa J 2 (Z5 J [] Yd ([]:List Zk) ?_)
  refine wO J 1 h fun d e h=>Yk J Zw e (wa J 15 (ZH (σ:=(List Zk) × (List Zk) × (List Zk) × (List Int) × Bool × Int × Int) (fun st=>⟨[(4,.I steps_),(5,.B 6 0),(10,.B 7 0),(13,.B 10 0),(14,.I st.2.2.2.2.2.1),(15,.I st.2.2.2.2.2.2)],[(6,.box (XU 0 1 2 3 p_) 50),(7,.box [.nil,.nil,.I 0] 149),(10,.box [.sl 11,.sl 12,.sl 13,.sl 14,.b st.2.2.2.2.1] 206),(11,.own Zw st.1 true),(12,.own Zw st.2.1 true),(14,.own (rI .i64) st.2.2.2.1 true)],(Y5 0 1 2 3 p_ [(4,.sl Zw vars_),(5,.sl Zw params_),(13,.sl Zw st.2.2.1)]),15⟩) (fun n st=>Q2 N p_ steps_ n st.1 st.2.1 st.2.2.1 st.2.2.2.1 st.2.2.2.2.1 st.2.2.2.2.2.1 st.2.2.2.2.2.2) (r:=r) (fun _=>rfl) ?_ (fun ih=>?_)))
  ·intro n2 ih3
   rintro ⟨f,g,i,j,k,l,m⟩ h
   replace h:Q2 N p_ steps_ (n2+1) f g i j k l m=some r:=h
   unfold Q2 at h
   refine wB J 11 h (fun h=>?_) fun h=>?_
   ·cases h
    exact wr J 15 func74 [(6,.nil),(7,.nil)]
   refine wB J 8 h (fun h=>?_) fun h=>?_
   ·cases h
    exact wr J 7 func74 [(6,.nil),(7,.nil)]
   refine wB J 8 h (fun h=>?_) fun h=>?_
   ·cases h
    exact wr J 7 func74 [(6,.nil),(7,.nil)]
   refine wO J 6 h fun o p h=>Zt J PI p ?_
   refine wB J 5 h (fun h=>wa J 16 (Zy (Xh [11] ?_))) fun h=>?_
   ·cases h
    exact Yc J func74 [(6,.sl 11),(7,.sl 12)]
   exact wO J 7 h fun q s h=>Zo (ZlO N (⟨f,g,i,j,k⟩:Yh) p_ l _ s) [] [(0,.bp 10 0),(1,.sl 11),(2,.sl 12),(3,.sl 13),(4,.sl 14),(5,.sl 0),(6,.sl 1),(7,.sl 2),(8,.sl 3)] (wa J 8 (Zj [(11,.sl 16),(12,.sl 17),(13,.sl 18),(14,.sl 19)] (ih3 (q.2.stack',q.2.vars',q.2.params',q.2.loops',q.2.trap',q.1,(Zi (m+1))) h)))
  exact Zj [(11,.nil),(12,.sl 9),(13,.sl 5),(14,.nil)] (ih N (([]:List Zk),d,params_,([]:List Int),false,entry_,0) h)
 refine wa J 1 (ZH (σ:=Int) (fun st=>(ZfZ p_ vars_ params_ [(1,.I entry_),(2,.S 4),(3,.S 5),(4,.I steps_),(5,.B 6 0),(10,.B 7 0),(12,.I st)])) (fun n st=>Qv N p_ entry_ vars_ params_ steps_ n st) (r:=r) (fun _=>rfl) ?_ (fun ih=>?_))
 ·intro n3 ih4
  intro u h
  replace h:Qv N p_ entry_ vars_ params_ steps_ (n3+1) u=some r:=h
  unfold Qv at h
  refine Zp J 8 h (fun h=>wa J 2 (Zj [] (j1 () h))) fun h=>?_
  refine wO J 8 h fun v x h=>Zt J Yd x ?_
  refine wO J 1 h fun y z h=>Zo (ZbQ N v _ z) [] [] ?_
  refine wB J 2 h (fun h=>?_) fun h=>wa J 8 (Zj [] (ih4 (Zi (u+1)) h))
  cases h
  exact wr J 7 func74 [(6,.nil),(7,.nil)]
 exact Zj [] (ih N 0 h)
theorem Zp6 (N:Nat) (k_:Z7) (a_:ZS) (peer_:Int) (label_:Int) (values_:(List Zk)) (r:ZS × Int) (h:Lc N k_ a_ peer_ label_ values_=some r) :
 Fn Tryz.prog 36 ⟨15,[.a (XQ 0 1 2 3 4 5 6 7 8 9 10 k_),.a (Wz 11 12 13 a_),.I peer_,.I label_,.S 14],((0,.sl rS k_.G.Roles)::(1,.sl ZQ k_.G.Decls)::(2,.sl YQ k_.G.Edges)::(3,.sl Z8 k_.G.Timeouts)::(4,.sl rB k_.M.Finals)::(5,.sl YL k_.M.Moves)::(6,.sl Z8 k_.M.Timeouts)::(7,.sl Y6 k_.P.Vars)::(8,.sl Xw k_.P.Handlers)::(9,.sl Xx k_.P.Offers)::(10,.sl Xz k_.P.Code)::X1 11 12 13 a_ [(14,.sl Zw values_)]),[],18,.t [.inr (Wz 15 16 17 r.1),.inl (.I r.2)],(X1 15 16 17 r.1 []),[]⟩:=by
 refine Zv func36 rfl (fun E F w=>?_)
 unfold Lc at h
 refine wO J 12 h fun x1 c h=>Zo (Zah N k_ a_ _ c) [] [(0,.sl 0),(1,.sl 1),(2,.sl 2),(3,.sl 3),(4,.sl 4),(5,.sl 5),(6,.sl 6),(7,.sl 7),(8,.sl 8),(9,.sl 9),(10,.sl 10),(11,.sl 11),(12,.sl 12),(13,.sl 13)] ?_
 refine wB J 2 h (fun h=>?_) fun h=>?_
 ·cases h
  exact wr J 7 func36 [(15,.nil),(16,.nil),(17,.nil)]
 refine wO J 10 h fun x2 d h=>Zo (ZoG N k_.M a_.State false peer_ label_ _ d) [] [(0,.sl 4),(1,.sl 5),(2,.sl 6)] ?_
 refine wB J 8 h (fun h=>?_) fun h=>?_
 ·cases h
  exact wr J 18 func36 [(15,.nil),(16,.nil),(17,.nil)]
 refine wO J 7 h fun x3 e h=>Zo (ZcB N k_.G.Decls label_ values_ a_.Known _ e) [] [(0,.sl 1),(1,.sl 14),(2,.sl 11)] ?_
 refine wB J 3 h (fun h=>?_) fun h=>?_
 ·cases h
  exact wr J 7 func36 [(15,.nil),(16,.nil),(17,.nil)]
 refine wO J 8 h fun x4 f h=>Zt J YX f (wa J 2 (Z5 J [] Yd ([]:List Zk) ?_))
 refine wO J 2 h fun x5 g h=>Yk J Zw g (wa J 3 (Zy ?_))
 refine wO J 9 h fun x6 i h=>Zo (Zij N k_.G.Decls label_ values_ a_.Known _ i) [] [(0,.sl 1),(1,.sl 14),(2,.sl 11)] (wa J 11 (Zz (σ:=(List Zk)) (fun st=>⟨[(10,.B 17 0),(13,.B 21 0)],[(17,.box [.I 0,.nil,.nil,.nil] 59),(21,.box [.I x4.To,.sl 22,.sl 23,.nil] 59),(22,.own Zw x6.1 true),(23,.own Zw st true)],((0,.sl rS k_.G.Roles)::(1,.sl ZQ k_.G.Decls)::(2,.sl YQ k_.G.Edges)::(3,.sl Z8 k_.G.Timeouts)::(4,.sl rB k_.M.Finals)::(5,.sl YL k_.M.Moves)::(6,.sl Z8 k_.M.Timeouts)::(7,.sl Y6 k_.P.Vars)::(8,.sl Xw k_.P.Handlers)::(9,.sl Xx k_.P.Offers)::(10,.sl Xz k_.P.Code)::X1 11 12 13 a_ [(14,.sl Zw values_)]),24⟩) (fun st=>Hc x4 x6 st=some r) ?_ (fun j1=>?_)))
 ·intro j h
  replace h:Hc x4 x6 j=some r:=h
  unfold Hc at h
  refine wa J 6 (Xh [22] (Xh [23] ?_))
  cases h
  exact Yc J func36 [(15,.sl 22),(16,.sl 23),(17,.nil)]
 refine wa J 1 (ZH (σ:=Int) (fun st=>⟨[(2,.I peer_),(3,.I label_),(4,.S 14),(5,.B 15 0),(6,.B 16 0),(10,.B 17 0),(13,.B 21 0),(14,.I st)],[(15,.box (XQ 0 1 2 3 4 5 6 7 8 9 10 k_) 52),(16,.box (Wz 11 12 13 a_) 59),(17,.box [.I 0,.nil,.nil,.nil] 59),(20,.own Zw x5 true),(21,.box [.I x4.To,.sl 22,.sl 20,.nil] 59),(22,.own Zw x6.1 true)],((0,.sl rS k_.G.Roles)::(1,.sl ZQ k_.G.Decls)::(2,.sl YQ k_.G.Edges)::(3,.sl Z8 k_.G.Timeouts)::(4,.sl rB k_.M.Finals)::(5,.sl YL k_.M.Moves)::(6,.sl Z8 k_.M.Timeouts)::(7,.sl Y6 k_.P.Vars)::(8,.sl Xw k_.P.Handlers)::(9,.sl Xx k_.P.Offers)::(10,.sl Xz k_.P.Code)::X1 11 12 13 a_ [(14,.sl Zw values_)]),23⟩) (fun n st=>SK N k_ a_ peer_ label_ values_ x4 x5 x6 n st) (r:=r) (fun _=>rfl) ?_ (fun ih=>?_))
 ·intro n2 ih3
  intro k h
  replace h:SK N k_ a_ peer_ label_ values_ x4 x5 x6 (n2+1) k=some r:=h
  unfold SK at h
  refine Zp J 10 h (fun h=>wa J 2 (Zj [(23,.sl 20)] (j1 x5 h))) fun h=>?_
  refine wO J 10 h fun l m h=>Zt J Gu m ?_
  refine wB J 12 h (fun h=>wa J 13 (Zj [] (ih3 (Zi (k+1)) h))) fun h=>?_
  refine wB J 6 h (fun h=>wa J 7 (Zj [] (ih3 (Zi (k+1)) h))) fun h=>?_
  refine wO J 11 h fun o p h=>Zo (ZeC N k_.P l.Entry a_.Vars values_ 5000 _ p) [] [(0,.sl 7),(1,.sl 8),(2,.sl 9),(3,.sl 10),(4,.sl 12),(5,.sl 14)] ?_
  refine wB J 13 h (fun h=>?_) fun h=>wa J 10 (Zj [(23,.sl 26)] (j1 o.1.Vars h))
  cases h
  exact wr J 7 func36 [(15,.nil),(16,.nil),(17,.nil)]
 exact Zj [] (ih N 0 h)
theorem ZsJ (N:Nat) (k_:Z7) (a_:ZS) (o_:U2) (r:(List Zk) × Bool) (h:Dz N k_ a_ o_=some r) :
 Fn Tryz.prog 113 ⟨14,[.a (XQ 0 1 2 3 4 5 6 7 8 9 10 k_),.a (Wz 11 12 13 a_),.a (Zbf o_)],((0,.sl rS k_.G.Roles)::(1,.sl ZQ k_.G.Decls)::(2,.sl YQ k_.G.Edges)::(3,.sl Z8 k_.G.Timeouts)::(4,.sl rB k_.M.Finals)::(5,.sl YL k_.M.Moves)::(6,.sl Z8 k_.M.Timeouts)::(7,.sl Y6 k_.P.Vars)::(8,.sl Xw k_.P.Handlers)::(9,.sl Xx k_.P.Offers)::(10,.sl Xz k_.P.Code)::X1 11 12 13 a_ []),[],15,.t [.inl (.sl 14),.inl (.b r.2)],[(14,.sl Zw r.1)],[]⟩:=by
 refine Zv func113 rfl (fun E F w=>?_)
 unfold Dz at h
 refine wa J 15 (Zz (σ:=Unit) (fun st=>⟨[(3,.B 14 0),(4,.B 15 0),(5,.B 16 0)],[(14,.box (XQ 0 1 2 3 4 5 6 7 8 9 10 k_) 52),(15,.box (Wz 11 12 13 a_) 59),(16,.box (Zbf o_) 177)],((0,.sl rS k_.G.Roles)::(1,.sl ZQ k_.G.Decls)::(2,.sl YQ k_.G.Edges)::(3,.sl Z8 k_.G.Timeouts)::(4,.sl rB k_.M.Finals)::(5,.sl YL k_.M.Moves)::(6,.sl Z8 k_.M.Timeouts)::(7,.sl Y6 k_.P.Vars)::(8,.sl Xw k_.P.Handlers)::(9,.sl Xx k_.P.Offers)::(10,.sl Xz k_.P.Code)::X1 11 12 13 a_ []),17⟩) (fun st=>Ml N k_ a_ o_=some r) ?_ (fun j1=>?_))
 ·intro _ h
  replace h:Ml N k_ a_ o_=some r:=h
  unfold Ml at h
  refine wO J 8 h fun x4 c h=>Zo (ZeC N k_.P o_.Args a_.Vars ([]:List Zk) 5000 _ c) [] [(0,.sl 7),(1,.sl 8),(2,.sl 9),(3,.sl 10),(4,.sl 12),(5,.nil)] ?_
  refine wB J 13 h (fun h=>?_) fun h=>?_
  ·cases h
   exact wr J 19 func113 [(14,.nil)]
  refine wO J 9 h fun x5 d h=>Zo (ZcB N k_.G.Decls o_.Label x4.1.Stack a_.Known _ d) [] [(0,.sl 1),(1,.sl 17),(2,.sl 11)] ?_
  refine wB J 3 h (fun h=>?_) fun h=>?_
  ·cases h
   exact wr J 6 func113 [(14,.nil)]
  cases h
  exact wr J 9 func113 [(14,.sl 17)]
 refine WA h (fun h=>wa J 2 (Zj [] (j1 () h))) fun h=>?_
 refine wO J 9 h fun x6 e h=>Zo (ZeC N k_.P o_.When a_.Vars ([]:List Zk) 5000 _ e) [] [(0,.sl 7),(1,.sl 8),(2,.sl 9),(3,.sl 10),(4,.sl 12),(5,.nil)] ?_
 refine wB J 12 h (fun h=>?_) fun h=>?_
 ·cases h
  exact wr J 28 func113 [(14,.nil)]
 refine wB J 6 h (fun h=>?_) fun h=>?_
 ·cases h
  exact wr J 22 func113 [(14,.nil)]
 refine wO J 2 h fun x7 f h=>Zt J Yd f ?_
 refine wB J 5 h (fun h=>?_) fun h=>?_
 ·cases h
  exact wr J 14 func113 [(14,.nil)]
 refine wO J 2 h fun x8 g h=>Zt J Yd g ?_
 refine wB J 5 h (fun h=>?_) fun h=>wa J 2 (Zj [] (j1 () h))
 cases h
 exact wr J 6 func113 [(14,.nil)]
theorem Zta (N:Nat) (k_:Z7) (a_:ZS) (waited_:Int) (r:Int × (List Zk)) (h:Dq N k_ a_ waited_=some r) :
 Fn Tryz.prog 71 ⟨14,[.a (XQ 0 1 2 3 4 5 6 7 8 9 10 k_),.a (Wz 11 12 13 a_),.I waited_,.c .nil],((0,.sl rS k_.G.Roles)::(1,.sl ZQ k_.G.Decls)::(2,.sl YQ k_.G.Edges)::(3,.sl Z8 k_.G.Timeouts)::(4,.sl rB k_.M.Finals)::(5,.sl YL k_.M.Moves)::(6,.sl Z8 k_.M.Timeouts)::(7,.sl Y6 k_.P.Vars)::(8,.sl Xw k_.P.Handlers)::(9,.sl Xx k_.P.Offers)::(10,.sl Xz k_.P.Code)::X1 11 12 13 a_ []),[],15,.t [.inl (.I r.1),.inl (.sl 14)],[(14,.sl Zw r.2)],[]⟩:=by
 refine Zv func71 rfl (fun E F w=>?_)
 unfold Dq at h
 refine wO J 12 h fun x1 d h=>Zo (ZrE N k_ a_ _ d) [] [(0,.sl 0),(1,.sl 1),(2,.sl 2),(3,.sl 3),(4,.sl 4),(5,.sl 5),(6,.sl 6),(7,.sl 7),(8,.sl 8),(9,.sl 9),(10,.sl 10),(11,.sl 11),(12,.sl 12),(13,.sl 13)] (wa J 7 (Zz (σ:=Unit) (fun st=>(RX k_ a_ x1 k_.G.Roles k_.G.Decls k_.G.Edges k_.G.Timeouts k_.M.Finals k_.M.Moves k_.M.Timeouts k_.P.Vars k_.P.Handlers k_.P.Offers k_.P.Code [(2,.I waited_),(4,.B 14 0),(5,.B 15 0),(10,.S 16)])) (fun st=>B9 N k_ a_ waited_ x1=some r) ?_ (fun j1=>?_)))
 ·intro _ h
  replace h:B9 N k_ a_ waited_ x1=some r:=h
  unfold B9 at h
  refine wa J 5 (Zz (σ:=Unit) (fun st=>(RX k_ a_ x1 k_.G.Roles k_.G.Decls k_.G.Edges k_.G.Timeouts k_.M.Finals k_.M.Moves k_.M.Timeouts k_.P.Vars k_.P.Handlers k_.P.Offers k_.P.Code [(2,.I waited_),(4,.B 14 0),(5,.B 15 0),(10,.S 16)])) (fun st=>Zc2 N k_ a_ waited_ x1=some r) ?_ (fun j3=>?_))
  ·intro _ h
   replace h:Zc2 N k_ a_ waited_ x1=some r:=h
   unfold Zc2 at h
   refine wa J 5 (Zz (σ:=Unit) (fun st=>(RX k_ a_ x1 k_.G.Roles k_.G.Decls k_.G.Edges k_.G.Timeouts k_.M.Finals k_.M.Moves k_.M.Timeouts k_.P.Vars k_.P.Handlers k_.P.Offers k_.P.Code [(4,.B 14 0),(5,.B 15 0),(10,.S 16)])) (fun st=>ZbL N k_ a_ x1=some r) ?_ (fun j14=>?_))
   ·intro _ h
    replace h:ZbL N k_ a_ x1=some r:=h
    unfold ZbL at h
    refine wa J 5 (Zz (σ:=Unit) (fun st=>⟨[],[],((0,.sl rS k_.G.Roles)::(1,.sl ZQ k_.G.Decls)::(2,.sl YQ k_.G.Edges)::(3,.sl Z8 k_.G.Timeouts)::(4,.sl rB k_.M.Finals)::(5,.sl YL k_.M.Moves)::(6,.sl Z8 k_.M.Timeouts)::(7,.sl Y6 k_.P.Vars)::(8,.sl Xw k_.P.Handlers)::(9,.sl Xx k_.P.Offers)::(10,.sl Xz k_.P.Code)::X1 11 12 13 a_ []),17⟩) (fun st=>ZcG=some r) ?_ (fun j25=>?_))
    ·intro _ h
     replace h:ZcG=some r:=h
     unfold ZcG at h
     cases h
     exact wr J 5 func71 [(14,.nil)]
    refine wa J 1 (ZH (σ:=Int) (fun st=>(RX k_ a_ x1 k_.G.Roles k_.G.Decls k_.G.Edges k_.G.Timeouts k_.M.Finals k_.M.Moves k_.M.Timeouts k_.P.Vars k_.P.Handlers k_.P.Offers k_.P.Code [(4,.B 14 0),(5,.B 15 0),(10,.S 16),(24,.I st)])) (fun n st=>Qt N k_ a_ x1 n st) (r:=r) (fun _=>rfl) ?_ (fun ih=>?_))
    ·intro n17 ih27
     intro e h
     replace h:Qt N k_ a_ x1 (n17+1) e=some r:=h
     unfold Qt at h
     refine Zp J 8 h (fun h=>wa J 2 (Zj [] (j25 () h))) fun h=>?_
     refine wO J 14 h fun f g h=>ZT J (rI .i64) g (Z9 J (oI .i64) g ?_)
     obtain ⟨i,j,h⟩:=ob h
     refine Zt J YX j ?_
     refine wO J 4 h fun k l h=>Zo (ZfC N k_.G.Decls i.Label a_.Known _ l) [] [(0,.sl 1),(1,.sl 11)] (wa J 5 (Zy ?_))
     refine Zp J 4 h (fun h=>wa J 8 (Zj [] (ih27 (Zi (e+1)) h))) fun h=>?_
     refine wO J 5 h fun m o h=>ZT J (rI .i64) o (Z9 J (oI .i64) o (wa J 4 (Xh [19] ?_)))
     cases h
     exact Yc J func71 [(14,.sl 19)]
    exact Zj [] (ih N 0 h)
   refine wa J 1 (ZH (σ:=Int) (fun st=>(RX k_ a_ x1 k_.G.Roles k_.G.Decls k_.G.Edges k_.G.Timeouts k_.M.Finals k_.M.Moves k_.M.Timeouts k_.P.Vars k_.P.Handlers k_.P.Offers k_.P.Code [(2,.I waited_),(4,.B 14 0),(5,.B 15 0),(10,.S 16),(19,.I st)])) (fun n st=>Qm N k_ a_ waited_ x1 n st) (r:=r) (fun _=>rfl) ?_ (fun ih=>?_))
   ·intro n22 ih28
    intro p h
    replace h:Qm N k_ a_ waited_ x1 (n22+1) p=some r:=h
    unfold Qm at h
    refine Zp J 10 h (fun h=>wa J 2 (Zj [] (j14 () h))) fun h=>?_
    refine wO J 10 h fun q s h=>Zt J RZ s ?_
    refine wB J 13 h (fun h=>wa J 7 (Zj [] (ih28 (Zi (p+1)) h))) fun h=>wa J 7 (Zz (σ:=Unit) (fun st=>⟨[],[],((0,.sl rS k_.G.Roles)::(1,.sl ZQ k_.G.Decls)::(2,.sl YQ k_.G.Edges)::(3,.sl Z8 k_.G.Timeouts)::(4,.sl rB k_.M.Finals)::(5,.sl YL k_.M.Moves)::(6,.sl Z8 k_.M.Timeouts)::(7,.sl Y6 k_.P.Vars)::(8,.sl Xw k_.P.Handlers)::(9,.sl Xx k_.P.Offers)::(10,.sl Xz k_.P.Code)::X1 11 12 13 a_ []),19⟩) (fun st=>G5=some r) ?_ (fun j35=>?_))
    ·intro _ h
     replace h:G5=some r:=h
     unfold G5 at h
     cases h
     exact wr J 5 func71 [(14,.nil)]
    refine wa J 1 (ZH (σ:=Int) (fun st=>⟨[(2,.I waited_),(4,.B 14 0),(5,.B 15 0),(10,.S 16),(20,.B 18 0),(21,.I st)],[(14,.box (XQ 0 1 2 3 4 5 6 7 8 9 10 k_) 52),(15,.box (Wz 11 12 13 a_) 59),(16,.own (rI .i64) x1 true),(18,.box (Zfg q) 171)],((0,.sl rS k_.G.Roles)::(1,.sl ZQ k_.G.Decls)::(2,.sl YQ k_.G.Edges)::(3,.sl Z8 k_.G.Timeouts)::(4,.sl rB k_.M.Finals)::(5,.sl YL k_.M.Moves)::(6,.sl Z8 k_.M.Timeouts)::(7,.sl Y6 k_.P.Vars)::(8,.sl Xw k_.P.Handlers)::(9,.sl Xx k_.P.Offers)::(10,.sl Xz k_.P.Code)::X1 11 12 13 a_ []),19⟩) (fun n st=>SA N k_ a_ waited_ x1 q n st) (r:=r) (fun _=>rfl) ?_ (fun ih=>?_))
    ·intro n24 ih37
     intro u h
     replace h:SA N k_ a_ waited_ x1 q (n24+1) u=some r:=h
     unfold SA at h
     refine Zp J 8 h (fun h=>wa J 8 (Zj [] (j35 () h))) fun h=>?_
     refine Zp J 6 h (fun h=>wa J 2 (Zj [] (j35 () h))) fun h=>?_
     refine wO J 9 h fun v x h=>ZT J (rI .i64) x (Z9 J (oI .i64) x (wa J 3 (Zy ?_)))
     refine eB h (fun h=>wa J 7 (Zj [] (ih37 (Zi (u+1)) h))) fun h=>?_
     refine wO J 12 h fun y z h=>ZT J (rI .i64) z (Z9 J (oI .i64) z ?_)
     obtain ⟨A,C,h⟩:=ob h
     refine Zt J YX C ?_
     refine wO J 4 h fun D H h=>Zo (ZfC N k_.G.Decls A.Label a_.Known _ H) [] [(0,.sl 1),(1,.sl 11)] (wa J 5 (Zy ?_))
     refine Zp J 4 h (fun h=>wa J 8 (Zj [] (ih37 (Zi (u+1)) h))) fun h=>?_
     refine wO J 5 h fun R T h=>ZT J (rI .i64) T (Z9 J (oI .i64) T (wa J 4 (Xh [22] ?_)))
     cases h
     exact Yc J func71 [(14,.sl 22)]
    exact Zj [] (ih N 0 h)
   exact Zj [] (ih N 0 h)
  refine wa J 1 (ZH (σ:=Int) (fun st=>(RX k_ a_ x1 k_.G.Roles k_.G.Decls k_.G.Edges k_.G.Timeouts k_.M.Finals k_.M.Moves k_.M.Timeouts k_.P.Vars k_.P.Handlers k_.P.Offers k_.P.Code [(2,.I waited_),(4,.B 14 0),(5,.B 15 0),(10,.S 16),(13,.I st)])) (fun n st=>Ue N k_ a_ waited_ x1 n st) (r:=r) (fun _=>rfl) ?_ (fun ih=>?_))
  ·intro n29 ih38
   intro U h
   replace h:Ue N k_ a_ waited_ x1 (n29+1) U=some r:=h
   unfold Ue at h
   refine Zp J 10 h (fun h=>wa J 2 (Zj [] (j3 () h))) fun h=>?_
   refine wO J 10 h fun X Y h=>Zt J Zev Y (wa J 8 (Zz (σ:=Unit) (fun st=>⟨[(2,.I waited_),(4,.B 14 0),(5,.B 15 0),(10,.S 16),(13,.I U)],[(14,.box (XQ 0 1 2 3 4 5 6 7 8 9 10 k_) 52),(15,.box (Wz 11 12 13 a_) 59),(16,.own (rI .i64) x1 true)],((0,.sl rS k_.G.Roles)::(1,.sl ZQ k_.G.Decls)::(2,.sl YQ k_.G.Edges)::(3,.sl Z8 k_.G.Timeouts)::(4,.sl rB k_.M.Finals)::(5,.sl YL k_.M.Moves)::(6,.sl Z8 k_.M.Timeouts)::(7,.sl Y6 k_.P.Vars)::(8,.sl Xw k_.P.Handlers)::(9,.sl Xx k_.P.Offers)::(10,.sl Xz k_.P.Code)::X1 11 12 13 a_ []),19⟩) (fun st=>HU U (Ue N k_ a_ waited_ x1 n29)=some r) ?_ (fun j45=>?_)))
   ·intro _ h
    replace h:HU U (Ue N k_ a_ waited_ x1 n29)=some r:=h
    unfold HU at h
    exact wa J 6 (Zj [] (ih38 (Zi (U+1)) h))
   refine wa J 1 (ZH (σ:=Int) (fun st=>⟨[(2,.I waited_),(4,.B 14 0),(5,.B 15 0),(10,.S 16),(13,.I U),(14,.B 18 0),(15,.I st)],[(14,.box (XQ 0 1 2 3 4 5 6 7 8 9 10 k_) 52),(15,.box (Wz 11 12 13 a_) 59),(16,.own (rI .i64) x1 true),(18,.box (Zbf X) 177)],((0,.sl rS k_.G.Roles)::(1,.sl ZQ k_.G.Decls)::(2,.sl YQ k_.G.Edges)::(3,.sl Z8 k_.G.Timeouts)::(4,.sl rB k_.M.Finals)::(5,.sl YL k_.M.Moves)::(6,.sl Z8 k_.M.Timeouts)::(7,.sl Y6 k_.P.Vars)::(8,.sl Xw k_.P.Handlers)::(9,.sl Xx k_.P.Offers)::(10,.sl Xz k_.P.Code)::X1 11 12 13 a_ []),19⟩) (fun n st=>TU N k_ a_ x1 U (Ue N k_ a_ waited_ x1 n29) X n st) (r:=r) (fun _=>rfl) ?_ (fun ih=>?_))
   ·intro n31 ih47
    intro Z h
    replace h:TU N k_ a_ x1 U (Ue N k_ a_ waited_ x1 n29) X (n31+1) Z=some r:=h
    unfold TU at h
    refine Zp J 8 h (fun h=>wa J 2 (Zj [] (j45 () h))) fun h=>?_
    refine wO J 12 h fun a0 b0 h=>ZT J (rI .i64) b0 (Z9 J (oI .i64) b0 ?_)
    obtain ⟨c0,d0,h⟩:=ob h
    refine Zt J YX d0 (wa J 3 (Zy ?_))
    refine wB J 8 h (fun h=>wa J 14 (Zj [] (ih47 (Zi (Z+1)) h))) fun h=>?_
    refine wB J 7 h (fun h=>wa J 7 (Zj [] (ih47 (Zi (Z+1)) h))) fun h=>?_
    refine wO J 7 h fun e0 f0 h=>Zo (ZsJ N k_ a_ X _ f0) [] [(0,.sl 0),(1,.sl 1),(2,.sl 2),(3,.sl 3),(4,.sl 4),(5,.sl 5),(6,.sl 6),(7,.sl 7),(8,.sl 8),(9,.sl 9),(10,.sl 10),(11,.sl 11),(12,.sl 12),(13,.sl 13)] ?_
    refine Zp J 10 h (fun h=>wa J 8 (Zj [] (ih47 (Zi (Z+1)) h))) fun h=>?_
    refine wO J 5 h fun g0 i0 h=>ZT J (rI .i64) i0 (Z9 J (oI .i64) i0 ?_)
    cases h
    exact wr J 4 func71 [(14,.sl 22)]
   exact Zj [] (ih N 0 h)
  exact Zj [] (ih N 0 h)
 refine wa J 1 (ZH (σ:=Int) (fun st=>(RX k_ a_ x1 k_.G.Roles k_.G.Decls k_.G.Edges k_.G.Timeouts k_.M.Finals k_.M.Moves k_.M.Timeouts k_.P.Vars k_.P.Handlers k_.P.Offers k_.P.Code [(2,.I waited_),(4,.B 14 0),(5,.B 15 0),(10,.S 16),(11,.I st)])) (fun n st=>Qf N k_ a_ waited_ x1 n st) (r:=r) (fun _=>rfl) ?_ (fun ih=>?_))
 ·intro n32 ih48
  intro j0 h
  replace h:Qf N k_ a_ waited_ x1 (n32+1) j0=some r:=h
  unfold Qf at h
  refine Zp J 8 h (fun h=>wa J 2 (Zj [] (j1 () h))) fun h=>?_
  refine wO J 11 h fun k0 l0 h=>ZT J (rI .i64) l0 (Z9 J (oI .i64) l0 ?_)
  obtain ⟨m0,o0,h⟩:=ob h
  refine Zt J YX o0 (wa J 3 (Zy ?_))
  refine Zp J 5 h (fun h=>wa J 8 (Zj [] (ih48 (Zi (j0+1)) h))) fun h=>?_
  refine wO J 13 h fun p0 q0 h=>Zo (ZcB N k_.G.Decls m0.Label a_.Pending a_.Known _ q0) [] [(0,.sl 1),(1,.sl 13),(2,.sl 11)] ?_
  refine Zp J 1 h (fun h=>?_) fun h=>?_
  ·cases h
   exact wr J 7 func71 [(14,.nil)]
  refine wO J 5 h fun s0 t0 h=>ZT J (rI .i64) t0 (Z9 J (oI .i64) t0 (wa J 4 (Zy ?_)))
  cases h
  exact Yc J func71 [(14,.sl 13)]
 exact Zj [] (ih N 0 h)
theorem Zo0 (N:Nat) (k_:Z7) (a_:ZS) (waited_:Int) (r:ZS × T3 × Bool) (h:LM N k_ a_ waited_=some r) :
 Fn Tryz.prog 34 ⟨14,[.a (XQ 0 1 2 3 4 5 6 7 8 9 10 k_),.a (Wz 11 12 13 a_),.I waited_,.c .nil],((0,.sl rS k_.G.Roles)::(1,.sl ZQ k_.G.Decls)::(2,.sl YQ k_.G.Edges)::(3,.sl Z8 k_.G.Timeouts)::(4,.sl rB k_.M.Finals)::(5,.sl YL k_.M.Moves)::(6,.sl Z8 k_.M.Timeouts)::(7,.sl Y6 k_.P.Vars)::(8,.sl Xw k_.P.Handlers)::(9,.sl Xx k_.P.Offers)::(10,.sl Xz k_.P.Code)::X1 11 12 13 a_ []),[],18,.t [.inr (Wz 14 15 16 r.1),.inr (QI 17 r.2.1),.inl (.b r.2.2)],(X1 14 15 16 r.1 [(17,.sl Zw r.2.1.Values)]),[]⟩:=by
 refine Zv func34 rfl (fun E F w=>?_)
 unfold LM at h
 refine wO J 13 h fun x1 d h=>Zo (Zah N k_ a_ _ d) [] [(0,.sl 0),(1,.sl 1),(2,.sl 2),(3,.sl 3),(4,.sl 4),(5,.sl 5),(6,.sl 6),(7,.sl 7),(8,.sl 8),(9,.sl 9),(10,.sl 10),(11,.sl 11),(12,.sl 12),(13,.sl 13)] ?_
 refine wB J 2 h (fun h=>?_) fun h=>?_
 ·cases h
  exact wr J 9 func34 [(14,.nil),(15,.nil),(16,.nil),(17,.nil)]
 refine wO J 8 h fun x2 e h=>Zo (Zta N k_ a_ waited_ _ e) [] [(0,.sl 0),(1,.sl 1),(2,.sl 2),(3,.sl 3),(4,.sl 4),(5,.sl 5),(6,.sl 6),(7,.sl 7),(8,.sl 8),(9,.sl 9),(10,.sl 10),(11,.sl 11),(12,.sl 12),(13,.sl 13)] ?_
 refine wB J 12 h (fun h=>?_) fun h=>?_
 ·cases h
  exact wr J 9 func34 [(14,.sl 11),(15,.sl 12),(16,.sl 13),(17,.nil)]
 refine wO J 8 h fun x3 f h=>Zt J YX f (wa J 8 (Z5 J [] Yd ([]:List Zk) ?_))
 refine wO J 2 h fun x4 g h=>Yk J Zw g (Z5 J [] Yd ([]:List Zk) ?_)
 refine wO J 1 h fun x5 i h=>Yk J Zw i (wa J 3 (Zy ?_))
 refine wO J 10 h fun x6 j h=>Zo (Zij N k_.G.Decls x3.Label x2.2 a_.Known _ j) [] [(0,.sl 1),(1,.sl 18),(2,.sl 11)] (wa J 16 (Z5 J [] Yd ([]:List Zk) ?_))
 refine wO J 1 h fun x7 k h=>Yk J Zw k (wa J 4 (Zy (Xh [26] (Xh [22] (Xh [24] (Xh [28] ?_))))))
 cases h
 exact Yc J func34 [(14,.sl 26),(15,.sl 22),(16,.sl 24),(17,.sl 28)]
theorem Zte (N:Nat) (k_:Z7) (l_:(List XA)) (r:ZS × (List T3)) (h:z13 N k_ l_=some r) :
 Fn Tryz.prog 13 ⟨12,[.a (XQ 0 1 2 3 4 5 6 7 8 9 10 k_),.S 11],(U9 0 1 2 3 4 5 6 7 8 9 10 k_ [(11,.sl Sk l_)]),[],16,.t [.inr (Wz 12 13 14 r.1),.inl (.sl 15)],(X1 12 13 14 r.1 []),[(15,.own Sa r.2 true)]⟩:=by
 refine Zv func13 rfl (fun E F w=>?_)
 unfold z13 at h
 refine wO J 9 h fun x1 c h=>Zo (Zq7 N k_ _ c) [] [(0,.sl 0),(1,.sl 1),(2,.sl 2),(3,.sl 3),(4,.sl 4),(5,.sl 5),(6,.sl 6),(7,.sl 7),(8,.sl 8),(9,.sl 9),(10,.sl 10)] (wa J 12 (Zz (σ:=Int × (List Zk) × (List Zk) × (List Zk) × (List T3)) (fun st=>⟨[(4,.B 13 0),(6,.B 17 0),(7,.S 21)],[(13,.box [.I 0,.nil,.nil,.nil] 59),(17,.box [.I st.1,.sl 18,.sl 19,.sl 20] 59),(21,.own Sa st.2.2.2.2 true)],(U9 0 1 2 3 4 5 6 7 8 9 10 k_ [(11,.sl Sk l_),(18,.sl Zw st.2.1),(19,.sl Zw st.2.2.1),(20,.sl Zw st.2.2.2.1)]),22⟩) (fun st=>Za8 st.1 st.2.1 st.2.2.1 st.2.2.2.1 st.2.2.2.2=some r) ?_ (fun j1=>?_)))
 ·rintro ⟨d,e,f,g,i⟩ h
  replace h:Za8 d e f g i=some r:=h
  unfold Za8 at h
  cases h
  exact wr J 7 func13 [(12,.sl 18),(13,.sl 19),(14,.sl 20),(15,.sl 21)]
 refine wa J 1 (ZH (σ:=Int × (List Zk) × (List Zk) × (List Zk) × (List T3) × Int) (fun st=>⟨[(1,.S 11),(2,.B 12 0),(4,.B 13 0),(6,.B 17 0),(7,.S 21),(8,.I st.2.2.2.2.2)],[(12,.box (XQ 0 1 2 3 4 5 6 7 8 9 10 k_) 52),(13,.box [.I 0,.nil,.nil,.nil] 59),(17,.box [.I st.1,.sl 18,.sl 19,.sl 20] 59),(21,.own Sa st.2.2.2.2.1 true)],(U9 0 1 2 3 4 5 6 7 8 9 10 k_ [(11,.sl Sk l_),(18,.sl Zw st.2.1),(19,.sl Zw st.2.2.1),(20,.sl Zw st.2.2.2.1)]),22⟩) (fun n st=>Uc N k_ l_ n st.1 st.2.1 st.2.2.1 st.2.2.2.1 st.2.2.2.2.1 st.2.2.2.2.2) (r:=r) (fun _=>rfl) ?_ (fun ih=>?_))
 ·intro n2 ih3
  rintro ⟨j,k,l,m,o,p⟩ h
  replace h:Uc N k_ l_ (n2+1) j k l m o p=some r:=h
  unfold Uc at h
  refine Zp J 8 h (fun h=>wa J 2 (Zj [] (j1 (j,k,l,m,o) h))) fun h=>?_
  refine wO J 9 h fun q s h=>Zt J Zcm s ?_
  refine wB J 3 h (fun h=>?_) fun h=>?_
  ·refine wO J 7 h fun u v h=>Zt J Zcm v ?_
   refine wO J 2 h fun x y h=>Zo (Zo0 N k_ (⟨j,k,l,m⟩:ZS) u.Waited _ y) [] [(0,.sl 0),(1,.sl 1),(2,.sl 2),(3,.sl 3),(4,.sl 4),(5,.sl 5),(6,.sl 6),(7,.sl 7),(8,.sl 8),(9,.sl 9),(10,.sl 10),(11,.sl 18),(12,.sl 19),(13,.sl 20)] (wa J 9 (Zy ?_))
   refine Zp J 5 h (fun h=>wa J 8 (Zj [] (ih3 (j,k,l,m,o,(Zi (p+1))) h))) fun h=>wa J 5 (Z5 J [] oO3 ([x.2.1]:List T3) ?_)
   obtain ⟨z,A,h⟩:=ob h
   exact Yk J Sa A (wa J 2 (Zy (wa J 6 (Zj [(18,.sl 26),(19,.sl 27),(20,.sl 28),(21,.sl 33)] (ih3 (x.1.State,x.1.Known,x.1.Vars,x.1.Pending,z,(Zi (p+1))) h)))))
  refine wO J 8 h fun C D h=>Zt J Zcm D ?_
  refine wO J 1 h fun G H h=>Zo (Zom N k_ (⟨j,k,l,m⟩:ZS) C _ H) [] [(0,.sl 0),(1,.sl 1),(2,.sl 2),(3,.sl 3),(4,.sl 4),(5,.sl 5),(6,.sl 6),(7,.sl 7),(8,.sl 8),(9,.sl 9),(10,.sl 10),(11,.sl 18),(12,.sl 19),(13,.sl 20),(14,.sl 25)] (wa J 9 (Zy ?_))
  refine wB J 6 h (fun h=>wa J 7 (Zj [] (ih3 (j,k,l,m,o,(Zi (p+1))) h))) fun h=>?_
  refine wO J 9 h fun R T h=>Zo (Zp6 N k_ (⟨j,k,l,m⟩:ZS) G.1 G.2.1 G.2.2.1 _ T) [] [(0,.sl 0),(1,.sl 1),(2,.sl 2),(3,.sl 3),(4,.sl 4),(5,.sl 5),(6,.sl 6),(7,.sl 7),(8,.sl 8),(9,.sl 9),(10,.sl 10),(11,.sl 18),(12,.sl 19),(13,.sl 20),(14,.sl 26)] ?_
  refine Zp J 12 h (fun h=>wa J 8 (Zj [] (ih3 (j,k,l,m,o,(Zi (p+1))) h))) fun h=>wa J 11 (Z5 J [] oO3 ([(⟨k_.M.Role,false,G.1,G.2.1,G.2.2.1⟩:T3)]:List T3) ?_)
  obtain ⟨U,X,h⟩:=ob h
  exact Yk J Sa X (wa J 2 (Zy (wa J 6 (Zj [(18,.sl 27),(19,.sl 28),(20,.sl 29),(21,.sl 32)] (ih3 (R.1.State,R.1.Known,R.1.Vars,R.1.Pending,U,(Zi (p+1))) h)))))
 exact Zj [(18,.sl 14),(19,.sl 15),(20,.sl 16),(21,.nil)] (ih N (x1.State,x1.Known,x1.Vars,x1.Pending,([]:List T3),0) h)
theorem ZsV (N:Nat) (k_:Z7) (a_:ZS) (r:Bool) (h:z16 N k_ a_=some r) :
 Fn Tryz.prog 16 ⟨14,[.a (XQ 0 1 2 3 4 5 6 7 8 9 10 k_),.a (Wz 11 12 13 a_)],((0,.sl rS k_.G.Roles)::(1,.sl ZQ k_.G.Decls)::(2,.sl YQ k_.G.Edges)::(3,.sl Z8 k_.G.Timeouts)::(4,.sl rB k_.M.Finals)::(5,.sl YL k_.M.Moves)::(6,.sl Z8 k_.M.Timeouts)::(7,.sl Y6 k_.P.Vars)::(8,.sl Xw k_.P.Handlers)::(9,.sl Xx k_.P.Offers)::(10,.sl Xz k_.P.Code)::X1 11 12 13 a_ []),[],14,.O r,[],[]⟩:=by
 refine Zv func16 rfl (fun E F w=>?_)
 unfold z16 at h
 refine wO J 10 h fun x1 c h=>Zo (Zah N k_ a_ _ c) [] [(0,.sl 0),(1,.sl 1),(2,.sl 2),(3,.sl 3),(4,.sl 4),(5,.sl 5),(6,.sl 6),(7,.sl 7),(8,.sl 8),(9,.sl 9),(10,.sl 10),(11,.sl 11),(12,.sl 12),(13,.sl 13)] ?_
 refine Zp J 1 h (fun h=>?_) fun h=>?_
 ·cases h
  exact wr J 19 func16 []
 refine Zp J 9 h (fun h=>?_) fun h=>?_
 ·cases h
  exact wr J 10 func16 []
 refine wO J 5 h fun x2 d h=>Zt J oB d ?_
 cases h
 exact wr J 4 func16 []
theorem Zq9 (N:Nat) (k_:Z7) (l_:(List XA)) (r:Bool) (h:SX N k_ l_=some r) :
 Fn Tryz.prog 4 ⟨12,[.a (XQ 0 1 2 3 4 5 6 7 8 9 10 k_),.S 11],(U9 0 1 2 3 4 5 6 7 8 9 10 k_ [(11,.sl Sk l_)]),[],12,.O r,[],[]⟩:=by
 refine Zv func4 rfl (fun E F w=>?_)
 unfold SX at h
 refine wO J 8 h fun x1 c h=>Zo (ZsT N _ c) [] [] ?_
 refine wB J 2 h (fun h=>?_) fun h=>?_
 ·cases h
  exact wr J 5 func4 []
 refine wO J 6 h fun x2 d h=>Zo (Zsf N k_ _ d) [] [(0,.sl 0),(1,.sl 1),(2,.sl 2),(3,.sl 3),(4,.sl 4),(5,.sl 5),(6,.sl 6),(7,.sl 7),(8,.sl 8),(9,.sl 9),(10,.sl 10)] ?_
 refine wB J 2 h (fun h=>?_) fun h=>?_
 ·cases h
  exact wr J 15 func4 []
 refine wB J 5 h (fun h=>?_) fun h=>?_
 ·cases h
  exact wr J 10 func4 []
 refine wO J 1 h fun x3 e h=>Zo (ZmM N k_ _ e) [] [(0,.sl 0),(1,.sl 1),(2,.sl 2),(3,.sl 3),(4,.sl 4),(5,.sl 5),(6,.sl 6),(7,.sl 7),(8,.sl 8),(9,.sl 9),(10,.sl 10)] ?_
 refine wB J 3 h (fun h=>?_) fun h=>wa J 7 (Zz (σ:=Unit) (fun st=>(Zf2 k_ l_ [(1,.S 11),(2,.B 12 0)])) (fun st=>M3 N k_ l_=some r) ?_ (fun j1=>?_))
 ·cases h
  exact wr J 5 func4 []
 ·intro _ h
  replace h:M3 N k_ l_=some r:=h
  unfold M3 at h
  refine wO J 4 h fun f g h=>Zo (Zte N k_ l_ _ g) [] [(0,.sl 0),(1,.sl 1),(2,.sl 2),(3,.sl 3),(4,.sl 4),(5,.sl 5),(6,.sl 6),(7,.sl 7),(8,.sl 8),(9,.sl 9),(10,.sl 10),(11,.sl 11)] ?_
  refine wO J 14 h fun i j h=>Zo (ZfT N k_.G k_.M f.2 _ j) [16] [(0,.sl 0),(1,.sl 1),(2,.sl 2),(3,.sl 3),(4,.sl 4),(5,.sl 5),(6,.sl 6),(7,.sl 16)] ?_
  refine Zp J 14 h (fun h=>wa J 32 (Zy ?_)) fun h=>?_
  ·cases h
   exact Yc J func4 []
  refine Zp J 6 h (fun h=>wa J 26 (Zy ?_)) fun h=>?_
  ·cases h
   exact Yc J func4 []
  refine Zp J 7 h (fun h=>wa J 19 (Zy ?_)) fun h=>?_
  ·cases h
   exact Yc J func4 []
  refine wO J 4 h fun k l h=>Zo (ZoU N i.1.Known f.1.Known _ l) [] [(0,.sl 18),(1,.sl 13)] ?_
  refine Zp J 2 h (fun h=>wa J 12 (Zy ?_)) fun h=>?_
  ·cases h
   exact Yc J func4 []
  refine wO J 5 h fun m o h=>Zo (Zgf N k_.G k_.M i.1 _ o) [] [(0,.sl 0),(1,.sl 1),(2,.sl 2),(3,.sl 3),(4,.sl 4),(5,.sl 5),(6,.sl 6),(7,.sl 18),(8,.sl 19)] ?_
  refine wO J 2 h fun p q h=>Zo (ZsV N k_ f.1 _ q) [] [(0,.sl 0),(1,.sl 1),(2,.sl 2),(3,.sl 3),(4,.sl 4),(5,.sl 5),(6,.sl 6),(7,.sl 7),(8,.sl 8),(9,.sl 9),(10,.sl 10),(11,.sl 13),(12,.sl 14),(13,.sl 15)] (wa J 3 (Zy ?_))
  cases h
  exact Yc J func4 []
 refine wa J 1 (ZH (σ:=Int) (fun st=>(Zf2 k_ l_ [(1,.S 11),(2,.B 12 0),(5,.I st)])) (fun n st=>RD N k_ l_ n st) (r:=r) (fun _=>rfl) ?_ (fun ih=>?_))
 ·intro n2 ih3
  intro s h
  replace h:RD N k_ l_ (n2+1) s=some r:=h
  unfold RD at h
  refine Zp J 8 h (fun h=>wa J 2 (Zj [] (j1 () h))) fun h=>?_
  refine wO J 8 h fun t u h=>Zt J Zcm u ?_
  refine wO J 2 h fun v x h=>Zo (Zl1 N t.Values _ x) [] [(0,.sl 14)] ?_
  refine wB J 2 h (fun h=>?_) fun h=>wa J 8 (Zj [] (ih3 (Zi (s+1)) h))
  cases h
  exact wr J 5 func4 []
 exact Zj [] (ih N 0 h)
end Gx
end
