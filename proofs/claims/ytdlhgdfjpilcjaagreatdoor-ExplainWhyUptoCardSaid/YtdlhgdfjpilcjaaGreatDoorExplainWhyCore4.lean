/- Aids for the walks, part 4: a symbolic state of the machine, and that each step of the machine keeps it. -/
import Derived.Lib.Builder
import Derived.Lib.UnsafeStr
import Derived.Test.YtdlhgdfjpilcjaaGreatDoorExplainWhyCore3
set_option linter.all false
section
namespace Go.Kx
variable [LxP]
def Mr (l:List Int):ByteArray:=⟨(l.map fun c=>c.toNat.toUInt8).toArray⟩
def apB (s m:ByteArray):Option ByteArray:=bif Nat.ble (s.size+m.size) lim then some (s++m) else none
theorem ZsF {s m z:ByteArray} (h:apB s m=some z):z=s++m∧s.size+m.size≤lim:=by
 unfold apB at h
 cases hb:Nat.ble (s.size+m.size) lim with
 | false=>rw [hb] at h;cases h
 | true=>rw [hb] at h;cases h;exact ⟨rfl,Zf hb⟩
def Pz (s:ByteArray) (l:List Int):Option ByteArray:=bif (l.all fun c=>decide (0≤c) && decide (c < 256)) then apB s (Mr l) else none
theorem ZoX (s m:ByteArray):Wr (s++m)=Wr s++Wr m:=by
 unfold Wr
 rw [ByteArray.data_append,Array.toList_append,List.map_append]
theorem ZoS {l:List Int} (h:(l.all fun c=>decide (0≤c) && decide (c < 256))=true):Wr (Mr l)=l:=by
 unfold Wr Mr
 simp only [List.map_map]
 conv=>rhs;rw [← List.map_id l]
 refine List.map_congr_left fun c hc=>?_
 have:=List.all_eq_true.1 h c hc
 simp only [Zc,decide_eq_true_eq] at this
 obtain ⟨n,rfl⟩:=Ze this.1
 have h2:n < 256:=by omega
 simp [Function.comp,Nat.mod_eq_of_lt h2]
theorem ZrA {s z:ByteArray} {l:List Int} (h:Pz s l=some z):Wr z=Wr s++l∧s.size+l.length≤lim:=by
 unfold Pz at h
 cases hb:(l.all fun c=>decide (0≤c) && decide (c < 256)) with
 | false=>rw [hb] at h;cases h
 | true =>
  rw [hb] at h
  obtain ⟨rfl,h2⟩:=ZsF h
  rw [ZoX,ZoS hb]
  have e:(Mr l).size=l.length:=by
   show ((l.map _).toArray).size=_
   simp
  exact ⟨rfl,by omega⟩
def QB (ty:TypeId) (off:Nat) (el:TypeId):Prop:=off=0∧el=ty
theorem BufR.q {ty:TypeId} {F:ZU} {w:World} {s:ByteArray} {v:Value} (h:BufR ty w s v):OwnQ (QB ty) (rI .u8) F w (Wr s) v:=by
 rcases h with ⟨h,rfl⟩ | ⟨b,cap,arr,fz,hv,h1,h2,h3,h4,h5⟩
 ·refine .inl ⟨List.eq_nil_of_length_eq_zero (by rw [Lj];exact h),rfl⟩
 ·refine .inr ⟨b,0,cap,arr,ty,fz,⟨rfl,rfl⟩,by rw [Lj];exact hv,by rw [Lj];exact h1,?_,h3,h4,fun i x hx=>?_⟩
  ·show 0+cap * 1≤_;omega
  ·refine ⟨[.int .u8 x],rfl,fun j v hj=>?_⟩
   cases j with
   | succ j=>simp at hj
   | zero =>
    simp only [List.getElem?_cons_zero,Option.some.injEq] at hj
    subst hj
    unfold Wr at hx
    rw [List.getElem?_map,Option.map_eq_some_iff] at hx
    obtain ⟨u,hu,rfl⟩:=hx
    have:=h5 i u hu
    show arr[0+i * 1+0]? = _
    rw [Nat.zero_add,Nat.mul_one,Nat.add_zero]
    exact this
theorem BufR.of {ty:TypeId} {F:ZU} {w:World} {s:ByteArray} {v:Value} (h:OwnQ (QB ty) (rI .u8) F w (Wr s) v):BufR ty w s v:=by
 rcases h with ⟨h,rfl⟩ | ⟨b,off,cap,arr,el,fz,⟨rfl,rfl⟩,hv,h1,h2,h3,h4,h5⟩
 ·exact .inl ⟨by rw [← Lj,h];rfl,rfl⟩
 ·rw [Lj] at hv h1
  refine .inr ⟨b,cap,arr,fz,hv,h1,?_,h3,h4,fun i u hu=>?_⟩
  ·have h2:0+cap * 1≤arr.size:=h2
   omega
  ·obtain ⟨vs,hr,hc⟩:=h5 i (u.toNat:Int) (by unfold Wr;rw [List.getElem?_map,hu];rfl)
   have hr:vs=[.int .u8 (u.toNat:Int)]:=hr
   subst hr
   have:=hc 0 _ rfl
   have e:0+i * (rI .u8).sz+0=i:=by show 0+i * 1+0=i;omega
   rw [e] at this
   exact this
section
variable {X:Ctx} {s:St} {ops:Array Oper} {todo:Act→World→Prop} {tt:List (Nat × TD)}
theorem Sat.newBuf {E:Env} {F:ZU} {w:World} {a:Act} {sb:ByteArray} {ty:TypeId} {v:Value} (hs:Sat X s E F w a) (ho:BufR ty w sb v)
  (hfp:∀ b,Z6 v=some b→¬ F b∧¬ X.Z b∧b < w.heap.size∧∀ k m',Zk s.M k=some m'→¬ m'.fp E k b) :
  ∃ E',E'.ρ s.nx=v∧Sat X ⟨s.L,(s.nx,.buf sb ty)::s.M,s.V,s.nx+1⟩ E' F w a:=by
 have hE:E.Eqb s.nx (E.setρ s.nx v):=E.eqb_setρ _ _ _ (Nat.le_refl _)
 have hv:(E.setρ s.nx v).ρ s.nx=v:=by simp [Env.setρ]
 have h1:=hs.env hE (fun j=>by
  simp only [Env.setρ];split
  ·rcases ho with ⟨_,rfl⟩ | ⟨_,_,_,_,rfl,_⟩<;>rfl
  ·exact hs.one j)
 refine ⟨_,hv,h1.addM' ?_ trivial ?_ (fun h=>by cases h)⟩
 ·show BufR ty w sb ((E.setρ s.nx v).ρ s.nx)
  rw [hv];exact ho
 ·intro b hb
  have hb:Z6 ((E.setρ s.nx v).ρ s.nx)=some b:=hb
  rw [hv] at hb
  obtain ⟨g1,g2,g3,g4⟩:=hfp b hb
  exact ⟨g1,g2,g3,fun k m' hm hf=>g4 k m' hm ((MO.fp_eqb hE (hs.wf.hM k m' hm).1).1 hf)⟩
theorem WPr.apb (htt:TTOk X.P tt) {i:Nat} {rest:List Nat} {o:Oper} {t t2:TypeId} {td td2:TD} {x y:Operand} {d k ty:Nat} {src:SC} {sb z:ByteArray} {ys:List Int}
  (hz:Wr z=Wr sb++ys∧sb.size+ys.length≤lim) (hsrc:Tw X s (rI .u8) ys src) (ho:ops[i]? = some o) (hg:ZR ops s.L o=some true) (hop:o.op=.call { callee:=.builtin .append,args:=#[x,y],argTypes:=#[t,t2] }) (hd:o.dst=some d)
  (hx:ZE s.L x=some (.c (.sl k))) (hm:Zk s.M k=some (.buf sb ty)) (hy:ZE s.L y=some (.c src)) (ht:Zk tt t=some td) (ht2:Zk tt t2=some td2)
  (hc:(Nat.blt d X.fn.ntmps && Nat.beq td.kd 6 && (Nat.beq td2.kd 6 || Nat.beq td2.kd 2) && Nat.beq td.es 1 && Nat.ble td.eb 32768 && Nat.beq td.el ty)=true)
  (kk:WPr X ops rest todo ⟨(d,.c (.sl s.nx))::s.L,(s.nx,.buf z ty)::(k,.gone)::s.M,s.V,s.nx+1⟩):WPr X ops (i::rest) todo s:=by
 refine WPr.op ho hg (fun E F w a hs=>?_) kk
 simp only [Zc] at hc
 obtain ⟨⟨⟨⟨⟨c1,c2⟩,c2'⟩,c3⟩,c4⟩,c5⟩:=hc
 have c5:=Zd c5
 obtain ⟨e1,_⟩:=hs.eval hx
 obtain ⟨e2,_⟩:=hs.eval hy
 have ho:BufR ty w sb (E.ρ k):=hs.hM k _ hm
 have hmf:∀ b,Z6 (E.ρ k)=some b→_:=hs.mF k _ hm
 have hu2:=ZhO (htt.get ht2) c2'
 obtain ⟨v',w',hrun,how,g1,g2,g3,g4,g5,g6⟩:=ZhB (QB ty) (ty:=o.type) ⟨rfl,c5⟩ hu2 (htt.get ht) c2 (R:=rI .u8) (Zd c3) (ho.q (F:=F)) (hsrc E F w a hs) (fun b hb=>(hmf b hb).1) hs.hF (fun b hb=>(hmf b hb).2.2) (by rw [Lj];exact hz.2) (Zf c4)
 rw [← hz.1] at how
 refine Xg (v:=v') (w':=w') (Tq hop ?_) ?_
 ·simp only [List.map_toArray,List.map_cons,List.map_nil,e1,e2,Zy,Zt]
  exact Yc hrun
 ·have s1:=hs.setM (m':=.gone) hm g1 g2 g3 g4 (fun b hb hne=>g5 b hb (fun e=>hne e)) (fun _ h=>h.elim) trivial trivial (fun h=>by cases h)
  obtain ⟨E',hv,s2⟩:=s1.newBuf (BufR.of how) (fun b hb=>by
    obtain ⟨h1,h2⟩:=g6 b hb
    rcases h1 with h1 | h1
    ·have:=hmf b h1
     refine ⟨this.1,this.2.1,h2,fun j m' hj hf=>?_⟩
     simp only [ZQ] at hj
     split at hj
     ·cases hj;exact hf.elim
     ·rename_i hne;exact hs.dis k j _ m' hm hj hne b h1 hf
    ·refine ⟨fun hF=>absurd (hs.hF b hF) (Nat.not_lt.2 h1),fun hz=>absurd (Nat.lt_of_lt_of_le (hs.hZ b hz) hs.ext.size) (Nat.not_lt.2 h1),h2,fun j m' hj hf=>?_⟩
     simp only [ZQ] at hj
     split at hj
     ·cases hj;exact hf.elim
     ·exact absurd (hs.mF j m' hj b hf).2.2 (Nat.not_lt.2 h1))
  have s3:=s2.setL (d:=d) (v:=.c (.sl s.nx)) (Nat.lt_succ_self _) (Z3 c1)
  simp only [Zy,Zt] at s3
  rw [show E'.ρ s.nx=v' from hv] at s3
  rw [hd]
  exact ⟨E',F,s3⟩
theorem WPr.usd {i:Nat} {rest:List Nat} {o:Oper} {x:Operand} {ts:Array TypeId} {d k ty:Nat} {sb:ByteArray}
  (ho:ops[i]? = some o) (hg:ZR ops s.L o=some true) (hop:o.op=.call { callee:=.builtin .unsafeSliceData,args:=#[x],argTypes:=ts }) (hd:o.dst=some d)
  (hx:ZE s.L x=some (.c (.sl k))) (hm:Zk s.M k=some (.buf sb ty)) (hne:(Nat.beq sb.size 0)=false) (hn:Nat.blt d X.fn.ntmps=true)
  (kk:WPr X ops rest todo ⟨(d,.c (.px k 0))::s.L,s.M,s.V,s.nx⟩):WPr X ops (i::rest) todo s:=by
 refine WPr.val (v:=.c (.px k 0)) (fun E F w a hs=>⟨?_,(hs.wf.hM k _ hm).1⟩) ho hg hd hn kk
 obtain ⟨e1,_⟩:=hs.eval hx
 have hb:BufR ty w sb (E.ρ k):=hs.hM k _ hm
 rcases hb with ⟨h,_⟩ | ⟨b,cap,arr,fz,hv,h1,h2,h3,h4,h5⟩
 ·rw [h] at hne;cases hne
 ·refine Tq hop ?_
  simp only [List.map_toArray,List.map_cons,List.map_nil,e1,Zy,Zt,hv]
  have hcap:cap≠0:=by
   intro h;rw [h] at h1
   have:sb.size=0:=by omega
   rw [this] at hne;cases hne
  exact Yc ((Go.Lib.run_unsafeSliceData_row _ _ _ _ _ _ hcap).trans (by simp [X7]))
theorem WPr.bln (htt:TTOk X.P tt) {i:Nat} {rest:List Nat} {o:Oper} {t:TypeId} {td:TD} {x:Operand} {d k ty:Nat} {sb:ByteArray}
  (ho:ops[i]? = some o) (hg:ZR ops s.L o=some true) (hop:o.op=.call { callee:=.builtin .len,args:=#[x],argTypes:=#[t] }) (hd:o.dst=some d)
  (hx:ZE s.L x=some (.c (.sl k))) (hm:Zk s.M k=some (.buf sb ty)) (ht:Zk tt t=some td) (hc:(Nat.blt d X.fn.ntmps && Nat.beq td.kd 6)=true)
  (kk:WPr X ops rest todo ⟨(d,.c (.i .i64 sb.size))::s.L,s.M,s.V,s.nx⟩):WPr X ops (i::rest) todo s:=by
 simp only [Zc] at hc
 refine WPr.val (v:=.c (.i .i64 sb.size)) (fun E F w a hs=>⟨?_,trivial⟩) ho hg hd hc.1 kk
 obtain ⟨el,hu,hz⟩:=(htt.get ht).sliceOf hc.2
 obtain ⟨e1,_⟩:=hs.eval hx
 have hb:BufR ty w sb (E.ρ k):=hs.hM k _ hm
 refine Tq hop ?_
 simp only [List.map_toArray,List.map_cons,List.map_nil,e1,Zy,Zt]
 rcases hb with ⟨h,hv⟩ | ⟨b,cap,arr,fz,hv,_⟩
 ·rw [hv,h];exact Yc (by simp [Builtin.len_,Yk hu,Builtin.lenOf,goInt])
 ·rw [hv];exact Yc (by simp [Builtin.len_,Yk hu,Builtin.lenOf,goInt])
theorem Zrf {w:World} {b n:Nat} {arr:Array Value} {ty:TypeId} {fz:Nat × Nat} (a:Addr):(w.freeze a n).os=w.os∧(w.freeze a n).tape=w.tape∧(w.freeze a n).output=w.output∧(w.freeze a n).drawn=w.drawn∧(w.freeze a n).heap.size=w.heap.size∧∀ c,c≠a.block→(w.freeze a n).heap[c]? = w.heap[c]? := by
 unfold World.freeze
 split
 ·exact ⟨rfl,rfl,rfl,rfl,rfl,fun _ _=>rfl⟩
 ·refine ⟨rfl,rfl,rfl,rfl,by simp,fun c hc=>?_⟩
  simp only [Array.getElem?_modify]
  rw [if_neg (Ne.symm hc)]
theorem WPr.ust {i:Nat} {rest:List Nat} {o:Oper} {x y:Operand} {pt it:TypeId} {d k ty:Nat} {sb:ByteArray} {n:Int}
  (ho:ops[i]? = some o) (hg:ZR ops s.L o=some true) (hop:o.op=.call { callee:=.builtin .unsafeString,args:=#[x,y],argTypes:=#[pt,it] }) (hd:o.dst=some d)
  (hx:ZE s.L x=some (.c (.px k 0))) (hy:ZE s.L y=some (.c (.i .i64 n))) (hn0:n=(sb.size:Int)) (hm:Zk s.M k=some (.buf sb ty)) (hne:(Nat.beq sb.size 0 || !(Nat.ble sb.size lim))=false)
  (hpt:X.P.underlying pt=some (.pointer ty)) (hcc:X.P.cellsOf ty=1) (hn:Nat.blt d X.fn.ntmps=true)
  (kk:WPr X ops rest todo ⟨(d,.c (.s sb))::s.L,(k,.gone)::s.M,s.V,s.nx⟩):WPr X ops (i::rest) todo s:=by
 refine WPr.op ho hg (fun E F w a hs=>?_) kk
 obtain ⟨e1,_⟩:=hs.eval hx
 obtain ⟨e2,_⟩:=hs.eval hy
 rw [Bool.or_eq_false_iff,Bool.not_eq_false'] at hne
 obtain ⟨hne,hlim⟩:=hne
 have hlim:=Zf hlim
 have hb:BufR ty w sb (E.ρ k):=hs.hM k _ hm
 rcases hb with ⟨h,_⟩ | ⟨b,cap,arr,fz,hv,h1,h2,h3,h4,h5⟩
 ·rw [h] at hne;cases hne
 have hsz:sb.data.toList.length=sb.size:=by rw [Array.length_toList];rfl
 have hrun:=Lib.run_unsafeString_row (P:=X.P) w pt it o.type ty hpt hcc b arr.size (by simp [World.shape?,h4]) sb.data.toList (fun h=>by rw [← hsz,h] at hne;cases hne) (by rw [hsz];omega) (by rw [hsz];unfold lim at hlim;omega) (fun j x hj=>by
  rw [WG,P4 h4,Nat.zero_add];exact h5 j x hj)
 have e3:(⟨sb.data.toList.toArray⟩:ByteArray)=sb:=by rw [Array.toArray_toList]
 rw [hsz,e3] at hrun
 obtain ⟨f1,f2,f3,f4,f5,f6⟩:=Zrf (w:=w) (b:=b) (n:=sb.size) (arr:=arr) (ty:=ty) (fz:=fz) ⟨b,0,none⟩
 refine Xg (v:=.string sb) (w':=w.freeze ⟨b,0,none⟩ sb.size) (Tq hop ?_) ?_
 ·simp only [List.map_toArray,List.map_cons,List.map_nil,e1,e2,Zy,Zt,hv,X7,Nat.add_zero,hn0]
  exact Yc hrun
 ·have s1:=hs.setM (m':=.gone) (w':=w.freeze ⟨b,0,none⟩ sb.size) hm f1 f2 (.m f3 (by rw [f4];exact Nat.le_refl _)) (by rw [f5];exact Nat.le_refl _) (fun c hc hne'=>f6 c (fun e=>hne' (by show Z6 (E.ρ k)=some c;rw [hv,e];rfl))) (fun _ h=>h.elim) trivial trivial (fun h=>by cases h)
  have s3:=s1.setL (d:=d) (v:=.c (.s sb)) trivial (Z3 hn)
  rw [hd]
  exact ⟨E,F,s3⟩
theorem WPr.pps {i:Nat} {rest:List Nat} {o:Oper} {t el yt d k off:Nat} {x y:Operand}
  (ho:ops[i]? = some o) (hg:ZR ops s.L o=some true) (hop:o.op=.binOp .neq t x y yt) (hd:o.dst=some d) (hu:X.P.underlying t=some (.pointer el)) (hi:(X.P.info? el).isSome=true)
  (hx:ZE s.L x=some (.c (.bp k off))) (hy:ZE s.L y=some (.c (.bp k off))) (hn:Nat.blt d X.fn.ntmps=true)
  (kk:WPr X ops rest todo ⟨(d,.c (.b false))::s.L,s.M,s.V,s.nx⟩):WPr X ops (i::rest) todo s:=by
 refine WPr.val (v:=.c (.b false)) (fun E F w a hs=>?_) ho hg hd hn kk
 obtain ⟨e1,_⟩:=hs.eval hx
 obtain ⟨e2,_⟩:=hs.eval hy
 obtain ⟨j,hj⟩:=Option.isSome_iff_exists.1 hi
 refine ⟨?_,trivial⟩
 simp only [execOp,hop,e1,e2,Zy,Zt]
 refine Yc ?_
 have:=Lib.run_neq_ptr_same (P:=X.P) w ⟨E.β k,off,none⟩ hu hj
 simp only [eqGuard,Sem.run_bind,Sem.run_pure,Result.andThen_ok]
 exact this
theorem WPr.pnn {i:Nat} {rest:List Nat} {o:Oper} {t el yt d:Nat} {x y:Operand}
  (ho:ops[i]? = some o) (hg:ZR ops s.L o=some true) (hop:o.op=.binOp .eql t x y yt) (hd:o.dst=some d) (hu:X.P.underlying t=some (.pointer el))
  (hx:ZE s.L x=some (.c (.v (.pointer none)))) (hy:ZE s.L y=some (.c (.v (.pointer none)))) (hn:Nat.blt d X.fn.ntmps=true)
  (kk:WPr X ops rest todo ⟨(d,.c (.b true))::s.L,s.M,s.V,s.nx⟩):WPr X ops (i::rest) todo s:=by
 refine WPr.val (v:=.c (.b true)) (fun E F w a hs=>?_) ho hg hd hn kk
 obtain ⟨e1,_⟩:=hs.eval hx
 obtain ⟨e2,_⟩:=hs.eval hy
 refine ⟨?_,trivial⟩
 simp only [execOp,hop,e1,e2,Zy,Zt]
 refine Yc ?_
 have heq:(Op.equal t (.pointer none) (.pointer none)).run X.P w=.ok true w:=by
  show (Op.equalIn (9999+1) t _ _).run X.P w=.ok true w
  generalize 9999=q
  simp only [Op.equalIn,Sem.run_bind,Yk hu,Result.andThen_ok,Sem.run_pure,Option.isNone_none]
 simp only [eqGuard,Sem.run_bind,Sem.run_pure,Result.andThen_ok]
 show (do pure (Value.bool (← Op.equal t _ _)):Sem Value).run X.P w=_
 simp only [Sem.run_bind,heq,Result.andThen_ok,Sem.run_pure]
theorem Zja {E:Env} {F:ZU} {w:World} {a:Act} (hs:Sat X s E F w a) {k ty:Nat} {cs:List SC} (hM:Zk s.M k=some (.box cs ty)):w.shape? (E.β k)=some (ty,cs.length):=by
 have:w.heap[E.β k]? = some (.cells (cs.map (Zt E)).toArray ty (0,0)):=hs.hM k _ hM
 unfold World.shape?
 rw [this];simp
theorem WPr.cvu {i:Nat} {rest:List Nat} {o:Oper} {src dst t d k off ty:Nat} {x:Operand} {cs:List SC}
  (ho:ops[i]? = some o) (hg:ZR ops s.L o=some true) (hop:o.op=.convert src dst x) (hd:o.dst=some d) (hs0:X.P.underlying src=some (.pointer t)) (hd0:X.P.underlying dst=some .unsafePointer)
  (hi:(X.P.info? t).map (fun j=>Nat.beq j.size 0)=some false) (hx:ZE s.L x=some (.c (.bp k off))) (hM:Zk s.M k=some (.box cs ty)) (hoff:Nat.blt off cs.length=true) (hn:Nat.blt d X.fn.ntmps=true)
  (kk:WPr X ops rest todo ⟨(d,.c (.bp k off))::s.L,s.M,s.V,s.nx⟩):WPr X ops (i::rest) todo s:=by
 refine WPr.val (v:=.c (.bp k off)) (fun E F w a hs=>?_) ho hg hd hn kk
 obtain ⟨e1,k1⟩:=hs.eval hx
 refine ⟨?_,k1⟩
 rw [Option.map_eq_some_iff] at hi
 obtain ⟨j,hj,hj2⟩:=hi
 simp only [execOp,hop,e1,Zy,Zt]
 refine Yc ?_
 exact Lib.run_to_unsafe (P:=X.P) w ⟨E.β k,off,none⟩ hs0 hd0 hj (fun h=>by rw [h] at hj2;cases hj2) (Zja hs hM) (Z3 hoff)
theorem WPr.cvp {i:Nat} {rest:List Nat} {o:Oper} {src dst t d k off ty:Nat} {x:Operand} {cs:List SC}
  (ho:ops[i]? = some o) (hg:ZR ops s.L o=some true) (hop:o.op=.convert src dst x) (hd:o.dst=some d) (hs0:X.P.underlying src=some .unsafePointer) (hd0:X.P.underlying dst=some (.pointer t))
  (hi:(X.P.info? t).isSome=true) (hx:ZE s.L x=some (.c (.bp k off))) (hM:Zk s.M k=some (.box cs ty)) (hl:liesAt X.P X.P.depth ty (cs.length / X.P.cellsOf ty) off t 1=true) (hn:Nat.blt d X.fn.ntmps=true)
  (kk:WPr X ops rest todo ⟨(d,.c (.bp k off))::s.L,s.M,s.V,s.nx⟩):WPr X ops (i::rest) todo s:=by
 refine WPr.val (v:=.c (.bp k off)) (fun E F w a hs=>?_) ho hg hd hn kk
 obtain ⟨e1,k1⟩:=hs.eval hx
 refine ⟨?_,k1⟩
 obtain ⟨j,hj⟩:=Option.isSome_iff_exists.1 hi
 simp only [execOp,hop,e1,Zy,Zt]
 refine Yc ?_
 exact Lib.run_from_unsafe (P:=X.P) w ⟨E.β k,off,none⟩ hs0 hd0 hj (Zja hs hM) hl
theorem WPr.nes {i:Nat} {rest:List Nat} {o:Oper} {f:FuncId} {fn:Func} {x:Operand} {ts:Array TypeId} {d k off:Nat}
  (hf:X.P.funcs[f]? = some fn) (hname:(fn.name == "runtime.NumGoroutine")=false) (hb:fn.body.isNone=true) (hnx:Extern.findNext fn=none) (he:Extern.find fn=some Extern.AbiNoEscape.same)
  (ho:ops[i]? = some o) (hg:ZR ops s.L o=some true) (hop:o.op=.call { callee:=.value (.func f),args:=#[x],argTypes:=ts }) (hd:o.dst=some d) (hx:ZE s.L x=some (.c (.bp k off))) (hn:Nat.blt d X.fn.ntmps=true)
  (kk:WPr X ops rest todo ⟨(d,.c (.bp k off))::s.L,s.M,s.V,s.nx⟩):WPr X ops (i::rest) todo s:=by
 refine WPr.val (v:=.c (.bp k off)) (fun E F w a hs=>?_) ho hg hd hn kk
 obtain ⟨e1,k1⟩:=hs.eval hx
 refine ⟨?_,k1⟩
 unfold execOp
 simp only [hop,resolve,Deferred.ofValue,Act.eval,invoke,Sem.run_bind,Sem.run_pure,Result.andThen_ok]
 have:(callFunc f #[Zt E (.bp k off)]).run X.P w=.ok (.value (Zt E (.bp k off))) w:=by
  rw [run_callFunc_extern hf hname hb hnx he,Lib.run_noEscape];rfl
 have e4:#[x].map a.eval=#[Zt E (.bp k off)]:=by simp [e1,Zy]
 rw [show (#[]:Array Value)++Array.map a.eval #[x]++#[]=#[Zt E (.bp k off)] by rw [e4];simp]
 exact this
end
section
variable {X:Ctx} {tt:List (Nat × TD)}
def WR (tt:List (Nat × TD)) (j:Nat) (c:Cf):TD:=ZP tt (match j with | 0=>Zz (Zl c).op | _=>Yu (Zl c).op)
def Za2 (tt:List (Nat × TD)) (c:Cf):Bool:=Nat.beq (WR tt 0 c).kd 6 && (Nat.beq (WR tt 1 c).kd 6 || Nat.beq (WR tt 1 c).kd 2) && Nat.beq (WR tt 0 c).es 1 && Nat.ble (WR tt 0 c).eb 32768
theorem Znh {nt d:Nat} {c:Cf} (h:Za2 tt c=true) (hn:Nat.blt d nt=true):(Nat.blt d nt && Nat.beq (WR tt 0 c).kd 6 && (Nat.beq (WR tt 1 c).kd 6 || Nat.beq (WR tt 1 c).kd 2) && Nat.beq (WR tt 0 c).es 1 && Nat.ble (WR tt 0 c).eb 32768)=true:=by
 unfold Za2 at h
 rw [hn]
 simpa using h
def dBa (z:ByteArray) (ty:TypeId) (c:Cf):Dl:=⟨[(ZV c,.c (.sl (Zp c).nx))],[((Zp c).nx,.buf z ty),(ZG (Zr c 0),.gone)],[],1⟩
def nBa (z:ByteArray) (ty:TypeId) (c:Cf):Cf:=Ym (dBa z ty c) c
theorem eBa {sb z:ByteArray} {ys:List Int} {ty:TypeId} {c:Cf} (htt:TTOk X.P tt) (hz:Wr z=Wr sb++ys∧sb.size+ys.length≤lim) (hsrc:∀ nk E0 F0 w0 n0 Z,Tw (X.var nk E0 F0 w0 n0 Z) (Zp c) (rI .u8) ys (WO (Zr c 1))) (k:Wc X (nBa z ty c))
  (hp:(hB X.fn.ntmps c,(Zl c).dst,(Zl c).op,Zr c 0,Zk (Zp c).M (ZG (Zr c 0)),Zr c 1,Zk tt (Zz (Zl c).op),Zk tt (Yu (Zl c).op),Za2 tt c,(WR tt 0 c).el)=(true,some (ZV c),.call { callee:=.builtin .append,args:=#[ZM (Zl c).op 0,ZM (Zl c).op 1],argTypes:=#[Zz (Zl c).op,Yu (Zl c).op] },some (.c (.sl (ZG (Zr c 0)))),some (.buf sb ty),some (.c (WO (Zr c 1))),some (WR tt 0 c),some (WR tt 1 c),true,ty):=by kernel_rfl):Wc X c:=by
 simp only [Prod.mk.injEq] at hp
 obtain ⟨h1,h2,h3,h4,h5,h6,h7,h8,h9,h10⟩:=hp
 obtain ⟨h0,hn⟩:=Yp h1
 refine Wc.ev (d:=dBa z ty c) h0 (Ys h2 rfl) (fun nk E0 F0 w0 n0 Z rest K ho hg h=>WPr.apb (X:=X.var nk E0 F0 w0 n0 Z) htt hz (hsrc nk E0 F0 w0 n0 Z) ho hg h3 h2 h4 h5 h6 h7 h8 ?_ h) k
 rw [Zc]
 exact ⟨Znh h9 hn,by rw [h10];exact Nat.beq_refl _⟩
theorem eBo {sb z:ByteArray} {ys:List Int} {ty:TypeId} {fr:Bool} {q:Nat} {c:Cf} (htt:TTOk X.P tt) (hz:Pz sb ys=some z) (k:Wc X (nBa z ty c))
  (hm:(WO (Zr c 1),Zk (Zp c).M q)=(.sl q,some (.own (rI .u8) ys fr)):=by kernel_rfl)
  (hp:(hB X.fn.ntmps c,(Zl c).dst,(Zl c).op,Zr c 0,Zk (Zp c).M (ZG (Zr c 0)),Zr c 1,Zk tt (Zz (Zl c).op),Zk tt (Yu (Zl c).op),Za2 tt c,(WR tt 0 c).el)=(true,some (ZV c),.call { callee:=.builtin .append,args:=#[ZM (Zl c).op 0,ZM (Zl c).op 1],argTypes:=#[Zz (Zl c).op,Yu (Zl c).op] },some (.c (.sl (ZG (Zr c 0)))),some (.buf sb ty),some (.c (WO (Zr c 1))),some (WR tt 0 c),some (WR tt 1 c),true,ty):=by kernel_rfl):Wc X c:=by
 simp only [Prod.mk.injEq] at hm
 exact eBa (ys:=ys) htt (ZrA hz) (fun _ _ _ _ _ _=>by rw [hm.1];exact ZgQ hm.2) k hp
def nUd (c:Cf):Cf:=Ym (d1 c (.c (.px (ZG (Zr c 0)) 0))) c
theorem eUd {sb:ByteArray} {ty:TypeId} {c:Cf} (hne:(Nat.beq sb.size 0 || !(Nat.ble sb.size lim))=false) (k:Wc X (nUd c))
  (hp:(hB X.fn.ntmps c,(Zl c).dst,(Zl c).op,Zr c 0,Zk (Zp c).M (ZG (Zr c 0)))=(true,some (ZV c),.call { callee:=.builtin .unsafeSliceData,args:=#[ZM (Zl c).op 0],argTypes:=Ma (Zl c).op },some (.c (.sl (ZG (Zr c 0)))),some (.buf sb ty)):=by kernel_rfl):Wc X c:=by
 simp only [Prod.mk.injEq] at hp
 obtain ⟨h1,h2,h3,h4,h5⟩:=hp
 obtain ⟨h0,hn⟩:=Yp h1
 rw [Bool.or_eq_false_iff] at hne
 exact Wc.ev (d:=d1 c (.c (.px (ZG (Zr c 0)) 0))) h0 (Ys h2 rfl) (fun nk E0 F0 w0 n0 Z rest K ho hg h=>WPr.usd (X:=X.var nk E0 F0 w0 n0 Z) ho hg h3 h2 h4 h5 hne.1 hn h) k
def nBl (sb:ByteArray) (c:Cf):Cf:=Ym (d1 c (.c (.i .i64 sb.size))) c
theorem eBl {sb:ByteArray} {ty:TypeId} {c:Cf} (htt:TTOk X.P tt) (k:Wc X (nBl sb c))
  (hp:(hB X.fn.ntmps c,(Zl c).dst,(Zl c).op,Zr c 0,Zk (Zp c).M (ZG (Zr c 0)),Zk tt (Zz (Zl c).op),sl6 tt X.fn.ntmps c)=(true,some (ZV c),.call { callee:=.builtin .len,args:=#[ZM (Zl c).op 0],argTypes:=#[Zz (Zl c).op] },some (.c (.sl (ZG (Zr c 0)))),some (.buf sb ty),some (ZP tt (Zz (Zl c).op)),true):=by kernel_rfl):Wc X c:=by
 simp only [Prod.mk.injEq] at hp
 obtain ⟨h1,h2,h3,h4,h5,h6,h7⟩:=hp
 obtain ⟨h0,hn⟩:=Yp h1
 exact Wc.ev (d:=d1 c (.c (.i .i64 sb.size))) h0 (Ys h2 rfl) (fun nk E0 F0 w0 n0 Z rest K ho hg h=>WPr.bln (X:=X.var nk E0 F0 w0 n0 Z) htt ho hg h3 h2 h4 h5 h6 h7 h) k
def nUs (sb:ByteArray) (c:Cf):Cf:=Ym ⟨[(ZV c,.c (.s sb))],[(ZG (Zr c 0),.gone)],[],0⟩ c
theorem eUs {sb:ByteArray} {ty:TypeId} {c:Cf} (hne:(Nat.beq sb.size 0 || !(Nat.ble sb.size lim))=false) (k:Wc X (nUs sb c))
  (hp:(hB X.fn.ntmps c,(Zl c).dst,(Zl c).op,Zr c 0,Zr c 1,Zk (Zp c).M (ZG (Zr c 0)),X.P.underlying (Zz (Zl c).op),X.P.cellsOf ty)=(true,some (ZV c),.call { callee:=.builtin .unsafeString,args:=#[ZM (Zl c).op 0,ZM (Zl c).op 1],argTypes:=#[Zz (Zl c).op,Yu (Zl c).op] },some (.c (.px (ZG (Zr c 0)) 0)),some (.c (.i .i64 (sb.size:Int))),some (.buf sb ty),some (.pointer ty),1):=by kernel_rfl):Wc X c:=by
 simp only [Prod.mk.injEq] at hp
 obtain ⟨h1,h2,h3,h4,h5,h6,h7,h8⟩:=hp
 obtain ⟨h0,hn⟩:=Yp h1
 exact Wc.ev (d:=⟨[(ZV c,.c (.s sb))],[(ZG (Zr c 0),.gone)],[],0⟩) h0 (Ys h2 rfl) (fun nk E0 F0 w0 n0 Z rest K ho hg h=>WPr.ust (X:=X.var nk E0 F0 w0 n0 Z) ho hg h3 h2 h4 h5 rfl h6 hne h7 h8 hn h) k
def PM (s:ByteArray):Option Unit:=bif (Nat.beq s.size 0 || !(Nat.ble s.size lim)) then none else some ()
theorem ZjY {s:ByteArray} {u:Unit} (h:PM s=some u):(Nat.beq s.size 0 || !(Nat.ble s.size lim))=false:=by
 unfold PM at h
 cases hb:(Nat.beq s.size 0 || !(Nat.ble s.size lim)) with
 | false=>rfl
 | true=>rw [hb] at h;cases h
def nBo (b:Bool) (c:Cf):Cf:=Ym (d1 c (.c (.b b))) c
theorem ePs {c:Cf} (k:Wc X (nBo false c))
  (hp:(hB X.fn.ntmps c,(Zl c).dst,(Zl c).op,X.P.underlying (Zz (Zl c).op),(X.P.info? (Xv X.P (Zz (Zl c).op))).isSome,Zr c 0,Zr c 1)=(true,some (ZV c),.binOp .neq (Zz (Zl c).op) (ZM (Zl c).op 0) (ZM (Zl c).op 1) (Yu (Zl c).op),some (.pointer (Xv X.P (Zz (Zl c).op))),true,some (.c (.bp (ZG (Zr c 0)) (Xl (Zr c 0)))),some (.c (.bp (ZG (Zr c 0)) (Xl (Zr c 0))))):=by kernel_rfl):Wc X c:=by
 simp only [Prod.mk.injEq] at hp
 obtain ⟨h1,h2,h3,h4,h5,h6,h7⟩:=hp
 obtain ⟨h0,hn⟩:=Yp h1
 exact Wc.ev (d:=d1 c (.c (.b false))) h0 (Ys h2 rfl) (fun nk E0 F0 w0 n0 Z rest K ho hg h=>WPr.pps (X:=X.var nk E0 F0 w0 n0 Z) ho hg h3 h2 h4 h5 h6 h7 hn h) k
theorem ePz {c:Cf} (k:Wc X (nBo true c))
  (hp:(hB X.fn.ntmps c,(Zl c).dst,(Zl c).op,X.P.underlying (Zz (Zl c).op),Zr c 0,Zr c 1)=(true,some (ZV c),.binOp .eql (Zz (Zl c).op) (ZM (Zl c).op 0) (ZM (Zl c).op 1) (Yu (Zl c).op),some (.pointer (Xv X.P (Zz (Zl c).op))),some (.c (.v (.pointer none))),some (.c (.v (.pointer none)))):=by kernel_rfl):Wc X c:=by
 simp only [Prod.mk.injEq] at hp
 obtain ⟨h1,h2,h3,h4,h5,h6⟩:=hp
 obtain ⟨h0,hn⟩:=Yp h1
 exact Wc.ev (d:=d1 c (.c (.b true))) h0 (Ys h2 rfl) (fun nk E0 F0 w0 n0 Z rest K ho hg h=>WPr.pnn (X:=X.var nk E0 F0 w0 n0 Z) ho hg h3 h2 h4 h5 h6 hn h) k
def nSm (c:Cf):Cf:=Ym (d1 c (.c (.bp (ZG (Zr c 0)) (Xl (Zr c 0))))) c
theorem eCu {c:Cf} (k:Wc X (nSm c))
  (hp:(hB X.fn.ntmps c,(Zl c).dst,(Zl c).op,X.P.underlying (Zz (Zl c).op),X.P.underlying (Yu (Zl c).op),(X.P.info? (Xv X.P (Zz (Zl c).op))).map (fun j=>Nat.beq j.size 0),Zr c 0,Zk (Zp c).M (ZG (Zr c 0)),Nat.blt (Xl (Zr c 0)) (RO (Zk (Zp c).M (ZG (Zr c 0)))).length)=(true,some (ZV c),.convert (Zz (Zl c).op) (Yu (Zl c).op) (ZM (Zl c).op 0),some (.pointer (Xv X.P (Zz (Zl c).op))),some .unsafePointer,some false,some (.c (.bp (ZG (Zr c 0)) (Xl (Zr c 0)))),some (.box (RO (Zk (Zp c).M (ZG (Zr c 0)))) (Du (Zk (Zp c).M (ZG (Zr c 0))))),true):=by kernel_rfl):Wc X c:=by
 simp only [Prod.mk.injEq] at hp
 obtain ⟨h1,h2,h3,h4,h5,h6,h7,h8,h9⟩:=hp
 obtain ⟨h0,hn⟩:=Yp h1
 exact Wc.ev (d:=d1 c (.c (.bp (ZG (Zr c 0)) (Xl (Zr c 0))))) h0 (Ys h2 rfl) (fun nk E0 F0 w0 n0 Z rest K ho hg h=>WPr.cvu (X:=X.var nk E0 F0 w0 n0 Z) ho hg h3 h2 h4 h5 h6 h7 h8 h9 hn h) k
theorem eCq {c:Cf} (k:Wc X (nSm c))
  (hp:(hB X.fn.ntmps c,(Zl c).dst,(Zl c).op,X.P.underlying (Zz (Zl c).op),X.P.underlying (Yu (Zl c).op),(X.P.info? (Xv X.P (Yu (Zl c).op))).isSome,Zr c 0,Zk (Zp c).M (ZG (Zr c 0)),liesAt X.P X.P.depth (Du (Zk (Zp c).M (ZG (Zr c 0)))) ((RO (Zk (Zp c).M (ZG (Zr c 0)))).length / X.P.cellsOf (Du (Zk (Zp c).M (ZG (Zr c 0))))) (Xl (Zr c 0)) (Xv X.P (Yu (Zl c).op)) 1)=(true,some (ZV c),.convert (Zz (Zl c).op) (Yu (Zl c).op) (ZM (Zl c).op 0),some .unsafePointer,some (.pointer (Xv X.P (Yu (Zl c).op))),true,some (.c (.bp (ZG (Zr c 0)) (Xl (Zr c 0)))),some (.box (RO (Zk (Zp c).M (ZG (Zr c 0)))) (Du (Zk (Zp c).M (ZG (Zr c 0))))),true):=by kernel_rfl):Wc X c:=by
 simp only [Prod.mk.injEq] at hp
 obtain ⟨h1,h2,h3,h4,h5,h6,h7,h8,h9⟩:=hp
 obtain ⟨h0,hn⟩:=Yp h1
 exact Wc.ev (d:=d1 c (.c (.bp (ZG (Zr c 0)) (Xl (Zr c 0))))) h0 (Ys h2 rfl) (fun nk E0 F0 w0 n0 Z rest K ho hg h=>WPr.cvp (X:=X.var nk E0 F0 w0 n0 Z) ho hg h3 h2 h4 h5 h6 h7 h8 h9 hn h) k
theorem eNe {f:FuncId} {fn:Func} {c:Cf} (hf:X.P.funcs[f]? = some fn) (hname:(fn.name == "runtime.NumGoroutine")=false) (hb:fn.body.isNone=true) (hnx:Extern.findNext fn=none) (he:Extern.find fn=some Extern.AbiNoEscape.same) (k:Wc X (nSm c))
  (hp:(hB X.fn.ntmps c,(Zl c).dst,(Zl c).op,Zr c 0)=(true,some (ZV c),.call { callee:=.value (.func f),args:=#[ZM (Zl c).op 0],argTypes:=Ma (Zl c).op },some (.c (.bp (ZG (Zr c 0)) (Xl (Zr c 0))))):=by kernel_rfl):Wc X c:=by
 simp only [Prod.mk.injEq] at hp
 obtain ⟨h1,h2,h3,h4⟩:=hp
 obtain ⟨h0,hn⟩:=Yp h1
 exact Wc.ev (d:=d1 c (.c (.bp (ZG (Zr c 0)) (Xl (Zr c 0))))) h0 (Ys h2 rfl) (fun nk E0 F0 w0 n0 Z rest K ho hg h=>WPr.nes (X:=X.var nk E0 F0 w0 n0 Z) hf hname hb hnx he ho hg h3 h2 h4 hn h) k
end
end Go.Kx
end
