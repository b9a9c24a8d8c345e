/- How typed values lie in the machine, and the types of the program. -/
import Derived.Test.YtbaebccneokflaaGreatDoorChecked
import Derived.Test.YtbaebccneokflaaGreatDoorGuardLeastPure
set_option linter.all false
section
open Go Go.Kx Go.Proofs
namespace Gx
abbrev rR4:TRep T4:=rM (fun x=>(x.Kind,x.Lo,x.Hi)) (rP (rI .i64) (rP (rI .i64) (rI .i64)))
abbrev oO4:Opn rR4:=oM _ (oP (oI .i64) (oP (oI .i64) (oI .i64)))
abbrev rR2:TRep T2:=rM (fun x=>(x.Name,x.Sort')) (rP rS rR4)
abbrev oO2:Opn rR2:=oM _ (oP oS oO4)
abbrev rR1:TRep T1:=rM (fun x=>(x.X,x.Y,x.C)) (rP (rI .i64) (rP (rI .i64) (rI .i64)))
abbrev oO1:Opn rR1:=oM _ (oP (oI .i64) (oP (oI .i64) (oI .i64)))
abbrev rR3:TRep T3:=rM (fun x=>(x.Diffs,x.Equals)) (rP (rSl rR1) (rSl (rP (rI .i64) (rI .i64))))
abbrev oO3:Opn rR3:=oM _ (oP (oSl rR1) (oSl (rP (rI .i64) (rI .i64))))
abbrev rR0:TRep T0:=rM (fun x=>(x.Name,x.Fields,x.First,x.Guard)) (rP rS (rP (rSl rR2) (rP (rI .i64) rR3)))
abbrev oO0:Opn rR0:=oM _ (oP oS (oP (oSl rR2) (oP (oI .i64) oO3)))
abbrev rR5:TRep T5:=rM (fun x=>(x.Kind,x.N,x.S)) (rP (rI .i64) (rP (rI .i64) rS))
abbrev oO5:Opn rR5:=oM _ (oP (oI .i64) (oP (oI .i64) oS))
abbrev rR8:TRep T8:=rM (fun x=>(x.N,x.B)) (rP (rI .i64) (rSl (rI .i64)))
abbrev oO8:Opn rR8:=oM _ (oP (oI .i64) (oSl (rI .i64)))
abbrev rR7:TRep T7:=rM (fun x=>(x.N,x.B)) (rP (rI .i64) (rSl (rI .i64)))
abbrev oO7:Opn rR7:=oM _ (oP (oI .i64) (oSl (rI .i64)))
abbrev rR6:TRep T6:=rM (fun x=>(x.Values,x.Known)) (rP (rSl rR5) (rSl rR5))
abbrev oO6:Opn rR6:=oM _ (oP (oSl rR5) (oSl rR5))
end Gx
namespace Go.Kx
abbrev SV.I (n:Int):SV:=.c (.i .i64 n)
abbrev SC.I (n:Int):SC:=.i .i64 n
abbrev SV.O (b:Bool):SV:=.c (.b b)
abbrev SV.B (k o:Nat):SV:=.c (.bp k o)
abbrev SV.P (k o:Nat):SV:=.c (.px k o)
abbrev SV.S (k:Nat):SV:=.c (.sl k)
end Go.Kx
namespace Gx
def rg (a:Nat):Nat→List Nat
  | 0=>[]
  | n+1=>a::rg (a+1) n
abbrev cC4 (e:T4):List SC:=[.i .i64 e.Kind,.i .i64 e.Lo,.i .i64 e.Hi]
abbrev cC2 (e:T2):List SC:=[.s e.Name,.i .i64 e.Sort'.Kind,.i .i64 e.Sort'.Lo,.i .i64 e.Sort'.Hi]
abbrev cC1 (e:T1):List SC:=[.i .i64 e.X,.i .i64 e.Y,.i .i64 e.C]
abbrev cC0 (k0 k1 k2:Nat) (e:T0):List SC:=[.s e.Name,.sl k0,.i .i64 e.First,.sl k1,.sl k2]
abbrev vV0 (k0 k1 k2:Nat) (e:T0) (l:List (Nat × VF)):List (Nat × VF):=(k0,.sl rR2 e.Fields)::(k1,.sl rR1 e.Guard.Diffs)::(k2,.sl (rP (rI .i64) (rI .i64)) e.Guard.Equals)::l
abbrev cC5 (e:T5):List SC:=[.i .i64 e.Kind,.i .i64 e.N,.s e.S]
def tt:List (Nat × TD):=[
 (3,{ sz:=1,byt:=8,ag:=false,z:=[.i .i64 (0:Int)],kd:=3,ik:=some .i64 }),
 (4,{ sz:=1,byt:=1,ag:=false,z:=[.b false],kd:=1 }),
 (5,{ sz:=1,byt:=1,ag:=false,z:=[.i .u8 (0:Int)],kd:=3,ik:=some .u8 }),
 (9,{ sz:=1,byt:=16,ag:=false,z:=[.s (str [])],kd:=2 }),
 (21,{ sz:=1,byt:=4,ag:=false,z:=[.i .i32 (0:Int)],kd:=3,ik:=some .i32 }),
 (22,{ sz:=1,byt:=24,ag:=false,z:=[.nil],kd:=6,es:=5,eb:=96,el:=44 }),
 (23,{ sz:=1,byt:=24,ag:=false,z:=[.nil],kd:=6,es:=3,eb:=32,el:=46 }),
 (31,{ sz:=2,byt:=48,ag:=true,z:=[.nil,.nil],kd:=4,fo:=[(0,1,false),(1,1,false)] }),
 (33,{ sz:=1,byt:=24,ag:=false,z:=[.nil],kd:=6,es:=1,eb:=8,el:=3 }),
 (38,{ sz:=1,byt:=24,ag:=false,z:=[.nil],kd:=6,es:=4,eb:=40,el:=89 }),
 (39,{ sz:=1,byt:=24,ag:=false,z:=[.nil],kd:=6,es:=3,eb:=24,el:=48 }),
 (40,{ sz:=1,byt:=24,ag:=false,z:=[.nil],kd:=6,es:=2,eb:=16,el:=49 }),
 (42,{ sz:=2,byt:=48,ag:=true,z:=[.nil,.nil],kd:=4,fo:=[(0,1,false),(1,1,false)] }),
 (44,{ sz:=5,byt:=96,ag:=true,z:=[.s (str []),.nil,.i .i64 (0:Int),.nil,.nil],kd:=4,fo:=[(0,1,false),(1,1,false),(2,1,false),(3,2,true)] }),
 (46,{ sz:=3,byt:=32,ag:=true,z:=[.i .i64 (0:Int),.i .i64 (0:Int),.s (str [])],kd:=4,fo:=[(0,1,false),(1,1,false),(2,1,false)] }),
 (48,{ sz:=3,byt:=24,ag:=true,z:=[.i .i64 (0:Int),.i .i64 (0:Int),.i .i64 (0:Int)],kd:=4,fo:=[(0,1,false),(1,1,false),(2,1,false)] }),
 (49,{ sz:=2,byt:=16,ag:=true,z:=[.i .i64 (0:Int),.i .i64 (0:Int)],kd:=5,n:=2,es:=1,el:=3 }),
 (51,{ sz:=1,byt:=24,ag:=false,z:=[.nil],kd:=6,es:=1,eb:=16,el:=9 }),
 (78,{ sz:=2,byt:=32,ag:=true,z:=[.i .i64 (0:Int),.nil],kd:=4,fo:=[(0,1,false),(1,1,false)] }),
 (87,{ sz:=3,byt:=24,ag:=true,z:=[.i .i64 (0:Int),.i .i64 (0:Int),.i .i64 (0:Int)],kd:=4,fo:=[(0,1,false),(1,1,false),(2,1,false)] }),
 (89,{ sz:=4,byt:=40,ag:=true,z:=[.s (str []),.i .i64 (0:Int),.i .i64 (0:Int),.i .i64 (0:Int)],kd:=4,fo:=[(0,1,false),(1,3,true)] }),
 (96,{ sz:=1,byt:=24,ag:=false,z:=[.nil],kd:=6,es:=1,eb:=1,el:=4 }),
 (99,{ sz:=2,byt:=32,ag:=true,z:=[.i .i64 (0:Int),.nil],kd:=4,fo:=[(0,1,false),(1,1,false)] }),
 (263,{ sz:=28,byt:=448,ag:=true,z:=[.s (str []),.s (str []),.s (str []),.s (str []),.s (str []),.s (str []),.s (str []),.s (str []),.s (str []),.s (str []),.s (str []),.s (str []),.s (str []),.s (str []),.s (str []),.s (str []),.s (str []),.s (str []),.s (str []),.s (str []),.s (str []),.s (str []),.s (str []),.s (str []),.s (str []),.s (str []),.s (str []),.s (str [])],kd:=5,n:=28,es:=1,el:=9 })]
theorem htt:TTOk Tryz.prog tt:=by
  unfold tt
  exact ⟨⟨by kernel_rfl,by kernel_rfl,by kernel_rfl,by kernel_rfl⟩,
    ⟨by kernel_rfl,by kernel_rfl,by kernel_rfl,by kernel_rfl⟩,
    ⟨by kernel_rfl,by kernel_rfl,by kernel_rfl,by kernel_rfl⟩,
    ⟨by kernel_rfl,by kernel_rfl,by kernel_rfl,by kernel_rfl⟩,
    ⟨by kernel_rfl,by kernel_rfl,by kernel_rfl,by kernel_rfl⟩,
    ⟨by kernel_rfl,by kernel_rfl,by kernel_rfl,by kernel_rfl⟩,
    ⟨by kernel_rfl,by kernel_rfl,by kernel_rfl,by kernel_rfl⟩,
    ⟨by kernel_rfl,by kernel_rfl,by kernel_rfl,by kernel_rfl⟩,
    ⟨by kernel_rfl,by kernel_rfl,by kernel_rfl,by kernel_rfl⟩,
    ⟨by kernel_rfl,by kernel_rfl,by kernel_rfl,by kernel_rfl⟩,
    ⟨by kernel_rfl,by kernel_rfl,by kernel_rfl,by kernel_rfl⟩,
    ⟨by kernel_rfl,by kernel_rfl,by kernel_rfl,by kernel_rfl⟩,
    ⟨by kernel_rfl,by kernel_rfl,by kernel_rfl,by kernel_rfl⟩,
    ⟨by kernel_rfl,by kernel_rfl,by kernel_rfl,by kernel_rfl⟩,
    ⟨by kernel_rfl,by kernel_rfl,by kernel_rfl,by kernel_rfl⟩,
    ⟨by kernel_rfl,by kernel_rfl,by kernel_rfl,by kernel_rfl⟩,
    ⟨by kernel_rfl,by kernel_rfl,by kernel_rfl,by kernel_rfl⟩,
    ⟨by kernel_rfl,by kernel_rfl,by kernel_rfl,by kernel_rfl⟩,
    ⟨by kernel_rfl,by kernel_rfl,by kernel_rfl,by kernel_rfl⟩,
    ⟨by kernel_rfl,by kernel_rfl,by kernel_rfl,by kernel_rfl⟩,
    ⟨by kernel_rfl,by kernel_rfl,by kernel_rfl,by kernel_rfl⟩,
    ⟨by kernel_rfl,by kernel_rfl,by kernel_rfl,by kernel_rfl⟩,
    ⟨by kernel_rfl,by kernel_rfl,by kernel_rfl,by kernel_rfl⟩,
    ⟨by kernel_rfl,by kernel_rfl,by kernel_rfl,by kernel_rfl⟩,trivial⟩
def J:=@htt
theorem Q {α:Sort _} {a:α}:a=a:=rfl
theorem wx {X:Ctx} {s:St} {ops:Array Oper} {todo:Act→World→Prop} {tt:List (Nat × TD)} (s':St) (htt:TTOk X.P tt) (n:Nat) {idx:List Nat} (k:WPr X ops [] todo s') (h:(silN tt X.fn.ntmps ops n idx s).map (fun p=>(p.1,restS p.2 s'))=some ([],s'):=by kernel_rfl):WPr X ops idx todo s:=WPr.silx [] s' htt n h k
theorem xw {X:Ctx} {s:St} {ops:Array Oper} {todo:Act→World→Prop} {tt:List (Nat × TD)} (idx':List Nat) (s':St) (htt:TTOk X.P tt) (n:Nat) {idx:List Nat} (k:WPr X ops idx' todo s') (h:(silN tt X.fn.ntmps ops n idx s).map (fun p=>(p.1,restS p.2 s'))=some (idx',s'):=by kernel_rfl):WPr X ops idx todo s:=WPr.silx idx' s' htt n h k
theorem qx {X:Ctx} {s:St} {ops:Array Oper} {todo:List Item} {tt:List (Nat × TD)} (s':St) (htt:TTOk X.P tt) (n:Nat) {idx:List Nat} (k:WPq X ops [] todo s') (h:(silQ tt X.fn.ntmps ops n idx s).map (fun p=>(p.1,restS p.2 s'))=some ([],s'):=by kernel_rfl):WPq X ops idx todo s:=WPq.silx [] s' htt n h k
theorem xq {X:Ctx} {s:St} {ops:Array Oper} {todo:List Item} {tt:List (Nat × TD)} (idx':List Nat) (s':St) (htt:TTOk X.P tt) (n:Nat) {idx:List Nat} (k:WPq X ops idx' todo s') (h:(silQ tt X.fn.ntmps ops n idx s).map (fun p=>(p.1,restS p.2 s'))=some (idx',s'):=by kernel_rfl):WPq X ops idx todo s:=WPq.silx idx' s' htt n h k
theorem wR {X:Ctx} {s s':St} {ops:Array Oper} {k':List Item} {tt:List (Nat × TD)} {id:Nat} {c:Code} (htt:TTOk X.P tt) (n:Nat) (h:silN tt X.fn.ntmps ops n (List.range ops.size) s=some ([],s')) (k:WP X (.code c::k') s'):WP X (.code (.seq (.region id ops false) c)::k') s:=WP.seq (WP.region (WPr.sil htt n h (WPr.nil k)))
theorem wS {X:Ctx} {s s':St} {ops:Array Oper} {k':List Item} {tt:List (Nat × TD)} {id:Nat} (htt:TTOk X.P tt) (n:Nat) (h:silN tt X.fn.ntmps ops n (List.range ops.size) s=some ([],s')) (k:WP X k' s'):WP X (.code (.region id ops false)::k') s:=WP.region (WPr.sil htt n h (WPr.nil k))
theorem wV {X:Ctx} {s:St} {ops:Array Oper} {k':List Item} {tt:List (Nat × TD)} {id:Nat} {c:Code} (s':St) (htt:TTOk X.P tt) (n:Nat) (k:WP X (.code c::k') s') (h:(silN tt X.fn.ntmps ops n (List.range ops.size) s).map (fun p=>(p.1,restS p.2 s'))=some ([],s'):=by kernel_rfl):WP X (.code (.seq (.region id ops false) c)::k') s:=WP.seq (WP.region (WPr.silx [] s' htt n h (WPr.nil k)))
theorem wT {X:Ctx} {s:St} {ops:Array Oper} {k':List Item} {tt:List (Nat × TD)} {id:Nat} (s':St) (htt:TTOk X.P tt) (n:Nat) (k:WP X k' s') (h:(silN tt X.fn.ntmps ops n (List.range ops.size) s).map (fun p=>(p.1,restS p.2 s'))=some ([],s'):=by kernel_rfl):WP X (.code (.region id ops false)::k') s:=WP.region (WPr.silx [] s' htt n h (WPr.nil k))
theorem wF {P:Program} {f:FuncId} {c:Ct} {fn:Func} {body:Code} (hf:P.funcs[f]? = some fn) (hb:fn.body=some body) (hw:(wfb (numL 0 c.args) c.M0 c.V0 c.nk && c.M0.all (fun p => !p.2.isFresh) && Nat.ble c.args.length fn.ntmps)=true) (h:∀ E F w,WP (c.ctx P f fn E F w) [.code body] ⟨numL 0 c.args,c.M0,c.V0,c.nk⟩) (hn:(fn.name == "runtime.NumGoroutine")=false:=by kernel_rfl):Fn P f c:=Fn.intro fn body hf hb hn hw h
theorem wU {X:Ctx} {s:St} {todo:List Item} {t:St} (k:WP X todo t) (hL:t.L.map (fun p=>look s.L p.1)=t.L.map (fun p=>some (renV ⟨[],0,0⟩ p.2)):=by exact rfl) (hV:t.V.map (fun p=>findV s ⟨[],0,0⟩ p.1 p.2)=t.V.map (fun p=>some p.2):=by exact rfl) (hM:t.M.map (fun p=>findM s ⟨[],0,0⟩ p.1 p.2)=t.M.map (fun p=>some (renM ⟨[],0,0⟩ p.2)):=by exact rfl) (hc:(t.L.all (fun p=>okV ⟨[],0,0⟩ p.2) && nodupB (t.M.filterMap fun p=>keyM ⟨[],0,0⟩ p.1 p.2) && nodupB (t.M.map (·.1)) && wfb t.L t.M t.V t.nx && ([]:List (Nat × SC)).all (fun p=>Nat.ble X.nk p.1 && p.2.kbb s.nx) && Nat.ble X.nk t.nx)=true:=by exact rfl):WP X todo s:=WP.sub [] k hL hV hM hc
theorem wL {X:Ctx} {ops:Array Oper} {tt:List (Nat × TD)} {i:Nat} {e:Ent} (htt:TTOk X.P tt) {o:Oper} {p:List Nat × St} (ho:ops[i]? = some o:=by exact rfl) (hd:e.dL.map (·.1)=o.dst.toList:=by exact rfl) (hg:guardV ops e.L o=some true:=by exact rfl) (h:silN tt X.fn.ntmps ops 1 [i] e.s=some p:=by exact rfl) (h1:p.1=[]:=by exact rfl) (hr:(p.2.nx,restL p.2.L e.dL,restL p.2.M (e.dM++e.R),restL p.2.V e.dV)=(e.k1,e.dL,e.dM++e.R,e.dV):=by exact rfl):LS X ops i e:=LS.sil htt ho hd hg h h1 hr
def ws:=@WPr.sil
def wn:=@WPr.nil
def wq:=@WP.seq
def wg:=@WP.region
def wt:=@WP.condT
def wf:=@WP.condF
def wu:=@WP.sub
def wi:=@WP.skip
def wb:=@WP.inBlock
def wy:=@WPr.kb
def wc:=@WPr.call
def we:=@WP.ret
def wo:=@WP.block
def qy:=@WPq.kb
def qn:=@WPq.nil
def qc:=@WPq.call
def wj:=@WPr.ix
def wz:=@WP.exit
def wD:=@WP.regionD
def wQ:=@WP.regionQ
def wO:=@LS.of
def wX:=@WPr.ixo
def wd:=@WPr.ldo
def wC:=@WP.cut
def wI:=@WP.loopI
def wN:=@WP.nm
abbrev zz0:=fun L=>(⟨L,[],[],0⟩:St)
abbrev zz1:=fun L K=>(⟨L,[],[],[],7,K,[],[],7⟩:Ent)
abbrev zz2:=fun L K=>(⟨L,[],[],[],5,K,[],[],5⟩:Ent)
abbrev zz3:=fun L K=>(⟨L,[],[],[],8,K,[],[],8⟩:Ent)
abbrev zz4:=fun x0 x1 x2 L=>(⟨L,[(2,.box [.I 0,.nil] 78),(3,.own (rI .i64) x0 true),(4,.box [.I x1,.sl 3] 78)],[(0,.sl (rI .i64) x2)],5⟩:St)
abbrev zz5:=fun x0 L=>(⟨L,[(0,.own rS x0 true)],[],1⟩:St)
abbrev zz6:=fun L K=>(⟨L,[],[],[],6,K,[],[],6⟩:Ent)
abbrev zz7:=fun x0 L=>(⟨L,[],[(0,.sl (rI .i64) x0)],2⟩:St)
abbrev zz8:=fun x0 L=>(⟨L,[],[(0,.sl rS x0)],1⟩:St)
abbrev zz9:=fun L=>(⟨L,[],[],1⟩:St)
abbrev zz10:=fun L K=>(⟨L,[],[],[],3,K,[],[],3⟩:Ent)
abbrev zz11:=fun x0 x1 x2 L=>(⟨L,[(3,.own rR5 x0 false),(4,.box (cC0 0 1 2 x1) 44),(5,.own rB x2 true)],(vV0 0 1 2 x1 []),6⟩:St)
abbrev zz12:=fun x0 x1 x2 x3 x4 x5 x6 x7 L=>(⟨L,[(6,.box (cC0 3 4 5 x0) 44),(8,.box [.I x1,.sl 10] 78),(9,.own rR1 x2 true),(13,.box [.I x3,.I x4] 49)],((0,.sl rR0 x5)::(1,.sl rR5 x6)::vV0 3 4 5 x0 [(10,.sl (rI .i64) x7)]),14⟩:St)
abbrev zz13:=fun x0 L=>(⟨L,[],[(0,.sl rR0 x0)],1⟩:St)
abbrev zz14:=fun x0 L=>(⟨L,[(0,.abs x0)],[],1⟩:St)
abbrev zz15:=fun x0 x1 L=>(⟨L,[(0,.box [.I 0,.nil] 78),(1,.own (rI .i64) x0 true),(2,.box [.I x1,.sl 1] 78)],[],3⟩:St)
abbrev zz16:=fun x0 x1 x2 L=>(⟨L,[],[(0,.sl rR0 x0),(1,.sl rR5 x1),(2,.sl rR5 x2)],3⟩:St)
abbrev zz17:=fun x0 x1 x2 L=>(⟨L,[(1,.own rR2 x0 true),(6,.box (cC0 3 4 5 x1) 44)],((0,.sl rR0 x2)::vV0 3 4 5 x1 []),7⟩:St)
abbrev zz18:=fun x0 L=>(⟨L,[(0,.own rS x0 true)],[],2⟩:St)
abbrev zz19:=fun x0 x1 x2 x3 L=>(⟨L,[(3,.box [.sl 1,.sl 2] 31),(4,.own rR5 x0 true)],[(0,.sl rR0 x1),(1,.sl rR5 x2),(2,.sl rR5 x3)],5⟩:St)
abbrev zz20:=fun x0 x1 x2 x3 x4 L=>(⟨L,[(5,.own (rI .i64) x0 true),(6,.own (rI .i64) x1 true)],[(0,.sl rR0 x2),(1,.sl rR5 x3),(2,.sl rR5 x4)],7⟩:St)
abbrev zz21:=fun x0 x1 L=>(⟨L,[(1,.box (cC0 2 3 4 x0) 44)],((0,.sl rR0 x1)::vV0 2 3 4 x0 []),5⟩:St)
abbrev zz22:=fun x0 x1 L=>(⟨L,[(1,.box (cC2 x0) 89)],[(0,.sl rR2 x1)],2⟩:St)
abbrev zz23:=fun x0 x1 x2 L=>(⟨L,[],[(0,.sl rR1 x0),(1,.sl (rP (rI .i64) (rI .i64)) x1),(2,.sl rR2 x2)],6⟩:St)
abbrev zz24:=fun x0 x1 L=>(⟨L,[],[(0,.sl rR0 x0),(1,.sl rR5 x1)],2⟩:St)
abbrev zz25:=fun x0 x1 x2 L=>(⟨L,[(1,.box [.I x0,.sl 0] 78),(2,.box (cC1 x1) 48),(3,.box [.I 0,.nil] 78)],[(0,.sl (rI .i64) x2)],4⟩:St)
abbrev zz26:=fun x0 x1 x2 x3 L=>(⟨L,[(3,.box [.I x0,.sl 2] 78),(5,.own (rI .i64) x1 true)],[(0,.sl (rI .i64) x2),(2,.sl (rI .i64) x3)],6⟩:St)
abbrev zz27:=fun x0 x1 L=>(⟨L,[(1,.own rR2 x0 true)],[(0,.sl rR0 x1)],2⟩:St)
abbrev zz28:=fun x0 L=>(⟨L,[(0,.box (cC4 x0) 87)],[],1⟩:St)
abbrev zz29:=fun x0 x1 x2 L=>(⟨L,[(3,.box [.sl 0,.sl 1] 42)],[(0,.sl rR1 x0),(1,.sl (rP (rI .i64) (rI .i64)) x1),(2,.sl rR2 x2)],4⟩:St)
abbrev zz30:=fun L=>(⟨L,[(0,.box [.I 0,.nil] 78)],[],1⟩:St)
abbrev zz31:=fun x0 x1 L=>(⟨L,[(1,.box [.I x0,.sl 0] 78)],[(0,.sl (rI .i64) x1)],2⟩:St)
abbrev zz32:=fun x0 x1 x2 x3 x4 L=>(⟨L,[(3,.own rR5 x0 false),(4,.box (cC0 0 1 2 x1) 44),(5,.own rB x2 true),(7,.box [.I x3,.I x4] 49)],(vV0 0 1 2 x1 []),8⟩:St)
abbrev zz33:=fun L K=>(⟨L,[],[],[],10,K,[],[],10⟩:Ent)
abbrev zz34:=fun L K=>(⟨L,[],[],[],15,K,[],[],15⟩:Ent)
abbrev zz35:=fun L K=>(⟨L,[],[],[],9,K,[],[],9⟩:Ent)
abbrev zz36:=fun x0 x1 x2 L=>(⟨L,[(1,.own rR2 x0 true),(6,.box (cC0 3 4 5 x1) 44)],((0,.sl rR0 x2)::vV0 3 4 5 x1 []),8⟩:St)
abbrev zz37:=fun x0 L=>(⟨L,[(1,.box (cC5 x0) 46)],[],2⟩:St)
abbrev zz38:=fun x0 L=>(⟨L,[],[(0,.sl (rI .i64) x0)],3⟩:St)
abbrev zz39:=fun x0 x1 x2 x3 x4 x5 L=>(⟨L,[(3,.box [.sl 0,.sl 1] 42),(5,.box (cC1 x0) 48),(6,.box [.I x1,.I x2] 49)],[(0,.sl rR1 x3),(1,.sl (rP (rI .i64) (rI .i64)) x4),(2,.sl rR5 x5)],7⟩:St)
abbrev zz40:=fun x0 x1 x2 L=>(⟨L,[(3,.box [.sl 1,.sl 2] 31)],[(0,.sl rR0 x0),(1,.sl rR5 x1),(2,.sl rR5 x2)],4⟩:St)
abbrev zz41:=fun x0 x1 x2 x3 L=>(⟨L,[(3,.box [.sl 0,.sl 1] 42),(5,.box (cC1 x0) 48)],[(0,.sl rR1 x1),(1,.sl (rP (rI .i64) (rI .i64)) x2),(2,.sl rR2 x3)],6⟩:St)
abbrev zz42:=fun x0 x1 x2 L=>(⟨L,[(3,.box [.sl 0,.sl 1] 42)],[(0,.sl rR1 x0),(1,.sl (rP (rI .i64) (rI .i64)) x1),(2,.sl rR2 x2)],6⟩:St)
abbrev zz43:=fun x0 x1 x2 x3 L=>(⟨L,[(1,.own rR2 x0 true),(6,.box (cC0 3 4 5 x1) 44),(9,.box (cC2 x2) 89)],((0,.sl rR0 x3)::vV0 3 4 5 x1 []),10⟩:St)
abbrev zz44:=fun x0 x1 x2 L=>(⟨L,[(2,.own rR2 x0 true)],[(0,.sl rR0 x1),(1,.sl rR5 x2)],3⟩:St)
abbrev zz45:=fun x0 L K=>(⟨L,[],[],[(4,.box [.I x0,.sl 3] 78)],5,K,[],[],5⟩:Ent)
abbrev zz46:=fun x0 x1 L=>(⟨L,[],[(0,.sl rR2 x0),(1,.sl rR5 x1)],2⟩:St)
abbrev zz47:=fun x0 x1 x2 x3 x4 x5 x6 x7 L=>(⟨L,[(6,.box (cC0 3 4 5 x0) 44),(8,.box [.I x1,.sl 10] 78),(9,.own rR1 x2 true),(13,.box [.I x3,.I x4] 49)],((0,.sl rR0 x5)::(1,.sl rR5 x6)::vV0 3 4 5 x0 [(10,.sl (rI .i64) x7)]),15⟩:St)
abbrev zz48:=fun x0 x1 L=>(⟨L,[(1,.own (rI .i64) x0 true)],[(0,.sl rR5 x1)],2⟩:St)
abbrev zz49:=fun L K=>(⟨L,[],[],[],11,K,[],[],11⟩:Ent)
abbrev zz50:=fun x0 x1 x2 L=>(⟨L,[],[(0,.sl rR1 x0),(1,.sl (rP (rI .i64) (rI .i64)) x1),(2,.sl rR2 x2)],4⟩:St)
abbrev zz51:=fun x0 x1 L=>(⟨L,[(0,.box (cC4 x0) 87),(1,.box (cC5 x1) 46)],[],2⟩:St)
abbrev zz52:=fun x0 x1 L=>(⟨L,[(3,.box (cC0 0 1 2 x0) 44),(4,.own rR1 x1 true)],(vV0 0 1 2 x0 []),5⟩:St)
abbrev zz53:=fun x0 x1 x2 x3 L=>(⟨L,[(6,.own rR1 x0 true),(8,.box [.I x1,.I x2] 49)],(vV0 0 1 2 x3 []),9⟩:St)
abbrev zz54:=fun x0 L=>(⟨L,[(3,.box [.I 0,.nil] 78)],[(0,.sl (rI .i64) x0)],4⟩:St)
abbrev zz55:=fun x0 x1 L=>(⟨L,[(1,.box [.I x0,.sl 0] 78),(2,.box [.I 0,.nil] 78)],[(0,.sl (rI .i64) x1)],3⟩:St)
abbrev zz56:=fun x0 x1 x2 x3 L=>(⟨L,[(3,.box [.I x0,.sl 2] 78),(5,.own (rI .i64) x1 true)],[(0,.sl (rI .i64) x2),(2,.sl (rI .i64) x3)],7⟩:St)
abbrev zz57:=fun x0 x1 x2 L=>(⟨L,[(3,.own rR5 x0 false),(4,.box (cC0 0 1 2 x1) 44),(5,.own rB x2 true)],(vV0 0 1 2 x1 []),8⟩:St)
abbrev zz58:=fun x0 x1 x2 L=>(⟨L,[(3,.own rR5 x0 false),(4,.box (cC0 0 1 2 x1) 44),(5,.own rB x2 true)],(vV0 0 1 2 x1 []),7⟩:St)
abbrev zz59:=fun x0 x1 x2 L=>(⟨L,[(3,.box [.sl 0,.sl 1] 42)],[(0,.sl rR1 x0),(1,.sl (rP (rI .i64) (rI .i64)) x1),(2,.sl rR5 x2)],4⟩:St)
abbrev zz60:=fun x0 x1 x2 L=>(⟨L,[],[(0,.sl rR1 x0),(1,.sl (rP (rI .i64) (rI .i64)) x1),(2,.sl rR5 x2)],4⟩:St)
abbrev zz61:=fun x0 x1 x2 x3 x4 x5 L=>(⟨L,[(3,.box [.sl 0,.sl 1] 42),(5,.box (cC1 x0) 48),(6,.box [.I x1,.I x2] 49)],[(0,.sl rR1 x3),(1,.sl (rP (rI .i64) (rI .i64)) x4),(2,.sl rR5 x5)],9⟩:St)
abbrev zz62:=fun x0 x1 x2 x3 x4 L=>(⟨L,[(6,.box (cC0 3 4 5 x0) 44),(12,.own rR5 x1 true),(13,.own rR5 x2 true)],((0,.sl rR0 x3)::(1,.sl rR5 x4)::vV0 3 4 5 x0 []),14⟩:St)
abbrev zz63:=fun x0 x1 x2 L=>(⟨L,[(12,.own rR5 x0 true)],[(0,.sl rR0 x1),(1,.sl rR5 x2)],15⟩:St)
abbrev zz64:=fun x0 x1 x2 L=>(⟨L,[],[(0,.sl rR0 x0),(1,.sl rR5 x1),(2,.sl rR5 x2)],7⟩:St)
abbrev zz65:=fun L=>(⟨L,[(0,.box [.s (str [97,103,97,105,110]),.s (str [97,110,100]),.s (str [97,115]),.s (str [97,116]),.s (str [99,97,108,108]),.s (str [99,104,111,105,99,101]),.s (str [101,108,115,101]),.s (str [102,114,111,109]),.s (str [105,102]),.s (str [105,110,116]),.s (str [108,101,110]),.s (str [108,111,111,112]),.s (str [109,101,115,115,97,103,101]),.s (str [111,102]),.s (str [111,102,102,101,114]),.s (str [111,110]),.s (str [111,114]),.s (str [112,97,114]),.s (str [112,108,97,121,115]),.s (str [112,114,111,116,111,99,111,108]),.s (str [115,101,114,118,105,99,101]),.s (str [116,101,120,116]),.s (str [116,105,109,101,115]),.s (str [116,111]),.s (str [118,97,114]),.s (str [119,104,101,114,101]),.s (str [119,104,105,108,101]),.s (str [119,105,116,104,105,110])] 263)],[],1⟩:St)
abbrev zz66:=fun x0 x1 x2 L=>(⟨L,[(1,.own rR2 x0 true),(6,.box (cC0 3 4 5 x1) 44)],((0,.sl rR0 x2)::vV0 3 4 5 x1 []),10⟩:St)
abbrev zz67:=fun x0 x1 x2 x3 x4 L=>(⟨L,[(3,.own rR5 x0 false),(4,.box (cC0 0 1 2 x1) 44),(5,.own rB x2 true),(7,.box [.I x3,.I x4] 49)],(vV0 0 1 2 x1 []),9⟩:St)
abbrev zz68:=fun x0 x1 x2 x3 x4 L=>(⟨L,[(3,.own rR5 x0 false),(4,.box (cC0 0 1 2 x1) 44),(5,.own rB x2 true),(7,.box [.I x3,.I x4] 49)],(vV0 0 1 2 x1 []),10⟩:St)
abbrev zz69:=fun x0 x1 x2 x3 L=>(⟨L,[(3,.box [.sl 0,.sl 1] 42),(5,.box (cC1 x0) 48),(6,.box [.I 0,.I 0] 49)],[(0,.sl rR1 x1),(1,.sl (rP (rI .i64) (rI .i64)) x2),(2,.sl rR5 x3)],7⟩:St)
abbrev zz70:=fun x0 x1 x2 x3 x4 x5 L=>(⟨L,[(3,.box [.sl 0,.sl 1] 42),(5,.box (cC1 x0) 48),(6,.box [.I x1,.I x2] 49)],[(0,.sl rR1 x3),(1,.sl (rP (rI .i64) (rI .i64)) x4),(2,.sl rR5 x5)],8⟩:St)
abbrev zz71:=fun x0 x1 x2 x3 L=>(⟨L,[(6,.box (cC0 3 4 5 x0) 44),(11,.own (rI .i64) x1 true)],((0,.sl rR0 x2)::(1,.sl rR5 x3)::vV0 3 4 5 x0 []),12⟩:St)
abbrev zz72:=fun x0 x1 x2 x3 x4 L=>(⟨L,[(6,.box (cC0 3 4 5 x0) 44),(11,.own (rI .i64) x1 true),(12,.own rR5 x2 true)],((0,.sl rR0 x3)::(1,.sl rR5 x4)::vV0 3 4 5 x0 []),13⟩:St)
abbrev zz73:=fun x0 x1 x2 x3 L=>(⟨L,[(6,.box (cC0 3 4 5 x0) 44),(12,.own rR5 x1 true)],((0,.sl rR0 x2)::(1,.sl rR5 x3)::vV0 3 4 5 x0 []),13⟩:St)
abbrev zz74:=fun x0 x1 x2 x3 x4 L=>(⟨L,[(6,.box (cC0 3 4 5 x0) 44),(12,.own rR5 x1 true),(13,.own rR5 x2 true)],((0,.sl rR0 x3)::(1,.sl rR5 x4)::vV0 3 4 5 x0 []),15⟩:St)
abbrev zz75:=fun x0 x1 x2 x3 x4 L=>(⟨L,[(6,.box (cC0 3 4 5 x0) 44),(11,.own (rI .i64) x1 true),(12,.own rR5 x2 true)],((0,.sl rR0 x3)::(1,.sl rR5 x4)::vV0 3 4 5 x0 []),17⟩:St)
abbrev zz76:=fun x0 x1 x2 x3 x4 x5 x6 L=>(⟨L,[(6,.box (cC0 3 4 5 x0) 44),(8,.box [.I x1,.sl 10] 78),(9,.own rR1 x2 true),(12,.box (cC1 x3) 48)],((0,.sl rR0 x4)::(1,.sl rR5 x5)::vV0 3 4 5 x0 [(10,.sl (rI .i64) x6)]),13⟩:St)
abbrev zz77:=fun x0 x1 x2 x3 x4 x5 x6 x7 L=>(⟨L,[(6,.box (cC0 3 4 5 x0) 44),(8,.box [.I x1,.sl 10] 78),(9,.own rR1 x2 true),(13,.box [.I x3,.I x4] 49)],((0,.sl rR0 x5)::(1,.sl rR5 x6)::vV0 3 4 5 x0 [(10,.sl (rI .i64) x7)]),16⟩:St)
abbrev zz78:=fun x0 x1 x2 x3 x4 L=>(⟨L,[(5,.own (rI .i64) x0 true),(6,.own (rI .i64) x1 true)],[(0,.sl rR0 x2),(1,.sl rR5 x3),(2,.sl rR5 x4)],9⟩:St)
end Gx
end
