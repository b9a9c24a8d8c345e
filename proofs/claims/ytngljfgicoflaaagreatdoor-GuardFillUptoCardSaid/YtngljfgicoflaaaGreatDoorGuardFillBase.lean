/- How typed values lie in the machine, and the types of the program. -/
import Derived.Test.YtngljfgicoflaaaGreatDoorChecked
import Derived.Test.YtngljfgicoflaaaGreatDoorGuardFillPure
set_option linter.all false
section
open Go Go.Kx Go.Proofs
namespace Gx
abbrev rR4:TRep T4:=rM (fun x=>(x.Kind,x.Lo,x.Hi)) (rP (rI .i64) (rP (rI .i64) (rI .i64)))
abbrev oO4:Opn rR4:=oM _ (oP (oI .i64) (oP (oI .i64) (oI .i64)))
abbrev rR2:TRep T2:=rM (fun x=>(x.Name,x.Sort')) (rP rS rR4)
abbrev oO2:Opn rR2:=oM _ (oP oS oO4)
abbrev rR1:TRep T1:=rM (fun x=>(x.X,x.Y,x.C)) (rP (rI .i64) (rP (rI .i64) (rI .i64)))
abbrev oO1:Opn rR1:=oM _ (oP (oI .i64) (oP (oI .i64) (oI .i64)))
abbrev rR3:TRep T3:=rM (fun x=>(x.Diffs,x.Equals)) (rP (rSl rR1) (rSl (rP (rI .i64) (rI .i64))))
abbrev oO3:Opn rR3:=oM _ (oP (oSl rR1) (oSl (rP (rI .i64) (rI .i64))))
abbrev rR0:TRep T0:=rM (fun x=>(x.Name,x.Fields,x.First,x.Guard)) (rP rS (rP (rSl rR2) (rP (rI .i64) rR3)))
abbrev oO0:Opn rR0:=oM _ (oP oS (oP (oSl rR2) (oP (oI .i64) oO3)))
abbrev rR5:TRep T5:=rM (fun x=>(x.Kind,x.N,x.S)) (rP (rI .i64) (rP (rI .i64) rS))
abbrev oO5:Opn rR5:=oM _ (oP (oI .i64) (oP (oI .i64) oS))
abbrev rR6:TRep T6:=rM (fun x=>(x.N,x.B)) (rP (rI .i64) (rSl (rI .i64)))
abbrev oO6:Opn rR6:=oM _ (oP (oI .i64) (oSl (rI .i64)))
end Gx
namespace Go.Kx
abbrev SV.I (n:Int):SV:=.c (.i .i64 n)
abbrev SC.I (n:Int):SC:=.i .i64 n
abbrev SV.O (b:Bool):SV:=.c (.b b)
abbrev SV.B (k o:Nat):SV:=.c (.bp k o)
abbrev SV.P (k o:Nat):SV:=.c (.px k o)
abbrev SV.S (k:Nat):SV:=.c (.sl k)
end Go.Kx
namespace Gx
def rg (a:Nat):Nat→List Nat
  | 0=>[]
  | n+1=>a::rg (a+1) n
abbrev cC4 (e:T4):List SC:=[.i .i64 e.Kind,.i .i64 e.Lo,.i .i64 e.Hi]
abbrev cC2 (e:T2):List SC:=[.s e.Name,.i .i64 e.Sort'.Kind,.i .i64 e.Sort'.Lo,.i .i64 e.Sort'.Hi]
abbrev cC1 (e:T1):List SC:=[.i .i64 e.X,.i .i64 e.Y,.i .i64 e.C]
abbrev cC0 (k0 k1 k2:Nat) (e:T0):List SC:=[.s e.Name,.sl k0,.i .i64 e.First,.sl k1,.sl k2]
abbrev vV0 (k0 k1 k2:Nat) (e:T0) (l:List (Nat × VF)):List (Nat × VF):=(k0,.sl rR2 e.Fields)::(k1,.sl rR1 e.Guard.Diffs)::(k2,.sl (rP (rI .i64) (rI .i64)) e.Guard.Equals)::l
abbrev cC5 (e:T5):List SC:=[.i .i64 e.Kind,.i .i64 e.N,.s e.S]
abbrev cC6 (k0:Nat) (e:T6):List SC:=[.i .i64 e.N,.sl k0]
def tt:List (Nat × TD):=[
 (3,{ sz:=1,byt:=8,ag:=false,z:=[.i .i64 (0:Int)],kd:=3,ik:=some .i64 }),
 (4,{ sz:=1,byt:=1,ag:=false,z:=[.b false],kd:=1 }),
 (5,{ sz:=1,byt:=1,ag:=false,z:=[.i .u8 (0:Int)],kd:=3,ik:=some .u8 }),
 (9,{ sz:=1,byt:=16,ag:=false,z:=[.s (str [])],kd:=2 }),
 (21,{ sz:=1,byt:=4,ag:=false,z:=[.i .i32 (0:Int)],kd:=3,ik:=some .i32 }),
 (22,{ sz:=1,byt:=24,ag:=false,z:=[.nil],kd:=6,es:=5,eb:=96,el:=51 }),
 (23,{ sz:=1,byt:=24,ag:=false,z:=[.nil],kd:=6,es:=3,eb:=32,el:=42 }),
 (36,{ sz:=1,byt:=24,ag:=false,z:=[.nil],kd:=6,es:=1,eb:=16,el:=9 }),
 (42,{ sz:=3,byt:=32,ag:=true,z:=[.i .i64 (0:Int),.i .i64 (0:Int),.s (str [])],kd:=4,fo:=[(0,1,false),(1,1,false),(2,1,false)] }),
 (45,{ sz:=1,byt:=24,ag:=false,z:=[.nil],kd:=6,es:=4,eb:=40,el:=68 }),
 (46,{ sz:=1,byt:=24,ag:=false,z:=[.nil],kd:=6,es:=3,eb:=24,el:=59 }),
 (47,{ sz:=1,byt:=24,ag:=false,z:=[.nil],kd:=6,es:=2,eb:=16,el:=60 }),
 (49,{ sz:=2,byt:=48,ag:=true,z:=[.nil,.nil],kd:=4,fo:=[(0,1,false),(1,1,false)] }),
 (51,{ sz:=5,byt:=96,ag:=true,z:=[.s (str []),.nil,.i .i64 (0:Int),.nil,.nil],kd:=4,fo:=[(0,1,false),(1,1,false),(2,1,false),(3,2,true)] }),
 (52,{ sz:=1,byt:=24,ag:=false,z:=[.nil],kd:=6,es:=1,eb:=8,el:=3 }),
 (54,{ sz:=2,byt:=32,ag:=true,z:=[.i .i64 (0:Int),.nil],kd:=4,fo:=[(0,1,false),(1,1,false)] }),
 (59,{ sz:=3,byt:=24,ag:=true,z:=[.i .i64 (0:Int),.i .i64 (0:Int),.i .i64 (0:Int)],kd:=4,fo:=[(0,1,false),(1,1,false),(2,1,false)] }),
 (60,{ sz:=2,byt:=16,ag:=true,z:=[.i .i64 (0:Int),.i .i64 (0:Int)],kd:=5,n:=2,es:=1,el:=3 }),
 (66,{ sz:=3,byt:=24,ag:=true,z:=[.i .i64 (0:Int),.i .i64 (0:Int),.i .i64 (0:Int)],kd:=4,fo:=[(0,1,false),(1,1,false),(2,1,false)] }),
 (68,{ sz:=4,byt:=40,ag:=true,z:=[.s (str []),.i .i64 (0:Int),.i .i64 (0:Int),.i .i64 (0:Int)],kd:=4,fo:=[(0,1,false),(1,3,true)] }),
 (79,{ sz:=1,byt:=24,ag:=false,z:=[.nil],kd:=6,es:=1,eb:=1,el:=4 }),
 (82,{ sz:=2,byt:=32,ag:=true,z:=[.i .i64 (0:Int),.nil],kd:=4,fo:=[(0,1,false),(1,1,false)] }),
 (202,{ sz:=28,byt:=448,ag:=true,z:=[.s (str []),.s (str []),.s (str []),.s (str []),.s (str []),.s (str []),.s (str []),.s (str []),.s (str []),.s (str []),.s (str []),.s (str []),.s (str []),.s (str []),.s (str []),.s (str []),.s (str []),.s (str []),.s (str []),.s (str []),.s (str []),.s (str []),.s (str []),.s (str []),.s (str []),.s (str []),.s (str []),.s (str [])],kd:=5,n:=28,es:=1,el:=9 })]
theorem htt:TTOk Tryz.prog tt:=by
  unfold tt
  exact ⟨⟨by kernel_rfl,by kernel_rfl,by kernel_rfl,by kernel_rfl⟩,
    ⟨by kernel_rfl,by kernel_rfl,by kernel_rfl,by kernel_rfl⟩,
    ⟨by kernel_rfl,by kernel_rfl,by kernel_rfl,by kernel_rfl⟩,
    ⟨by kernel_rfl,by kernel_rfl,by kernel_rfl,by kernel_rfl⟩,
    ⟨by kernel_rfl,by kernel_rfl,by kernel_rfl,by kernel_rfl⟩,
    ⟨by kernel_rfl,by kernel_rfl,by kernel_rfl,by kernel_rfl⟩,
    ⟨by kernel_rfl,by kernel_rfl,by kernel_rfl,by kernel_rfl⟩,
    ⟨by kernel_rfl,by kernel_rfl,by kernel_rfl,by kernel_rfl⟩,
    ⟨by kernel_rfl,by kernel_rfl,by kernel_rfl,by kernel_rfl⟩,
    ⟨by kernel_rfl,by kernel_rfl,by kernel_rfl,by kernel_rfl⟩,
    ⟨by kernel_rfl,by kernel_rfl,by kernel_rfl,by kernel_rfl⟩,
    ⟨by kernel_rfl,by kernel_rfl,by kernel_rfl,by kernel_rfl⟩,
    ⟨by kernel_rfl,by kernel_rfl,by kernel_rfl,by kernel_rfl⟩,
    ⟨by kernel_rfl,by kernel_rfl,by kernel_rfl,by kernel_rfl⟩,
    ⟨by kernel_rfl,by kernel_rfl,by kernel_rfl,by kernel_rfl⟩,
    ⟨by kernel_rfl,by kernel_rfl,by kernel_rfl,by kernel_rfl⟩,
    ⟨by kernel_rfl,by kernel_rfl,by kernel_rfl,by kernel_rfl⟩,
    ⟨by kernel_rfl,by kernel_rfl,by kernel_rfl,by kernel_rfl⟩,
    ⟨by kernel_rfl,by kernel_rfl,by kernel_rfl,by kernel_rfl⟩,
    ⟨by kernel_rfl,by kernel_rfl,by kernel_rfl,by kernel_rfl⟩,
    ⟨by kernel_rfl,by kernel_rfl,by kernel_rfl,by kernel_rfl⟩,
    ⟨by kernel_rfl,by kernel_rfl,by kernel_rfl,by kernel_rfl⟩,
    ⟨by kernel_rfl,by kernel_rfl,by kernel_rfl,by kernel_rfl⟩,trivial⟩
def J:=@htt
theorem Q {α:Sort _} {a:α}:a=a:=rfl
theorem wH {X:Ctx} {tt:List (Nat × TD)} (htt:TTOk X.P tt) (n:Nat) {b t:Bool} (K:b=t) {c:Cf} (k:Wc X (setC t (adv tt X.fn.ntmps n c))) (hp:(look (adv tt X.fn.ntmps n c).st.L (slC (adv tt X.fn.ntmps n c)),stepC (adv tt X.fn.ntmps n c))=(some (.c (.b b)),wantC b (adv tt X.fn.ntmps n c)):=by kernel_rfl):Wc X c:=wa htt n (eK K k hp)
theorem wr {P:Program} {f:FuncId} {fn:Func} {ct:Ct} {E0:Env} {F0:FSet} {w0:World} {tt:List (Nat × TD)} (htt:TTOk P tt) (n:Nat) (hf:P.funcs[f]? = some fn) (l:List (Nat × SC)) {c:Cf}
    (hp:(retC (adv tt fn.ntmps n c),resV tt (adv tt fn.ntmps n c).st fn.results.toList,ct.V1.map (fun p=>findV (adv tt fn.ntmps n c).st ⟨l,0,0⟩ p.1 p.2),ct.M1.map (fun p=>findM (adv tt fn.ntmps n c).st ⟨l,0,0⟩ p.1 p.2),
        (okV ⟨l,0,0⟩ ct.res && nodupB (ct.M1.filterMap fun p=>keyM ⟨l,0,0⟩ p.1 p.2) && nodupB (ct.M1.map (·.1)) && l.all (fun p=>Nat.ble ct.nk p.1 && p.2.kbb (adv tt fn.ntmps n c).st.nx))) =
      (true,some (renV ⟨l,0,0⟩ ct.res),ct.V1.map (fun p=>some p.2),ct.M1.map (fun p=>some (renM ⟨l,0,0⟩ p.2)),true):=by kernel_rfl):Wc (ct.ctx P f fn E0 F0 w0) c:=wa (X:=ct.ctx P f fn E0 F0 w0) htt n (eRet htt hf l hp)
abbrev zz0:=fun L=>(⟨L,[],[],0⟩:St)
abbrev zz1:=fun x0 x1 x2 L=>(⟨L,[(2,.box [.I 0,.nil] 54),(3,.own (rI .i64) x0 true),(4,.box (cC6 3 x1) 54)],[(0,.sl (rI .i64) x2)],5⟩:St)
abbrev zz2:=fun x0 x1 x2 L=>(⟨L,[(2,.box [.I 0,.nil] 82),(4,.own (rI .i64) x0 true),(5,.box (cC6 4 x1) 82)],[(0,.sl (rI .i64) x2)],6⟩:St)
abbrev zz3:=fun x0 L=>(⟨L,[],[(0,.sl rR0 x0)],1⟩:St)
abbrev zz4:=fun x0 L=>(⟨L,[],[(0,.sl rS x0)],1⟩:St)
abbrev zz5:=fun x0 L=>(⟨L,[],[(0,.sl (rI .i64) x0)],2⟩:St)
abbrev zz6:=fun x0 x1 x2 L=>(⟨L,[(3,.own rR5 x0 false),(4,.box (cC0 0 1 2 x1) 51),(5,.own rB x2 true)],(vV0 0 1 2 x1 []),6⟩:St)
abbrev zz7:=fun x0 x1 x2 L=>(⟨L,[(3,.box [.sl 0,.sl 1] 49)],[(0,.sl rR1 x0),(1,.sl (rP (rI .i64) (rI .i64)) x1),(2,.sl rR5 x2)],4⟩:St)
abbrev zz8:=fun x0 x1 x2 x3 L=>(⟨L,[(4,.box (cC0 0 1 2 x0) 51),(5,.own rS x1 true),(6,.own rB x2 true)],(vV0 0 1 2 x0 [(3,.sl rR5 x3)]),7⟩:St)
abbrev zz9:=fun x0 L=>(⟨L,[(0,.own rS x0 true)],[],1⟩:St)
abbrev zz10:=fun x0 x1 L=>(⟨L,[(0,.box [.I 0,.nil] 54),(1,.own (rI .i64) x0 true),(2,.box [.I x1,.sl 1] 54)],[],3⟩:St)
abbrev zz11:=fun x0 x1 x2 L=>(⟨L,[(3,.box [.sl 1,.sl 2] 49)],[(0,.sl rR0 x0),(1,.sl rR1 x1),(2,.sl (rP (rI .i64) (rI .i64)) x2)],4⟩:St)
abbrev zz12:=fun x0 x1 L=>(⟨L,[(5,.box (cC0 2 3 4 x0) 51)],((0,.sl rR0 x1)::vV0 2 3 4 x0 []),6⟩:St)
abbrev zz13:=fun x0 x1 L=>(⟨L,[(1,.own rR2 x0 true)],[(0,.sl rR0 x1)],2⟩:St)
abbrev zz14:=fun x0 x1 x2 x3 L=>(⟨L,[(3,.box (cC6 2 x0) 54),(5,.own (rI .i64) x1 true)],[(0,.sl (rI .i64) x2),(2,.sl (rI .i64) x3)],6⟩:St)
abbrev zz15:=fun x0 x1 x2 L=>(⟨L,[],[(0,.sl rR1 x0),(1,.sl (rP (rI .i64) (rI .i64)) x1),(2,.sl rR5 x2)],4⟩:St)
abbrev zz16:=fun x0 x1 x2 x3 x4 x5 x6 x7 L=>(⟨L,[(6,.box (cC0 3 4 5 x0) 51),(8,.box [.I x1,.sl 10] 54),(9,.own rR1 x2 true),(13,.box [.I x3,.I x4] 60)],((0,.sl rR0 x5)::(1,.sl rR5 x6)::vV0 3 4 5 x0 [(10,.sl (rI .i64) x7)]),14⟩:St)
abbrev zz17:=fun x0 x1 L=>(⟨L,[(0,.box (cC4 x0) 66),(1,.box (cC5 x1) 42)],[],2⟩:St)
abbrev zz18:=fun x0 x1 x2 x3 L=>(⟨L,[(4,.box (cC0 0 1 2 x0) 51),(5,.own rS x1 true),(6,.own rB x2 true)],(vV0 0 1 2 x0 [(3,.sl rR5 x3)]),8⟩:St)
abbrev zz19:=fun x0 x1 x2 L=>(⟨L,[(3,.box [.sl 0,.sl 1] 49)],[(0,.sl rR1 x0),(1,.sl (rP (rI .i64) (rI .i64)) x1),(2,.sl rR2 x2)],4⟩:St)
abbrev zz20:=fun x0 x1 x2 L=>(⟨L,[(1,.own rR2 x0 true),(6,.box (cC0 3 4 5 x1) 51)],((0,.sl rR0 x2)::vV0 3 4 5 x1 []),8⟩:St)
abbrev zz21:=fun x0 x1 x2 x3 x4 L=>(⟨L,[(3,.own rR5 x0 false),(4,.box (cC0 0 1 2 x1) 51),(5,.own rB x2 true),(7,.box [.I x3,.I x4] 60)],(vV0 0 1 2 x1 []),8⟩:St)
abbrev zz22:=fun x0 x1 x2 x3 x4 x5 L=>(⟨L,[(3,.box [.sl 0,.sl 1] 49),(5,.box (cC1 x0) 59),(6,.box [.I x1,.I x2] 60)],[(0,.sl rR1 x3),(1,.sl (rP (rI .i64) (rI .i64)) x4),(2,.sl rR5 x5)],7⟩:St)
abbrev zz23:=fun x0 x1 x2 L=>(⟨L,[(5,.box (cC0 2 3 4 x0) 51),(6,.own rR1 x1 true)],((0,.sl rR0 x2)::vV0 2 3 4 x0 []),7⟩:St)
abbrev zz24:=fun x0 x1 L=>(⟨L,[(0,.box [.I 0,.nil] 82),(1,.box [.I x0,.sl 2] 82),(2,.own (rI .i64) x1 true)],[],3⟩:St)
abbrev zz25:=fun x0 x1 L=>(⟨L,[(0,.box [.I 0,.nil] 82),(1,.box [.I x0,.sl 3] 82),(3,.own (rI .i64) x1 true)],[],4⟩:St)
abbrev zz26:=fun x0 x1 x2 x3 L=>(⟨L,[(3,.box [.sl 0,.sl 1] 49),(5,.box (cC1 x0) 59)],[(0,.sl rR1 x1),(1,.sl (rP (rI .i64) (rI .i64)) x2),(2,.sl rR5 x3)],6⟩:St)
abbrev zz27:=fun x0 x1 x2 x3 L=>(⟨L,[(6,.box (cC0 3 4 5 x0) 51),(7,.own rR1 x1 true)],((0,.sl rR0 x2)::(1,.sl rR5 x3)::vV0 3 4 5 x0 []),8⟩:St)
abbrev zz28:=fun x0 x1 x2 x3 x4 x5 x6 L=>(⟨L,[(6,.box (cC0 3 4 5 x0) 51),(8,.own rS x1 true),(9,.own rB x2 true),(11,.box [.I x3,.sl 13] 82)],((0,.sl rR0 x4)::(1,.sl rR5 x5)::vV0 3 4 5 x0 [(13,.sl (rI .i64) x6)]),14⟩:St)
end Gx
end
