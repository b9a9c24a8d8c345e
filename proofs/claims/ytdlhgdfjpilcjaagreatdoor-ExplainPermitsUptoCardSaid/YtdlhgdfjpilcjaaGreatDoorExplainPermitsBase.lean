/- How typed values lie in the machine, and the types of the program. -/
import Derived.Test.YtdlhgdfjpilcjaaGreatDoorChecked
import Derived.Test.YtdlhgdfjpilcjaaGreatDoorExplainPermitsPure
import Derived.Test.YtdlhgdfjpilcjaaGreatDoorExplainPermitsLib
set_option linter.all false
section
open Go Go.Kx Go.Proofs
namespace Gx
abbrev rR10:TRep T10:=rM (fun x=>(x.Kind,x.Lo,x.Hi)) (rP (rI .i64) (rP (rI .i64) (rI .i64)))
abbrev oO10:Opn rR10:=oM _ (oP (oI .i64) (oP (oI .i64) (oI .i64)))
abbrev rR4:TRep T4:=rM (fun x=>(x.Name,x.Sort')) (rP rS rR10)
abbrev oO4:Opn rR4:=oM _ (oP oS oO10)
abbrev rR1:TRep T1:=rM (fun x=>(x.X,x.Y,x.C)) (rP (rI .i64) (rP (rI .i64) (rI .i64)))
abbrev oO1:Opn rR1:=oM _ (oP (oI .i64) (oP (oI .i64) (oI .i64)))
abbrev rR6:TRep T6:=rM (fun x=>(x.Diffs,x.Equals)) (rP (rSl rR1) (rSl (rP (rI .i64) (rI .i64))))
abbrev oO6:Opn rR6:=oM _ (oP (oSl rR1) (oSl (rP (rI .i64) (rI .i64))))
abbrev rR0:TRep T0:=rM (fun x=>(x.Name,x.Fields,x.First,x.Guard)) (rP rS (rP (rSl rR4) (rP (rI .i64) rR6)))
abbrev oO0:Opn rR0:=oM _ (oP oS (oP (oSl rR4) (oP (oI .i64) oO6)))
abbrev rR7:TRep T7:=rM (fun x=>(x.From,x.To,x.Label)) (rP (rI .i64) (rP (rI .i64) (rI .i64)))
abbrev oO7:Opn rR7:=oM _ (oP (oI .i64) (oP (oI .i64) (oI .i64)))
abbrev rR2:TRep T2:=rM (fun x=>(x.From,x.Act,x.To,x.Again)) (rP (rI .i64) (rP rR7 (rP (rI .i64) rB)))
abbrev oO2:Opn rR2:=oM _ (oP (oI .i64) (oP oO7 (oP (oI .i64) oB)))
abbrev rR11:TRep T11:=rM (fun x=>(x.State,x.Ticks,x.Else)) (rP (rI .i64) (rP (rI .i64) (rI .i64)))
abbrev oO11:Opn rR11:=oM _ (oP (oI .i64) (oP (oI .i64) (oI .i64)))
abbrev rR5:TRep T5:=rM (fun x=>(x.Name,x.Roles,x.Decls,x.States,x.Start,x.End,x.Edges,x.Timeouts)) (rP rS (rP (rSl rS) (rP (rSl rR0) (rP (rI .i64) (rP (rI .i64) (rP (rI .i64) (rP (rSl rR2) (rSl rR11))))))))
abbrev oO5:Opn rR5:=oM _ (oP oS (oP (oSl rS) (oP (oSl rR0) (oP (oI .i64) (oP (oI .i64) (oP (oI .i64) (oP (oSl rR2) (oSl rR11))))))))
abbrev rR9:TRep T9:=rM (fun x=>(x.From,x.Send,x.Peer,x.Label,x.To,x.Again)) (rP (rI .i64) (rP rB (rP (rI .i64) (rP (rI .i64) (rP (rI .i64) rB)))))
abbrev oO9:Opn rR9:=oM _ (oP (oI .i64) (oP oB (oP (oI .i64) (oP (oI .i64) (oP (oI .i64) oB)))))
abbrev rR8:TRep T8:=rM (fun x=>(x.Role,x.States,x.Start,x.Finals,x.Moves,x.Timeouts)) (rP (rI .i64) (rP (rI .i64) (rP (rI .i64) (rP (rSl rB) (rP (rSl rR9) (rSl rR11))))))
abbrev oO8:Opn rR8:=oM _ (oP (oI .i64) (oP (oI .i64) (oP (oI .i64) (oP (oSl rB) (oP (oSl rR9) (oSl rR11))))))
abbrev rR12:TRep T12:=rM (fun x=>(x.Kind,x.N,x.S)) (rP (rI .i64) (rP (rI .i64) rS))
abbrev oO12:Opn rR12:=oM _ (oP (oI .i64) (oP (oI .i64) oS))
abbrev rR16:TRep T16:=rM (fun x=>(x.At,x.Known,x.Pending)) (rP (rI .i64) (rP (rSl rR12) (rSl rR12)))
abbrev oO16:Opn rR16:=oM _ (oP (oI .i64) (oP (oSl rR12) (oSl rR12)))
abbrev rR15:TRep T15:=rM (fun x=>(x.Machine,x.out')) (rP rR8 (rSl (rSl (rI .i64))))
abbrev oO15:Opn rR15:=oM _ (oP oO8 (oSl (rSl (rI .i64))))
abbrev rR14:TRep T14:=rM (fun x=>(x.send',x.peer',x.label')) (rP rB (rP (rI .i64) (rI .i64)))
abbrev oO14:Opn rR14:=oM _ (oP oB (oP (oI .i64) (oI .i64)))
abbrev rR3:TRep T3:=rM (fun x=>(x.Role,x.Send,x.Peer,x.Label,x.Values)) (rP (rI .i64) (rP rB (rP (rI .i64) (rP (rI .i64) (rSl rR12)))))
abbrev oO3:Opn rR3:=oM _ (oP (oI .i64) (oP oB (oP (oI .i64) (oP (oI .i64) (oSl rR12)))))
abbrev rR13:TRep T13:=rM (fun x=>(x.At,x.Kind,x.Part,x.Role)) (rP (rI .i64) (rP (rI .i64) (rP (rI .i64) (rI .i64))))
abbrev oO13:Opn rR13:=oM _ (oP (oI .i64) (oP (oI .i64) (oP (oI .i64) (oI .i64))))
abbrev rR17:TRep T17:=rM (fun x=>(x.N,x.B)) (rP (rI .i64) (rSl (rI .i64)))
abbrev oO17:Opn rR17:=oM _ (oP (oI .i64) (oSl (rI .i64)))
end Gx
namespace Go.Kx
abbrev SV.I (n:Int):SV:=.c (.i .i64 n)
abbrev SC.I (n:Int):SC:=.i .i64 n
abbrev SV.O (b:Bool):SV:=.c (.b b)
abbrev SV.B (k o:Nat):SV:=.c (.bp k o)
abbrev SV.P (k o:Nat):SV:=.c (.px k o)
abbrev SV.S (k:Nat):SV:=.c (.sl k)
end Go.Kx
namespace Gx
def rg (a:Nat):Nat→List Nat
  | 0=>[]
  | n+1=>a::rg (a+1) n
abbrev cC10 (e:T10):List SC:=[.i .i64 e.Kind,.i .i64 e.Lo,.i .i64 e.Hi]
abbrev cC4 (e:T4):List SC:=[.s e.Name,.i .i64 e.Sort'.Kind,.i .i64 e.Sort'.Lo,.i .i64 e.Sort'.Hi]
abbrev cC1 (e:T1):List SC:=[.i .i64 e.X,.i .i64 e.Y,.i .i64 e.C]
abbrev cC0 (k0 k1 k2:Nat) (e:T0):List SC:=[.s e.Name,.sl k0,.i .i64 e.First,.sl k1,.sl k2]
abbrev vV0 (k0 k1 k2:Nat) (e:T0) (l:List (Nat × VF)):List (Nat × VF):=(k0,.sl rR4 e.Fields)::(k1,.sl rR1 e.Guard.Diffs)::(k2,.sl (rP (rI .i64) (rI .i64)) e.Guard.Equals)::l
abbrev cC2 (e:T2):List SC:=[.i .i64 e.From,.i .i64 e.Act.From,.i .i64 e.Act.To,.i .i64 e.Act.Label,.i .i64 e.To,.b e.Again]
abbrev cC11 (e:T11):List SC:=[.i .i64 e.State,.i .i64 e.Ticks,.i .i64 e.Else]
abbrev cC5 (k0 k1 k2 k3:Nat) (e:T5):List SC:=[.s e.Name,.sl k0,.sl k1,.i .i64 e.States,.i .i64 e.Start,.i .i64 e.End,.sl k2,.sl k3]
abbrev vV5 (k0 k1 k2 k3:Nat) (e:T5) (l:List (Nat × VF)):List (Nat × VF):=(k0,.sl rS e.Roles)::(k1,.sl rR0 e.Decls)::(k2,.sl rR2 e.Edges)::(k3,.sl rR11 e.Timeouts)::l
abbrev cC9 (e:T9):List SC:=[.i .i64 e.From,.b e.Send,.i .i64 e.Peer,.i .i64 e.Label,.i .i64 e.To,.b e.Again]
abbrev cC8 (k0 k1 k2:Nat) (e:T8):List SC:=[.i .i64 e.Role,.i .i64 e.States,.i .i64 e.Start,.sl k0,.sl k1,.sl k2]
abbrev vV8 (k0 k1 k2:Nat) (e:T8) (l:List (Nat × VF)):List (Nat × VF):=(k0,.sl rB e.Finals)::(k1,.sl rR9 e.Moves)::(k2,.sl rR11 e.Timeouts)::l
abbrev cC12 (e:T12):List SC:=[.i .i64 e.Kind,.i .i64 e.N,.s e.S]
abbrev cC16 (k0 k1:Nat) (e:T16):List SC:=[.i .i64 e.At,.sl k0,.sl k1]
abbrev vV16 (k0 k1:Nat) (e:T16) (l:List (Nat × VF)):List (Nat × VF):=(k0,.sl rR12 e.Known)::(k1,.sl rR12 e.Pending)::l
abbrev cC15 (k0 k1 k2 k3:Nat) (e:T15):List SC:=[.i .i64 e.Machine.Role,.i .i64 e.Machine.States,.i .i64 e.Machine.Start,.sl k0,.sl k1,.sl k2,.sl k3]
abbrev vV15 (k0 k1 k2 k3:Nat) (e:T15) (l:List (Nat × VF)):List (Nat × VF):=(k0,.sl rB e.Machine.Finals)::(k1,.sl rR9 e.Machine.Moves)::(k2,.sl rR11 e.Machine.Timeouts)::(k3,.sl (rSl (rI .i64)) e.out')::l
abbrev cC14 (e:T14):List SC:=[.b e.send',.i .i64 e.peer',.i .i64 e.label']
abbrev cC3 (k0:Nat) (e:T3):List SC:=[.i .i64 e.Role,.b e.Send,.i .i64 e.Peer,.i .i64 e.Label,.sl k0]
abbrev cC13 (e:T13):List SC:=[.i .i64 e.At,.i .i64 e.Kind,.i .i64 e.Part,.i .i64 e.Role]
abbrev cC17 (k0:Nat) (e:T17):List SC:=[.i .i64 e.N,.sl k0]
def tt:List (Nat × TD):=[
 (1,{ sz:=1,byt:=8,ag:=false,z:=[.v .nilFunc],kd:=0 }),
 (3,{ sz:=1,byt:=8,ag:=false,z:=[.i .i64 (0:Int)],kd:=3,ik:=some .i64 }),
 (4,{ sz:=1,byt:=1,ag:=false,z:=[.b false],kd:=1 }),
 (5,{ sz:=1,byt:=1,ag:=false,z:=[.i .u8 (0:Int)],kd:=3,ik:=some .u8 }),
 (9,{ sz:=1,byt:=16,ag:=false,z:=[.s (str [])],kd:=2 }),
 (21,{ sz:=1,byt:=4,ag:=false,z:=[.i .i32 (0:Int)],kd:=3,ik:=some .i32 }),
 (22,{ sz:=1,byt:=24,ag:=false,z:=[.nil],kd:=6,es:=1,eb:=16,el:=9 }),
 (23,{ sz:=1,byt:=24,ag:=false,z:=[.nil],kd:=6,es:=5,eb:=96,el:=75 }),
 (24,{ sz:=1,byt:=24,ag:=false,z:=[.nil],kd:=6,es:=6,eb:=48,el:=79 }),
 (25,{ sz:=1,byt:=24,ag:=false,z:=[.nil],kd:=6,es:=3,eb:=24,el:=54 }),
 (27,{ sz:=8,byt:=136,ag:=true,z:=[.s (str []),.nil,.nil,.i .i64 (0:Int),.i .i64 (0:Int),.i .i64 (0:Int),.nil,.nil],kd:=4,fo:=[(0,1,false),(1,1,false),(2,1,false),(3,1,false),(4,1,false),(5,1,false),(6,1,false),(7,1,false)] }),
 (28,{ sz:=1,byt:=24,ag:=false,z:=[.nil],kd:=6,es:=1,eb:=1,el:=4 }),
 (29,{ sz:=1,byt:=24,ag:=false,z:=[.nil],kd:=6,es:=6,eb:=48,el:=52 }),
 (31,{ sz:=6,byt:=96,ag:=true,z:=[.i .i64 (0:Int),.i .i64 (0:Int),.i .i64 (0:Int),.nil,.nil,.nil],kd:=4,fo:=[(0,1,false),(1,1,false),(2,1,false),(3,1,false),(4,1,false),(5,1,false)] }),
 (32,{ sz:=2,byt:=16,ag:=true,z:=[.i .i64 (0:Int),.i .i64 (0:Int)],kd:=5,n:=2,es:=1,el:=3 }),
 (41,{ sz:=1,byt:=24,ag:=false,z:=[.nil],kd:=6,es:=5,eb:=56,el:=46 }),
 (44,{ sz:=1,byt:=24,ag:=false,z:=[.nil],kd:=6,es:=3,eb:=32,el:=83 }),
 (46,{ sz:=5,byt:=56,ag:=true,z:=[.i .i64 (0:Int),.b false,.i .i64 (0:Int),.i .i64 (0:Int),.nil],kd:=4,fo:=[(0,1,false),(1,1,false),(2,1,false),(3,1,false),(4,1,false)] }),
 (48,{ sz:=3,byt:=56,ag:=true,z:=[.i .i64 (0:Int),.nil,.nil],kd:=4,fo:=[(0,1,false),(1,1,false),(2,1,false)] }),
 (52,{ sz:=6,byt:=48,ag:=true,z:=[.i .i64 (0:Int),.b false,.i .i64 (0:Int),.i .i64 (0:Int),.i .i64 (0:Int),.b false],kd:=4,fo:=[(0,1,false),(1,1,false),(2,1,false),(3,1,false),(4,1,false),(5,1,false)] }),
 (54,{ sz:=3,byt:=24,ag:=true,z:=[.i .i64 (0:Int),.i .i64 (0:Int),.i .i64 (0:Int)],kd:=4,fo:=[(0,1,false),(1,1,false),(2,1,false)] }),
 (57,{ sz:=3,byt:=56,ag:=true,z:=[.i .i64 (0:Int),.nil,.nil],kd:=4,fo:=[(0,1,false),(1,1,false),(2,1,false)] }),
 (66,{ sz:=3,byt:=24,ag:=true,z:=[.i .i64 (0:Int),.i .i64 (0:Int),.i .i64 (0:Int)],kd:=4,fo:=[(0,1,false),(1,1,false),(2,1,false)] }),
 (68,{ sz:=4,byt:=40,ag:=true,z:=[.s (str []),.i .i64 (0:Int),.i .i64 (0:Int),.i .i64 (0:Int)],kd:=4,fo:=[(0,1,false),(1,3,true)] }),
 (69,{ sz:=1,byt:=24,ag:=false,z:=[.nil],kd:=6,es:=4,eb:=40,el:=68 }),
 (70,{ sz:=1,byt:=24,ag:=false,z:=[.nil],kd:=6,es:=3,eb:=24,el:=128 }),
 (71,{ sz:=1,byt:=24,ag:=false,z:=[.nil],kd:=6,es:=2,eb:=16,el:=32 }),
 (73,{ sz:=2,byt:=48,ag:=true,z:=[.nil,.nil],kd:=4,fo:=[(0,1,false),(1,1,false)] }),
 (75,{ sz:=5,byt:=96,ag:=true,z:=[.s (str []),.nil,.i .i64 (0:Int),.nil,.nil],kd:=4,fo:=[(0,1,false),(1,1,false),(2,1,false),(3,2,true)] }),
 (77,{ sz:=3,byt:=24,ag:=true,z:=[.i .i64 (0:Int),.i .i64 (0:Int),.i .i64 (0:Int)],kd:=4,fo:=[(0,1,false),(1,1,false),(2,1,false)] }),
 (79,{ sz:=6,byt:=48,ag:=true,z:=[.i .i64 (0:Int),.i .i64 (0:Int),.i .i64 (0:Int),.i .i64 (0:Int),.i .i64 (0:Int),.b false],kd:=4,fo:=[(0,1,false),(1,3,true),(4,1,false),(5,1,false)] }),
 (83,{ sz:=3,byt:=32,ag:=true,z:=[.i .i64 (0:Int),.i .i64 (0:Int),.s (str [])],kd:=4,fo:=[(0,1,false),(1,1,false),(2,1,false)] }),
 (92,{ sz:=1,byt:=24,ag:=false,z:=[.nil],kd:=6,es:=1,eb:=8,el:=3 }),
 (107,{ sz:=4,byt:=32,ag:=true,z:=[.i .i64 (0:Int),.i .i64 (0:Int),.i .i64 (0:Int),.i .i64 (0:Int)],kd:=4,fo:=[(0,1,false),(1,1,false),(2,1,false),(3,1,false)] }),
 (128,{ sz:=3,byt:=24,ag:=true,z:=[.i .i64 (0:Int),.i .i64 (0:Int),.i .i64 (0:Int)],kd:=4,fo:=[(0,1,false),(1,1,false),(2,1,false)] }),
 (129,{ sz:=1,byt:=8,ag:=false,z:=[.v (.pointer none)],kd:=0 }),
 (130,{ sz:=1,byt:=24,ag:=false,z:=[.nil],kd:=6,es:=1,eb:=1,el:=5 }),
 (132,{ sz:=2,byt:=32,ag:=true,z:=[.v (.pointer none),.nil],kd:=4,fo:=[(0,1,false),(1,1,false)] }),
 (145,{ sz:=4,byt:=32,ag:=true,z:=[.i .i64 (0:Int),.i .i64 (0:Int),.i .i64 (0:Int),.i .i64 (0:Int)],kd:=4,fo:=[(0,1,false),(1,1,false),(2,1,false),(3,1,false)] }),
 (168,{ sz:=1,byt:=24,ag:=false,z:=[.nil],kd:=6,es:=1,eb:=24,el:=92 }),
 (170,{ sz:=7,byt:=120,ag:=true,z:=[.i .i64 (0:Int),.i .i64 (0:Int),.i .i64 (0:Int),.nil,.nil,.nil,.nil],kd:=4,fo:=[(0,6,true),(6,1,false)] }),
 (173,{ sz:=2,byt:=32,ag:=true,z:=[.i .i64 (0:Int),.nil],kd:=4,fo:=[(0,1,false),(1,1,false)] }),
 (188,{ sz:=2,byt:=32,ag:=true,z:=[.i .i64 (0:Int),.nil],kd:=4,fo:=[(0,1,false),(1,1,false)] }),
 (229,{ sz:=1,byt:=8,ag:=false,z:=[.v .nilFunc],kd:=0 }),
 (230,{ sz:=1,byt:=8,ag:=false,z:=[.i .u64 (0:Int)],kd:=3,ik:=some .u64 }),
 (242,{ sz:=1,byt:=8,ag:=false,z:=[.v .nilFunc],kd:=0 }),
 (243,{ sz:=1,byt:=8,ag:=false,z:=[.v .nilFunc],kd:=0 }),
 (245,{ sz:=28,byt:=448,ag:=true,z:=[.s (str []),.s (str []),.s (str []),.s (str []),.s (str []),.s (str []),.s (str []),.s (str []),.s (str []),.s (str []),.s (str []),.s (str []),.s (str []),.s (str []),.s (str []),.s (str []),.s (str []),.s (str []),.s (str []),.s (str []),.s (str []),.s (str []),.s (str []),.s (str []),.s (str []),.s (str []),.s (str []),.s (str [])],kd:=5,n:=28,es:=1,el:=9 }),
 (262,{ sz:=3,byt:=24,ag:=true,z:=[.b false,.i .i64 (0:Int),.i .i64 (0:Int)],kd:=4,fo:=[(0,1,false),(1,1,false),(2,1,false)] })]
theorem htt:TTOk Tryz.prog tt:=by
  unfold tt
  exact ⟨⟨by kernel_rfl,by kernel_rfl,by kernel_rfl,by kernel_rfl⟩,
    ⟨by kernel_rfl,by kernel_rfl,by kernel_rfl,by kernel_rfl⟩,
    ⟨by kernel_rfl,by kernel_rfl,by kernel_rfl,by kernel_rfl⟩,
    ⟨by kernel_rfl,by kernel_rfl,by kernel_rfl,by kernel_rfl⟩,
    ⟨by kernel_rfl,by kernel_rfl,by kernel_rfl,by kernel_rfl⟩,
    ⟨by kernel_rfl,by kernel_rfl,by kernel_rfl,by kernel_rfl⟩,
    ⟨by kernel_rfl,by kernel_rfl,by kernel_rfl,by kernel_rfl⟩,
    ⟨by kernel_rfl,by kernel_rfl,by kernel_rfl,by kernel_rfl⟩,
    ⟨by kernel_rfl,by kernel_rfl,by kernel_rfl,by kernel_rfl⟩,
    ⟨by kernel_rfl,by kernel_rfl,by kernel_rfl,by kernel_rfl⟩,
    ⟨by kernel_rfl,by kernel_rfl,by kernel_rfl,by kernel_rfl⟩,
    ⟨by kernel_rfl,by kernel_rfl,by kernel_rfl,by kernel_rfl⟩,
    ⟨by kernel_rfl,by kernel_rfl,by kernel_rfl,by kernel_rfl⟩,
    ⟨by kernel_rfl,by kernel_rfl,by kernel_rfl,by kernel_rfl⟩,
    ⟨by kernel_rfl,by kernel_rfl,by kernel_rfl,by kernel_rfl⟩,
    ⟨by kernel_rfl,by kernel_rfl,by kernel_rfl,by kernel_rfl⟩,
    ⟨by kernel_rfl,by kernel_rfl,by kernel_rfl,by kernel_rfl⟩,
    ⟨by kernel_rfl,by kernel_rfl,by kernel_rfl,by kernel_rfl⟩,
    ⟨by kernel_rfl,by kernel_rfl,by kernel_rfl,by kernel_rfl⟩,
    ⟨by kernel_rfl,by kernel_rfl,by kernel_rfl,by kernel_rfl⟩,
    ⟨by kernel_rfl,by kernel_rfl,by kernel_rfl,by kernel_rfl⟩,
    ⟨by kernel_rfl,by kernel_rfl,by kernel_rfl,by kernel_rfl⟩,
    ⟨by kernel_rfl,by kernel_rfl,by kernel_rfl,by kernel_rfl⟩,
    ⟨by kernel_rfl,by kernel_rfl,by kernel_rfl,by kernel_rfl⟩,
    ⟨by kernel_rfl,by kernel_rfl,by kernel_rfl,by kernel_rfl⟩,
    ⟨by kernel_rfl,by kernel_rfl,by kernel_rfl,by kernel_rfl⟩,
    ⟨by kernel_rfl,by kernel_rfl,by kernel_rfl,by kernel_rfl⟩,
    ⟨by kernel_rfl,by kernel_rfl,by kernel_rfl,by kernel_rfl⟩,
    ⟨by kernel_rfl,by kernel_rfl,by kernel_rfl,by kernel_rfl⟩,
    ⟨by kernel_rfl,by kernel_rfl,by kernel_rfl,by kernel_rfl⟩,
    ⟨by kernel_rfl,by kernel_rfl,by kernel_rfl,by kernel_rfl⟩,
    ⟨by kernel_rfl,by kernel_rfl,by kernel_rfl,by kernel_rfl⟩,
    ⟨by kernel_rfl,by kernel_rfl,by kernel_rfl,by kernel_rfl⟩,
    ⟨by kernel_rfl,by kernel_rfl,by kernel_rfl,by kernel_rfl⟩,
    ⟨by kernel_rfl,by kernel_rfl,by kernel_rfl,by kernel_rfl⟩,
    ⟨by kernel_rfl,by kernel_rfl,by kernel_rfl,by kernel_rfl⟩,
    ⟨by kernel_rfl,by kernel_rfl,by kernel_rfl,by kernel_rfl⟩,
    ⟨by kernel_rfl,by kernel_rfl,by kernel_rfl,by kernel_rfl⟩,
    ⟨by kernel_rfl,by kernel_rfl,by kernel_rfl,by kernel_rfl⟩,
    ⟨by kernel_rfl,by kernel_rfl,by kernel_rfl,by kernel_rfl⟩,
    ⟨by kernel_rfl,by kernel_rfl,by kernel_rfl,by kernel_rfl⟩,
    ⟨by kernel_rfl,by kernel_rfl,by kernel_rfl,by kernel_rfl⟩,
    ⟨by kernel_rfl,by kernel_rfl,by kernel_rfl,by kernel_rfl⟩,
    ⟨by kernel_rfl,by kernel_rfl,by kernel_rfl,by kernel_rfl⟩,
    ⟨by kernel_rfl,by kernel_rfl,by kernel_rfl,by kernel_rfl⟩,
    ⟨by kernel_rfl,by kernel_rfl,by kernel_rfl,by kernel_rfl⟩,
    ⟨by kernel_rfl,by kernel_rfl,by kernel_rfl,by kernel_rfl⟩,
    ⟨by kernel_rfl,by kernel_rfl,by kernel_rfl,by kernel_rfl⟩,
    ⟨by kernel_rfl,by kernel_rfl,by kernel_rfl,by kernel_rfl⟩,trivial⟩
def J:=@htt
theorem Q {α:Sort _} {a:α}:a=a:=rfl
section
variable [LxP]
theorem wH {X:Ctx} {tt:List (Nat × TD)} (htt:TTOk X.P tt) (n:Nat) {b t:Bool} (K:b=t) {c:Cf} (k:Wc X (setC t (adv tt X.fn.ntmps n c))) (hp:(look (adv tt X.fn.ntmps n c).st.L (slC (adv tt X.fn.ntmps n c)),stepC (adv tt X.fn.ntmps n c))=(some (.c (.b b)),wantC b (adv tt X.fn.ntmps n c)):=by kernel_rfl):Wc X c:=wa htt n (eK K k hp)
theorem eB {X:Ctx} {b:Bool} {α:Type} {x y:Option α} {r:α} (h:(bif b then x else y)=some r) {c:Cf} (k1:x=some r→Wc X (setC true c)) (k2:y=some r→Wc X (setC false c)) (hp:(look c.st.L (slC c),stepC c)=(some (.c (.b b)),wantC b c):=by kernel_rfl):Wc X c:=by
  rcases oc h with ⟨K,h⟩ | ⟨K,h⟩
  · exact eK K (k1 h) hp
  · exact eK K (k2 h) hp
theorem eB' {X:Ctx} {b:Bool} {α:Type} {x y:Option α} {r:α} (h:(bif b then x else y)=some r) {c:Cf} (k1:y=some r→Wc X (setC false c)) (k2:x=some r→Wc X (setC true c)) (hp:(look c.st.L (slC c),stepC c)=(some (.c (.b b)),wantC b c):=by kernel_rfl):Wc X c:=eB h k2 k1 hp
theorem wB {X:Ctx} {tt:List (Nat × TD)} (htt:TTOk X.P tt) (n:Nat) {b:Bool} {α:Type} {x y:Option α} {r:α} (h:(bif b then x else y)=some r) {c:Cf} (k1:x=some r→Wc X (setC true (adv tt X.fn.ntmps n c))) (k2:y=some r→Wc X (setC false (adv tt X.fn.ntmps n c))) (hp:(look (adv tt X.fn.ntmps n c).st.L (slC (adv tt X.fn.ntmps n c)),stepC (adv tt X.fn.ntmps n c))=(some (.c (.b b)),wantC b (adv tt X.fn.ntmps n c)):=by kernel_rfl):Wc X c:=by
  rcases oc h with ⟨K,h⟩ | ⟨K,h⟩
  · exact wH htt n K (k1 h) hp
  · exact wH htt n K (k2 h) hp
theorem wB' {X:Ctx} {tt:List (Nat × TD)} (htt:TTOk X.P tt) (n:Nat) {b:Bool} {α:Type} {x y:Option α} {r:α} (h:(bif b then x else y)=some r) {c:Cf} (k1:y=some r→Wc X (setC false (adv tt X.fn.ntmps n c))) (k2:x=some r→Wc X (setC true (adv tt X.fn.ntmps n c))) (hp:(look (adv tt X.fn.ntmps n c).st.L (slC (adv tt X.fn.ntmps n c)),stepC (adv tt X.fn.ntmps n c))=(some (.c (.b b)),wantC b (adv tt X.fn.ntmps n c)):=by kernel_rfl):Wc X c:=wB htt n h k2 k1 hp
theorem wO {X:Ctx} {tt:List (Nat × TD)} (htt:TTOk X.P tt) (n:Nat) {α β:Type} {o:Option α} {f:α→Option β} {r:β} (h:o.bind f=some r) {c:Cf} (k:∀ x,o=some x→f x=some r→Wc X (adv tt X.fn.ntmps n c)):Wc X c:=by
  obtain ⟨x,e,h⟩:=ob h
  exact wa htt n (k x e h)
theorem wr {P:Program} {f:FuncId} {fn:Func} {ct:Ct} {E0:Env} {F0:FSet} {w0:World} {tt:List (Nat × TD)} (htt:TTOk P tt) (n:Nat) (hf:P.funcs[f]? = some fn) (l:List (Nat × SC)) {c:Cf}
    (hp:(retC (adv tt fn.ntmps n c),resV tt (adv tt fn.ntmps n c).st fn.results.toList,ct.V1.map (fun p=>findV (adv tt fn.ntmps n c).st ⟨l,0,0⟩ p.1 p.2),ct.M1.map (fun p=>findM (adv tt fn.ntmps n c).st ⟨l,0,0⟩ p.1 p.2),
        (okV ⟨l,0,0⟩ ct.res && nodupB (ct.M1.filterMap fun p=>keyM ⟨l,0,0⟩ p.1 p.2) && nodupB (ct.M1.map (·.1)) && l.all (fun p=>Nat.ble ct.nk p.1 && p.2.kbb (adv tt fn.ntmps n c).st.nx))) =
      (true,some (renV ⟨l,0,0⟩ ct.res),ct.V1.map (fun p=>some p.2),ct.M1.map (fun p=>some (renM ⟨l,0,0⟩ p.2)),true):=by kernel_rfl):Wc (ct.ctx P f fn E0 F0 w0) c:=wa (X:=ct.ctx P f fn E0 F0 w0) htt n (eRet htt hf l hp)
end
abbrev zz0:=fun x0 x1 x2 L=>(⟨L,[(2,.box [.I 0,.nil] 173),(3,.own (rI .i64) x0 true),(4,.box (cC17 3 x1) 173)],[(0,.sl (rI .i64) x2)],5⟩:St)
abbrev zz1:=fun x0 L=>(⟨L,[(0,.abs x0)],[],1⟩:St)
abbrev zz2:=fun x0 L=>(⟨L,[(0,.box (cC15 1 2 3 4 x0) 170)],(vV15 1 2 3 4 x0 []),5⟩:St)
abbrev zz3:=fun x0 x1 L=>(⟨L,[],[(0,.sl rR4 x0),(1,.sl rR12 x1)],2⟩:St)
abbrev zz4:=fun x0 x1 L=>(⟨L,[],[(0,.sl rR12 x0),(1,.sl rR12 x1)],2⟩:St)
abbrev zz5:=fun x0 L=>(⟨L,[],[(0,.sl (rI .i64) x0)],1⟩:St)
abbrev zz6:=fun x0 x1 x2 L=>(⟨L,[(3,.box [.sl 0,.sl 1] 73)],[(0,.sl rR1 x0),(1,.sl (rP (rI .i64) (rI .i64)) x1),(2,.sl rR12 x2)],4⟩:St)
abbrev zz7:=fun x0 x1 x2 L=>(⟨L,[(3,.own rR12 x0 false),(4,.box (cC0 0 1 2 x1) 75),(5,.own rB x2 true)],(vV0 0 1 2 x1 []),6⟩:St)
abbrev zz8:=fun x0 L=>(⟨L,[(4,.box (cC5 0 1 2 3 x0) 27)],(vV5 0 1 2 3 x0 []),5⟩:St)
abbrev zz9:=fun x0 L=>(⟨L,[(0,.own rS x0 true)],[],1⟩:St)
abbrev zz10:=fun x0 x1 L=>(⟨L,[(0,.box [.I 0,.nil] 173),(1,.own (rI .i64) x0 true),(2,.box [.I x1,.sl 1] 173)],[],3⟩:St)
abbrev zz11:=fun x0 L=>(⟨L,[],[(0,.sl (rI .i64) x0)],2⟩:St)
abbrev zz12:=fun x0 x1 L=>(⟨L,[(1,.own rR4 x0 true)],[(0,.sl rR0 x1)],2⟩:St)
abbrev zz13:=fun x0 x1 x2 L=>(⟨L,[],[(0,.sl rR1 x0),(1,.sl (rP (rI .i64) (rI .i64)) x1),(2,.sl rR12 x2)],4⟩:St)
abbrev zz14:=fun x0 x1 x2 x3 L=>(⟨L,[(3,.box (cC17 2 x0) 173),(5,.own (rI .i64) x1 true)],[(0,.sl (rI .i64) x2),(2,.sl (rI .i64) x3)],6⟩:St)
abbrev zz15:=fun x0 x1 x2 x3 x4 x5 x6 x7 L=>(⟨L,[(6,.box (cC0 3 4 5 x0) 75),(8,.box [.I x1,.sl 10] 173),(9,.own rR1 x2 true),(13,.box [.I x3,.I x4] 32)],((0,.sl rR0 x5)::(1,.sl rR12 x6)::vV0 3 4 5 x0 [(10,.sl (rI .i64) x7)]),14⟩:St)
abbrev zz16:=fun x0 x1 x2 L=>(⟨L,[(3,.box [.sl 0,.sl 1] 73)],[(0,.sl rR1 x0),(1,.sl (rP (rI .i64) (rI .i64)) x1),(2,.sl rR4 x2)],4⟩:St)
abbrev zz17:=fun x0 x1 x2 L=>(⟨L,[(1,.own rR4 x0 true),(6,.box (cC0 3 4 5 x1) 75)],((0,.sl rR0 x2)::vV0 3 4 5 x1 []),8⟩:St)
abbrev zz18:=fun x0 x1 x2 L=>(⟨L,[(4,.box (cC5 0 1 2 3 x0) 27),(6,.own (rI .i64) x1 true),(10,.own (rI .i64) x2 true)],(vV5 0 1 2 3 x0 []),11⟩:St)
abbrev zz19:=fun x0 x1 x2 x3 x4 x5 L=>(⟨L,[(3,.box (cC8 0 1 2 x0) 31),(5,.box [.I x1,.I x2,.I x3,.sl 0,.sl 1,.sl 2,.sl 4] 170),(4,.abs x4)],(vV8 0 1 2 x0 [(4,.fn x5)]),6⟩:St)
abbrev zz20:=fun x0 L=>(⟨L,[(1,.box [.s (str []),.nil,.I 0,.nil,.nil] 75),(2,.box [.s (str []),.I 0,.I 0,.I 0] 68)],[(0,.sl rR0 x0)],3⟩:St)
abbrev zz21:=fun x0 x1 x2 x3 L=>(⟨L,[(1,.abs x0),(7,.box (cC0 4 5 6 x1) 75),(8,.own rS x2 true)],((0,.sl rR0 x3)::vV0 4 5 6 x1 []),9⟩:St)
abbrev zz22:=fun x0 x1 x2 x3 x4 L=>(⟨L,[(1,.abs x0),(7,.box (cC0 4 5 6 x1) 75),(8,.own rS x2 true),(9,.own rS x3 true)],((0,.sl rR0 x4)::vV0 4 5 6 x1 []),10⟩:St)
abbrev zz23:=fun x0 x1 x2 x3 L=>(⟨L,[(1,.box (cC16 2 3 x0) 48),(4,.box (cC3 5 x1) 46)],((0,.sl rR9 x2)::vV16 2 3 x0 [(5,.sl rR12 x3)]),6⟩:St)
abbrev zz24:=fun x0 x1 x2 x3 x4 x5 L=>(⟨L,[(3,.box [.sl 0,.sl 1] 73),(5,.box (cC1 x0) 128),(6,.box [.I x1,.I x2] 32)],[(0,.sl rR1 x3),(1,.sl (rP (rI .i64) (rI .i64)) x4),(2,.sl rR12 x5)],7⟩:St)
abbrev zz25:=fun x0 x1 x2 x3 x4 x5 x6 x7 x8 L=>(⟨L,[(7,.box (cC5 0 1 2 3 x0) 27),(8,.box (cC16 4 5 x1) 48),(9,.box (cC3 6 x2) 46),(14,.box (cC0 11 12 13 x3) 75)],((0,.sl rS x4)::(1,.sl rR0 x5)::(2,.sl rR2 x6)::(3,.sl rR11 x7)::vV16 4 5 x1 ((6,.sl rR12 x8)::vV0 11 12 13 x3 [])),15⟩:St)
abbrev zz26:=fun x0 x1 x2 x3 x4 L=>(⟨L,[(3,.own rR12 x0 false),(4,.box (cC0 0 1 2 x1) 75),(5,.own rB x2 true),(7,.box [.I x3,.I x4] 32)],(vV0 0 1 2 x1 []),8⟩:St)
abbrev zz27:=fun x0 x1 x2 x3 x4 x5 x6 x7 L=>(⟨L,[(8,.abs x0),(18,.own rS x1 true)],((0,.sl rS x2)::(1,.sl rR0 x3)::(2,.sl rR2 x4)::(3,.sl rR11 x5)::vV8 4 5 6 x6 [(7,.sl rR3 x7)]),19⟩:St)
end Gx
end
