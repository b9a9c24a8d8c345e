/- How typed values lie in the machine, and the types of the program. -/
import Derived.Test.YtopoacpklgcfnaaGreatDoorChecked
import Derived.Test.YtopoacpklgcfnaaGreatDoorExplainParsedPure
import Derived.Test.YtopoacpklgcfnaaGreatDoorExplainParsedLib
set_option linter.all false
section
open Go Go.Kx Go.Proofs
namespace Gx
abbrev rR10:TRep T10:=rM (fun x=>(x.Kind,x.Lo,x.Hi)) (rP (rI .i64) (rP (rI .i64) (rI .i64)))
abbrev oO10:Opn rR10:=oM _ (oP (oI .i64) (oP (oI .i64) (oI .i64)))
abbrev rR4:TRep T4:=rM (fun x=>(x.Name,x.Sort')) (rP rS rR10)
abbrev oO4:Opn rR4:=oM _ (oP oS oO10)
abbrev rR1:TRep T1:=rM (fun x=>(x.X,x.Y,x.C)) (rP (rI .i64) (rP (rI .i64) (rI .i64)))
abbrev oO1:Opn rR1:=oM _ (oP (oI .i64) (oP (oI .i64) (oI .i64)))
abbrev rR6:TRep T6:=rM (fun x=>(x.Diffs,x.Equals)) (rP (rSl rR1) (rSl (rP (rI .i64) (rI .i64))))
abbrev oO6:Opn rR6:=oM _ (oP (oSl rR1) (oSl (rP (rI .i64) (rI .i64))))
abbrev rR0:TRep T0:=rM (fun x=>(x.Name,x.Fields,x.First,x.Guard)) (rP rS (rP (rSl rR4) (rP (rI .i64) rR6)))
abbrev oO0:Opn rR0:=oM _ (oP oS (oP (oSl rR4) (oP (oI .i64) oO6)))
abbrev rR7:TRep T7:=rM (fun x=>(x.From,x.To,x.Label)) (rP (rI .i64) (rP (rI .i64) (rI .i64)))
abbrev oO7:Opn rR7:=oM _ (oP (oI .i64) (oP (oI .i64) (oI .i64)))
abbrev rR2:TRep T2:=rM (fun x=>(x.From,x.Act,x.To,x.Again)) (rP (rI .i64) (rP rR7 (rP (rI .i64) rB)))
abbrev oO2:Opn rR2:=oM _ (oP (oI .i64) (oP oO7 (oP (oI .i64) oB)))
abbrev rR9:TRep T9:=rM (fun x=>(x.From,x.Send,x.Peer,x.Label,x.To,x.Again)) (rP (rI .i64) (rP rB (rP (rI .i64) (rP (rI .i64) (rP (rI .i64) rB)))))
abbrev oO9:Opn rR9:=oM _ (oP (oI .i64) (oP oB (oP (oI .i64) (oP (oI .i64) (oP (oI .i64) oB)))))
abbrev rR11:TRep T11:=rM (fun x=>(x.State,x.Ticks,x.Else)) (rP (rI .i64) (rP (rI .i64) (rI .i64)))
abbrev oO11:Opn rR11:=oM _ (oP (oI .i64) (oP (oI .i64) (oI .i64)))
abbrev rR5:TRep T5:=rM (fun x=>(x.Name,x.Roles,x.Decls,x.States,x.Start,x.End,x.Edges,x.Timeouts)) (rP rS (rP (rSl rS) (rP (rSl rR0) (rP (rI .i64) (rP (rI .i64) (rP (rI .i64) (rP (rSl rR2) (rSl rR11))))))))
abbrev oO5:Opn rR5:=oM _ (oP oS (oP (oSl rS) (oP (oSl rR0) (oP (oI .i64) (oP (oI .i64) (oP (oI .i64) (oP (oSl rR2) (oSl rR11))))))))
abbrev rR8:TRep T8:=rM (fun x=>(x.Role,x.States,x.Start,x.Finals,x.Moves,x.Timeouts)) (rP (rI .i64) (rP (rI .i64) (rP (rI .i64) (rP (rSl rB) (rP (rSl rR9) (rSl rR11))))))
abbrev oO8:Opn rR8:=oM _ (oP (oI .i64) (oP (oI .i64) (oP (oI .i64) (oP (oSl rB) (oP (oSl rR9) (oSl rR11))))))
abbrev rR12:TRep T12:=rM (fun x=>(x.Kind,x.N,x.S)) (rP (rI .i64) (rP (rI .i64) rS))
abbrev oO12:Opn rR12:=oM _ (oP (oI .i64) (oP (oI .i64) oS))
abbrev rR18:TRep T18:=rM (fun x=>(x.At,x.Known,x.Pending)) (rP (rI .i64) (rP (rSl rR12) (rSl rR12)))
abbrev oO18:Opn rR18:=oM _ (oP (oI .i64) (oP (oSl rR12) (oSl rR12)))
abbrev rR17:TRep T17:=rM (fun x=>(x.Machine,x.out')) (rP rR8 (rSl (rSl (rI .i64))))
abbrev oO17:Opn rR17:=oM _ (oP oO8 (oSl (rSl (rI .i64))))
abbrev rR16:TRep T16:=rM (fun x=>(x.send',x.peer',x.label')) (rP rB (rP (rI .i64) (rI .i64)))
abbrev oO16:Opn rR16:=oM _ (oP oB (oP (oI .i64) (oI .i64)))
abbrev rR3:TRep T3:=rM (fun x=>(x.Role,x.Send,x.Peer,x.Label,x.Values)) (rP (rI .i64) (rP rB (rP (rI .i64) (rP (rI .i64) (rSl rR12)))))
abbrev oO3:Opn rR3:=oM _ (oP (oI .i64) (oP oB (oP (oI .i64) (oP (oI .i64) (oSl rR12)))))
abbrev rR13:TRep T13:=rM (fun x=>(x.At,x.Kind,x.Part,x.Role)) (rP (rI .i64) (rP (rI .i64) (rP (rI .i64) (rI .i64))))
abbrev oO13:Opn rR13:=oM _ (oP (oI .i64) (oP (oI .i64) (oP (oI .i64) (oI .i64))))
abbrev rR26:TRep T26:=rM (fun x=>(x.N,x.B)) (rP (rI .i64) (rSl (rI .i64)))
abbrev oO26:Opn rR26:=oM _ (oP (oI .i64) (oSl (rI .i64)))
abbrev rR23:TRep T23:=rM (fun x=>(x.Kind,x.Message,x.Field,x.N)) (rP (rI .i64) (rP rS (rP rS (rI .i64))))
abbrev oO23:Opn rR23:=oM _ (oP (oI .i64) (oP oS (oP oS (oI .i64))))
abbrev rR19:TRep T19:=rM (fun x=>(x.Left,x.Op,x.Right)) (rP rR23 (rP rS rR23))
abbrev oO19:Opn rR19:=oM _ (oP oO23 (oP oS oO23))
abbrev rR21:TRep T21:=rM (fun x=>(x.Name,x.Fields,x.Where)) (rP rS (rP (rSl rR4) (rSl rR19)))
abbrev oO21:Opn rR21:=oM _ (oP oS (oP (oSl rR4) (oSl rR19)))
abbrev r_syntax_Item_F (R:TRep T20):TRep T20:=rM (fun x=>(x.Kind,x.From,x.To,x.Name,x.As,x.Ticks,x.Blocks)) (rP (rI .i64) (rP rS (rP (rSl rS) (rP rS (rP rS (rP (rI .i64) (rSl (rSl R))))))))
theorem r_syntax_Item_mono:MonoR r_syntax_Item_F:=mono_M _ (mono_P (mono_const _) (mono_P (mono_const _) (mono_P (mono_const _) (mono_P (mono_const _) (mono_P (mono_const _) (mono_P (mono_const _) (mono_Sl (mono_Sl mono_id))))))))
abbrev rR20:TRep T20:=rFix r_syntax_Item_F 7 (by decide) (fun _ _=>rfl)
abbrev oO20:Opn rR20:=Opn.of (rFix_iff r_syntax_Item_mono) (oM _ (oP (oI .i64) (oP oS (oP (oSl rS) (oP oS (oP oS (oP (oI .i64) (oSl (rSl rR20)))))))))
abbrev rR22:TRep T22:=rM (fun x=>(x.Name,x.Roles,x.Messages,x.Body)) (rP rS (rP (rSl rS) (rP (rSl rR21) (rSl rR20))))
abbrev oO22:Opn rR22:=oM _ (oP oS (oP (oSl rS) (oP (oSl rR21) (oSl rR20))))
abbrev rR14:TRep T14:=rM (fun x=>(x.Kind,x.Text,x.Value,x.From)) (rP (rI .i64) (rP rS (rP (rI .i64) (rI .i64))))
abbrev oO14:Opn rR14:=oM _ (oP (oI .i64) (oP oS (oP (oI .i64) (oI .i64))))
abbrev rR15:TRep T15:=rM (fun x=>(x.s',x.at')) (rP rS (rI .i64))
abbrev oO15:Opn rR15:=oM _ (oP oS (oI .i64))
abbrev rR24:TRep T24:=rM (fun x=>(x.l',x.n',x.end',x.at',x.err')) (rP (rSl rR14) (rP (rI .i64) (rP (rI .i64) (rP (rI .i64) (rI .i64)))))
abbrev oO24:Opn rR24:=oM _ (oP (oSl rR14) (oP (oI .i64) (oP (oI .i64) (oP (oI .i64) (oI .i64)))))
end Gx
namespace Go.Kx
abbrev SV.I (n:Int):SV:=.c (.i .i64 n)
abbrev SC.I (n:Int):SC:=.i .i64 n
abbrev SV.O (b:Bool):SV:=.c (.b b)
abbrev SV.B (k o:Nat):SV:=.c (.bp k o)
abbrev SV.P (k o:Nat):SV:=.c (.px k o)
abbrev SV.S (k:Nat):SV:=.c (.sl k)
end Go.Kx
namespace Gx
def rg (a:Nat):Nat→List Nat
  | 0=>[]
  | n+1=>a::rg (a+1) n
abbrev cC10 (e:T10):List SC:=[.i .i64 e.Kind,.i .i64 e.Lo,.i .i64 e.Hi]
abbrev cC4 (e:T4):List SC:=[.s e.Name,.i .i64 e.Sort'.Kind,.i .i64 e.Sort'.Lo,.i .i64 e.Sort'.Hi]
abbrev cC1 (e:T1):List SC:=[.i .i64 e.X,.i .i64 e.Y,.i .i64 e.C]
abbrev cC0 (k0 k1 k2:Nat) (e:T0):List SC:=[.s e.Name,.sl k0,.i .i64 e.First,.sl k1,.sl k2]
abbrev vV0 (k0 k1 k2:Nat) (e:T0) (l:List (Nat × VF)):List (Nat × VF):=(k0,.sl rR4 e.Fields)::(k1,.sl rR1 e.Guard.Diffs)::(k2,.sl (rP (rI .i64) (rI .i64)) e.Guard.Equals)::l
abbrev cC2 (e:T2):List SC:=[.i .i64 e.From,.i .i64 e.Act.From,.i .i64 e.Act.To,.i .i64 e.Act.Label,.i .i64 e.To,.b e.Again]
abbrev cC9 (e:T9):List SC:=[.i .i64 e.From,.b e.Send,.i .i64 e.Peer,.i .i64 e.Label,.i .i64 e.To,.b e.Again]
abbrev cC11 (e:T11):List SC:=[.i .i64 e.State,.i .i64 e.Ticks,.i .i64 e.Else]
abbrev cC5 (k0 k1 k2 k3:Nat) (e:T5):List SC:=[.s e.Name,.sl k0,.sl k1,.i .i64 e.States,.i .i64 e.Start,.i .i64 e.End,.sl k2,.sl k3]
abbrev vV5 (k0 k1 k2 k3:Nat) (e:T5) (l:List (Nat × VF)):List (Nat × VF):=(k0,.sl rS e.Roles)::(k1,.sl rR0 e.Decls)::(k2,.sl rR2 e.Edges)::(k3,.sl rR11 e.Timeouts)::l
abbrev cC8 (k0 k1 k2:Nat) (e:T8):List SC:=[.i .i64 e.Role,.i .i64 e.States,.i .i64 e.Start,.sl k0,.sl k1,.sl k2]
abbrev vV8 (k0 k1 k2:Nat) (e:T8) (l:List (Nat × VF)):List (Nat × VF):=(k0,.sl rB e.Finals)::(k1,.sl rR9 e.Moves)::(k2,.sl rR11 e.Timeouts)::l
abbrev cC12 (e:T12):List SC:=[.i .i64 e.Kind,.i .i64 e.N,.s e.S]
abbrev cC18 (k0 k1:Nat) (e:T18):List SC:=[.i .i64 e.At,.sl k0,.sl k1]
abbrev vV18 (k0 k1:Nat) (e:T18) (l:List (Nat × VF)):List (Nat × VF):=(k0,.sl rR12 e.Known)::(k1,.sl rR12 e.Pending)::l
abbrev cC17 (k0 k1 k2 k3:Nat) (e:T17):List SC:=[.i .i64 e.Machine.Role,.i .i64 e.Machine.States,.i .i64 e.Machine.Start,.sl k0,.sl k1,.sl k2,.sl k3]
abbrev vV17 (k0 k1 k2 k3:Nat) (e:T17) (l:List (Nat × VF)):List (Nat × VF):=(k0,.sl rB e.Machine.Finals)::(k1,.sl rR9 e.Machine.Moves)::(k2,.sl rR11 e.Machine.Timeouts)::(k3,.sl (rSl (rI .i64)) e.out')::l
abbrev cC16 (e:T16):List SC:=[.b e.send',.i .i64 e.peer',.i .i64 e.label']
abbrev cC3 (k0:Nat) (e:T3):List SC:=[.i .i64 e.Role,.b e.Send,.i .i64 e.Peer,.i .i64 e.Label,.sl k0]
abbrev cC13 (e:T13):List SC:=[.i .i64 e.At,.i .i64 e.Kind,.i .i64 e.Part,.i .i64 e.Role]
abbrev cC26 (k0:Nat) (e:T26):List SC:=[.i .i64 e.N,.sl k0]
abbrev cC23 (e:T23):List SC:=[.i .i64 e.Kind,.s e.Message,.s e.Field,.i .i64 e.N]
abbrev cC19 (e:T19):List SC:=[.i .i64 e.Left.Kind,.s e.Left.Message,.s e.Left.Field,.i .i64 e.Left.N,.s e.Op,.i .i64 e.Right.Kind,.s e.Right.Message,.s e.Right.Field,.i .i64 e.Right.N]
abbrev cC21 (k0 k1:Nat) (e:T21):List SC:=[.s e.Name,.sl k0,.sl k1]
abbrev vV21 (k0 k1:Nat) (e:T21) (l:List (Nat × VF)):List (Nat × VF):=(k0,.sl rR4 e.Fields)::(k1,.sl rR19 e.Where)::l
abbrev cC22 (k0 k1 k2:Nat) (e:T22):List SC:=[.s e.Name,.sl k0,.sl k1,.sl k2]
abbrev vV22 (k0 k1 k2:Nat) (e:T22) (l:List (Nat × VF)):List (Nat × VF):=(k0,.sl rS e.Roles)::(k1,.sl rR21 e.Messages)::(k2,.sl rR20 e.Body)::l
abbrev cC14 (e:T14):List SC:=[.i .i64 e.Kind,.s e.Text,.i .i64 e.Value,.i .i64 e.From]
abbrev cC15 (e:T15):List SC:=[.s e.s',.i .i64 e.at']
abbrev cC24 (k0:Nat) (e:T24):List SC:=[.sl k0,.i .i64 e.n',.i .i64 e.end',.i .i64 e.at',.i .i64 e.err']
def tt:List (Nat × TD):=[
 (1,{ sz:=1,byt:=8,ag:=false,z:=[.v .nilFunc],kd:=0 }),
 (3,{ sz:=1,byt:=8,ag:=false,z:=[.i .i64 (0:Int)],kd:=3,ik:=some .i64 }),
 (4,{ sz:=1,byt:=1,ag:=false,z:=[.b false],kd:=1 }),
 (5,{ sz:=1,byt:=1,ag:=false,z:=[.i .u8 (0:Int)],kd:=3,ik:=some .u8 }),
 (9,{ sz:=1,byt:=16,ag:=false,z:=[.s (str [])],kd:=2 }),
 (21,{ sz:=1,byt:=4,ag:=false,z:=[.i .i32 (0:Int)],kd:=3,ik:=some .i32 }),
 (22,{ sz:=1,byt:=24,ag:=false,z:=[.nil],kd:=6,es:=5,eb:=96,el:=31 }),
 (25,{ sz:=1,byt:=24,ag:=false,z:=[.nil],kd:=6,es:=4,eb:=40,el:=49 }),
 (26,{ sz:=1,byt:=24,ag:=false,z:=[.nil],kd:=6,es:=3,eb:=24,el:=116 }),
 (27,{ sz:=1,byt:=24,ag:=false,z:=[.nil],kd:=6,es:=2,eb:=16,el:=117 }),
 (29,{ sz:=2,byt:=48,ag:=true,z:=[.nil,.nil],kd:=4,fo:=[(0,1,false),(1,1,false)] }),
 (31,{ sz:=5,byt:=96,ag:=true,z:=[.s (str []),.nil,.i .i64 (0:Int),.nil,.nil],kd:=4,fo:=[(0,1,false),(1,1,false),(2,1,false),(3,2,true)] }),
 (34,{ sz:=1,byt:=24,ag:=false,z:=[.nil],kd:=6,es:=4,eb:=88,el:=42 }),
 (35,{ sz:=1,byt:=8,ag:=false,z:=[.i .i64 (0:Int)],kd:=3,ik:=some .i64 }),
 (38,{ sz:=1,byt:=24,ag:=false,z:=[.nil],kd:=6,es:=1,eb:=16,el:=9 }),
 (39,{ sz:=1,byt:=24,ag:=false,z:=[.nil],kd:=6,es:=3,eb:=64,el:=45 }),
 (40,{ sz:=1,byt:=24,ag:=false,z:=[.nil],kd:=6,es:=7,eb:=112,el:=210 }),
 (42,{ sz:=4,byt:=88,ag:=true,z:=[.s (str []),.nil,.nil,.nil],kd:=4,fo:=[(0,1,false),(1,1,false),(2,1,false),(3,1,false)] }),
 (43,{ sz:=1,byt:=24,ag:=false,z:=[.nil],kd:=6,es:=9,eb:=112,el:=206 }),
 (45,{ sz:=3,byt:=64,ag:=true,z:=[.s (str []),.nil,.nil],kd:=4,fo:=[(0,1,false),(1,1,false),(2,1,false)] }),
 (47,{ sz:=3,byt:=24,ag:=true,z:=[.i .i64 (0:Int),.i .i64 (0:Int),.i .i64 (0:Int)],kd:=4,fo:=[(0,1,false),(1,1,false),(2,1,false)] }),
 (49,{ sz:=4,byt:=40,ag:=true,z:=[.s (str []),.i .i64 (0:Int),.i .i64 (0:Int),.i .i64 (0:Int)],kd:=4,fo:=[(0,1,false),(1,3,true)] }),
 (52,{ sz:=3,byt:=24,ag:=true,z:=[.i .i64 (0:Int),.i .i64 (0:Int),.i .i64 (0:Int)],kd:=4,fo:=[(0,1,false),(1,1,false),(2,1,false)] }),
 (54,{ sz:=6,byt:=48,ag:=true,z:=[.i .i64 (0:Int),.i .i64 (0:Int),.i .i64 (0:Int),.i .i64 (0:Int),.i .i64 (0:Int),.b false],kd:=4,fo:=[(0,1,false),(1,3,true),(4,1,false),(5,1,false)] }),
 (55,{ sz:=1,byt:=24,ag:=false,z:=[.nil],kd:=6,es:=6,eb:=48,el:=54 }),
 (56,{ sz:=1,byt:=24,ag:=false,z:=[.nil],kd:=6,es:=3,eb:=24,el:=147 }),
 (58,{ sz:=8,byt:=136,ag:=true,z:=[.s (str []),.nil,.nil,.i .i64 (0:Int),.i .i64 (0:Int),.i .i64 (0:Int),.nil,.nil],kd:=4,fo:=[(0,1,false),(1,1,false),(2,1,false),(3,1,false),(4,1,false),(5,1,false),(6,1,false),(7,1,false)] }),
 (59,{ sz:=1,byt:=24,ag:=false,z:=[.nil],kd:=6,es:=1,eb:=1,el:=4 }),
 (61,{ sz:=6,byt:=48,ag:=true,z:=[.i .i64 (0:Int),.b false,.i .i64 (0:Int),.i .i64 (0:Int),.i .i64 (0:Int),.b false],kd:=4,fo:=[(0,1,false),(1,1,false),(2,1,false),(3,1,false),(4,1,false),(5,1,false)] }),
 (62,{ sz:=1,byt:=24,ag:=false,z:=[.nil],kd:=6,es:=6,eb:=48,el:=61 }),
 (64,{ sz:=6,byt:=96,ag:=true,z:=[.i .i64 (0:Int),.i .i64 (0:Int),.i .i64 (0:Int),.nil,.nil,.nil],kd:=4,fo:=[(0,1,false),(1,1,false),(2,1,false),(3,1,false),(4,1,false),(5,1,false)] }),
 (69,{ sz:=1,byt:=24,ag:=false,z:=[.nil],kd:=6,es:=3,eb:=32,el:=80 }),
 (71,{ sz:=5,byt:=56,ag:=true,z:=[.i .i64 (0:Int),.b false,.i .i64 (0:Int),.i .i64 (0:Int),.nil],kd:=4,fo:=[(0,1,false),(1,1,false),(2,1,false),(3,1,false),(4,1,false)] }),
 (72,{ sz:=1,byt:=24,ag:=false,z:=[.nil],kd:=6,es:=5,eb:=56,el:=71 }),
 (75,{ sz:=3,byt:=56,ag:=true,z:=[.i .i64 (0:Int),.nil,.nil],kd:=4,fo:=[(0,1,false),(1,1,false),(2,1,false)] }),
 (80,{ sz:=3,byt:=32,ag:=true,z:=[.i .i64 (0:Int),.i .i64 (0:Int),.s (str [])],kd:=4,fo:=[(0,1,false),(1,1,false),(2,1,false)] }),
 (91,{ sz:=1,byt:=24,ag:=false,z:=[.nil],kd:=6,es:=4,eb:=40,el:=137 }),
 (96,{ sz:=5,byt:=56,ag:=true,z:=[.nil,.i .i64 (0:Int),.i .i64 (0:Int),.i .i64 (0:Int),.i .i64 (0:Int)],kd:=4,fo:=[(0,1,false),(1,1,false),(2,1,false),(3,1,false),(4,1,false)] }),
 (106,{ sz:=1,byt:=24,ag:=false,z:=[.nil],kd:=6,es:=1,eb:=8,el:=3 }),
 (116,{ sz:=3,byt:=24,ag:=true,z:=[.i .i64 (0:Int),.i .i64 (0:Int),.i .i64 (0:Int)],kd:=4,fo:=[(0,1,false),(1,1,false),(2,1,false)] }),
 (117,{ sz:=2,byt:=16,ag:=true,z:=[.i .i64 (0:Int),.i .i64 (0:Int)],kd:=5,n:=2,es:=1,el:=3 }),
 (121,{ sz:=1,byt:=8,ag:=false,z:=[.v (.pointer none)],kd:=0 }),
 (122,{ sz:=1,byt:=24,ag:=false,z:=[.nil],kd:=6,es:=1,eb:=1,el:=5 }),
 (124,{ sz:=2,byt:=32,ag:=true,z:=[.v (.pointer none),.nil],kd:=4,fo:=[(0,1,false),(1,1,false)] }),
 (133,{ sz:=2,byt:=24,ag:=true,z:=[.s (str []),.i .i64 (0:Int)],kd:=4,fo:=[(0,1,false),(1,1,false)] }),
 (137,{ sz:=4,byt:=40,ag:=true,z:=[.i .i64 (0:Int),.s (str []),.i .i64 (0:Int),.i .i64 (0:Int)],kd:=4,fo:=[(0,1,false),(1,1,false),(2,1,false),(3,1,false)] }),
 (147,{ sz:=3,byt:=24,ag:=true,z:=[.i .i64 (0:Int),.i .i64 (0:Int),.i .i64 (0:Int)],kd:=4,fo:=[(0,1,false),(1,1,false),(2,1,false)] }),
 (153,{ sz:=4,byt:=32,ag:=true,z:=[.i .i64 (0:Int),.i .i64 (0:Int),.i .i64 (0:Int),.i .i64 (0:Int)],kd:=4,fo:=[(0,1,false),(1,1,false),(2,1,false),(3,1,false)] }),
 (164,{ sz:=1,byt:=24,ag:=false,z:=[.nil],kd:=6,es:=1,eb:=24,el:=106 }),
 (166,{ sz:=7,byt:=120,ag:=true,z:=[.i .i64 (0:Int),.i .i64 (0:Int),.i .i64 (0:Int),.nil,.nil,.nil,.nil],kd:=4,fo:=[(0,6,true),(6,1,false)] }),
 (169,{ sz:=2,byt:=32,ag:=true,z:=[.i .i64 (0:Int),.nil],kd:=4,fo:=[(0,1,false),(1,1,false)] }),
 (198,{ sz:=8,byt:=128,ag:=true,z:=[.s (str []),.s (str []),.s (str []),.s (str []),.s (str []),.s (str []),.s (str []),.s (str [])],kd:=5,n:=8,es:=1,el:=9 }),
 (203,{ sz:=4,byt:=48,ag:=true,z:=[.i .i64 (0:Int),.s (str []),.s (str []),.i .i64 (0:Int)],kd:=4,fo:=[(0,1,false),(1,1,false),(2,1,false),(3,1,false)] }),
 (204,{ sz:=4,byt:=48,ag:=true,z:=[.i .i64 (0:Int),.s (str []),.s (str []),.i .i64 (0:Int)],kd:=4,fo:=[(0,1,false),(1,1,false),(2,1,false),(3,1,false)] }),
 (206,{ sz:=9,byt:=112,ag:=true,z:=[.i .i64 (0:Int),.s (str []),.s (str []),.i .i64 (0:Int),.s (str []),.i .i64 (0:Int),.s (str []),.s (str []),.i .i64 (0:Int)],kd:=4,fo:=[(0,4,true),(4,1,false),(5,4,true)] }),
 (208,{ sz:=1,byt:=24,ag:=false,z:=[.nil],kd:=6,es:=1,eb:=24,el:=40 }),
 (210,{ sz:=7,byt:=112,ag:=true,z:=[.i .i64 (0:Int),.s (str []),.nil,.s (str []),.s (str []),.i .i64 (0:Int),.nil],kd:=4,fo:=[(0,1,false),(1,1,false),(2,1,false),(3,1,false),(4,1,false),(5,1,false),(6,1,false)] }),
 (212,{ sz:=28,byt:=448,ag:=true,z:=[.s (str []),.s (str []),.s (str []),.s (str []),.s (str []),.s (str []),.s (str []),.s (str []),.s (str []),.s (str []),.s (str []),.s (str []),.s (str []),.s (str []),.s (str []),.s (str []),.s (str []),.s (str []),.s (str []),.s (str []),.s (str []),.s (str []),.s (str []),.s (str []),.s (str []),.s (str []),.s (str []),.s (str [])],kd:=5,n:=28,es:=1,el:=9 }),
 (216,{ sz:=3,byt:=40,ag:=true,z:=[.v (.pointer none),.nil,.i .i64 (0:Int)],kd:=4,fo:=[(0,2,true),(2,1,false)] }),
 (239,{ sz:=1,byt:=8,ag:=false,z:=[.v .nilFunc],kd:=0 }),
 (240,{ sz:=1,byt:=8,ag:=false,z:=[.i .u64 (0:Int)],kd:=3,ik:=some .u64 }),
 (271,{ sz:=3,byt:=24,ag:=true,z:=[.b false,.i .i64 (0:Int),.i .i64 (0:Int)],kd:=4,fo:=[(0,1,false),(1,1,false),(2,1,false)] })]
theorem htt:TTOk Tryz.prog tt:=by
  unfold tt
  exact ⟨⟨by kernel_rfl,by kernel_rfl,by kernel_rfl,by kernel_rfl⟩,
    ⟨by kernel_rfl,by kernel_rfl,by kernel_rfl,by kernel_rfl⟩,
    ⟨by kernel_rfl,by kernel_rfl,by kernel_rfl,by kernel_rfl⟩,
    ⟨by kernel_rfl,by kernel_rfl,by kernel_rfl,by kernel_rfl⟩,
    ⟨by kernel_rfl,by kernel_rfl,by kernel_rfl,by kernel_rfl⟩,
    ⟨by kernel_rfl,by kernel_rfl,by kernel_rfl,by kernel_rfl⟩,
    ⟨by kernel_rfl,by kernel_rfl,by kernel_rfl,by kernel_rfl⟩,
    ⟨by kernel_rfl,by kernel_rfl,by kernel_rfl,by kernel_rfl⟩,
    ⟨by kernel_rfl,by kernel_rfl,by kernel_rfl,by kernel_rfl⟩,
    ⟨by kernel_rfl,by kernel_rfl,by kernel_rfl,by kernel_rfl⟩,
    ⟨by kernel_rfl,by kernel_rfl,by kernel_rfl,by kernel_rfl⟩,
    ⟨by kernel_rfl,by kernel_rfl,by kernel_rfl,by kernel_rfl⟩,
    ⟨by kernel_rfl,by kernel_rfl,by kernel_rfl,by kernel_rfl⟩,
    ⟨by kernel_rfl,by kernel_rfl,by kernel_rfl,by kernel_rfl⟩,
    ⟨by kernel_rfl,by kernel_rfl,by kernel_rfl,by kernel_rfl⟩,
    ⟨by kernel_rfl,by kernel_rfl,by kernel_rfl,by kernel_rfl⟩,
    ⟨by kernel_rfl,by kernel_rfl,by kernel_rfl,by kernel_rfl⟩,
    ⟨by kernel_rfl,by kernel_rfl,by kernel_rfl,by kernel_rfl⟩,
    ⟨by kernel_rfl,by kernel_rfl,by kernel_rfl,by kernel_rfl⟩,
    ⟨by kernel_rfl,by kernel_rfl,by kernel_rfl,by kernel_rfl⟩,
    ⟨by kernel_rfl,by kernel_rfl,by kernel_rfl,by kernel_rfl⟩,
    ⟨by kernel_rfl,by kernel_rfl,by kernel_rfl,by kernel_rfl⟩,
    ⟨by kernel_rfl,by kernel_rfl,by kernel_rfl,by kernel_rfl⟩,
    ⟨by kernel_rfl,by kernel_rfl,by kernel_rfl,by kernel_rfl⟩,
    ⟨by kernel_rfl,by kernel_rfl,by kernel_rfl,by kernel_rfl⟩,
    ⟨by kernel_rfl,by kernel_rfl,by kernel_rfl,by kernel_rfl⟩,
    ⟨by kernel_rfl,by kernel_rfl,by kernel_rfl,by kernel_rfl⟩,
    ⟨by kernel_rfl,by kernel_rfl,by kernel_rfl,by kernel_rfl⟩,
    ⟨by kernel_rfl,by kernel_rfl,by kernel_rfl,by kernel_rfl⟩,
    ⟨by kernel_rfl,by kernel_rfl,by kernel_rfl,by kernel_rfl⟩,
    ⟨by kernel_rfl,by kernel_rfl,by kernel_rfl,by kernel_rfl⟩,
    ⟨by kernel_rfl,by kernel_rfl,by kernel_rfl,by kernel_rfl⟩,
    ⟨by kernel_rfl,by kernel_rfl,by kernel_rfl,by kernel_rfl⟩,
    ⟨by kernel_rfl,by kernel_rfl,by kernel_rfl,by kernel_rfl⟩,
    ⟨by kernel_rfl,by kernel_rfl,by kernel_rfl,by kernel_rfl⟩,
    ⟨by kernel_rfl,by kernel_rfl,by kernel_rfl,by kernel_rfl⟩,
    ⟨by kernel_rfl,by kernel_rfl,by kernel_rfl,by kernel_rfl⟩,
    ⟨by kernel_rfl,by kernel_rfl,by kernel_rfl,by kernel_rfl⟩,
    ⟨by kernel_rfl,by kernel_rfl,by kernel_rfl,by kernel_rfl⟩,
    ⟨by kernel_rfl,by kernel_rfl,by kernel_rfl,by kernel_rfl⟩,
    ⟨by kernel_rfl,by kernel_rfl,by kernel_rfl,by kernel_rfl⟩,
    ⟨by kernel_rfl,by kernel_rfl,by kernel_rfl,by kernel_rfl⟩,
    ⟨by kernel_rfl,by kernel_rfl,by kernel_rfl,by kernel_rfl⟩,
    ⟨by kernel_rfl,by kernel_rfl,by kernel_rfl,by kernel_rfl⟩,
    ⟨by kernel_rfl,by kernel_rfl,by kernel_rfl,by kernel_rfl⟩,
    ⟨by kernel_rfl,by kernel_rfl,by kernel_rfl,by kernel_rfl⟩,
    ⟨by kernel_rfl,by kernel_rfl,by kernel_rfl,by kernel_rfl⟩,
    ⟨by kernel_rfl,by kernel_rfl,by kernel_rfl,by kernel_rfl⟩,
    ⟨by kernel_rfl,by kernel_rfl,by kernel_rfl,by kernel_rfl⟩,
    ⟨by kernel_rfl,by kernel_rfl,by kernel_rfl,by kernel_rfl⟩,
    ⟨by kernel_rfl,by kernel_rfl,by kernel_rfl,by kernel_rfl⟩,
    ⟨by kernel_rfl,by kernel_rfl,by kernel_rfl,by kernel_rfl⟩,
    ⟨by kernel_rfl,by kernel_rfl,by kernel_rfl,by kernel_rfl⟩,
    ⟨by kernel_rfl,by kernel_rfl,by kernel_rfl,by kernel_rfl⟩,
    ⟨by kernel_rfl,by kernel_rfl,by kernel_rfl,by kernel_rfl⟩,
    ⟨by kernel_rfl,by kernel_rfl,by kernel_rfl,by kernel_rfl⟩,
    ⟨by kernel_rfl,by kernel_rfl,by kernel_rfl,by kernel_rfl⟩,
    ⟨by kernel_rfl,by kernel_rfl,by kernel_rfl,by kernel_rfl⟩,
    ⟨by kernel_rfl,by kernel_rfl,by kernel_rfl,by kernel_rfl⟩,
    ⟨by kernel_rfl,by kernel_rfl,by kernel_rfl,by kernel_rfl⟩,
    ⟨by kernel_rfl,by kernel_rfl,by kernel_rfl,by kernel_rfl⟩,
    ⟨by kernel_rfl,by kernel_rfl,by kernel_rfl,by kernel_rfl⟩,trivial⟩
def J:=@htt
theorem Q {α:Sort _} {a:α}:a=a:=rfl
section
variable [LxP]
theorem wH {X:Ctx} {tt:List (Nat × TD)} (htt:TTOk X.P tt) (n:Nat) {b t:Bool} (K:b=t) {c:Cf} (k:Wc X (setC t (adv tt X.fn.ntmps n c))) (hp:(look (adv tt X.fn.ntmps n c).st.L (slC (adv tt X.fn.ntmps n c)),stepC (adv tt X.fn.ntmps n c))=(some (.c (.b b)),wantC b (adv tt X.fn.ntmps n c)):=by kernel_rfl):Wc X c:=wa htt n (eK K k hp)
theorem wr {P:Program} {f:FuncId} {fn:Func} {ct:Ct} {E0:Env} {F0:FSet} {w0:World} {tt:List (Nat × TD)} (htt:TTOk P tt) (n:Nat) (hf:P.funcs[f]? = some fn) (l:List (Nat × SC)) {c:Cf}
    (hp:(retC (adv tt fn.ntmps n c),resV tt (adv tt fn.ntmps n c).st fn.results.toList,ct.V1.map (fun p=>findV (adv tt fn.ntmps n c).st ⟨l,0,0⟩ p.1 p.2),ct.M1.map (fun p=>findM (adv tt fn.ntmps n c).st ⟨l,0,0⟩ p.1 p.2),
        (okV ⟨l,0,0⟩ ct.res && nodupB (ct.M1.filterMap fun p=>keyM ⟨l,0,0⟩ p.1 p.2) && nodupB (ct.M1.map (·.1)) && l.all (fun p=>Nat.ble ct.nk p.1 && p.2.kbb (adv tt fn.ntmps n c).st.nx))) =
      (true,some (renV ⟨l,0,0⟩ ct.res),ct.V1.map (fun p=>some p.2),ct.M1.map (fun p=>some (renM ⟨l,0,0⟩ p.2)),true):=by kernel_rfl):Wc (ct.ctx P f fn E0 F0 w0) c:=wa (X:=ct.ctx P f fn E0 F0 w0) htt n (eRet htt hf l hp)
theorem oi {α:Type} {a b:α} (h:some a=some b):a=b:=Option.some.inj h
theorem eB {X:Ctx} {b:Bool} {α:Type} {x y:Option α} {r:α} (h:(bif b then x else y)=some r) {c:Cf} (k1:x=some r→Wc X (setC true c)) (k2:y=some r→Wc X (setC false c)) (hp:(look c.st.L (slC c),stepC c)=(some (.c (.b b)),wantC b c):=by kernel_rfl):Wc X c:=by
  rcases oc h with ⟨K,h⟩ | ⟨K,h⟩
  · exact eK K (k1 h) hp
  · exact eK K (k2 h) hp
theorem eB' {X:Ctx} {b:Bool} {α:Type} {x y:Option α} {r:α} (h:(bif b then x else y)=some r) {c:Cf} (k1:y=some r→Wc X (setC false c)) (k2:x=some r→Wc X (setC true c)) (hp:(look c.st.L (slC c),stepC c)=(some (.c (.b b)),wantC b c):=by kernel_rfl):Wc X c:=eB h k2 k1 hp
theorem wB {X:Ctx} {tt:List (Nat × TD)} (htt:TTOk X.P tt) (n:Nat) {b:Bool} {α:Type} {x y:Option α} {r:α} (h:(bif b then x else y)=some r) {c:Cf} (k1:x=some r→Wc X (setC true (adv tt X.fn.ntmps n c))) (k2:y=some r→Wc X (setC false (adv tt X.fn.ntmps n c))) (hp:(look (adv tt X.fn.ntmps n c).st.L (slC (adv tt X.fn.ntmps n c)),stepC (adv tt X.fn.ntmps n c))=(some (.c (.b b)),wantC b (adv tt X.fn.ntmps n c)):=by kernel_rfl):Wc X c:=by
  rcases oc h with ⟨K,h⟩ | ⟨K,h⟩
  · exact wH htt n K (k1 h) hp
  · exact wH htt n K (k2 h) hp
theorem wB' {X:Ctx} {tt:List (Nat × TD)} (htt:TTOk X.P tt) (n:Nat) {b:Bool} {α:Type} {x y:Option α} {r:α} (h:(bif b then x else y)=some r) {c:Cf} (k1:y=some r→Wc X (setC false (adv tt X.fn.ntmps n c))) (k2:x=some r→Wc X (setC true (adv tt X.fn.ntmps n c))) (hp:(look (adv tt X.fn.ntmps n c).st.L (slC (adv tt X.fn.ntmps n c)),stepC (adv tt X.fn.ntmps n c))=(some (.c (.b b)),wantC b (adv tt X.fn.ntmps n c)):=by kernel_rfl):Wc X c:=wB htt n h k2 k1 hp
theorem wO {X:Ctx} {tt:List (Nat × TD)} (htt:TTOk X.P tt) (n:Nat) {α β:Type} {o:Option α} {f:α→Option β} {r:β} (h:o.bind f=some r) {c:Cf} (k:∀ x,o=some x→f x=some r→Wc X (adv tt X.fn.ntmps n c)):Wc X c:=by
  obtain ⟨x,e,h⟩:=ob h
  exact wa htt n (k x e h)
end
abbrev zz0:=fun L=>(⟨L,[],[],0⟩:St)
abbrev zz1:=fun x0 x1 x2 L=>(⟨L,[(2,.box [.I 0,.nil] 169),(3,.own (rI .i64) x0 true),(4,.box (cC26 3 x1) 169)],[(0,.sl (rI .i64) x2)],5⟩:St)
abbrev zz2:=fun x0 L=>(⟨L,[],[(0,.sl rS x0)],1⟩:St)
abbrev zz3:=fun x0 L=>(⟨L,[(0,.abs x0)],[],1⟩:St)
abbrev zz4:=fun x0 L=>(⟨L,[(0,.box (cC17 1 2 3 4 x0) 166)],(vV17 1 2 3 4 x0 []),5⟩:St)
abbrev zz5:=fun x0 x1 L=>(⟨L,[],[(0,.sl rR4 x0),(1,.sl rR12 x1)],2⟩:St)
abbrev zz6:=fun x0 x1 L=>(⟨L,[],[(0,.sl rR12 x0),(1,.sl rR12 x1)],2⟩:St)
abbrev zz7:=fun x0 L=>(⟨L,[],[(0,.sl rR0 x0)],1⟩:St)
abbrev zz8:=fun x0 x1 L=>(⟨L,[(0,.box [.s x0,.I x1] 133)],[],1⟩:St)
abbrev zz9:=fun x0 L=>(⟨L,[],[(0,.sl (rI .i64) x0)],1⟩:St)
abbrev zz10:=fun x0 x1 x2 L=>(⟨L,[(3,.box [.sl 0,.sl 1] 29)],[(0,.sl rR1 x0),(1,.sl (rP (rI .i64) (rI .i64)) x1),(2,.sl rR12 x2)],4⟩:St)
abbrev zz11:=fun x0 x1 x2 L=>(⟨L,[(3,.own rR12 x0 false),(4,.box (cC0 0 1 2 x1) 31),(5,.own rB x2 true)],(vV0 0 1 2 x1 []),6⟩:St)
abbrev zz12:=fun x0 L=>(⟨L,[(4,.box (cC5 0 1 2 3 x0) 58)],(vV5 0 1 2 3 x0 []),5⟩:St)
abbrev zz13:=fun x0 L=>(⟨L,[(0,.own rS x0 true)],[],1⟩:St)
abbrev zz14:=fun x0 x1 L=>(⟨L,[(0,.box [.I 0,.nil] 169),(1,.own (rI .i64) x0 true),(2,.box [.I x1,.sl 1] 169)],[],3⟩:St)
abbrev zz15:=fun x0 L=>(⟨L,[],[(0,.sl (rI .i64) x0)],2⟩:St)
abbrev zz16:=fun x0 x1 x2 L=>(⟨L,[(3,.box [.sl 1,.sl 2] 29)],[(0,.sl rR0 x0),(1,.sl rR1 x1),(2,.sl (rP (rI .i64) (rI .i64)) x2)],4⟩:St)
abbrev zz17:=fun x0 x1 L=>(⟨L,[(5,.box (cC0 2 3 4 x0) 31)],((0,.sl rR0 x1)::vV0 2 3 4 x0 []),6⟩:St)
abbrev zz18:=fun x0 L=>(⟨L,[(0,.box (cC15 x0) 133),(1,.box [.I 0,.s (str []),.I 0,.I 0] 137)],[],2⟩:St)
abbrev zz19:=fun x0 x1 L=>(⟨L,[(1,.own rR4 x0 true)],[(0,.sl rR0 x1)],2⟩:St)
abbrev zz20:=fun x0 x1 x2 L=>(⟨L,[],[(0,.sl rR1 x0),(1,.sl (rP (rI .i64) (rI .i64)) x1),(2,.sl rR12 x2)],4⟩:St)
abbrev zz21:=fun x0 x1 x2 x3 L=>(⟨L,[(3,.box (cC26 2 x0) 169),(5,.own (rI .i64) x1 true)],[(0,.sl (rI .i64) x2),(2,.sl (rI .i64) x3)],6⟩:St)
abbrev zz22:=fun x0 x1 x2 x3 x4 x5 x6 x7 L=>(⟨L,[(6,.box (cC0 3 4 5 x0) 31),(8,.box [.I x1,.sl 10] 169),(9,.own rR1 x2 true),(13,.box [.I x3,.I x4] 117)],((0,.sl rR0 x5)::(1,.sl rR12 x6)::vV0 3 4 5 x0 [(10,.sl (rI .i64) x7)]),14⟩:St)
abbrev zz23:=fun x0 x1 x2 L=>(⟨L,[(3,.box [.sl 0,.sl 1] 29)],[(0,.sl rR1 x0),(1,.sl (rP (rI .i64) (rI .i64)) x1),(2,.sl rR4 x2)],4⟩:St)
abbrev zz24:=fun x0 x1 x2 L=>(⟨L,[(1,.own rR4 x0 true),(6,.box (cC0 3 4 5 x1) 31)],((0,.sl rR0 x2)::vV0 3 4 5 x1 []),8⟩:St)
abbrev zz25:=fun x0 x1 x2 L=>(⟨L,[(4,.box (cC5 0 1 2 3 x0) 58),(6,.own (rI .i64) x1 true),(10,.own (rI .i64) x2 true)],(vV5 0 1 2 3 x0 []),11⟩:St)
abbrev zz26:=fun x0 x1 x2 x3 x4 x5 L=>(⟨L,[(3,.box (cC8 0 1 2 x0) 64),(5,.box [.I x1,.I x2,.I x3,.sl 0,.sl 1,.sl 2,.sl 4] 166),(4,.abs x4)],(vV8 0 1 2 x0 [(4,.fn x5)]),6⟩:St)
abbrev zz27:=fun x0 L=>(⟨L,[(1,.box [.s (str []),.nil,.I 0,.nil,.nil] 31),(2,.box [.s (str []),.I 0,.I 0,.I 0] 49)],[(0,.sl rR0 x0)],3⟩:St)
abbrev zz28:=fun x0 x1 x2 x3 L=>(⟨L,[(1,.abs x0),(7,.box (cC0 4 5 6 x1) 31),(8,.own rS x2 true)],((0,.sl rR0 x3)::vV0 4 5 6 x1 []),9⟩:St)
abbrev zz29:=fun x0 x1 x2 x3 x4 L=>(⟨L,[(1,.abs x0),(7,.box (cC0 4 5 6 x1) 31),(8,.own rS x2 true),(9,.own rS x3 true)],((0,.sl rR0 x4)::vV0 4 5 6 x1 []),10⟩:St)
abbrev zz30:=fun x0 x1 x2 x3 L=>(⟨L,[(1,.box (cC18 2 3 x0) 75),(4,.box (cC3 5 x1) 71)],((0,.sl rR9 x2)::vV18 2 3 x0 [(5,.sl rR12 x3)]),6⟩:St)
abbrev zz31:=fun x0 x1 x2 x3 x4 x5 L=>(⟨L,[(3,.box [.sl 0,.sl 1] 29),(5,.box (cC1 x0) 116),(6,.box [.I x1,.I x2] 117)],[(0,.sl rR1 x3),(1,.sl (rP (rI .i64) (rI .i64)) x4),(2,.sl rR12 x5)],7⟩:St)
abbrev zz32:=fun x0 x1 x2 x3 x4 x5 x6 x7 x8 L=>(⟨L,[(7,.box (cC5 0 1 2 3 x0) 58),(8,.box (cC18 4 5 x1) 75),(9,.box (cC3 6 x2) 71),(14,.box (cC0 11 12 13 x3) 31)],((0,.sl rS x4)::(1,.sl rR0 x5)::(2,.sl rR2 x6)::(3,.sl rR11 x7)::vV18 4 5 x1 ((6,.sl rR12 x8)::vV0 11 12 13 x3 [])),15⟩:St)
abbrev zz33:=fun x0 x1 x2 x3 x4 L=>(⟨L,[(3,.own rR12 x0 false),(4,.box (cC0 0 1 2 x1) 31),(5,.own rB x2 true),(7,.box [.I x3,.I x4] 117)],(vV0 0 1 2 x1 []),8⟩:St)
abbrev zz34:=fun x0 x1 L=>(⟨L,[(0,.box (cC15 x0) 133),(1,.box [.I 0,.s (str []),.I 0,.I 0] 137),(2,.box [.I 2,.s (str []),.I x1,.I 0] 137)],[],3⟩:St)
abbrev zz35:=fun x0 x1 x2 L=>(⟨L,[(0,.box [.s x0,.I x1] 133),(1,.box [.I 0,.s (str []),.I 0,.I 0] 137),(2,.own (rI .u8) x2 true)],[],3⟩:St)
abbrev zz36:=fun x0 x1 x2 x3 x4 x5 x6 x7 x8 L=>(⟨L,[(0,.box [.sl 13,.I x0,.I x1,.I x2,.I x3] 96),(2,.box [.s (str []),.nil,.nil] 45),(4,.box [.s x4,.sl 8,.sl 14] 45),(8,.own rR4 x5 true),(14,.own rR19 x6 true)],[(1,.sl rR14 x7),(13,.sl rR14 x8)],15⟩:St)
abbrev zz37:=fun x0 x1 x2 x3 x4 x5 x6 x7 L=>(⟨L,[(0,.box [.sl 10,.I x0,.I x1,.I x2,.I x3] 96),(2,.box [.s (str []),.nil,.nil] 45),(4,.box [.s x4,.sl 11,.nil] 45),(11,.own rR4 x5 true)],[(1,.sl rR14 x6),(10,.sl rR14 x7)],12⟩:St)
abbrev zz38:=fun x0 x1 x2 x3 x4 x5 x6 x7 x8 L=>(⟨L,[(0,.box [.sl 11,.I x0,.I x1,.I x2,.I x3] 96),(2,.box [.I 0,.s (str []),.nil,.s (str []),.s (str []),.I 0,.nil] 210),(5,.box [.I 2,.s x4,.nil,.s (str []),.s (str []),.I x5,.sl 12] 210),(12,.own (rSl rR20) x6 true)],[(1,.sl rR14 x7),(11,.sl rR14 x8)],13⟩:St)
abbrev zz39:=fun x0 x1 x2 x3 x4 x5 x6 L=>(⟨L,[(0,.box [.sl 16,.I x0,.I x1,.I x2,.I x3] 96),(2,.box [.I 0,.s (str []),.nil,.s (str []),.s (str []),.I 0,.nil] 210),(10,.box [.I 5,.s (str []),.nil,.s (str []),.s (str []),.I 0,.sl 17] 210),(17,.own (rSl rR20) x4 true)],[(1,.sl rR14 x5),(16,.sl rR14 x6)],18⟩:St)
abbrev zz40:=fun x0 x1 x2 x3 x4 x5 x6 x7 x8 L=>(⟨L,[(0,.box [.sl 11,.I x0,.I x1,.I x2,.I x3] 96),(2,.box [.s (str []),.nil,.nil,.nil] 42),(5,.box [.s x4,.sl 7,.sl 12,.nil] 42),(7,.own rS x5 true),(12,.own rR21 x6 true)],[(1,.sl rR14 x7),(11,.sl rR14 x8)],13⟩:St)
abbrev zz41:=fun x0 x1 x2 x3 x4 L=>(⟨L,[(2,.box [.bp 2 0,.sl 3,.I x0] 216),(3,.buf x1 5),(4,.abs x2),(5,.box (cC21 0 1 x3) 45),(6,.own rS x4 true)],(vV21 0 1 x3 []),7⟩:St)
abbrev zz42:=fun x0 x1 x2 x3 x4 x5 L=>(⟨L,[(2,.box [.bp 2 0,.sl 3,.I x0] 216),(3,.buf x1 5),(4,.abs x2),(5,.box (cC21 0 1 x3) 45),(6,.own rS x4 true),(7,.own rS x5 true)],(vV21 0 1 x3 []),8⟩:St)
abbrev zz43:=fun x0 x1 x2 x3 x4 L=>(⟨L,[(1,.abs x0),(2,.box [.bp 2 0,.sl 10,.I x1] 216),(7,.box (cC22 4 5 6 x2) 42),(10,.buf x3 5)],((0,.sl rR22 x4)::vV22 4 5 6 x2 []),11⟩:St)
abbrev zz44:=fun x0 x1 x2 x3 x4 L=>(⟨L,[(1,.abs x0),(2,.box [.bp 2 0,.sl 22,.I x1] 216),(19,.box (cC22 16 17 18 x2) 42),(22,.buf x3 5)],((0,.sl rR22 x4)::vV22 16 17 18 x2 []),23⟩:St)
end Gx
end
