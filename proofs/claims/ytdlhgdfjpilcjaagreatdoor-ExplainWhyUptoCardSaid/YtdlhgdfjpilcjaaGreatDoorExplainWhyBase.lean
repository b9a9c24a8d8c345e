/- How typed values lie in the machine, and the types of the program. -/
import Derived.Test.YtdlhgdfjpilcjaaGreatDoorChecked
import Derived.Test.YtdlhgdfjpilcjaaGreatDoorExplainWhyPure
import Derived.Test.YtdlhgdfjpilcjaaGreatDoorExplainWhyLib
set_option linter.all false
section
open Go Go.Kx Go.Proofs
namespace Gx
abbrev ZdX:TRep Yb:=rM (fun x=>(x.Kind,x.Lo,x.Hi)) (rP (rI .i64) (rP (rI .i64) (rI .i64)))
abbrev Zn3:Ya ZdX:=oM _ (oP (oI .i64) (oP (oI .i64) (oI .i64)))
abbrev YM:TRep T4:=rM (fun x=>(x.Name,x.Sort')) (rP rS ZdX)
abbrev Xq:Ya YM:=oM _ (oP oS Zn3)
abbrev YO:TRep T1:=rM (fun x=>(x.X,x.Y,x.C)) (rP (rI .i64) (rP (rI .i64) (rI .i64)))
abbrev Ut:Ya YO:=oM _ (oP (oI .i64) (oP (oI .i64) (oI .i64)))
abbrev rR6:TRep T6:=rM (fun x=>(x.Diffs,x.Equals)) (rP (YP YO) (YP (rP (rI .i64) (rI .i64))))
abbrev oO6:Ya rR6:=oM _ (oP (XQ YO) (XQ (rP (rI .i64) (rI .i64))))
abbrev ZL:TRep T0:=rM (fun x=>(x.Name,x.Fields,x.First,x.Guard)) (rP rS (rP (YP YM) (rP (rI .i64) rR6)))
abbrev Yg:Ya ZL:=oM _ (oP oS (oP (XQ YM) (oP (oI .i64) oO6)))
abbrev rR7:TRep T7:=rM (fun x=>(x.From,x.To,x.Label)) (rP (rI .i64) (rP (rI .i64) (rI .i64)))
abbrev oO7:Ya rR7:=oM _ (oP (oI .i64) (oP (oI .i64) (oI .i64)))
abbrev Yf:TRep T2:=rM (fun x=>(x.From,x.Act,x.To,x.Again)) (rP (rI .i64) (rP rR7 (rP (rI .i64) rB)))
abbrev XX:Ya Yf:=oM _ (oP (oI .i64) (oP oO7 (oP (oI .i64) oB)))
abbrev Z2:TRep Yj:=rM (fun x=>(x.State,x.Ticks,x.Else)) (rP (rI .i64) (rP (rI .i64) (rI .i64)))
abbrev Uv:Ya Z2:=oM _ (oP (oI .i64) (oP (oI .i64) (oI .i64)))
abbrev rR5:TRep T5:=rM (fun x=>(x.Name,x.Roles,x.Decls,x.States,x.Start,x.End,x.Edges,x.Timeouts)) (rP rS (rP (YP rS) (rP (YP ZL) (rP (rI .i64) (rP (rI .i64) (rP (rI .i64) (rP (YP Yf) (YP Z2))))))))
abbrev oO5:Ya rR5:=oM _ (oP oS (oP (XQ rS) (oP (XQ ZL) (oP (oI .i64) (oP (oI .i64) (oP (oI .i64) (oP (XQ Yf) (XQ Z2))))))))
abbrev Xn:TRep T9:=rM (fun x=>(x.From,x.Send,x.Peer,x.Label,x.To,x.Again)) (rP (rI .i64) (rP rB (rP (rI .i64) (rP (rI .i64) (rP (rI .i64) rB)))))
abbrev YH:Ya Xn:=oM _ (oP (oI .i64) (oP oB (oP (oI .i64) (oP (oI .i64) (oP (oI .i64) oB)))))
abbrev rR8:TRep T8:=rM (fun x=>(x.Role,x.States,x.Start,x.Finals,x.Moves,x.Timeouts)) (rP (rI .i64) (rP (rI .i64) (rP (rI .i64) (rP (YP rB) (rP (YP Xn) (YP Z2))))))
abbrev LM:Ya rR8:=oM _ (oP (oI .i64) (oP (oI .i64) (oP (oI .i64) (oP (XQ rB) (oP (XQ Xn) (XQ Z2))))))
abbrev ZD:TRep Zm:=rM (fun x=>(x.Kind,x.N,x.S)) (rP (rI .i64) (rP (rI .i64) rS))
abbrev Z5:Ya ZD:=oM _ (oP (oI .i64) (oP (oI .i64) oS))
abbrev Zr9:TRep ZJ:=rM (fun x=>(x.At,x.Known,x.Pending)) (rP (rI .i64) (rP (YP ZD) (YP ZD)))
abbrev Ztr:Ya Zr9:=oM _ (oP (oI .i64) (oP (XQ ZD) (XQ ZD)))
abbrev ZmG:TRep Yz:=rM (fun x=>(x.Machine,x.out')) (rP rR8 (YP (YP (rI .i64))))
abbrev Ztp:Ya ZmG:=oM _ (oP LM (XQ (YP (rI .i64))))
abbrev ZpT:TRep TQ:=rM (fun x=>(x.send',x.peer',x.label')) (rP rB (rP (rI .i64) (rI .i64)))
abbrev Zts:Ya ZpT:=oM _ (oP oB (oP (oI .i64) (oI .i64)))
abbrev Yv:TRep T3:=rM (fun x=>(x.Role,x.Send,x.Peer,x.Label,x.Values)) (rP (rI .i64) (rP rB (rP (rI .i64) (rP (rI .i64) (YP ZD)))))
abbrev W1:Ya Yv:=oM _ (oP (oI .i64) (oP oB (oP (oI .i64) (oP (oI .i64) (XQ ZD)))))
abbrev ZpE:TRep Xu:=rM (fun x=>(x.At,x.Kind,x.Part,x.Role)) (rP (rI .i64) (rP (rI .i64) (rP (rI .i64) (rI .i64))))
abbrev Ztq:Ya ZpE:=oM _ (oP (oI .i64) (oP (oI .i64) (oP (oI .i64) (oI .i64))))
abbrev Zsr:TRep ZY:=rM (fun x=>(x.N,x.B)) (rP (rI .i64) (YP (rI .i64)))
abbrev Ztt:Ya Zsr:=oM _ (oP (oI .i64) (XQ (rI .i64)))
end Gx
namespace Go.Kx
abbrev SV.I (n:Int):SV:=.c (.i .i64 n)
abbrev SC.I (n:Int):SC:=.i .i64 n
abbrev SV.O (b:Bool):SV:=.c (.b b)
abbrev SV.B (k o:Nat):SV:=.c (.bp k o)
abbrev SV.P (k o:Nat):SV:=.c (.px k o)
abbrev SV.S (k:Nat):SV:=.c (.sl k)
end Go.Kx
namespace Gx
def rg (a:Nat):Nat→List Nat
  | 0=>[]
  | n+1=>a::rg (a+1) n
abbrev UG (e:Yb):List SC:=[.i .i64 e.Kind,.i .i64 e.Lo,.i .i64 e.Hi]
abbrev WM (e:T4):List SC:=[.s e.Name,.i .i64 e.Sort'.Kind,.i .i64 e.Sort'.Lo,.i .i64 e.Sort'.Hi]
abbrev Da (e:T1):List SC:=[.i .i64 e.X,.i .i64 e.Y,.i .i64 e.C]
abbrev Yt (k0 k1 k2:Nat) (e:T0):List SC:=[.s e.Name,.sl k0,.i .i64 e.First,.sl k1,.sl k2]
abbrev Yn (k0 k1 k2:Nat) (e:T0) (l:List (Nat × VF)):List (Nat × VF):=(k0,.sl YM e.Fields)::(k1,.sl YO e.Guard.Diffs)::(k2,.sl (rP (rI .i64) (rI .i64)) e.Guard.Equals)::l
abbrev cC2 (e:T2):List SC:=[.i .i64 e.From,.i .i64 e.Act.From,.i .i64 e.Act.To,.i .i64 e.Act.Label,.i .i64 e.To,.b e.Again]
abbrev GK (e:Yj):List SC:=[.i .i64 e.State,.i .i64 e.Ticks,.i .i64 e.Else]
abbrev ZT (k0 k1 k2 k3:Nat) (e:T5):List SC:=[.s e.Name,.sl k0,.sl k1,.i .i64 e.States,.i .i64 e.Start,.i .i64 e.End,.sl k2,.sl k3]
abbrev Yh (k0 k1 k2 k3:Nat) (e:T5) (l:List (Nat × VF)):List (Nat × VF):=(k0,.sl rS e.Roles)::(k1,.sl ZL e.Decls)::(k2,.sl Yf e.Edges)::(k3,.sl Z2 e.Timeouts)::l
abbrev UF (e:T9):List SC:=[.i .i64 e.From,.b e.Send,.i .i64 e.Peer,.i .i64 e.Label,.i .i64 e.To,.b e.Again]
abbrev ZX (k0 k1 k2:Nat) (e:T8):List SC:=[.i .i64 e.Role,.i .i64 e.States,.i .i64 e.Start,.sl k0,.sl k1,.sl k2]
abbrev ZZ (k0 k1 k2:Nat) (e:T8) (l:List (Nat × VF)):List (Nat × VF):=(k0,.sl rB e.Finals)::(k1,.sl Xn e.Moves)::(k2,.sl Z2 e.Timeouts)::l
abbrev Xx (e:Zm):List SC:=[.i .i64 e.Kind,.i .i64 e.N,.s e.S]
abbrev Xy (k0 k1:Nat) (e:ZJ):List SC:=[.i .i64 e.At,.sl k0,.sl k1]
abbrev XG (k0 k1:Nat) (e:ZJ) (l:List (Nat × VF)):List (Nat × VF):=(k0,.sl ZD e.Known)::(k1,.sl ZD e.Pending)::l
abbrev XS (k0 k1 k2 k3:Nat) (e:Yz):List SC:=[.i .i64 e.Machine.Role,.i .i64 e.Machine.States,.i .i64 e.Machine.Start,.sl k0,.sl k1,.sl k2,.sl k3]
abbrev Wz (k0 k1 k2 k3:Nat) (e:Yz) (l:List (Nat × VF)):List (Nat × VF):=(k0,.sl rB e.Machine.Finals)::(k1,.sl Xn e.Machine.Moves)::(k2,.sl Z2 e.Machine.Timeouts)::(k3,.sl (YP (rI .i64)) e.out')::l
abbrev ZeP (e:TQ):List SC:=[.b e.send',.i .i64 e.peer',.i .i64 e.label']
abbrev X5 (k0:Nat) (e:T3):List SC:=[.i .i64 e.Role,.b e.Send,.i .i64 e.Peer,.i .i64 e.Label,.sl k0]
abbrev Zdc (e:Xu):List SC:=[.i .i64 e.At,.i .i64 e.Kind,.i .i64 e.Part,.i .i64 e.Role]
abbrev VZ (k0:Nat) (e:ZY):List SC:=[.i .i64 e.N,.sl k0]
def tt:List (Nat × TD):=[
 (1,{ sz:=1,byt:=8,ag:=false,z:=[.v .nilFunc],kd:=0 }),
 (3,{ sz:=1,byt:=8,ag:=false,z:=[.i .i64 (0:Int)],kd:=3,ik:=some .i64 }),
 (4,{ sz:=1,byt:=1,ag:=false,z:=[.b false],kd:=1 }),
 (5,{ sz:=1,byt:=1,ag:=false,z:=[.i .u8 (0:Int)],kd:=3,ik:=some .u8 }),
 (9,{ sz:=1,byt:=16,ag:=false,z:=[.s (str [])],kd:=2 }),
 (21,{ sz:=1,byt:=4,ag:=false,z:=[.i .i32 (0:Int)],kd:=3,ik:=some .i32 }),
 (22,{ sz:=1,byt:=24,ag:=false,z:=[.nil],kd:=6,es:=1,eb:=16,el:=9 }),
 (23,{ sz:=1,byt:=24,ag:=false,z:=[.nil],kd:=6,es:=5,eb:=96,el:=75 }),
 (24,{ sz:=1,byt:=24,ag:=false,z:=[.nil],kd:=6,es:=6,eb:=48,el:=79 }),
 (25,{ sz:=1,byt:=24,ag:=false,z:=[.nil],kd:=6,es:=3,eb:=24,el:=54 }),
 (27,{ sz:=8,byt:=136,ag:=true,z:=[.s (str []),.nil,.nil,.i .i64 (0:Int),.i .i64 (0:Int),.i .i64 (0:Int),.nil,.nil],kd:=4,fo:=[(0,1,false),(1,1,false),(2,1,false),(3,1,false),(4,1,false),(5,1,false),(6,1,false),(7,1,false)] }),
 (28,{ sz:=1,byt:=24,ag:=false,z:=[.nil],kd:=6,es:=1,eb:=1,el:=4 }),
 (29,{ sz:=1,byt:=24,ag:=false,z:=[.nil],kd:=6,es:=6,eb:=48,el:=52 }),
 (31,{ sz:=6,byt:=96,ag:=true,z:=[.i .i64 (0:Int),.i .i64 (0:Int),.i .i64 (0:Int),.nil,.nil,.nil],kd:=4,fo:=[(0,1,false),(1,1,false),(2,1,false),(3,1,false),(4,1,false),(5,1,false)] }),
 (32,{ sz:=2,byt:=16,ag:=true,z:=[.i .i64 (0:Int),.i .i64 (0:Int)],kd:=5,n:=2,es:=1,el:=3 }),
 (41,{ sz:=1,byt:=24,ag:=false,z:=[.nil],kd:=6,es:=5,eb:=56,el:=46 }),
 (44,{ sz:=1,byt:=24,ag:=false,z:=[.nil],kd:=6,es:=3,eb:=32,el:=83 }),
 (46,{ sz:=5,byt:=56,ag:=true,z:=[.i .i64 (0:Int),.b false,.i .i64 (0:Int),.i .i64 (0:Int),.nil],kd:=4,fo:=[(0,1,false),(1,1,false),(2,1,false),(3,1,false),(4,1,false)] }),
 (48,{ sz:=3,byt:=56,ag:=true,z:=[.i .i64 (0:Int),.nil,.nil],kd:=4,fo:=[(0,1,false),(1,1,false),(2,1,false)] }),
 (52,{ sz:=6,byt:=48,ag:=true,z:=[.i .i64 (0:Int),.b false,.i .i64 (0:Int),.i .i64 (0:Int),.i .i64 (0:Int),.b false],kd:=4,fo:=[(0,1,false),(1,1,false),(2,1,false),(3,1,false),(4,1,false),(5,1,false)] }),
 (54,{ sz:=3,byt:=24,ag:=true,z:=[.i .i64 (0:Int),.i .i64 (0:Int),.i .i64 (0:Int)],kd:=4,fo:=[(0,1,false),(1,1,false),(2,1,false)] }),
 (57,{ sz:=3,byt:=56,ag:=true,z:=[.i .i64 (0:Int),.nil,.nil],kd:=4,fo:=[(0,1,false),(1,1,false),(2,1,false)] }),
 (66,{ sz:=3,byt:=24,ag:=true,z:=[.i .i64 (0:Int),.i .i64 (0:Int),.i .i64 (0:Int)],kd:=4,fo:=[(0,1,false),(1,1,false),(2,1,false)] }),
 (68,{ sz:=4,byt:=40,ag:=true,z:=[.s (str []),.i .i64 (0:Int),.i .i64 (0:Int),.i .i64 (0:Int)],kd:=4,fo:=[(0,1,false),(1,3,true)] }),
 (69,{ sz:=1,byt:=24,ag:=false,z:=[.nil],kd:=6,es:=4,eb:=40,el:=68 }),
 (70,{ sz:=1,byt:=24,ag:=false,z:=[.nil],kd:=6,es:=3,eb:=24,el:=128 }),
 (71,{ sz:=1,byt:=24,ag:=false,z:=[.nil],kd:=6,es:=2,eb:=16,el:=32 }),
 (73,{ sz:=2,byt:=48,ag:=true,z:=[.nil,.nil],kd:=4,fo:=[(0,1,false),(1,1,false)] }),
 (75,{ sz:=5,byt:=96,ag:=true,z:=[.s (str []),.nil,.i .i64 (0:Int),.nil,.nil],kd:=4,fo:=[(0,1,false),(1,1,false),(2,1,false),(3,2,true)] }),
 (77,{ sz:=3,byt:=24,ag:=true,z:=[.i .i64 (0:Int),.i .i64 (0:Int),.i .i64 (0:Int)],kd:=4,fo:=[(0,1,false),(1,1,false),(2,1,false)] }),
 (79,{ sz:=6,byt:=48,ag:=true,z:=[.i .i64 (0:Int),.i .i64 (0:Int),.i .i64 (0:Int),.i .i64 (0:Int),.i .i64 (0:Int),.b false],kd:=4,fo:=[(0,1,false),(1,3,true),(4,1,false),(5,1,false)] }),
 (83,{ sz:=3,byt:=32,ag:=true,z:=[.i .i64 (0:Int),.i .i64 (0:Int),.s (str [])],kd:=4,fo:=[(0,1,false),(1,1,false),(2,1,false)] }),
 (92,{ sz:=1,byt:=24,ag:=false,z:=[.nil],kd:=6,es:=1,eb:=8,el:=3 }),
 (107,{ sz:=4,byt:=32,ag:=true,z:=[.i .i64 (0:Int),.i .i64 (0:Int),.i .i64 (0:Int),.i .i64 (0:Int)],kd:=4,fo:=[(0,1,false),(1,1,false),(2,1,false),(3,1,false)] }),
 (128,{ sz:=3,byt:=24,ag:=true,z:=[.i .i64 (0:Int),.i .i64 (0:Int),.i .i64 (0:Int)],kd:=4,fo:=[(0,1,false),(1,1,false),(2,1,false)] }),
 (129,{ sz:=1,byt:=8,ag:=false,z:=[.v (.pointer none)],kd:=0 }),
 (130,{ sz:=1,byt:=24,ag:=false,z:=[.nil],kd:=6,es:=1,eb:=1,el:=5 }),
 (132,{ sz:=2,byt:=32,ag:=true,z:=[.v (.pointer none),.nil],kd:=4,fo:=[(0,1,false),(1,1,false)] }),
 (145,{ sz:=4,byt:=32,ag:=true,z:=[.i .i64 (0:Int),.i .i64 (0:Int),.i .i64 (0:Int),.i .i64 (0:Int)],kd:=4,fo:=[(0,1,false),(1,1,false),(2,1,false),(3,1,false)] }),
 (168,{ sz:=1,byt:=24,ag:=false,z:=[.nil],kd:=6,es:=1,eb:=24,el:=92 }),
 (170,{ sz:=7,byt:=120,ag:=true,z:=[.i .i64 (0:Int),.i .i64 (0:Int),.i .i64 (0:Int),.nil,.nil,.nil,.nil],kd:=4,fo:=[(0,6,true),(6,1,false)] }),
 (173,{ sz:=2,byt:=32,ag:=true,z:=[.i .i64 (0:Int),.nil],kd:=4,fo:=[(0,1,false),(1,1,false)] }),
 (188,{ sz:=2,byt:=32,ag:=true,z:=[.i .i64 (0:Int),.nil],kd:=4,fo:=[(0,1,false),(1,1,false)] }),
 (229,{ sz:=1,byt:=8,ag:=false,z:=[.v .nilFunc],kd:=0 }),
 (230,{ sz:=1,byt:=8,ag:=false,z:=[.i .u64 (0:Int)],kd:=3,ik:=some .u64 }),
 (242,{ sz:=1,byt:=8,ag:=false,z:=[.v .nilFunc],kd:=0 }),
 (243,{ sz:=1,byt:=8,ag:=false,z:=[.v .nilFunc],kd:=0 }),
 (245,{ sz:=28,byt:=448,ag:=true,z:=[.s (str []),.s (str []),.s (str []),.s (str []),.s (str []),.s (str []),.s (str []),.s (str []),.s (str []),.s (str []),.s (str []),.s (str []),.s (str []),.s (str []),.s (str []),.s (str []),.s (str []),.s (str []),.s (str []),.s (str []),.s (str []),.s (str []),.s (str []),.s (str []),.s (str []),.s (str []),.s (str []),.s (str [])],kd:=5,n:=28,es:=1,el:=9 }),
 (262,{ sz:=3,byt:=24,ag:=true,z:=[.b false,.i .i64 (0:Int),.i .i64 (0:Int)],kd:=4,fo:=[(0,1,false),(1,1,false),(2,1,false)] })]
theorem htt:TTOk Tryz.prog tt:=by
  unfold tt
  exact ⟨⟨by kernel_rfl,by kernel_rfl,by kernel_rfl,by kernel_rfl⟩,
    ⟨by kernel_rfl,by kernel_rfl,by kernel_rfl,by kernel_rfl⟩,
    ⟨by kernel_rfl,by kernel_rfl,by kernel_rfl,by kernel_rfl⟩,
    ⟨by kernel_rfl,by kernel_rfl,by kernel_rfl,by kernel_rfl⟩,
    ⟨by kernel_rfl,by kernel_rfl,by kernel_rfl,by kernel_rfl⟩,
    ⟨by kernel_rfl,by kernel_rfl,by kernel_rfl,by kernel_rfl⟩,
    ⟨by kernel_rfl,by kernel_rfl,by kernel_rfl,by kernel_rfl⟩,
    ⟨by kernel_rfl,by kernel_rfl,by kernel_rfl,by kernel_rfl⟩,
    ⟨by kernel_rfl,by kernel_rfl,by kernel_rfl,by kernel_rfl⟩,
    ⟨by kernel_rfl,by kernel_rfl,by kernel_rfl,by kernel_rfl⟩,
    ⟨by kernel_rfl,by kernel_rfl,by kernel_rfl,by kernel_rfl⟩,
    ⟨by kernel_rfl,by kernel_rfl,by kernel_rfl,by kernel_rfl⟩,
    ⟨by kernel_rfl,by kernel_rfl,by kernel_rfl,by kernel_rfl⟩,
    ⟨by kernel_rfl,by kernel_rfl,by kernel_rfl,by kernel_rfl⟩,
    ⟨by kernel_rfl,by kernel_rfl,by kernel_rfl,by kernel_rfl⟩,
    ⟨by kernel_rfl,by kernel_rfl,by kernel_rfl,by kernel_rfl⟩,
    ⟨by kernel_rfl,by kernel_rfl,by kernel_rfl,by kernel_rfl⟩,
    ⟨by kernel_rfl,by kernel_rfl,by kernel_rfl,by kernel_rfl⟩,
    ⟨by kernel_rfl,by kernel_rfl,by kernel_rfl,by kernel_rfl⟩,
    ⟨by kernel_rfl,by kernel_rfl,by kernel_rfl,by kernel_rfl⟩,
    ⟨by kernel_rfl,by kernel_rfl,by kernel_rfl,by kernel_rfl⟩,
    ⟨by kernel_rfl,by kernel_rfl,by kernel_rfl,by kernel_rfl⟩,
    ⟨by kernel_rfl,by kernel_rfl,by kernel_rfl,by kernel_rfl⟩,
    ⟨by kernel_rfl,by kernel_rfl,by kernel_rfl,by kernel_rfl⟩,
    ⟨by kernel_rfl,by kernel_rfl,by kernel_rfl,by kernel_rfl⟩,
    ⟨by kernel_rfl,by kernel_rfl,by kernel_rfl,by kernel_rfl⟩,
    ⟨by kernel_rfl,by kernel_rfl,by kernel_rfl,by kernel_rfl⟩,
    ⟨by kernel_rfl,by kernel_rfl,by kernel_rfl,by kernel_rfl⟩,
    ⟨by kernel_rfl,by kernel_rfl,by kernel_rfl,by kernel_rfl⟩,
    ⟨by kernel_rfl,by kernel_rfl,by kernel_rfl,by kernel_rfl⟩,
    ⟨by kernel_rfl,by kernel_rfl,by kernel_rfl,by kernel_rfl⟩,
    ⟨by kernel_rfl,by kernel_rfl,by kernel_rfl,by kernel_rfl⟩,
    ⟨by kernel_rfl,by kernel_rfl,by kernel_rfl,by kernel_rfl⟩,
    ⟨by kernel_rfl,by kernel_rfl,by kernel_rfl,by kernel_rfl⟩,
    ⟨by kernel_rfl,by kernel_rfl,by kernel_rfl,by kernel_rfl⟩,
    ⟨by kernel_rfl,by kernel_rfl,by kernel_rfl,by kernel_rfl⟩,
    ⟨by kernel_rfl,by kernel_rfl,by kernel_rfl,by kernel_rfl⟩,
    ⟨by kernel_rfl,by kernel_rfl,by kernel_rfl,by kernel_rfl⟩,
    ⟨by kernel_rfl,by kernel_rfl,by kernel_rfl,by kernel_rfl⟩,
    ⟨by kernel_rfl,by kernel_rfl,by kernel_rfl,by kernel_rfl⟩,
    ⟨by kernel_rfl,by kernel_rfl,by kernel_rfl,by kernel_rfl⟩,
    ⟨by kernel_rfl,by kernel_rfl,by kernel_rfl,by kernel_rfl⟩,
    ⟨by kernel_rfl,by kernel_rfl,by kernel_rfl,by kernel_rfl⟩,
    ⟨by kernel_rfl,by kernel_rfl,by kernel_rfl,by kernel_rfl⟩,
    ⟨by kernel_rfl,by kernel_rfl,by kernel_rfl,by kernel_rfl⟩,
    ⟨by kernel_rfl,by kernel_rfl,by kernel_rfl,by kernel_rfl⟩,
    ⟨by kernel_rfl,by kernel_rfl,by kernel_rfl,by kernel_rfl⟩,
    ⟨by kernel_rfl,by kernel_rfl,by kernel_rfl,by kernel_rfl⟩,
    ⟨by kernel_rfl,by kernel_rfl,by kernel_rfl,by kernel_rfl⟩,trivial⟩
def J:=@htt
theorem Q {α:Sort _} {a:α}:a=a:=rfl
section
variable [LxP]
theorem wH {X:Ctx} {tt:List (Nat × TD)} (htt:TTOk X.P tt) (n:Nat) {b t:Bool} (K:b=t) {c:Cf} (k:Wc X (Tb t (Xm tt X.fn.ntmps n c))) (hp:(Zk (Xm tt X.fn.ntmps n c).st.L (U5 (Xm tt X.fn.ntmps n c)),Lp (Xm tt X.fn.ntmps n c))=(some (.c (.b b)),ME b (Xm tt X.fn.ntmps n c)):=by kernel_rfl):Wc X c:=wa htt n (eK K k hp)
theorem eB {X:Ctx} {b:Bool} {α:Type} {x y:Option α} {r:α} (h:(bif b then x else y)=some r) {c:Cf} (k1:x=some r→Wc X (Tb true c)) (k2:y=some r→Wc X (Tb false c)) (hp:(Zk c.st.L (U5 c),Lp c)=(some (.c (.b b)),ME b c):=by kernel_rfl):Wc X c:=by
  rcases oc h with ⟨K,h⟩ | ⟨K,h⟩
  · exact eK K (k1 h) hp
  · exact eK K (k2 h) hp
theorem VH {X:Ctx} {b:Bool} {α:Type} {x y:Option α} {r:α} (h:(bif b then x else y)=some r) {c:Cf} (k1:y=some r→Wc X (Tb false c)) (k2:x=some r→Wc X (Tb true c)) (hp:(Zk c.st.L (U5 c),Lp c)=(some (.c (.b b)),ME b c):=by kernel_rfl):Wc X c:=eB h k2 k1 hp
theorem wB {X:Ctx} {tt:List (Nat × TD)} (htt:TTOk X.P tt) (n:Nat) {b:Bool} {α:Type} {x y:Option α} {r:α} (h:(bif b then x else y)=some r) {c:Cf} (k1:x=some r→Wc X (Tb true (Xm tt X.fn.ntmps n c))) (k2:y=some r→Wc X (Tb false (Xm tt X.fn.ntmps n c))) (hp:(Zk (Xm tt X.fn.ntmps n c).st.L (U5 (Xm tt X.fn.ntmps n c)),Lp (Xm tt X.fn.ntmps n c))=(some (.c (.b b)),ME b (Xm tt X.fn.ntmps n c)):=by kernel_rfl):Wc X c:=by
  rcases oc h with ⟨K,h⟩ | ⟨K,h⟩
  · exact wH htt n K (k1 h) hp
  · exact wH htt n K (k2 h) hp
theorem Zo {X:Ctx} {tt:List (Nat × TD)} (htt:TTOk X.P tt) (n:Nat) {b:Bool} {α:Type} {x y:Option α} {r:α} (h:(bif b then x else y)=some r) {c:Cf} (k1:y=some r→Wc X (Tb false (Xm tt X.fn.ntmps n c))) (k2:x=some r→Wc X (Tb true (Xm tt X.fn.ntmps n c))) (hp:(Zk (Xm tt X.fn.ntmps n c).st.L (U5 (Xm tt X.fn.ntmps n c)),Lp (Xm tt X.fn.ntmps n c))=(some (.c (.b b)),ME b (Xm tt X.fn.ntmps n c)):=by kernel_rfl):Wc X c:=wB htt n h k2 k1 hp
theorem wO {X:Ctx} {tt:List (Nat × TD)} (htt:TTOk X.P tt) (n:Nat) {α β:Type} {o:Option α} {f:α→Option β} {r:β} (h:o.bind f=some r) {c:Cf} (k:∀ x,o=some x→f x=some r→Wc X (Xm tt X.fn.ntmps n c)):Wc X c:=by
  obtain ⟨x,e,h⟩:=ob h
  exact wa htt n (k x e h)
theorem wr {P:Program} {f:FuncId} {fn:Func} {ct:Ct} {E0:Env} {F0:ZU} {w0:World} {tt:List (Nat × TD)} (htt:TTOk P tt) (n:Nat) (hf:P.funcs[f]? = some fn) (l:List (Nat × SC)) {c:Cf}
    (hp:(ZeB (Xm tt fn.ntmps n c),PL tt (Xm tt fn.ntmps n c).st fn.results.toList,ct.V1.map (fun p=>Tz (Xm tt fn.ntmps n c).st ⟨l,0,0⟩ p.1 p.2),ct.M1.map (fun p=>X3 (Xm tt fn.ntmps n c).st ⟨l,0,0⟩ p.1 p.2),
        (Vo ⟨l,0,0⟩ ct.res && Y8 (ct.M1.filterMap fun p=>Xa ⟨l,0,0⟩ p.1 p.2) && Y8 (ct.M1.map (·.1)) && l.all (fun p=>Nat.ble ct.nk p.1 && p.2.kbb (Xm tt fn.ntmps n c).st.nx))) =
      (true,some (XD ⟨l,0,0⟩ ct.res),ct.V1.map (fun p=>some p.2),ct.M1.map (fun p=>some (X9 ⟨l,0,0⟩ p.2)),true):=by kernel_rfl):Wc (ct.ctx P f fn E0 F0 w0) c:=wa (X:=ct.ctx P f fn E0 F0 w0) htt n (Z4 htt hf l hp)
end
abbrev VO:=fun L=>(⟨L,[],[],0⟩:St)
abbrev V6:=fun x0 x1 x2 L=>(⟨L,[(2,.box [.I 0,.nil] 173),(3,.own (rI .i64) x0 true),(4,.box (VZ 3 x1) 173)],[(0,.sl (rI .i64) x2)],5⟩:St)
abbrev Ty:=fun x0 L=>(⟨L,[(4,.box (ZT 0 1 2 3 x0) 27)],(Yh 0 1 2 3 x0 []),5⟩:St)
abbrev RD:=fun x0 L=>(⟨L,[],[(0,.sl rS x0)],1⟩:St)
abbrev Rp:=fun x0 x1 L=>(⟨L,[],[(0,.sl YM x0),(1,.sl ZD x1)],2⟩:St)
abbrev Rl:=fun x0 x1 x2 L=>(⟨L,[(3,.box [.sl 0,.sl 1] 73)],[(0,.sl YO x0),(1,.sl (rP (rI .i64) (rI .i64)) x1),(2,.sl ZD x2)],4⟩:St)
abbrev RL:=fun x0 x1 L=>(⟨L,[],[(0,.sl ZD x0),(1,.sl ZD x1)],2⟩:St)
abbrev Qo:=fun x0 L=>(⟨L,[],[(0,.sl ZL x0)],1⟩:St)
abbrev PA:=fun x0 L=>(⟨L,[],[(0,.sl (rI .i64) x0)],1⟩:St)
abbrev Q0:=fun x0 x1 L=>(⟨L,[(5,.box (Yt 2 3 4 x0) 75)],((0,.sl ZL x1)::Yn 2 3 4 x0 []),6⟩:St)
abbrev MX:=fun x0 L=>(⟨L,[],(Yh 0 1 2 3 x0 []),5⟩:St)
abbrev Mq:=fun x0 L=>(⟨L,[(0,.abs x0)],[],1⟩:St)
abbrev M6:=fun x0 L=>(⟨L,[(0,.box (XS 1 2 3 4 x0) 170)],(Wz 1 2 3 4 x0 []),5⟩:St)
abbrev He:=fun x0 L=>(⟨L,[],(ZZ 0 1 2 x0 []),4⟩:St)
abbrev De:=fun x0 L=>(⟨L,[(3,.box (ZX 0 1 2 x0) 31)],(ZZ 0 1 2 x0 []),4⟩:St)
abbrev Hh:=fun x0 x1 x2 L=>(⟨L,[(3,.own ZD x0 false),(4,.box (Yt 0 1 2 x1) 75),(5,.own rB x2 true)],(Yn 0 1 2 x1 []),6⟩:St)
abbrev GM:=fun x0 x1 L=>(⟨L,[(4,.box (ZT 0 1 2 3 x0) 27),(5,.own (rI .i64) x1 true)],(Yh 0 1 2 3 x0 []),7⟩:St)
abbrev Zch:=fun x0 L=>(⟨L,[(0,.own rS x0 true)],[],1⟩:St)
abbrev Bb:=fun x0 x1 L=>(⟨L,[(4,.box (ZT 0 1 2 3 x0) 27),(6,.box (cC2 x1) 79)],(Yh 0 1 2 3 x0 []),7⟩:St)
abbrev BM:=fun x0 x1 L=>(⟨L,[(1,.own (rI .i64) x0 true)],[(0,.sl (rI .i64) x1)],2⟩:St)
abbrev ZbO:=fun x0 x1 x2 L=>(⟨L,[],[(0,.sl YO x0),(1,.sl (rP (rI .i64) (rI .i64)) x1),(2,.sl ZD x2)],4⟩:St)
abbrev ZaH:=fun x0 x1 L=>(⟨L,[(0,.box [.I 0,.nil] 173),(1,.own (rI .i64) x0 true),(2,.box [.I x1,.sl 1] 173)],[],3⟩:St)
abbrev Zbk:=fun x0 L=>(⟨L,[],[(0,.sl (rI .i64) x0)],2⟩:St)
abbrev B3:=fun x0 x1 x2 L=>(⟨L,[(3,.box [.sl 1,.sl 2] 73)],[(0,.sl ZL x0),(1,.sl YO x1),(2,.sl (rP (rI .i64) (rI .i64)) x2)],4⟩:St)
abbrev ZaM:=fun x0 x1 L=>(⟨L,[(4,.box (ZT 0 1 2 3 x0) 27),(5,.own rB x1 true)],(Yh 0 1 2 3 x0 []),7⟩:St)
abbrev Zd1:=fun x0 x1 L=>(⟨L,[(1,.own YM x0 true)],[(0,.sl ZL x1)],2⟩:St)
abbrev ZcR:=fun x0 x1 x2 x3 L=>(⟨L,[(3,.box (VZ 2 x0) 173),(5,.own (rI .i64) x1 true)],[(0,.sl (rI .i64) x2),(2,.sl (rI .i64) x3)],6⟩:St)
abbrev ZeA:=fun x0 x1 x2 x3 x4 x5 x6 x7 L=>(⟨L,[(6,.box (Yt 3 4 5 x0) 75),(8,.box [.I x1,.sl 10] 173),(9,.own YO x2 true),(13,.box [.I x3,.I x4] 32)],((0,.sl ZL x5)::(1,.sl ZD x6)::Yn 3 4 5 x0 [(10,.sl (rI .i64) x7)]),14⟩:St)
abbrev Zef:=fun x0 x1 L=>(⟨L,[(4,.box (ZT 0 1 2 3 x0) 27),(5,.own (rI .i64) x1 true)],(Yh 0 1 2 3 x0 []),6⟩:St)
abbrev Zc6:=fun x0 x1 L=>(⟨L,[(0,.box (UG x0) 66),(1,.box (Xx x1) 83)],[],2⟩:St)
abbrev ZdA:=fun x0 x1 L=>(⟨L,[(4,.box (Yt 0 1 2 x0) 75)],(Yn 0 1 2 x0 [(3,.sl ZD x1)]),5⟩:St)
abbrev ZfW:=fun x0 x1 x2 L=>(⟨L,[(3,.box [.sl 0,.sl 1] 73)],[(0,.sl YO x0),(1,.sl (rP (rI .i64) (rI .i64)) x1),(2,.sl YM x2)],4⟩:St)
abbrev Zif:=fun x0 x1 x2 L=>(⟨L,[(1,.own YM x0 true),(6,.box (Yt 3 4 5 x1) 75)],((0,.sl ZL x2)::Yn 3 4 5 x1 []),8⟩:St)
abbrev Zje:=fun x0 x1 x2 L=>(⟨L,[(4,.box (ZT 0 1 2 3 x0) 27),(6,.box (cC2 x1) 79),(8,.box (cC2 x2) 79)],(Yh 0 1 2 3 x0 []),9⟩:St)
abbrev ZhQ:=fun x0 x1 x2 L=>(⟨L,[(4,.box (ZT 0 1 2 3 x0) 27),(6,.own (rI .i64) x1 true),(10,.own (rI .i64) x2 true)],(Yh 0 1 2 3 x0 []),11⟩:St)
abbrev ZgS:=fun x0 x1 x2 x3 x4 x5 L=>(⟨L,[(3,.box (ZX 0 1 2 x0) 31),(5,.box [.I x1,.I x2,.I x3,.sl 0,.sl 1,.sl 2,.sl 4] 170),(4,.abs x4)],(ZZ 0 1 2 x0 [(4,.fn x5)]),6⟩:St)
abbrev ZhR:=fun x0 L=>(⟨L,[(1,.box [.s (str []),.nil,.I 0,.nil,.nil] 75),(2,.box [.s (str []),.I 0,.I 0,.I 0] 68)],[(0,.sl ZL x0)],3⟩:St)
abbrev Zhx:=fun x0 x1 x2 x3 L=>(⟨L,[(1,.abs x0),(7,.box (Yt 4 5 6 x1) 75),(8,.own rS x2 true)],((0,.sl ZL x3)::Yn 4 5 6 x1 []),9⟩:St)
abbrev Zfq:=fun x0 x1 x2 x3 x4 L=>(⟨L,[(1,.abs x0),(7,.box (Yt 4 5 6 x1) 75),(8,.own rS x2 true),(9,.own rS x3 true)],((0,.sl ZL x4)::Yn 4 5 6 x1 []),10⟩:St)
abbrev Zg8:=fun x0 x1 x2 x3 L=>(⟨L,[(1,.box (Xy 2 3 x0) 48),(4,.box (X5 5 x1) 46)],((0,.sl Xn x2)::XG 2 3 x0 [(5,.sl ZD x3)]),6⟩:St)
abbrev ZfH:=fun x0 x1 x2 x3 x4 x5 L=>(⟨L,[(3,.box [.sl 0,.sl 1] 73),(5,.box (Da x0) 128),(6,.box [.I x1,.I x2] 32)],[(0,.sl YO x3),(1,.sl (rP (rI .i64) (rI .i64)) x4),(2,.sl ZD x5)],7⟩:St)
abbrev Zka:=fun x0 x1 x2 x3 x4 x5 x6 x7 x8 L=>(⟨L,[(7,.box (ZT 0 1 2 3 x0) 27),(8,.box (Xy 4 5 x1) 48),(9,.box (X5 6 x2) 46),(14,.box (Yt 11 12 13 x3) 75)],((0,.sl rS x4)::(1,.sl ZL x5)::(2,.sl Yf x6)::(3,.sl Z2 x7)::XG 4 5 x1 ((6,.sl ZD x8)::Yn 11 12 13 x3 [])),15⟩:St)
abbrev Zi9:=fun x0 x1 x2 x3 x4 L=>(⟨L,[(3,.own ZD x0 false),(4,.box (Yt 0 1 2 x1) 75),(5,.own rB x2 true),(7,.box [.I x3,.I x4] 32)],(Yn 0 1 2 x1 []),8⟩:St)
abbrev ZgC:=fun x0 x1 x2 L=>(⟨L,[(5,.box (Yt 2 3 4 x0) 75),(7,.box (WM x1) 68)],((0,.sl ZL x2)::Yn 2 3 4 x0 []),8⟩:St)
abbrev Zj7:=fun x0 x1 x2 x3 L=>(⟨L,[(3,.box [.sl 0,.sl 1] 73),(5,.box (Da x0) 128)],[(0,.sl YO x1),(1,.sl (rP (rI .i64) (rI .i64)) x2),(2,.sl ZD x3)],6⟩:St)
abbrev ZgR:=fun x0 x1 x2 x3 x4 x5 x6 x7 L=>(⟨L,[(20,.own rS x0 true)],((0,.sl rS x1)::(1,.sl ZL x2)::(2,.sl Yf x3)::(3,.sl Z2 x4)::ZZ 4 5 6 x5 [(7,.sl Yv x6),(8,.sl ZD x7)]),21⟩:St)
end Gx
end
