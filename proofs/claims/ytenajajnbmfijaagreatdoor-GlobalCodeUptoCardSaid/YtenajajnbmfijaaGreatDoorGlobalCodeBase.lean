/- How typed values lie in the machine, and the types of the program. -/
import Derived.Test.YtenajajnbmfijaaGreatDoorChecked
import Derived.Test.YtenajajnbmfijaaGreatDoorGlobalCodePure
set_option linter.all false
section
open Go Go.Kx Go.Proofs
namespace Gx
abbrev rR7:TRep T7:=rM (fun x=>(x.Kind,x.Lo,x.Hi)) (rP (rI .i64) (rP (rI .i64) (rI .i64)))
abbrev oO7:Opn rR7:=oM _ (oP (oI .i64) (oP (oI .i64) (oI .i64)))
abbrev rR3:TRep T3:=rM (fun x=>(x.Name,x.Sort')) (rP rS rR7)
abbrev oO3:Opn rR3:=oM _ (oP oS oO7)
abbrev rR1:TRep T1:=rM (fun x=>(x.X,x.Y,x.C)) (rP (rI .i64) (rP (rI .i64) (rI .i64)))
abbrev oO1:Opn rR1:=oM _ (oP (oI .i64) (oP (oI .i64) (oI .i64)))
abbrev rR5:TRep T5:=rM (fun x=>(x.Diffs,x.Equals)) (rP (rSl rR1) (rSl (rP (rI .i64) (rI .i64))))
abbrev oO5:Opn rR5:=oM _ (oP (oSl rR1) (oSl (rP (rI .i64) (rI .i64))))
abbrev rR0:TRep T0:=rM (fun x=>(x.Name,x.Fields,x.First,x.Guard)) (rP rS (rP (rSl rR3) (rP (rI .i64) rR5)))
abbrev oO0:Opn rR0:=oM _ (oP oS (oP (oSl rR3) (oP (oI .i64) oO5)))
abbrev rR6:TRep T6:=rM (fun x=>(x.From,x.To,x.Label)) (rP (rI .i64) (rP (rI .i64) (rI .i64)))
abbrev oO6:Opn rR6:=oM _ (oP (oI .i64) (oP (oI .i64) (oI .i64)))
abbrev rR2:TRep T2:=rM (fun x=>(x.From,x.Act,x.To,x.Again)) (rP (rI .i64) (rP rR6 (rP (rI .i64) rB)))
abbrev oO2:Opn rR2:=oM _ (oP (oI .i64) (oP oO6 (oP (oI .i64) oB)))
abbrev rR8:TRep T8:=rM (fun x=>(x.State,x.Ticks,x.Else)) (rP (rI .i64) (rP (rI .i64) (rI .i64)))
abbrev oO8:Opn rR8:=oM _ (oP (oI .i64) (oP (oI .i64) (oI .i64)))
abbrev rR4:TRep T4:=rM (fun x=>(x.Name,x.Roles,x.Decls,x.States,x.Start,x.End,x.Edges,x.Timeouts)) (rP rS (rP (rSl rS) (rP (rSl rR0) (rP (rI .i64) (rP (rI .i64) (rP (rI .i64) (rP (rSl rR2) (rSl rR8))))))))
abbrev oO4:Opn rR4:=oM _ (oP oS (oP (oSl rS) (oP (oSl rR0) (oP (oI .i64) (oP (oI .i64) (oP (oI .i64) (oP (oSl rR2) (oSl rR8))))))))
abbrev rR10:TRep T10:=rM (fun x=>(x.State,x.Act,x.Name)) (rP (rI .i64) (rP rR6 rS))
abbrev oO10:Opn rR10:=oM _ (oP (oI .i64) (oP oO6 oS))
abbrev rR12:TRep T12:=rM (fun x=>(x.b',x.at',x.failed')) (rP (rSl (rI .u8)) (rP (rI .i64) rB))
abbrev oO12:Opn rR12:=oM _ (oP (oSl (rI .u8)) (oP (oI .i64) oB))
abbrev rR11:TRep T11:=rM (fun x=>(x.B,x.At,x.Failed)) (rP (rSl (rI .u8)) (rP (rI .i64) rB))
abbrev oO11:Opn rR11:=oM _ (oP (oSl (rI .u8)) (oP (oI .i64) oB))
abbrev rR9:TRep T9:=rM (fun x=>(x.At,x.To)) (rP (rI .u16) (rI .u8))
abbrev oO9:Opn rR9:=oM _ (oP (oI .u16) (oI .u8))
end Gx
namespace Go.Kx
abbrev SV.I (n:Int):SV:=.c (.i .i64 n)
abbrev SC.I (n:Int):SC:=.i .i64 n
abbrev SV.O (b:Bool):SV:=.c (.b b)
abbrev SV.B (k o:Nat):SV:=.c (.bp k o)
abbrev SV.P (k o:Nat):SV:=.c (.px k o)
abbrev SV.S (k:Nat):SV:=.c (.sl k)
end Go.Kx
namespace Gx
def rg (a:Nat):Nat→List Nat
  | 0=>[]
  | n+1=>a::rg (a+1) n
abbrev cC7 (e:T7):List SC:=[.i .i64 e.Kind,.i .i64 e.Lo,.i .i64 e.Hi]
abbrev cC3 (e:T3):List SC:=[.s e.Name,.i .i64 e.Sort'.Kind,.i .i64 e.Sort'.Lo,.i .i64 e.Sort'.Hi]
abbrev cC1 (e:T1):List SC:=[.i .i64 e.X,.i .i64 e.Y,.i .i64 e.C]
abbrev cC0 (k0 k1 k2:Nat) (e:T0):List SC:=[.s e.Name,.sl k0,.i .i64 e.First,.sl k1,.sl k2]
abbrev vV0 (k0 k1 k2:Nat) (e:T0) (l:List (Nat × VF)):List (Nat × VF):=(k0,.sl rR3 e.Fields)::(k1,.sl rR1 e.Guard.Diffs)::(k2,.sl (rP (rI .i64) (rI .i64)) e.Guard.Equals)::l
abbrev cC6 (e:T6):List SC:=[.i .i64 e.From,.i .i64 e.To,.i .i64 e.Label]
abbrev cC2 (e:T2):List SC:=[.i .i64 e.From,.i .i64 e.Act.From,.i .i64 e.Act.To,.i .i64 e.Act.Label,.i .i64 e.To,.b e.Again]
abbrev cC8 (e:T8):List SC:=[.i .i64 e.State,.i .i64 e.Ticks,.i .i64 e.Else]
abbrev cC4 (k0 k1 k2 k3:Nat) (e:T4):List SC:=[.s e.Name,.sl k0,.sl k1,.i .i64 e.States,.i .i64 e.Start,.i .i64 e.End,.sl k2,.sl k3]
abbrev vV4 (k0 k1 k2 k3:Nat) (e:T4) (l:List (Nat × VF)):List (Nat × VF):=(k0,.sl rS e.Roles)::(k1,.sl rR0 e.Decls)::(k2,.sl rR2 e.Edges)::(k3,.sl rR8 e.Timeouts)::l
abbrev cC10 (e:T10):List SC:=[.i .i64 e.State,.i .i64 e.Act.From,.i .i64 e.Act.To,.i .i64 e.Act.Label,.s e.Name]
abbrev cC12 (k0:Nat) (e:T12):List SC:=[.sl k0,.i .i64 e.at',.b e.failed']
abbrev cC11 (k0:Nat) (e:T11):List SC:=[.sl k0,.i .i64 e.At,.b e.Failed]
abbrev cC9 (e:T9):List SC:=[.i .u16 e.At,.i .u8 e.To]
def tt:List (Nat × TD):=[
 (3,{ sz:=1,byt:=8,ag:=false,z:=[.i .i64 (0:Int)],kd:=3,ik:=some .i64 }),
 (4,{ sz:=1,byt:=1,ag:=false,z:=[.b false],kd:=1 }),
 (5,{ sz:=1,byt:=1,ag:=false,z:=[.i .u8 (0:Int)],kd:=3,ik:=some .u8 }),
 (9,{ sz:=1,byt:=16,ag:=false,z:=[.s (str [])],kd:=2 }),
 (21,{ sz:=1,byt:=4,ag:=false,z:=[.i .i32 (0:Int)],kd:=3,ik:=some .i32 }),
 (22,{ sz:=1,byt:=24,ag:=false,z:=[.nil],kd:=6,es:=1,eb:=16,el:=9 }),
 (23,{ sz:=1,byt:=24,ag:=false,z:=[.nil],kd:=6,es:=5,eb:=96,el:=94 }),
 (24,{ sz:=1,byt:=24,ag:=false,z:=[.nil],kd:=6,es:=6,eb:=48,el:=43 }),
 (25,{ sz:=1,byt:=24,ag:=false,z:=[.nil],kd:=6,es:=3,eb:=24,el:=79 }),
 (27,{ sz:=8,byt:=136,ag:=true,z:=[.s (str []),.nil,.nil,.i .i64 (0:Int),.i .i64 (0:Int),.i .i64 (0:Int),.nil,.nil],kd:=4,fo:=[(0,1,false),(1,1,false),(2,1,false),(3,1,false),(4,1,false),(5,1,false),(6,1,false),(7,1,false)] }),
 (30,{ sz:=1,byt:=24,ag:=false,z:=[.nil],kd:=6,es:=1,eb:=24,el:=35 }),
 (35,{ sz:=1,byt:=24,ag:=false,z:=[.nil],kd:=6,es:=3,eb:=24,el:=37 }),
 (37,{ sz:=3,byt:=24,ag:=true,z:=[.i .i64 (0:Int),.i .i64 (0:Int),.i .i64 (0:Int)],kd:=4,fo:=[(0,1,false),(1,1,false),(2,1,false)] }),
 (40,{ sz:=1,byt:=24,ag:=false,z:=[.nil],kd:=6,es:=1,eb:=8,el:=3 }),
 (43,{ sz:=6,byt:=48,ag:=true,z:=[.i .i64 (0:Int),.i .i64 (0:Int),.i .i64 (0:Int),.i .i64 (0:Int),.i .i64 (0:Int),.b false],kd:=4,fo:=[(0,1,false),(1,3,true),(4,1,false),(5,1,false)] }),
 (49,{ sz:=1,byt:=8,ag:=false,z:=[.i .u64 (0:Int)],kd:=3,ik:=some .u64 }),
 (55,{ sz:=5,byt:=48,ag:=true,z:=[.i .i64 (0:Int),.i .i64 (0:Int),.i .i64 (0:Int),.i .i64 (0:Int),.s (str [])],kd:=4,fo:=[(0,1,false),(1,3,true),(4,1,false)] }),
 (61,{ sz:=1,byt:=24,ag:=false,z:=[.nil],kd:=6,es:=1,eb:=1,el:=5 }),
 (66,{ sz:=1,byt:=2,ag:=false,z:=[.i .u16 (0:Int)],kd:=3,ik:=some .u16 }),
 (68,{ sz:=2,byt:=4,ag:=true,z:=[.i .u16 (0:Int),.i .u8 (0:Int)],kd:=4,fo:=[(0,1,false),(1,1,false)] }),
 (79,{ sz:=3,byt:=24,ag:=true,z:=[.i .i64 (0:Int),.i .i64 (0:Int),.i .i64 (0:Int)],kd:=4,fo:=[(0,1,false),(1,1,false),(2,1,false)] }),
 (88,{ sz:=1,byt:=24,ag:=false,z:=[.nil],kd:=6,es:=4,eb:=40,el:=141 }),
 (89,{ sz:=1,byt:=24,ag:=false,z:=[.nil],kd:=6,es:=3,eb:=24,el:=144 }),
 (90,{ sz:=1,byt:=24,ag:=false,z:=[.nil],kd:=6,es:=2,eb:=16,el:=146 }),
 (92,{ sz:=2,byt:=48,ag:=true,z:=[.nil,.nil],kd:=4,fo:=[(0,1,false),(1,1,false)] }),
 (94,{ sz:=5,byt:=96,ag:=true,z:=[.s (str []),.nil,.i .i64 (0:Int),.nil,.nil],kd:=4,fo:=[(0,1,false),(1,1,false),(2,1,false),(3,2,true)] }),
 (115,{ sz:=1,byt:=8,ag:=false,z:=[.v (.pointer none)],kd:=0 }),
 (130,{ sz:=3,byt:=40,ag:=true,z:=[.nil,.i .i64 (0:Int),.b false],kd:=4,fo:=[(0,1,false),(1,1,false),(2,1,false)] }),
 (135,{ sz:=1,byt:=24,ag:=false,z:=[.nil],kd:=6,es:=1,eb:=1,el:=4 }),
 (139,{ sz:=3,byt:=24,ag:=true,z:=[.i .i64 (0:Int),.i .i64 (0:Int),.i .i64 (0:Int)],kd:=4,fo:=[(0,1,false),(1,1,false),(2,1,false)] }),
 (141,{ sz:=4,byt:=40,ag:=true,z:=[.s (str []),.i .i64 (0:Int),.i .i64 (0:Int),.i .i64 (0:Int)],kd:=4,fo:=[(0,1,false),(1,3,true)] }),
 (144,{ sz:=3,byt:=24,ag:=true,z:=[.i .i64 (0:Int),.i .i64 (0:Int),.i .i64 (0:Int)],kd:=4,fo:=[(0,1,false),(1,1,false),(2,1,false)] }),
 (146,{ sz:=2,byt:=16,ag:=true,z:=[.i .i64 (0:Int),.i .i64 (0:Int)],kd:=5,n:=2,es:=1,el:=3 }),
 (147,{ sz:=1,byt:=8,ag:=false,z:=[.i .u64 (0:Int)],kd:=3,ik:=some .u64 }),
 (160,{ sz:=3,byt:=40,ag:=true,z:=[.nil,.i .i64 (0:Int),.b false],kd:=4,fo:=[(0,1,false),(1,1,false),(2,1,false)] }),
 (175,{ sz:=1,byt:=4,ag:=false,z:=[.i .u32 (0:Int)],kd:=3,ik:=some .u32 }),
 (180,{ sz:=28,byt:=448,ag:=true,z:=[.s (str []),.s (str []),.s (str []),.s (str []),.s (str []),.s (str []),.s (str []),.s (str []),.s (str []),.s (str []),.s (str []),.s (str []),.s (str []),.s (str []),.s (str []),.s (str []),.s (str []),.s (str []),.s (str []),.s (str []),.s (str []),.s (str []),.s (str []),.s (str []),.s (str []),.s (str []),.s (str []),.s (str [])],kd:=5,n:=28,es:=1,el:=9 }),
 (206,{ sz:=2,byt:=2,ag:=true,z:=[.i .u8 (0:Int),.i .u8 (0:Int)],kd:=4,fo:=[(0,1,false),(1,1,false)] }),
 (207,{ sz:=32,byt:=32,ag:=true,z:=[.i .u8 (0:Int),.i .u8 (0:Int),.i .u8 (0:Int),.i .u8 (0:Int),.i .u8 (0:Int),.i .u8 (0:Int),.i .u8 (0:Int),.i .u8 (0:Int),.i .u8 (0:Int),.i .u8 (0:Int),.i .u8 (0:Int),.i .u8 (0:Int),.i .u8 (0:Int),.i .u8 (0:Int),.i .u8 (0:Int),.i .u8 (0:Int),.i .u8 (0:Int),.i .u8 (0:Int),.i .u8 (0:Int),.i .u8 (0:Int),.i .u8 (0:Int),.i .u8 (0:Int),.i .u8 (0:Int),.i .u8 (0:Int),.i .u8 (0:Int),.i .u8 (0:Int),.i .u8 (0:Int),.i .u8 (0:Int),.i .u8 (0:Int),.i .u8 (0:Int),.i .u8 (0:Int),.i .u8 (0:Int)],kd:=5,n:=16,es:=2,el:=206 })]
theorem htt:TTOk Tryz.prog tt:=by
  unfold tt
  exact ⟨⟨by kernel_rfl,by kernel_rfl,by kernel_rfl,by kernel_rfl⟩,
    ⟨by kernel_rfl,by kernel_rfl,by kernel_rfl,by kernel_rfl⟩,
    ⟨by kernel_rfl,by kernel_rfl,by kernel_rfl,by kernel_rfl⟩,
    ⟨by kernel_rfl,by kernel_rfl,by kernel_rfl,by kernel_rfl⟩,
    ⟨by kernel_rfl,by kernel_rfl,by kernel_rfl,by kernel_rfl⟩,
    ⟨by kernel_rfl,by kernel_rfl,by kernel_rfl,by kernel_rfl⟩,
    ⟨by kernel_rfl,by kernel_rfl,by kernel_rfl,by kernel_rfl⟩,
    ⟨by kernel_rfl,by kernel_rfl,by kernel_rfl,by kernel_rfl⟩,
    ⟨by kernel_rfl,by kernel_rfl,by kernel_rfl,by kernel_rfl⟩,
    ⟨by kernel_rfl,by kernel_rfl,by kernel_rfl,by kernel_rfl⟩,
    ⟨by kernel_rfl,by kernel_rfl,by kernel_rfl,by kernel_rfl⟩,
    ⟨by kernel_rfl,by kernel_rfl,by kernel_rfl,by kernel_rfl⟩,
    ⟨by kernel_rfl,by kernel_rfl,by kernel_rfl,by kernel_rfl⟩,
    ⟨by kernel_rfl,by kernel_rfl,by kernel_rfl,by kernel_rfl⟩,
    ⟨by kernel_rfl,by kernel_rfl,by kernel_rfl,by kernel_rfl⟩,
    ⟨by kernel_rfl,by kernel_rfl,by kernel_rfl,by kernel_rfl⟩,
    ⟨by kernel_rfl,by kernel_rfl,by kernel_rfl,by kernel_rfl⟩,
    ⟨by kernel_rfl,by kernel_rfl,by kernel_rfl,by kernel_rfl⟩,
    ⟨by kernel_rfl,by kernel_rfl,by kernel_rfl,by kernel_rfl⟩,
    ⟨by kernel_rfl,by kernel_rfl,by kernel_rfl,by kernel_rfl⟩,
    ⟨by kernel_rfl,by kernel_rfl,by kernel_rfl,by kernel_rfl⟩,
    ⟨by kernel_rfl,by kernel_rfl,by kernel_rfl,by kernel_rfl⟩,
    ⟨by kernel_rfl,by kernel_rfl,by kernel_rfl,by kernel_rfl⟩,
    ⟨by kernel_rfl,by kernel_rfl,by kernel_rfl,by kernel_rfl⟩,
    ⟨by kernel_rfl,by kernel_rfl,by kernel_rfl,by kernel_rfl⟩,
    ⟨by kernel_rfl,by kernel_rfl,by kernel_rfl,by kernel_rfl⟩,
    ⟨by kernel_rfl,by kernel_rfl,by kernel_rfl,by kernel_rfl⟩,
    ⟨by kernel_rfl,by kernel_rfl,by kernel_rfl,by kernel_rfl⟩,
    ⟨by kernel_rfl,by kernel_rfl,by kernel_rfl,by kernel_rfl⟩,
    ⟨by kernel_rfl,by kernel_rfl,by kernel_rfl,by kernel_rfl⟩,
    ⟨by kernel_rfl,by kernel_rfl,by kernel_rfl,by kernel_rfl⟩,
    ⟨by kernel_rfl,by kernel_rfl,by kernel_rfl,by kernel_rfl⟩,
    ⟨by kernel_rfl,by kernel_rfl,by kernel_rfl,by kernel_rfl⟩,
    ⟨by kernel_rfl,by kernel_rfl,by kernel_rfl,by kernel_rfl⟩,
    ⟨by kernel_rfl,by kernel_rfl,by kernel_rfl,by kernel_rfl⟩,
    ⟨by kernel_rfl,by kernel_rfl,by kernel_rfl,by kernel_rfl⟩,
    ⟨by kernel_rfl,by kernel_rfl,by kernel_rfl,by kernel_rfl⟩,
    ⟨by kernel_rfl,by kernel_rfl,by kernel_rfl,by kernel_rfl⟩,
    ⟨by kernel_rfl,by kernel_rfl,by kernel_rfl,by kernel_rfl⟩,trivial⟩
def J:=@htt
theorem Q {α:Sort _} {a:α}:a=a:=rfl
theorem wx {X:Ctx} {s:St} {ops:Array Oper} {todo:Act→World→Prop} {tt:List (Nat × TD)} (s':St) (htt:TTOk X.P tt) (n:Nat) {idx:List Nat} (k:WPr X ops [] todo s') (h:(silN tt X.fn.ntmps ops n idx s).map (fun p=>(p.1,restS p.2 s'))=some ([],s'):=by kernel_rfl):WPr X ops idx todo s:=WPr.silx [] s' htt n h k
theorem xw {X:Ctx} {s:St} {ops:Array Oper} {todo:Act→World→Prop} {tt:List (Nat × TD)} (idx':List Nat) (s':St) (htt:TTOk X.P tt) (n:Nat) {idx:List Nat} (k:WPr X ops idx' todo s') (h:(silN tt X.fn.ntmps ops n idx s).map (fun p=>(p.1,restS p.2 s'))=some (idx',s'):=by kernel_rfl):WPr X ops idx todo s:=WPr.silx idx' s' htt n h k
theorem qx {X:Ctx} {s:St} {ops:Array Oper} {todo:List Item} {tt:List (Nat × TD)} (s':St) (htt:TTOk X.P tt) (n:Nat) {idx:List Nat} (k:WPq X ops [] todo s') (h:(silQ tt X.fn.ntmps ops n idx s).map (fun p=>(p.1,restS p.2 s'))=some ([],s'):=by kernel_rfl):WPq X ops idx todo s:=WPq.silx [] s' htt n h k
theorem xq {X:Ctx} {s:St} {ops:Array Oper} {todo:List Item} {tt:List (Nat × TD)} (idx':List Nat) (s':St) (htt:TTOk X.P tt) (n:Nat) {idx:List Nat} (k:WPq X ops idx' todo s') (h:(silQ tt X.fn.ntmps ops n idx s).map (fun p=>(p.1,restS p.2 s'))=some (idx',s'):=by kernel_rfl):WPq X ops idx todo s:=WPq.silx idx' s' htt n h k
theorem wR {X:Ctx} {s s':St} {ops:Array Oper} {k':List Item} {tt:List (Nat × TD)} {id:Nat} {c:Code} (htt:TTOk X.P tt) (n:Nat) (h:silN tt X.fn.ntmps ops n (List.range ops.size) s=some ([],s')) (k:WP X (.code c::k') s'):WP X (.code (.seq (.region id ops false) c)::k') s:=WP.seq (WP.region (WPr.sil htt n h (WPr.nil k)))
theorem wS {X:Ctx} {s s':St} {ops:Array Oper} {k':List Item} {tt:List (Nat × TD)} {id:Nat} (htt:TTOk X.P tt) (n:Nat) (h:silN tt X.fn.ntmps ops n (List.range ops.size) s=some ([],s')) (k:WP X k' s'):WP X (.code (.region id ops false)::k') s:=WP.region (WPr.sil htt n h (WPr.nil k))
theorem wV {X:Ctx} {s:St} {ops:Array Oper} {k':List Item} {tt:List (Nat × TD)} {id:Nat} {c:Code} (s':St) (htt:TTOk X.P tt) (n:Nat) (k:WP X (.code c::k') s') (h:(silN tt X.fn.ntmps ops n (List.range ops.size) s).map (fun p=>(p.1,restS p.2 s'))=some ([],s'):=by kernel_rfl):WP X (.code (.seq (.region id ops false) c)::k') s:=WP.seq (WP.region (WPr.silx [] s' htt n h (WPr.nil k)))
theorem wT {X:Ctx} {s:St} {ops:Array Oper} {k':List Item} {tt:List (Nat × TD)} {id:Nat} (s':St) (htt:TTOk X.P tt) (n:Nat) (k:WP X k' s') (h:(silN tt X.fn.ntmps ops n (List.range ops.size) s).map (fun p=>(p.1,restS p.2 s'))=some ([],s'):=by kernel_rfl):WP X (.code (.region id ops false)::k') s:=WP.region (WPr.silx [] s' htt n h (WPr.nil k))
theorem wF {P:Program} {f:FuncId} {c:Ct} {fn:Func} {body:Code} (hf:P.funcs[f]? = some fn) (hb:fn.body=some body) (hw:(wfb (numL 0 c.args) c.M0 c.V0 c.nk && c.M0.all (fun p => !p.2.isFresh) && Nat.ble c.args.length fn.ntmps)=true) (h:∀ E F w,WP (c.ctx P f fn E F w) [.code body] ⟨numL 0 c.args,c.M0,c.V0,c.nk⟩) (hn:(fn.name == "runtime.NumGoroutine")=false:=by kernel_rfl):Fn P f c:=Fn.intro fn body hf hb hn hw h
theorem wU {X:Ctx} {s:St} {todo:List Item} {t:St} (k:WP X todo t) (hL:t.L.map (fun p=>look s.L p.1)=t.L.map (fun p=>some (renV ⟨[],0,0⟩ p.2)):=by exact rfl) (hV:t.V.map (fun p=>findV s ⟨[],0,0⟩ p.1 p.2)=t.V.map (fun p=>some p.2):=by exact rfl) (hM:t.M.map (fun p=>findM s ⟨[],0,0⟩ p.1 p.2)=t.M.map (fun p=>some (renM ⟨[],0,0⟩ p.2)):=by exact rfl) (hc:(t.L.all (fun p=>okV ⟨[],0,0⟩ p.2) && nodupB (t.M.filterMap fun p=>keyM ⟨[],0,0⟩ p.1 p.2) && nodupB (t.M.map (·.1)) && wfb t.L t.M t.V t.nx && ([]:List (Nat × SC)).all (fun p=>Nat.ble X.nk p.1 && p.2.kbb s.nx) && Nat.ble X.nk t.nx)=true:=by exact rfl):WP X todo s:=WP.sub [] k hL hV hM hc
theorem wL {X:Ctx} {ops:Array Oper} {tt:List (Nat × TD)} {i:Nat} {e:Ent} (htt:TTOk X.P tt) {o:Oper} {p:List Nat × St} (ho:ops[i]? = some o:=by exact rfl) (hd:e.dL.map (·.1)=o.dst.toList:=by exact rfl) (hg:guardV ops e.L o=some true:=by exact rfl) (h:silN tt X.fn.ntmps ops 1 [i] e.s=some p:=by exact rfl) (h1:p.1=[]:=by exact rfl) (hr:(p.2.nx,restL p.2.L e.dL,restL p.2.M (e.dM++e.R),restL p.2.V e.dV)=(e.k1,e.dL,e.dM++e.R,e.dV):=by exact rfl):LS X ops i e:=LS.sil htt ho hd hg h h1 hr
def ws:=@WPr.sil
def wn:=@WPr.nil
def wq:=@WP.seq
def wg:=@WP.region
def wt:=@WP.condT
def wf:=@WP.condF
def wu:=@WP.sub
def wi:=@WP.skip
def wb:=@WP.inBlock
def wy:=@WPr.kb
def wc:=@WPr.call
def we:=@WP.ret
def wo:=@WP.block
def qy:=@WPq.kb
def qn:=@WPq.nil
def qc:=@WPq.call
def wj:=@WPr.ix
def wz:=@WP.exit
def wD:=@WP.regionD
def wQ:=@WP.regionQ
def wO:=@LS.of
def wX:=@WPr.ixo
def wd:=@WPr.ldo
def wC:=@WP.cut
def wI:=@WP.loopI
def wN:=@WP.nm
abbrev zz0:=fun L=>(⟨L,[],[],0⟩:St)
abbrev zz1:=fun x0 x1 L=>(⟨L,[(0,.own (rI .i64) x0 false),(1,.box (cC4 2 3 4 5 x1) 27)],(vV4 2 3 4 5 x1 []),6⟩:St)
abbrev zz2:=fun x0 L=>(⟨L,[(4,.box (cC4 0 1 2 3 x0) 27)],(vV4 0 1 2 3 x0 []),5⟩:St)
abbrev zz3:=fun L K=>(⟨L,[],[],[],6,K,[],[],6⟩:Ent)
abbrev zz4:=fun L K=>(⟨L,[],[],[],7,K,[],[],7⟩:Ent)
abbrev zz5:=fun x0 x1 L=>(⟨L,[(8,.box (cC4 0 1 2 3 x0) 27),(9,.box (cC4 4 5 6 7 x1) 27)],(vV4 0 1 2 3 x0 (vV4 4 5 6 7 x1 [])),10⟩:St)
abbrev zz6:=fun x0 L=>(⟨L,[],(vV4 0 1 2 3 x0 []),5⟩:St)
abbrev zz7:=fun x0 L=>(⟨L,[],[(0,.sl rR0 x0)],1⟩:St)
abbrev zz8:=fun x0 x1 L=>(⟨L,[(4,.box (cC4 0 1 2 3 x0) 27),(6,.box (cC2 x1) 43)],(vV4 0 1 2 3 x0 []),7⟩:St)
abbrev zz9:=fun x0 x1 x2 L=>(⟨L,[(4,.box (cC4 0 1 2 3 x0) 27),(6,.box (cC2 x1) 43),(8,.box (cC2 x2) 43)],(vV4 0 1 2 3 x0 []),9⟩:St)
abbrev zz10:=fun x0 x1 L=>(⟨L,[(0,.box (cC12 1 x0) 160)],[(1,.sl (rI .u8) x1)],2⟩:St)
abbrev zz11:=fun x0 x1 L=>(⟨L,[(4,.box (cC4 0 1 2 3 x0) 27),(6,.box (cC8 x1) 79)],(vV4 0 1 2 3 x0 []),7⟩:St)
abbrev zz12:=fun L K=>(⟨L,[],[],[],8,K,[],[],8⟩:Ent)
abbrev zz13:=fun x0 L=>(⟨L,[],[(0,.sl rS x0)],1⟩:St)
abbrev zz14:=fun x0 L=>(⟨L,[(4,.box (cC4 0 1 2 3 x0) 27)],(vV4 0 1 2 3 x0 []),7⟩:St)
abbrev zz15:=fun x0 L=>(⟨L,[],[(0,.sl (rI .i64) x0)],1⟩:St)
abbrev zz16:=fun x0 L=>(⟨L,[(0,.own rS x0 true)],[],1⟩:St)
abbrev zz17:=fun x0 x1 x2 L=>(⟨L,[(0,.box (cC12 2 x0) 160)],[(1,.sl (rI .u8) x1),(2,.sl (rI .u8) x2)],3⟩:St)
abbrev zz18:=fun x0 L=>(⟨L,[(4,.box (cC4 0 1 2 3 x0) 27)],(vV4 0 1 2 3 x0 []),8⟩:St)
abbrev zz19:=fun x0 x1 x2 x3 L=>(⟨L,[(10,.box (cC0 3 4 5 x0) 94),(11,.box (cC0 7 8 9 x1) 94)],((0,.sl rR0 x2)::(1,.sl rR0 x3)::vV0 3 4 5 x0 (vV0 7 8 9 x1 [])),12⟩:St)
abbrev zz20:=fun L K=>(⟨L,[],[],[],10,K,[],[],10⟩:Ent)
abbrev zz21:=fun L=>(⟨L,[],[],1⟩:St)
abbrev zz22:=fun x0 x1 L=>(⟨L,[(5,.box (cC0 2 3 4 x0) 94)],((0,.sl rR0 x1)::vV0 2 3 4 x0 []),6⟩:St)
abbrev zz23:=fun x0 L=>(⟨L,[(0,.box (cC7 x0) 139)],[],1⟩:St)
abbrev zz24:=fun x0 x1 L=>(⟨L,[(4,.box (cC4 0 1 2 3 x0) 27),(5,.own (rI .i64) x1 true)],(vV4 0 1 2 3 x0 []),7⟩:St)
abbrev zz25:=fun L K=>(⟨L,[],[],[],11,K,[],[],11⟩:Ent)
abbrev zz26:=fun x0 x1 L=>(⟨L,[(4,.box (cC4 0 1 2 3 x0) 27),(6,.box (cC2 x1) 43)],(vV4 0 1 2 3 x0 []),9⟩:St)
abbrev zz27:=fun x0 x1 L=>(⟨L,[(4,.box (cC4 0 1 2 3 x0) 27),(5,.own (rI .i64) x1 true)],(vV4 0 1 2 3 x0 []),6⟩:St)
abbrev zz28:=fun L K=>(⟨L,[],[],[],9,K,[],[],9⟩:Ent)
abbrev zz29:=fun L K=>(⟨L,[],[],[],15,K,[],[],15⟩:Ent)
abbrev zz30:=fun x0 L=>(⟨L,[],[(0,.sl (rI .u8) x0)],1⟩:St)
abbrev zz31:=fun x0 x1 x2 L=>(⟨L,[(3,.box [.sl 1,.sl 2] 92)],[(0,.sl rR0 x0),(1,.sl rR1 x1),(2,.sl (rP (rI .i64) (rI .i64)) x2)],4⟩:St)
abbrev zz32:=fun x0 x1 L=>(⟨L,[(4,.box (cC4 0 1 2 3 x0) 27),(6,.box (cC8 x1) 79)],(vV4 0 1 2 3 x0 []),8⟩:St)
abbrev zz33:=fun x0 x1 L=>(⟨L,[],(vV4 0 1 2 3 x0 (vV4 4 5 6 7 x1 [])),10⟩:St)
abbrev zz34:=fun x0 x1 x2 L=>(⟨L,[(3,.box [.sl 1,.sl 2] 92)],[(0,.sl rR0 x0),(1,.sl rR1 x1),(2,.sl (rP (rI .i64) (rI .i64)) x2)],6⟩:St)
abbrev zz35:=fun L K=>(⟨L,[],[],[],5,K,[],[],5⟩:Ent)
abbrev zz36:=fun L K=>(⟨L,[],[],[],13,K,[],[],13⟩:Ent)
abbrev zz37:=fun L K=>(⟨L,[],[],[],16,K,[],[],16⟩:Ent)
abbrev zz38:=fun x0 x1 L=>(⟨L,[],[(0,.sl rR1 x0),(1,.sl rR1 x1)],2⟩:St)
abbrev zz39:=fun x0 x1 L=>(⟨L,[(4,.box (cC4 0 1 2 3 x0) 27),(9,.own (rI .u8) x1 true)],(vV4 0 1 2 3 x0 []),10⟩:St)
abbrev zz40:=fun L K=>(⟨L,[],[],[],21,K,[],[],21⟩:Ent)
abbrev zz41:=fun L K=>(⟨L,[],[],[],23,K,[],[],23⟩:Ent)
abbrev zz42:=fun L K=>(⟨L,[],[],[],20,K,[],[],20⟩:Ent)
abbrev zz43:=fun x0 L=>(⟨L,[(4,.box (cC4 0 1 2 3 x0) 27)],(vV4 0 1 2 3 x0 []),6⟩:St)
abbrev zz44:=fun x0 x1 x2 L=>(⟨L,[(1,.own rR3 x0 true),(6,.box (cC0 3 4 5 x1) 94)],((0,.sl rR0 x2)::vV0 3 4 5 x1 []),7⟩:St)
abbrev zz45:=fun x0 L=>(⟨L,[(0,.own rS x0 true)],[],2⟩:St)
abbrev zz46:=fun x0 x1 L=>(⟨L,[],[(0,.sl rR0 x0),(1,.sl rR0 x1)],2⟩:St)
abbrev zz47:=fun x0 x1 L=>(⟨L,[(4,.box (cC4 0 1 2 3 x0) 27),(5,.own rB x1 true)],(vV4 0 1 2 3 x0 []),7⟩:St)
abbrev zz48:=fun x0 x1 L=>(⟨L,[(1,.box (cC0 2 3 4 x0) 94)],((0,.sl rR0 x1)::vV0 2 3 4 x0 []),5⟩:St)
abbrev zz49:=fun x0 x1 L=>(⟨L,[(1,.box (cC3 x0) 141)],[(0,.sl rR3 x1)],2⟩:St)
abbrev zz50:=fun x0 x1 x2 L=>(⟨L,[],[(0,.sl rR1 x0),(1,.sl (rP (rI .i64) (rI .i64)) x1),(2,.sl rR3 x2)],6⟩:St)
abbrev zz51:=fun x0 x1 L K=>(⟨L,[],[],[(0,.own (rI .i64) x0 false)],6,K,[(6,.el 0 x1)],[],7⟩:Ent)
abbrev zz52:=fun x0 x1 L K=>(⟨L,[(6,.el 0 x0)],[],[(0,.own (rI .i64) x1 false)],7,K,[],[],7⟩:Ent)
abbrev zz53:=fun x0 x1 L K=>(⟨L,[],[],[(0,.own (rI .i64) x0 false)],7,K,[(7,.el 0 x1)],[],8⟩:Ent)
abbrev zz54:=fun x0 x1 L K=>(⟨L,[(7,.el 0 x0)],[],[(0,.own (rI .i64) x1 false)],8,K,[],[],8⟩:Ent)
abbrev zz55:=fun x0 x1 L=>(⟨L,[(0,.own (rI .i64) x0 false),(1,.box (cC4 2 3 4 5 x1) 27)],(vV4 2 3 4 5 x1 []),8⟩:St)
abbrev zz56:=fun x0 x1 L=>(⟨L,[(6,.box (cC0 0 1 2 x0) 94),(7,.box (cC0 3 4 5 x1) 94)],(vV0 0 1 2 x0 (vV0 3 4 5 x1 [])),8⟩:St)
abbrev zz57:=fun L K=>(⟨L,[],[],[],17,K,[],[],17⟩:Ent)
abbrev zz58:=fun L K=>(⟨L,[],[],[],30,K,[],[],30⟩:Ent)
abbrev zz59:=fun x0 x1 L=>(⟨L,[(5,.box (cC0 2 3 4 x0) 94)],((0,.sl rR0 x1)::vV0 2 3 4 x0 []),8⟩:St)
abbrev zz60:=fun x0 L=>(⟨L,[],[(0,.sl rS x0)],2⟩:St)
abbrev zz61:=fun x0 x1 L=>(⟨L,[(1,.own rR3 x0 true)],[(0,.sl rR0 x1)],2⟩:St)
abbrev zz62:=fun x0 x1 x2 L=>(⟨L,[(3,.box [.sl 0,.sl 1] 92)],[(0,.sl rR1 x0),(1,.sl (rP (rI .i64) (rI .i64)) x1),(2,.sl rR3 x2)],4⟩:St)
abbrev zz63:=fun x0 x1 L=>(⟨L,[(0,.own (rI .i64) x0 false),(1,.box (cC4 2 3 4 5 x1) 27)],(vV4 2 3 4 5 x1 []),10⟩:St)
abbrev zz64:=fun x0 x1 L=>(⟨L,[(4,.box (cC4 0 1 2 3 x0) 27),(5,.own (rSl rR6) x1 true)],(vV4 0 1 2 3 x0 []),6⟩:St)
abbrev zz65:=fun x0 x1 L=>(⟨L,[],(vV0 0 1 2 x0 (vV0 3 4 5 x1 [])),8⟩:St)
abbrev zz66:=fun x0 L K=>(⟨L,(vV4 0 1 2 3 x0 []),[],[(4,.box (cC4 0 1 2 3 x0) 27)],6,K,[],[],6⟩:Ent)
abbrev zz67:=fun x0 x1 L=>(⟨L,[(4,.box (cC4 0 1 2 3 x0) 27),(12,.own (rI .u8) x1 true)],(vV4 0 1 2 3 x0 []),13⟩:St)
abbrev zz68:=fun x0 x1 L=>(⟨L,[(4,.box (cC4 0 1 2 3 x0) 27),(13,.own (rI .u8) x1 true)],(vV4 0 1 2 3 x0 []),14⟩:St)
abbrev zz69:=fun x0 x1 L=>(⟨L,[(4,.box (cC4 0 1 2 3 x0) 27),(17,.own (rI .u8) x1 true)],(vV4 0 1 2 3 x0 []),18⟩:St)
abbrev zz70:=fun x0 L=>(⟨L,[],[(0,.sl (rI .u8) x0)],2⟩:St)
abbrev zz71:=fun x0 x1 x2 x3 L=>(⟨L,[(3,.box [.sl 1,.sl 2] 92),(5,.box (cC1 x0) 144)],[(0,.sl rR0 x1),(1,.sl rR1 x2),(2,.sl (rP (rI .i64) (rI .i64)) x3)],6⟩:St)
abbrev zz72:=fun x0 x1 L=>(⟨L,[(8,.box (cC4 0 1 2 3 x0) 27),(9,.box (cC4 4 5 6 7 x1) 27)],(vV4 0 1 2 3 x0 (vV4 4 5 6 7 x1 [])),12⟩:St)
abbrev zz73:=fun L K=>(⟨L,[],[],[],22,K,[],[],22⟩:Ent)
abbrev zz74:=fun x0 x1 x2 x3 L=>(⟨L,[(0,.box [.sl 2,.I x0,.b x1] 160)],[(1,.sl (rI .u8) x2),(2,.sl (rI .u8) x3)],3⟩:St)
abbrev zz75:=fun x0 x1 x2 L=>(⟨L,[(0,.box [.sl 4,.I x0,.b false] 160)],[(1,.sl (rI .u8) x1),(4,.sl (rI .u8) x2)],8⟩:St)
abbrev zz76:=fun x0 x1 x2 x3 L=>(⟨L,[(0,.box [.sl 4,.I x0,.b x1] 160)],[(1,.sl (rI .u8) x2),(4,.sl (rI .u8) x3)],9⟩:St)
abbrev zz77:=fun x0 x1 x2 L=>(⟨L,[(1,.own rR3 x0 true),(6,.box (cC0 3 4 5 x1) 94)],((0,.sl rR0 x2)::vV0 3 4 5 x1 []),8⟩:St)
abbrev zz78:=fun x0 L=>(⟨L,[(4,.box (cC4 0 1 2 3 x0) 27)],(vV4 0 1 2 3 x0 []),9⟩:St)
abbrev zz79:=fun x0 x1 L=>(⟨L,[(1,.own (rI .i64) x0 true)],[(0,.sl (rI .i64) x1)],2⟩:St)
abbrev zz80:=fun x0 L=>(⟨L,[],[(0,.sl (rI .i64) x0)],2⟩:St)
abbrev zz81:=fun L K=>(⟨L,[],[],[],24,K,[],[],24⟩:Ent)
abbrev zz82:=fun x0 x1 L=>(⟨L,[],[(0,.sl rS x0),(1,.sl rS x1)],2⟩:St)
abbrev zz83:=fun x0 x1 L=>(⟨L,[],[(0,.sl rR3 x0),(1,.sl rR3 x1)],2⟩:St)
abbrev zz84:=fun x0 x1 L=>(⟨L,[],[(0,.sl (rP (rI .i64) (rI .i64)) x0),(1,.sl (rP (rI .i64) (rI .i64)) x1)],2⟩:St)
abbrev zz85:=fun x0 x1 L=>(⟨L,[],[(0,.sl rR2 x0),(1,.sl rR2 x1)],2⟩:St)
abbrev zz86:=fun x0 x1 L=>(⟨L,[],[(0,.sl rR8 x0),(1,.sl rR8 x1)],2⟩:St)
abbrev zz87:=fun x0 x1 L=>(⟨L,[(1,.box [.s x0] 9)],[(0,.sl rR0 x1)],2⟩:St)
abbrev zz88:=fun x0 x1 L=>(⟨L,[(1,.box [.I x0] 3)],[(0,.sl rR8 x1)],2⟩:St)
abbrev zz89:=fun x0 x1 x2 x3 x4 x5 x6 x7 x8 x9 x10 x11 x12 L=>(⟨L,[(4,.box (cC4 0 1 2 3 x0) 27),(5,.box [.s (str []),.nil,.nil,.I 0,.I 0,.I 0,.nil,.nil] 27),(10,.box [.s x1,.sl 6,.sl 7,.I x2,.I x3,.I x4,.sl 21,.sl 22] 27),(12,.own (rI .i64) x5 true),(20,.own (rI .i64) x6 true),(21,.own rR2 x7 true),(22,.own rR8 x8 true),(26,.box (cC2 x9) 43),(28,.own (rI .i64) x10 true)],(vV4 0 1 2 3 x0 [(6,.sl rS x11),(7,.sl rR0 x12)]),29⟩:St)
abbrev zz90:=fun x0 L=>(⟨L,[(0,.own (rI .u8) x0 false)],[],1⟩:St)
abbrev zz91:=fun x0 L=>(⟨L,[(1,.own (rI .u8) x0 false)],[],2⟩:St)
abbrev zz92:=fun x0 L K=>(⟨L,[],[],[(14,.box (cC2 x0) 43)],15,K,[],[],15⟩:Ent)
abbrev zz93:=fun x0 L=>(⟨L,[(0,.own (rI .u8) x0 true)],[],1⟩:St)
abbrev zz94:=fun x0 x1 L=>(⟨L,[(3,.box (cC0 0 1 2 x0) 94),(8,.own (rI .u8) x1 true)],(vV0 0 1 2 x0 []),9⟩:St)
abbrev zz95:=fun x0 x1 L=>(⟨L,[(3,.box (cC0 0 1 2 x0) 94),(12,.own (rI .u8) x1 true)],(vV0 0 1 2 x0 []),13⟩:St)
abbrev zz96:=fun x0 L K=>(⟨L,[],[],[(19,.box (cC2 x0) 43)],20,K,[],[],20⟩:Ent)
abbrev zz97:=fun x0 x1 x2 L=>(⟨L,[(0,.box (cC12 1 x0) 160),(2,.box [.bp 0 0] 115),(3,.box [.I x1] 3)],[(1,.sl (rI .u8) x2)],4⟩:St)
abbrev zz98:=fun x0 x1 x2 x3 L=>(⟨L,[(0,.box (cC12 1 x0) 160),(2,.box [.bp 0 0] 115),(3,.box [.I x1] 3),(4,.box [.I x2] 3)],[(1,.sl (rI .u8) x3)],5⟩:St)
abbrev zz99:=fun x0 x1 x2 x3 L=>(⟨L,[(3,.box [.sl 0,.sl 1] 92),(5,.box (cC1 x0) 144)],[(0,.sl rR1 x1),(1,.sl (rP (rI .i64) (rI .i64)) x2),(2,.sl rR3 x3)],6⟩:St)
abbrev zz100:=fun x0 x1 x2 L=>(⟨L,[(3,.box [.sl 0,.sl 1] 92)],[(0,.sl rR1 x0),(1,.sl (rP (rI .i64) (rI .i64)) x1),(2,.sl rR3 x2)],6⟩:St)
abbrev zz101:=fun x0 x1 x2 x3 L=>(⟨L,[(1,.own rR3 x0 true),(6,.box (cC0 3 4 5 x1) 94),(9,.box (cC3 x2) 141)],((0,.sl rR0 x3)::vV0 3 4 5 x1 []),10⟩:St)
abbrev zz102:=fun L K=>(⟨L,[],[],[],2,K,[],[],2⟩:Ent)
abbrev zz103:=fun x0 L K=>(⟨L,[(5,.pl (cC2 x0))],[],[],6,K,[],[],6⟩:Ent)
abbrev zz104:=fun x0 L K=>(⟨L,[(6,.pl (cC2 x0))],[],[],7,K,[],[],7⟩:Ent)
abbrev zz105:=fun x0 L K=>(⟨L,(vV4 2 3 4 5 x0 []),[],[(1,.box (cC4 2 3 4 5 x0) 27)],8,K,[],[],8⟩:Ent)
abbrev zz106:=fun x0 x1 L K=>(⟨L,[],[],[(0,.own (rI .i64) x0 false)],8,K,[(8,.el 0 x1)],[],9⟩:Ent)
abbrev zz107:=fun x0 x1 L K=>(⟨L,[],[],[(0,.own (rI .i64) x0 false)],9,K,[(9,.el 0 x1)],[],10⟩:Ent)
abbrev zz108:=fun x0 x1 x2 L=>(⟨L,[(5,.box (cC6 x0) 37),(7,.box (cC2 x1) 43)],(vV4 0 1 2 3 x2 []),8⟩:St)
abbrev zz109:=fun x0 L=>(⟨L,[(4,.box (cC4 0 1 2 3 x0) 27),(5,.box [.s (str []),.nil,.nil,.I 0,.I 0,.I 0,.nil,.nil] 27)],(vV4 0 1 2 3 x0 []),6⟩:St)
abbrev zz110:=fun L K=>(⟨L,[],[],[],29,K,[],[],29⟩:Ent)
abbrev zz111:=fun L K=>(⟨L,[],[],[],18,K,[],[],18⟩:Ent)
abbrev zz112:=fun x0 L=>(⟨L,[(1,.box [.s (str []),.I 0,.I 0,.I 0] 141)],[(0,.sl rR0 x0)],2⟩:St)
abbrev zz113:=fun x0 x1 x2 L=>(⟨L,[(3,.box [.sl 1,.sl 2] 92)],[(0,.sl rR0 x0),(1,.sl rR1 x1),(2,.sl (rP (rI .i64) (rI .i64)) x2)],5⟩:St)
abbrev zz114:=fun x0 x1 L=>(⟨L,[(5,.box (cC0 2 3 4 x0) 94)],((0,.sl rR0 x1)::vV0 2 3 4 x0 []),7⟩:St)
abbrev zz115:=fun x0 x1 L=>(⟨L,[(5,.box (cC0 2 3 4 x0) 94)],((0,.sl rR0 x1)::vV0 2 3 4 x0 []),10⟩:St)
abbrev zz116:=fun x0 L K=>(⟨L,(vV4 0 1 2 3 x0 []),[],[(4,.box (cC4 0 1 2 3 x0) 27)],7,K,[],[],7⟩:Ent)
abbrev zz117:=fun x0 x1 x2 x3 L=>(⟨L,[(10,.box (cC0 3 4 5 x0) 94),(11,.box (cC0 7 8 9 x1) 94)],((0,.sl rR0 x2)::(1,.sl rR0 x3)::vV0 3 4 5 x0 (vV0 7 8 9 x1 [])),14⟩:St)
abbrev zz118:=fun x0 x1 x2 x3 x4 x5 x6 x7 L=>(⟨L,[(4,.box (cC4 0 1 2 3 x0) 27),(5,.box [.s (str []),.nil,.nil,.I 0,.I 0,.I 0,.nil,.nil] 27),(6,.box [.s x1,.sl 0,.sl 1,.I x2,.I 0,.I 0,.sl 13,.sl 14] 27),(12,.own (rI .i64) x3 true),(13,.own rR2 x4 true),(14,.own rR8 x5 true),(15,.own (rI .i64) x6 true),(18,.box (cC2 x7) 43)],(vV4 0 1 2 3 x0 []),19⟩:St)
abbrev zz119:=fun x0 L K=>(⟨L,[(23,.pl (cC8 x0))],[],[],24,K,[],[],24⟩:Ent)
abbrev zz120:=fun x0 x1 L=>(⟨L,[(1,.own (rI .u8) x0 true)],[(0,.sl (rI .i64) x1)],2⟩:St)
abbrev zz121:=fun x0 x1 x2 x3 L=>(⟨L,[(0,.box (cC12 4 x0) 160)],[(1,.sl (rI .u8) x1),(3,.sl (rI .u8) x2),(4,.sl (rI .u8) x3)],8⟩:St)
abbrev zz122:=fun x0 x1 L=>(⟨L,[(4,.box (cC4 0 1 2 3 x0) 27),(7,.box (cC6 x1) 37)],(vV4 0 1 2 3 x0 []),8⟩:St)
abbrev zz123:=fun x0 x1 x2 L=>(⟨L,[],[(0,.sl rR1 x0),(1,.sl (rP (rI .i64) (rI .i64)) x1),(2,.sl rR3 x2)],4⟩:St)
abbrev zz124:=fun x0 x1 L=>(⟨L,[(3,.box (cC0 0 1 2 x0) 94),(4,.own rR1 x1 true)],(vV0 0 1 2 x0 []),5⟩:St)
abbrev zz125:=fun x0 x1 x2 x3 L=>(⟨L,[(6,.own rR1 x0 true),(8,.box [.I x1,.I x2] 146)],(vV0 0 1 2 x3 []),9⟩:St)
abbrev zz126:=fun x0 x1 x2 L=>(⟨L,[(4,.box (cC4 0 1 2 3 x0) 27),(6,.own (rI .i64) x1 true),(9,.own (rI .i64) x2 true)],(vV4 0 1 2 3 x0 []),10⟩:St)
abbrev zz127:=fun x0 x1 x2 L=>(⟨L,[(4,.box (cC4 0 1 2 3 x0) 27),(6,.own (rI .i64) x1 true),(10,.own (rI .i64) x2 true)],(vV4 0 1 2 3 x0 []),13⟩:St)
abbrev zz128:=fun x0 x1 x2 L K=>(⟨L,[(8,.el 0 x0)],[(0,.own (rI .i64) x1 false)],[],9,K,[],[(0,.own (rI .i64) x2 false)],9⟩:Ent)
abbrev zz129:=fun x0 x1 x2 L K=>(⟨L,[(9,.el 0 x0)],[(0,.own (rI .i64) x1 false)],[],10,K,[],[(0,.own (rI .i64) x2 false)],10⟩:Ent)
abbrev zz130:=fun x0 x1 L=>(⟨L,[(4,.box (cC4 0 1 2 3 x0) 27),(5,.own (rI .i64) x1 true)],(vV4 0 1 2 3 x0 []),8⟩:St)
abbrev zz131:=fun x0 x1 x2 L=>(⟨L,[(4,.box (cC4 0 1 2 3 x0) 27),(13,.own (rSl rR6) x1 true),(14,.own (rI .i64) x2 true)],(vV4 0 1 2 3 x0 []),15⟩:St)
abbrev zz132:=fun x0 x1 x2 x3 x4 x5 x6 x7 x8 x9 x10 L=>(⟨L,[(4,.box (cC4 0 1 2 3 x0) 27),(5,.box [.s (str []),.nil,.nil,.I 0,.I 0,.I 0,.nil,.nil] 27),(10,.box [.s x1,.sl 6,.sl 7,.I x2,.I x3,.I x4,.sl 15,.sl 16] 27),(12,.own (rI .i64) x5 true),(15,.own rR2 x6 true),(16,.own rR8 x7 true),(17,.own (rI .i64) x8 true)],(vV4 0 1 2 3 x0 [(6,.sl rS x9),(7,.sl rR0 x10)]),18⟩:St)
abbrev zz133:=fun x0 x1 x2 x3 x4 x5 x6 x7 x8 x9 x10 x11 L=>(⟨L,[(4,.box (cC4 0 1 2 3 x0) 27),(5,.box [.s (str []),.nil,.nil,.I 0,.I 0,.I 0,.nil,.nil] 27),(10,.box [.s x1,.sl 6,.sl 7,.I x2,.I x3,.I x4,.sl 15,.sl 16] 27),(12,.own (rI .i64) x5 true),(15,.own rR2 x6 true),(16,.own rR8 x7 true),(17,.own (rI .i64) x8 true),(19,.box [.I x9] 3)],(vV4 0 1 2 3 x0 [(6,.sl rS x10),(7,.sl rR0 x11)]),20⟩:St)
abbrev zz134:=fun x0 x1 L=>(⟨L,[(4,.box (cC0 1 2 3 x0) 94),(7,.own (rI .u8) x1 false)],(vV0 1 2 3 x0 []),8⟩:St)
abbrev zz135:=fun x0 x1 L=>(⟨L,[(4,.box (cC0 1 2 3 x0) 94),(10,.own (rI .u8) x1 false)],(vV0 1 2 3 x0 []),11⟩:St)
abbrev zz136:=fun x0 L K=>(⟨L,[],[],[(9,.box (cC3 x0) 141)],11,K,[],[],11⟩:Ent)
abbrev zz137:=fun x0 L K=>(⟨L,(vV4 0 1 2 3 x0 []),[],[(4,.box (cC4 0 1 2 3 x0) 27)],5,K,[],[],5⟩:Ent)
abbrev zz138:=fun x0 x1 L=>(⟨L,[(4,.box (cC4 0 1 2 3 x0) 27),(7,.own (rI .u8) x1 true)],(vV4 0 1 2 3 x0 []),8⟩:St)
abbrev zz139:=fun x0 x1 L=>(⟨L,[(4,.box (cC4 0 1 2 3 x0) 27),(8,.own (rI .u8) x1 true)],(vV4 0 1 2 3 x0 []),9⟩:St)
abbrev zz140:=fun x0 x1 x2 L=>(⟨L,[(4,.box (cC4 0 1 2 3 x0) 27),(5,.own (rI .i64) x1 true),(8,.box (cC2 x2) 43)],(vV4 0 1 2 3 x0 []),10⟩:St)
abbrev zz141:=fun x0 x1 x2 L=>(⟨L,[(7,.box (cC6 x0) 37),(8,.box (cC6 x1) 37)],(vV4 0 1 2 3 x2 []),9⟩:St)
abbrev zz142:=fun x0 x1 x2 L=>(⟨L,[(4,.box (cC4 0 1 2 3 x0) 27),(5,.own rB x1 true),(7,.own (rI .i64) x2 true)],(vV4 0 1 2 3 x0 []),8⟩:St)
abbrev zz143:=fun x0 x1 L=>(⟨L,[(8,.box (cC4 0 1 2 3 x0) 27),(9,.box (cC4 4 5 6 7 x1) 27)],(vV4 0 1 2 3 x0 (vV4 4 5 6 7 x1 [])),11⟩:St)
abbrev zz144:=fun x0 x1 x2 x3 x4 x5 L=>(⟨L,[(4,.box (cC4 0 1 2 3 x0) 27),(5,.box [.s (str []),.nil,.nil,.I 0,.I 0,.I 0,.nil,.nil] 27),(6,.box [.s x1,.sl 0,.sl 1,.I x2,.I 0,.I 0,.sl 8,.sl 9] 27),(8,.own rR2 x3 true),(9,.own rR8 x4 true),(10,.own (rI .i64) x5 true)],(vV4 0 1 2 3 x0 []),11⟩:St)
abbrev zz145:=fun x0 x1 x2 x3 x4 x5 x6 x7 L=>(⟨L,[(4,.box (cC4 0 1 2 3 x0) 27),(5,.box [.s (str []),.nil,.nil,.I 0,.I 0,.I 0,.nil,.nil] 27),(6,.box [.s x1,.sl 0,.sl 1,.I x2,.I 0,.I 0,.sl 13,.sl 20] 27),(12,.own (rI .i64) x3 true),(13,.own rR2 x4 true),(18,.box (cC2 x5) 43),(19,.own (rI .i64) x6 true),(20,.own rR8 x7 true)],(vV4 0 1 2 3 x0 []),21⟩:St)
abbrev zz146:=fun x0 L K=>(⟨L,[],[],[(18,.box (cC2 x0) 43)],21,K,[],[],21⟩:Ent)
abbrev zz147:=fun x0 x1 L=>(⟨L,[(3,.box (cC0 0 1 2 x0) 94),(15,.own (rI .u8) x1 true)],(vV0 0 1 2 x0 []),16⟩:St)
abbrev zz148:=fun x0 L K=>(⟨L,[],[],[(10,.box (cC3 x0) 141)],13,K,[],[],13⟩:Ent)
abbrev zz149:=fun x0 x1 x2 L=>(⟨L,[(0,.box [.sl 2,.I x0,.b true] 160)],[(1,.sl (rI .u8) x1),(2,.sl (rI .u8) x2)],3⟩:St)
abbrev zz150:=fun x0 x1 x2 x3 L=>(⟨L,[(0,.box (cC12 4 x0) 160)],[(1,.sl (rI .u8) x1),(3,.sl (rI .u8) x2),(4,.sl (rI .u8) x3)],5⟩:St)
abbrev zz151:=fun x0 x1 x2 x3 L=>(⟨L,[(0,.box (cC12 4 x0) 160)],[(1,.sl (rI .u8) x1),(3,.sl (rI .u8) x2),(4,.sl (rI .u8) x3)],6⟩:St)
abbrev zz152:=fun x0 x1 x2 L=>(⟨L,[(0,.box [.sl 4,.I x0,.b true] 160)],[(1,.sl (rI .u8) x1),(4,.sl (rI .u8) x2)],8⟩:St)
abbrev zz153:=fun x0 x1 x2 x3 x4 L=>(⟨L,[(0,.box (cC12 5 x0) 160),(2,.box [.bp 0 0] 115),(3,.box [.I x1] 3),(4,.box [.I x2] 3)],[(1,.sl (rI .u8) x3),(5,.sl (rI .u8) x4)],6⟩:St)
abbrev zz154:=fun x0 x1 x2 x3 x4 L=>(⟨L,[(0,.box [.sl 3,.I x0,.b x1] 160),(4,.own rS x2 true)],[(1,.sl (rI .u8) x3),(3,.sl (rI .u8) x4)],5⟩:St)
abbrev zz155:=fun x0 x1 x2 x3 x4 L=>(⟨L,[(0,.box [.sl 3,.I x0,.b x1] 160),(4,.own rR3 x2 true)],[(1,.sl (rI .u8) x3),(3,.sl (rI .u8) x4)],5⟩:St)
abbrev zz156:=fun x0 x1 x2 x3 x4 L=>(⟨L,[(0,.box [.sl 3,.I x0,.b x1] 160),(4,.own rR1 x2 true)],[(1,.sl (rI .u8) x3),(3,.sl (rI .u8) x4)],5⟩:St)
abbrev zz157:=fun x0 x1 x2 x3 x4 L=>(⟨L,[(0,.box [.sl 3,.I x0,.b x1] 160),(4,.own (rP (rI .i64) (rI .i64)) x2 true)],[(1,.sl (rI .u8) x3),(3,.sl (rI .u8) x4)],5⟩:St)
abbrev zz158:=fun x0 x1 x2 x3 x4 L=>(⟨L,[(0,.box [.sl 3,.I x0,.b x1] 160),(4,.own rR0 x2 true)],[(1,.sl (rI .u8) x3),(3,.sl (rI .u8) x4)],5⟩:St)
abbrev zz159:=fun x0 x1 x2 x3 x4 L=>(⟨L,[(0,.box [.sl 3,.I x0,.b x1] 160),(4,.own rR2 x2 true)],[(1,.sl (rI .u8) x3),(3,.sl (rI .u8) x4)],5⟩:St)
abbrev zz160:=fun x0 x1 x2 x3 x4 L=>(⟨L,[(0,.box [.sl 3,.I x0,.b x1] 160),(4,.own rR8 x2 true)],[(1,.sl (rI .u8) x3),(3,.sl (rI .u8) x4)],5⟩:St)
abbrev zz161:=fun x0 x1 x2 x3 x4 x5 x6 x7 x8 L=>(⟨L,[(1,.box [.s (str []),.nil,.nil,.I 0,.I 0,.I 0,.nil,.nil] 27),(5,.box [.s x0,.sl 6,.sl 8,.I x1,.I x2,.I x3,.sl 13,.sl 15] 27),(6,.own rS x4 true),(8,.own rR0 x5 true),(13,.own rR2 x6 true),(15,.own rR8 x7 true)],[(0,.sl (rI .u8) x8)],17⟩:St)
abbrev zz162:=fun x0 x1 L=>(⟨L,[(4,.box (cC4 0 1 2 3 x0) 27),(11,.box (cC4 7 8 9 10 x1) 27)],(vV4 0 1 2 3 x0 (vV4 7 8 9 10 x1 [])),12⟩:St)
abbrev zz163:=fun L=>(⟨L,[(0,.box [.s (str [97,103,97,105,110]),.s (str [97,110,100]),.s (str [97,115]),.s (str [97,116]),.s (str [99,97,108,108]),.s (str [99,104,111,105,99,101]),.s (str [101,108,115,101]),.s (str [102,114,111,109]),.s (str [105,102]),.s (str [105,110,116]),.s (str [108,101,110]),.s (str [108,111,111,112]),.s (str [109,101,115,115,97,103,101]),.s (str [111,102]),.s (str [111,102,102,101,114]),.s (str [111,110]),.s (str [111,114]),.s (str [112,97,114]),.s (str [112,108,97,121,115]),.s (str [112,114,111,116,111,99,111,108]),.s (str [115,101,114,118,105,99,101]),.s (str [116,101,120,116]),.s (str [116,105,109,101,115]),.s (str [116,111]),.s (str [118,97,114]),.s (str [119,104,101,114,101]),.s (str [119,104,105,108,101]),.s (str [119,105,116,104,105,110])] 180)],[],1⟩:St)
abbrev zz164:=fun x0 x1 x2 L=>(⟨L,[(4,.box (cC4 0 1 2 3 x0) 27),(6,.box (cC2 x1) 43),(7,.box (cC6 x2) 37)],(vV4 0 1 2 3 x0 []),8⟩:St)
abbrev zz165:=fun x0 x1 x2 L=>(⟨L,[(1,.own rR3 x0 true),(6,.box (cC0 3 4 5 x1) 94)],((0,.sl rR0 x2)::vV0 3 4 5 x1 []),10⟩:St)
abbrev zz166:=fun x0 x1 x2 L=>(⟨L,[(4,.box (cC4 0 1 2 3 x0) 27),(6,.own (rI .i64) x1 true),(10,.own (rI .i64) x2 true)],(vV4 0 1 2 3 x0 []),11⟩:St)
abbrev zz167:=fun x0 x1 x2 L=>(⟨L,[(4,.box (cC4 0 1 2 3 x0) 27),(6,.own (rI .i64) x1 true),(10,.own (rI .i64) x2 true)],(vV4 0 1 2 3 x0 []),14⟩:St)
abbrev zz168:=fun x0 x1 x2 L=>(⟨L,[(4,.box (cC4 0 1 2 3 x0) 27),(6,.own (rI .i64) x1 true),(10,.own (rI .i64) x2 true)],(vV4 0 1 2 3 x0 []),15⟩:St)
abbrev zz169:=fun x0 x1 L=>(⟨L,[(0,.own (rI .i64) x0 false),(1,.box (cC4 2 3 4 5 x1) 27)],(vV4 2 3 4 5 x1 []),12⟩:St)
abbrev zz170:=fun x0 x1 x2 L=>(⟨L,[(4,.box (cC4 0 1 2 3 x0) 27),(7,.own (rSl rR6) x1 true),(8,.own (rI .i64) x2 true)],(vV4 0 1 2 3 x0 []),9⟩:St)
abbrev zz171:=fun x0 x1 x2 L=>(⟨L,[(4,.box (cC4 0 1 2 3 x0) 27),(7,.own (rSl rR6) x1 true),(8,.own (rI .i64) x2 true)],(vV4 0 1 2 3 x0 []),11⟩:St)
abbrev zz172:=fun x0 x1 x2 x3 L=>(⟨L,[(4,.box (cC4 0 1 2 3 x0) 27),(12,.own (rI .i64) x1 true),(14,.own (rI .i64) x2 true),(23,.own (rSl rR6) x3 true)],(vV4 0 1 2 3 x0 []),24⟩:St)
abbrev zz173:=fun x0 x1 x2 x3 L=>(⟨L,[(5,.box [.s (str []),.nil,.nil,.I 0,.I 0,.I 0,.nil,.nil] 27),(6,.own rS x0 true),(7,.box [.s x1,.sl 6,.sl 8,.I 0,.I 0,.I 0,.nil,.nil] 27),(8,.own rR0 x2 true)],(vV4 0 1 2 3 x3 []),9⟩:St)
abbrev zz174:=fun x0 L=>(⟨L,[(5,.box [.s (str []),.nil,.nil,.I 0,.I 0,.I 0,.nil,.nil] 27)],(vV4 0 1 2 3 x0 []),6⟩:St)
abbrev zz175:=fun x0 x1 x2 x3 x4 x5 x6 L=>(⟨L,[(4,.box (cC4 0 1 2 3 x0) 27),(5,.box [.s (str []),.nil,.nil,.I 0,.I 0,.I 0,.nil,.nil] 27),(8,.own rR2 x1 true),(9,.own rR8 x2 true),(10,.box (cC4 6 7 8 9 x3) 27),(12,.own (rI .i64) x4 true)],(vV4 0 1 2 3 x0 [(6,.sl rS x5),(7,.sl rR0 x6)]),13⟩:St)
abbrev zz176:=fun x0 x1 x2 x3 x4 x5 x6 x7 x8 x9 x10 L=>(⟨L,[(4,.box (cC4 0 1 2 3 x0) 27),(5,.box [.s (str []),.nil,.nil,.I 0,.I 0,.I 0,.nil,.nil] 27),(10,.box [.s x1,.sl 6,.sl 7,.I x2,.I x3,.I x4,.sl 21,.sl 22] 27),(12,.own (rI .i64) x5 true),(21,.own rR2 x6 true),(22,.own rR8 x7 true),(23,.own (rI .i64) x8 true)],(vV4 0 1 2 3 x0 [(6,.sl rS x9),(7,.sl rR0 x10)]),24⟩:St)
abbrev zz177:=fun x0 x1 x2 x3 x4 x5 x6 x7 x8 x9 x10 x11 L=>(⟨L,[(4,.box (cC4 0 1 2 3 x0) 27),(5,.box [.s (str []),.nil,.nil,.I 0,.I 0,.I 0,.nil,.nil] 27),(10,.box [.s x1,.sl 6,.sl 7,.I x2,.I x3,.I x4,.sl 21,.sl 22] 27),(12,.own (rI .i64) x5 true),(20,.own (rI .i64) x6 true),(21,.own rR2 x7 true),(22,.own rR8 x8 true),(23,.own (rI .i64) x9 true)],(vV4 0 1 2 3 x0 [(6,.sl rS x10),(7,.sl rR0 x11)]),25⟩:St)
abbrev zz178:=fun x0 x1 x2 x3 x4 x5 x6 x7 x8 x9 x10 x11 x12 L=>(⟨L,[(4,.box (cC4 0 1 2 3 x0) 27),(5,.box [.s (str []),.nil,.nil,.I 0,.I 0,.I 0,.nil,.nil] 27),(10,.box [.s x1,.sl 6,.sl 7,.I x2,.I x3,.I x4,.sl 21,.sl 22] 27),(12,.own (rI .i64) x5 true),(20,.own (rI .i64) x6 true),(21,.own rR2 x7 true),(22,.own rR8 x8 true),(23,.own (rI .i64) x9 true),(26,.box (cC2 x10) 43)],(vV4 0 1 2 3 x0 [(6,.sl rS x11),(7,.sl rR0 x12)]),27⟩:St)
abbrev zz179:=fun x0 x1 x2 x3 x4 x5 x6 x7 x8 x9 x10 x11 x12 L=>(⟨L,[(4,.box (cC4 0 1 2 3 x0) 27),(5,.box [.s (str []),.nil,.nil,.I 0,.I 0,.I 0,.nil,.nil] 27),(10,.box [.s x1,.sl 6,.sl 7,.I x2,.I x3,.I x4,.sl 21,.sl 22] 27),(12,.own (rI .i64) x5 true),(20,.own (rI .i64) x6 true),(21,.own rR2 x7 true),(22,.own rR8 x8 true),(23,.own (rI .i64) x9 true),(26,.box (cC2 x10) 43)],(vV4 0 1 2 3 x0 [(6,.sl rS x11),(7,.sl rR0 x12)]),28⟩:St)
abbrev zz180:=fun x0 x1 x2 x3 x4 x5 L K=>(⟨L,[(6,.sl rS x0),(7,.sl rR0 x1)],[],[(10,.box [.s x2,.sl 6,.sl 7,.I x3,.I x4,.I x5,.sl 21,.sl 29] 27)],30,K,[],[],30⟩:Ent)
abbrev zz181:=fun x0 x1 x2 x3 x4 x5 L K=>(⟨L,[(6,.sl rS x0),(7,.sl rR0 x1)],[],[(10,.box [.s x2,.sl 6,.sl 7,.I x3,.I x4,.I x5,.sl 21,.sl 22] 27)],29,K,[],[],29⟩:Ent)
abbrev zz182:=fun x0 x1 L=>(⟨L,[(4,.box (cC4 0 1 2 3 x0) 27),(6,.own (rI .u8) x1 true)],(vV4 0 1 2 3 x0 []),7⟩:St)
abbrev zz183:=fun x0 x1 L=>(⟨L,[(4,.box (cC4 0 1 2 3 x0) 27),(11,.own (rI .u8) x1 true)],(vV4 0 1 2 3 x0 []),12⟩:St)
abbrev zz184:=fun x0 x1 x2 L=>(⟨L,[(4,.box (cC4 0 1 2 3 x0) 27),(5,.own (rI .i64) x1 true),(8,.box (cC2 x2) 43)],(vV4 0 1 2 3 x0 []),9⟩:St)
abbrev zz185:=fun x0 x1 L=>(⟨L,[(4,.box (cC4 0 1 2 3 x0) 27),(5,.own (rI .i64) x1 true)],(vV4 0 1 2 3 x0 []),11⟩:St)
abbrev zz186:=fun x0 x1 L=>(⟨L,[(4,.box (cC4 0 1 2 3 x0) 27),(11,.own (rI .i64) x1 true)],(vV4 0 1 2 3 x0 []),12⟩:St)
abbrev zz187:=fun x0 x1 x2 L=>(⟨L,[(4,.box (cC4 0 1 2 3 x0) 27),(5,.own rB x1 true),(7,.own (rI .i64) x2 true)],(vV4 0 1 2 3 x0 []),9⟩:St)
abbrev zz188:=fun x0 x1 x2 L=>(⟨L,[(4,.box (cC4 0 1 2 3 x0) 27),(5,.own rB x1 true),(7,.own (rI .i64) x2 true)],(vV4 0 1 2 3 x0 []),10⟩:St)
abbrev zz189:=fun x0 x1 x2 x3 L=>(⟨L,[(10,.box (cC0 3 4 5 x0) 94),(11,.box (cC0 7 8 9 x1) 94)],((0,.sl rR0 x2)::(1,.sl rR0 x3)::vV0 3 4 5 x0 (vV0 7 8 9 x1 [])),13⟩:St)
abbrev zz190:=fun x0 x1 x2 x3 x4 x5 L=>(⟨L,[(4,.box (cC4 0 1 2 3 x0) 27),(5,.box [.s (str []),.nil,.nil,.I 0,.I 0,.I 0,.nil,.nil] 27),(6,.box [.s x1,.sl 0,.sl 1,.I x2,.I 0,.I 0,.sl 13,.sl 14] 27),(13,.own rR2 x3 true),(14,.own rR8 x4 true),(15,.own (rI .i64) x5 true)],(vV4 0 1 2 3 x0 []),16⟩:St)
abbrev zz191:=fun x0 x1 x2 x3 x4 x5 x6 L=>(⟨L,[(4,.box (cC4 0 1 2 3 x0) 27),(5,.box [.s (str []),.nil,.nil,.I 0,.I 0,.I 0,.nil,.nil] 27),(6,.box [.s x1,.sl 0,.sl 1,.I x2,.I 0,.I 0,.sl 13,.sl 14] 27),(12,.own (rI .i64) x3 true),(13,.own rR2 x4 true),(14,.own rR8 x5 true),(15,.own (rI .i64) x6 true)],(vV4 0 1 2 3 x0 []),16⟩:St)
abbrev zz192:=fun x0 x1 x2 x3 x4 x5 x6 L=>(⟨L,[(4,.box (cC4 0 1 2 3 x0) 27),(5,.box [.s (str []),.nil,.nil,.I 0,.I 0,.I 0,.nil,.nil] 27),(6,.box [.s x1,.sl 0,.sl 1,.I x2,.I 0,.I 0,.sl 22,.sl 20] 27),(12,.own (rI .i64) x3 true),(19,.own (rI .i64) x4 true),(20,.own rR8 x5 true),(22,.own rR2 x6 true)],(vV4 0 1 2 3 x0 []),23⟩:St)
abbrev zz193:=fun x0 x1 x2 x3 x4 x5 x6 x7 L=>(⟨L,[(4,.box (cC4 0 1 2 3 x0) 27),(5,.box [.s (str []),.nil,.nil,.I 0,.I 0,.I 0,.nil,.nil] 27),(6,.box [.s x1,.sl 0,.sl 1,.I x2,.I 0,.I 0,.sl 13,.sl 20] 27),(12,.own (rI .i64) x3 true),(13,.own rR2 x4 true),(18,.box (cC2 x5) 43),(19,.own (rI .i64) x6 true),(20,.own rR8 x7 true)],(vV4 0 1 2 3 x0 []),23⟩:St)
abbrev zz194:=fun x0 x1 x2 x3 x4 x5 x6 x7 L=>(⟨L,[(4,.box (cC4 0 1 2 3 x0) 27),(5,.box [.s (str []),.nil,.nil,.I 0,.I 0,.I 0,.nil,.nil] 27),(6,.box [.s x1,.sl 0,.sl 1,.I x2,.I 0,.I 0,.sl 13,.sl 25] 27),(12,.own (rI .i64) x3 true),(13,.own rR2 x4 true),(18,.box (cC2 x5) 43),(19,.own (rI .i64) x6 true),(25,.own rR8 x7 true)],(vV4 0 1 2 3 x0 []),26⟩:St)
abbrev zz195:=fun x0 x1 x2 L=>(⟨L,[(4,.box (cC4 0 1 2 3 x0) 27),(9,.own (rI .u8) x1 true),(11,.own (rI .u8) x2 true)],(vV4 0 1 2 3 x0 []),12⟩:St)
abbrev zz196:=fun x0 x1 L=>(⟨L,[(4,.box (cC4 0 1 2 3 x0) 27),(21,.own (rI .u8) x1 true)],(vV4 0 1 2 3 x0 []),22⟩:St)
abbrev zz197:=fun x0 x1 L=>(⟨L,[(4,.box (cC4 0 1 2 3 x0) 27),(27,.own (rI .u8) x1 true)],(vV4 0 1 2 3 x0 []),28⟩:St)
abbrev zz198:=fun x0 x1 L=>(⟨L,[(4,.box (cC4 0 1 2 3 x0) 27),(24,.own (rI .u8) x1 true)],(vV4 0 1 2 3 x0 []),25⟩:St)
abbrev zz199:=fun x0 x1 L=>(⟨L,[(4,.box (cC4 0 1 2 3 x0) 27),(19,.own (rI .u8) x1 true)],(vV4 0 1 2 3 x0 []),20⟩:St)
abbrev zz200:=fun x0 x1 x2 x3 x4 L=>(⟨L,[(0,.box (cC12 5 x0) 160),(2,.box [.bp 0 0] 115),(3,.box [.I x1] 3),(4,.own (rI .u8) x2 true)],[(1,.sl (rI .u8) x3),(5,.sl (rI .u8) x4)],6⟩:St)
abbrev zz201:=fun x0 L=>(⟨L,[(1,.box [.s (str []),.nil,.nil,.I 0,.I 0,.I 0,.nil,.nil] 27)],[(0,.sl (rI .u8) x0)],17⟩:St)
abbrev zz202:=fun x0 x1 L=>(⟨L,[(4,.box (cC4 0 1 2 3 x0) 27),(5,.own (rI .u8) x1 true)],(vV4 0 1 2 3 x0 []),7⟩:St)
end Gx
end
