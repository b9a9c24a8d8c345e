/- How typed values lie in the machine, and the types of the program. -/
import Derived.Test.YtnlleampnlmdlaaGreatDoorChecked
import Derived.Test.YtnlleampnlmdlaaGreatDoorExpandApartPure
import Derived.Test.YtnlleampnlmdlaaGreatDoorExpandApartLib
set_option linter.all false
section
open Go Go.Kx Go.Proofs
namespace Gx
abbrev rR1:TRep T1:=rM (fun x=>(x.Kind,x.Lo,x.Hi)) (rP (rI .i64) (rP (rI .i64) (rI .i64)))
abbrev oO1:Opn rR1:=oM _ (oP (oI .i64) (oP (oI .i64) (oI .i64)))
abbrev rR0:TRep T0:=rM (fun x=>(x.Name,x.Sort')) (rP rS rR1)
abbrev oO0:Opn rR0:=oM _ (oP oS oO1)
abbrev rR18:TRep T18:=rM (fun x=>(x.Kind,x.Message,x.Field,x.N)) (rP (rI .i64) (rP rS (rP rS (rI .i64))))
abbrev oO18:Opn rR18:=oM _ (oP (oI .i64) (oP oS (oP oS (oI .i64))))
abbrev rR14:TRep T14:=rM (fun x=>(x.Left,x.Op,x.Right)) (rP rR18 (rP rS rR18))
abbrev oO14:Opn rR14:=oM _ (oP oO18 (oP oS oO18))
abbrev rR16:TRep T16:=rM (fun x=>(x.Name,x.Fields,x.Where)) (rP rS (rP (rSl rR0) (rSl rR14)))
abbrev oO16:Opn rR16:=oM _ (oP oS (oP (oSl rR0) (oSl rR14)))
abbrev r_syntax_Item_F (R:TRep T15):TRep T15:=rM (fun x=>(x.Kind,x.From,x.To,x.Name,x.As,x.Ticks,x.Blocks)) (rP (rI .i64) (rP rS (rP (rSl rS) (rP rS (rP rS (rP (rI .i64) (rSl (rSl R))))))))
theorem r_syntax_Item_mono:MonoR r_syntax_Item_F:=mono_M _ (mono_P (mono_const _) (mono_P (mono_const _) (mono_P (mono_const _) (mono_P (mono_const _) (mono_P (mono_const _) (mono_P (mono_const _) (mono_Sl (mono_Sl mono_id))))))))
abbrev rR15:TRep T15:=rFix r_syntax_Item_F 7 (by decide) (fun _ _=>rfl)
abbrev oO15:Opn rR15:=Opn.of (rFix_iff r_syntax_Item_mono) (oM _ (oP (oI .i64) (oP oS (oP (oSl rS) (oP oS (oP oS (oP (oI .i64) (oSl (rSl rR15)))))))))
abbrev rR17:TRep T17:=rM (fun x=>(x.Name,x.Roles,x.Messages,x.Body)) (rP rS (rP (rSl rS) (rP (rSl rR16) (rSl rR15))))
abbrev oO17:Opn rR17:=oM _ (oP oS (oP (oSl rS) (oP (oSl rR16) (oSl rR15))))
abbrev rR4:TRep T4:=rM (fun x=>(x.Kind,x.Text,x.Value,x.From)) (rP (rI .i64) (rP rS (rP (rI .i64) (rI .i64))))
abbrev oO4:Opn rR4:=oM _ (oP (oI .i64) (oP oS (oP (oI .i64) (oI .i64))))
abbrev rR5:TRep T5:=rM (fun x=>(x.s',x.at')) (rP rS (rI .i64))
abbrev oO5:Opn rR5:=oM _ (oP oS (oI .i64))
abbrev rR19:TRep T19:=rM (fun x=>(x.l',x.n',x.end',x.at',x.err')) (rP (rSl rR4) (rP (rI .i64) (rP (rI .i64) (rP (rI .i64) (rI .i64)))))
abbrev oO19:Opn rR19:=oM _ (oP (oSl rR4) (oP (oI .i64) (oP (oI .i64) (oP (oI .i64) (oI .i64)))))
abbrev rR6:TRep T6:=rM (fun x=>(x.Protocol,x.Name,x.Err)) (rP rS (rP rS (rI .i64)))
abbrev oO6:Opn rR6:=oM _ (oP oS (oP oS (oI .i64)))
abbrev rR7:TRep T7:=rM (fun x=>(x.all',x.p',x.calls',x.out')) (rP (rSl rR17) (rP rR17 (rP (rSl rS) rR6)))
abbrev oO7:Opn rR7:=oM _ (oP (oSl rR17) (oP oO17 (oP (oSl rS) oO6)))
abbrev rR8:TRep T8:=rM (fun x=>(x.name',x.tail',x.hidden')) (rP rS (rP rB rB))
abbrev oO8:Opn rR8:=oM _ (oP oS (oP oB oB))
abbrev rR9:TRep T9:=rM (fun x=>(x.Left,x.Op,x.Right)) (rP rR18 (rP rS rR18))
abbrev oO9:Opn rR9:=oM _ (oP oO18 (oP oS oO18))
abbrev rR11:TRep T11:=rM (fun x=>(x.Name,x.Fields,x.Where)) (rP rS (rP (rSl rR0) (rSl rR9)))
abbrev oO11:Opn rR11:=oM _ (oP oS (oP (oSl rR0) (oSl rR9)))
abbrev r_ref10_Item_F (R:TRep T10):TRep T10:=rM (fun x=>(x.Kind,x.From,x.To,x.Name,x.As,x.Ticks,x.Blocks)) (rP (rI .i64) (rP rS (rP (rSl rS) (rP rS (rP rS (rP (rI .i64) (rSl (rSl R))))))))
theorem r_ref10_Item_mono:MonoR r_ref10_Item_F:=mono_M _ (mono_P (mono_const _) (mono_P (mono_const _) (mono_P (mono_const _) (mono_P (mono_const _) (mono_P (mono_const _) (mono_P (mono_const _) (mono_Sl (mono_Sl mono_id))))))))
abbrev rR10:TRep T10:=rFix r_ref10_Item_F 7 (by decide) (fun _ _=>rfl)
abbrev oO10:Opn rR10:=Opn.of (rFix_iff r_ref10_Item_mono) (oM _ (oP (oI .i64) (oP oS (oP (oSl rS) (oP oS (oP oS (oP (oI .i64) (oSl (rSl rR10)))))))))
abbrev rR12:TRep T12:=rM (fun x=>(x.Name,x.Roles,x.Messages,x.Body)) (rP rS (rP (rSl rS) (rP (rSl rR11) (rSl rR10))))
abbrev oO12:Opn rR12:=oM _ (oP oS (oP (oSl rS) (oP (oSl rR11) (oSl rR10))))
abbrev rR13:TRep T13:=rM (fun x=>(x.l',x.p',x.calls',x.first')) (rP (rSl rR12) (rP rR12 (rP (rSl rS) rR6)))
abbrev oO13:Opn rR13:=oM _ (oP (oSl rR12) (oP oO12 (oP (oSl rS) oO6)))
theorem mt_60:MapTy Tryz.prog rR17 60 true (⟨(str []),([]:List ByteArray),([]:List T16),([]:List T15)⟩:T17):=by
  refine ⟨9,35,([.s (str []),.nil,.nil,.nil]:List SC).map (den E00),by kernel_rfl,by kernel_rfl,zero_of (by kernel_rfl),fun F w=>?_⟩
  exact (oO17).cok (V:=fun _=>none) (x:=(⟨(str []),([]:List ByteArray),([]:List T16),([]:List T15)⟩:T17)) (cs:=[.s (str []),.nil,.nil,.nil]) ((oO17).eqn rfl) E00 F w (fun _ _ h=>by cases h)
theorem mt_65:MapTy Tryz.prog rB 65 false false:=by
  refine ⟨9,4,([.b false]:List SC).map (den E00),by kernel_rfl,by kernel_rfl,zero_of (by kernel_rfl),fun F w=>?_⟩
  exact (oB).cok (V:=fun _=>none) (x:=false) (cs:=[.b false]) ((oB).eqn rfl) E00 F w (fun _ _ h=>by cases h)
theorem mt_103:MapTy Tryz.prog rS 103 false (str []):=by
  refine ⟨9,9,([.s (str [])]:List SC).map (den E00),by kernel_rfl,by kernel_rfl,zero_of (by kernel_rfl),fun F w=>?_⟩
  exact (oS).cok (V:=fun _=>none) (x:=(str [])) (cs:=[.s (str [])]) ((oS).eqn rfl) E00 F w (fun _ _ h=>by cases h)
end Gx
namespace Go.Kx
abbrev SV.I (n:Int):SV:=.c (.i .i64 n)
abbrev SC.I (n:Int):SC:=.i .i64 n
abbrev SV.O (b:Bool):SV:=.c (.b b)
abbrev SV.B (k o:Nat):SV:=.c (.bp k o)
abbrev SV.P (k o:Nat):SV:=.c (.px k o)
abbrev SV.S (k:Nat):SV:=.c (.sl k)
end Go.Kx
namespace Gx
def rg (a:Nat):Nat→List Nat
  | 0=>[]
  | n+1=>a::rg (a+1) n
abbrev cC0 (e:T0):List SC:=[.s e.Name,.i .i64 e.Sort'.Kind,.i .i64 e.Sort'.Lo,.i .i64 e.Sort'.Hi]
abbrev cC18 (e:T18):List SC:=[.i .i64 e.Kind,.s e.Message,.s e.Field,.i .i64 e.N]
abbrev vV16 (k0 k1:Nat) (e:T16) (l:List (Nat × VF)):List (Nat × VF):=(k0,.sl rR0 e.Fields)::(k1,.sl rR14 e.Where)::l
abbrev vV17 (k0 k1 k2:Nat) (e:T17) (l:List (Nat × VF)):List (Nat × VF):=(k0,.sl rS e.Roles)::(k1,.sl rR16 e.Messages)::(k2,.sl rR15 e.Body)::l
abbrev cC4 (e:T4):List SC:=[.i .i64 e.Kind,.s e.Text,.i .i64 e.Value,.i .i64 e.From]
abbrev cC5 (e:T5):List SC:=[.s e.s',.i .i64 e.at']
abbrev cC19 (k0:Nat) (e:T19):List SC:=[.sl k0,.i .i64 e.n',.i .i64 e.end',.i .i64 e.at',.i .i64 e.err']
abbrev cC6 (e:T6):List SC:=[.s e.Protocol,.s e.Name,.i .i64 e.Err]
abbrev cC7 (k0 k1 k2 k3 k4:Nat) (e:T7):List SC:=[.sl k0,.s e.p'.Name,.sl k1,.sl k2,.sl k3,.sl k4,.s e.out'.Protocol,.s e.out'.Name,.i .i64 e.out'.Err]
abbrev vV7 (k0 k1 k2 k3 k4:Nat) (e:T7) (l:List (Nat × VF)):List (Nat × VF):=(k0,.sl rR17 e.all')::(k1,.sl rS e.p'.Roles)::(k2,.sl rR16 e.p'.Messages)::(k3,.sl rR15 e.p'.Body)::(k4,.sl rS e.calls')::l
abbrev cC8 (e:T8):List SC:=[.s e.name',.b e.tail',.b e.hidden']
abbrev vV11 (k0 k1:Nat) (e:T11) (l:List (Nat × VF)):List (Nat × VF):=(k0,.sl rR0 e.Fields)::(k1,.sl rR9 e.Where)::l
abbrev vV12 (k0 k1 k2:Nat) (e:T12) (l:List (Nat × VF)):List (Nat × VF):=(k0,.sl rS e.Roles)::(k1,.sl rR11 e.Messages)::(k2,.sl rR10 e.Body)::l
abbrev cC13 (k0 k1 k2 k3 k4:Nat) (e:T13):List SC:=[.sl k0,.s e.p'.Name,.sl k1,.sl k2,.sl k3,.sl k4,.s e.first'.Protocol,.s e.first'.Name,.i .i64 e.first'.Err]
def tt:List (Nat × TD):=[
 (3,{ sz:=1,byt:=8,ag:=false,z:=[.i .i64 (0:Int)],kd:=3,ik:=some .i64 }),
 (4,{ sz:=1,byt:=1,ag:=false,z:=[.b false],kd:=1 }),
 (5,{ sz:=1,byt:=1,ag:=false,z:=[.i .u8 (0:Int)],kd:=3,ik:=some .u8 }),
 (9,{ sz:=1,byt:=16,ag:=false,z:=[.s (str [])],kd:=2 }),
 (21,{ sz:=1,byt:=4,ag:=false,z:=[.i .i32 (0:Int)],kd:=3,ik:=some .i32 }),
 (24,{ sz:=1,byt:=24,ag:=false,z:=[.nil],kd:=6,es:=1,eb:=16,el:=9 }),
 (25,{ sz:=1,byt:=24,ag:=false,z:=[.nil],kd:=6,es:=1,eb:=24,el:=28 }),
 (27,{ sz:=7,byt:=112,ag:=true,z:=[.i .i64 (0:Int),.s (str []),.nil,.s (str []),.s (str []),.i .i64 (0:Int),.nil],kd:=4,fo:=[(0,1,false),(1,1,false),(2,1,false),(3,1,false),(4,1,false),(5,1,false),(6,1,false)] }),
 (28,{ sz:=1,byt:=24,ag:=false,z:=[.nil],kd:=6,es:=7,eb:=112,el:=27 }),
 (29,{ sz:=1,byt:=24,ag:=false,z:=[.nil],kd:=6,es:=4,eb:=40,el:=128 }),
 (30,{ sz:=1,byt:=24,ag:=false,z:=[.nil],kd:=6,es:=9,eb:=112,el:=78 }),
 (32,{ sz:=3,byt:=64,ag:=true,z:=[.s (str []),.nil,.nil],kd:=4,fo:=[(0,1,false),(1,1,false),(2,1,false)] }),
 (33,{ sz:=1,byt:=24,ag:=false,z:=[.nil],kd:=6,es:=3,eb:=64,el:=32 }),
 (35,{ sz:=4,byt:=88,ag:=true,z:=[.s (str []),.nil,.nil,.nil],kd:=4,fo:=[(0,1,false),(1,1,false),(2,1,false),(3,1,false)] }),
 (36,{ sz:=1,byt:=24,ag:=false,z:=[.nil],kd:=6,es:=4,eb:=88,el:=35 }),
 (37,{ sz:=1,byt:=8,ag:=false,z:=[.i .i64 (0:Int)],kd:=3,ik:=some .i64 }),
 (41,{ sz:=1,byt:=24,ag:=false,z:=[.nil],kd:=6,es:=4,eb:=88,el:=47 }),
 (44,{ sz:=1,byt:=24,ag:=false,z:=[.nil],kd:=6,es:=3,eb:=64,el:=71 }),
 (45,{ sz:=1,byt:=24,ag:=false,z:=[.nil],kd:=6,es:=7,eb:=112,el:=83 }),
 (47,{ sz:=4,byt:=88,ag:=true,z:=[.s (str []),.nil,.nil,.nil],kd:=4,fo:=[(0,1,false),(1,1,false),(2,1,false),(3,1,false)] }),
 (52,{ sz:=3,byt:=40,ag:=true,z:=[.s (str []),.s (str []),.i .i64 (0:Int)],kd:=4,fo:=[(0,1,false),(1,1,false),(2,1,false)] }),
 (59,{ sz:=1,byt:=8,ag:=false,z:=[.v (.pointer none)],kd:=0 }),
 (60,{ sz:=1,byt:=8,ag:=false,z:=[.v (.map none)],kd:=0 }),
 (62,{ sz:=2,byt:=16,ag:=true,z:=[.v (.map none),.v (.map none)],kd:=4,fo:=[(0,1,false),(1,1,false)] }),
 (65,{ sz:=1,byt:=8,ag:=false,z:=[.v (.map none)],kd:=0 }),
 (69,{ sz:=1,byt:=24,ag:=false,z:=[.nil],kd:=6,es:=9,eb:=112,el:=75 }),
 (71,{ sz:=3,byt:=64,ag:=true,z:=[.s (str []),.nil,.nil],kd:=4,fo:=[(0,1,false),(1,1,false),(2,1,false)] }),
 (73,{ sz:=4,byt:=48,ag:=true,z:=[.i .i64 (0:Int),.s (str []),.s (str []),.i .i64 (0:Int)],kd:=4,fo:=[(0,1,false),(1,1,false),(2,1,false),(3,1,false)] }),
 (75,{ sz:=9,byt:=112,ag:=true,z:=[.i .i64 (0:Int),.s (str []),.s (str []),.i .i64 (0:Int),.s (str []),.i .i64 (0:Int),.s (str []),.s (str []),.i .i64 (0:Int)],kd:=4,fo:=[(0,4,true),(4,1,false),(5,4,true)] }),
 (76,{ sz:=4,byt:=48,ag:=true,z:=[.i .i64 (0:Int),.s (str []),.s (str []),.i .i64 (0:Int)],kd:=4,fo:=[(0,1,false),(1,1,false),(2,1,false),(3,1,false)] }),
 (78,{ sz:=9,byt:=112,ag:=true,z:=[.i .i64 (0:Int),.s (str []),.s (str []),.i .i64 (0:Int),.s (str []),.i .i64 (0:Int),.s (str []),.s (str []),.i .i64 (0:Int)],kd:=4,fo:=[(0,4,true),(4,1,false),(5,4,true)] }),
 (79,{ sz:=3,byt:=40,ag:=true,z:=[.s (str []),.s (str []),.i .i64 (0:Int)],kd:=4,fo:=[(0,1,false),(1,1,false),(2,1,false)] }),
 (81,{ sz:=1,byt:=24,ag:=false,z:=[.nil],kd:=6,es:=1,eb:=24,el:=45 }),
 (83,{ sz:=7,byt:=112,ag:=true,z:=[.i .i64 (0:Int),.s (str []),.nil,.s (str []),.s (str []),.i .i64 (0:Int),.nil],kd:=4,fo:=[(0,1,false),(1,1,false),(2,1,false),(3,1,false),(4,1,false),(5,1,false),(6,1,false)] }),
 (84,{ sz:=1,byt:=8,ag:=false,z:=[.v (.pointer none)],kd:=0 }),
 (86,{ sz:=9,byt:=176,ag:=true,z:=[.nil,.s (str []),.nil,.nil,.nil,.nil,.s (str []),.s (str []),.i .i64 (0:Int)],kd:=4,fo:=[(0,1,false),(1,4,true),(5,1,false),(6,3,true)] }),
 (94,{ sz:=1,byt:=24,ag:=false,z:=[.nil],kd:=6,es:=4,eb:=40,el:=158 }),
 (99,{ sz:=5,byt:=56,ag:=true,z:=[.nil,.i .i64 (0:Int),.i .i64 (0:Int),.i .i64 (0:Int),.i .i64 (0:Int)],kd:=4,fo:=[(0,1,false),(1,1,false),(2,1,false),(3,1,false),(4,1,false)] }),
 (101,{ sz:=1,byt:=8,ag:=false,z:=[.v .nilFunc],kd:=0 }),
 (103,{ sz:=1,byt:=8,ag:=false,z:=[.v (.map none)],kd:=0 }),
 (105,{ sz:=2,byt:=24,ag:=true,z:=[.v (.map none),.s (str [])],kd:=4,fo:=[(0,1,false),(1,1,false)] }),
 (108,{ sz:=1,byt:=8,ag:=false,z:=[.v .nilFunc],kd:=0 }),
 (117,{ sz:=9,byt:=176,ag:=true,z:=[.nil,.s (str []),.nil,.nil,.nil,.nil,.s (str []),.s (str []),.i .i64 (0:Int)],kd:=4,fo:=[(0,1,false),(1,4,true),(5,1,false),(6,3,true)] }),
 (126,{ sz:=3,byt:=24,ag:=true,z:=[.i .i64 (0:Int),.i .i64 (0:Int),.i .i64 (0:Int)],kd:=4,fo:=[(0,1,false),(1,1,false),(2,1,false)] }),
 (128,{ sz:=4,byt:=40,ag:=true,z:=[.s (str []),.i .i64 (0:Int),.i .i64 (0:Int),.i .i64 (0:Int)],kd:=4,fo:=[(0,1,false),(1,3,true)] }),
 (131,{ sz:=8,byt:=96,ag:=true,z:=[.i .i64 (0:Int),.s (str []),.s (str []),.i .i64 (0:Int),.i .i64 (0:Int),.s (str []),.s (str []),.i .i64 (0:Int)],kd:=5,n:=2,es:=4,el:=76 }),
 (132,{ sz:=2,byt:=16,ag:=true,z:=[.i .i64 (0:Int),.i .i64 (0:Int)],kd:=5,n:=2,es:=1,el:=3 }),
 (134,{ sz:=1,byt:=24,ag:=false,z:=[.nil],kd:=6,es:=3,eb:=24,el:=137 }),
 (137,{ sz:=3,byt:=24,ag:=true,z:=[.s (str []),.b false,.b false],kd:=4,fo:=[(0,1,false),(1,1,false),(2,1,false)] }),
 (154,{ sz:=2,byt:=24,ag:=true,z:=[.s (str []),.i .i64 (0:Int)],kd:=4,fo:=[(0,1,false),(1,1,false)] }),
 (158,{ sz:=4,byt:=40,ag:=true,z:=[.i .i64 (0:Int),.s (str []),.i .i64 (0:Int),.i .i64 (0:Int)],kd:=4,fo:=[(0,1,false),(1,1,false),(2,1,false),(3,1,false)] }),
 (169,{ sz:=28,byt:=448,ag:=true,z:=[.s (str []),.s (str []),.s (str []),.s (str []),.s (str []),.s (str []),.s (str []),.s (str []),.s (str []),.s (str []),.s (str []),.s (str []),.s (str []),.s (str []),.s (str []),.s (str []),.s (str []),.s (str []),.s (str []),.s (str []),.s (str []),.s (str []),.s (str []),.s (str []),.s (str []),.s (str []),.s (str []),.s (str [])],kd:=5,n:=28,es:=1,el:=9 }),
 (172,{ sz:=1,byt:=8,ag:=false,z:=[.v (.pointer none)],kd:=0 }),
 (173,{ sz:=1,byt:=24,ag:=false,z:=[.nil],kd:=6,es:=1,eb:=1,el:=5 }),
 (175,{ sz:=2,byt:=32,ag:=true,z:=[.v (.pointer none),.nil],kd:=4,fo:=[(0,1,false),(1,1,false)] }),
 (177,{ sz:=3,byt:=40,ag:=true,z:=[.v (.pointer none),.nil,.i .i64 (0:Int)],kd:=4,fo:=[(0,2,true),(2,1,false)] }),
 (206,{ sz:=8,byt:=128,ag:=true,z:=[.s (str []),.s (str []),.s (str []),.s (str []),.s (str []),.s (str []),.s (str []),.s (str [])],kd:=5,n:=8,es:=1,el:=9 }),
 (230,{ sz:=8,byt:=96,ag:=true,z:=[.i .i64 (0:Int),.s (str []),.s (str []),.i .i64 (0:Int),.i .i64 (0:Int),.s (str []),.s (str []),.i .i64 (0:Int)],kd:=5,n:=2,es:=4,el:=73 })]
theorem htt:TTOk Tryz.prog tt:=by
  unfold tt
  exact ⟨⟨by kernel_rfl,by kernel_rfl,by kernel_rfl,by kernel_rfl⟩,
    ⟨by kernel_rfl,by kernel_rfl,by kernel_rfl,by kernel_rfl⟩,
    ⟨by kernel_rfl,by kernel_rfl,by kernel_rfl,by kernel_rfl⟩,
    ⟨by kernel_rfl,by kernel_rfl,by kernel_rfl,by kernel_rfl⟩,
    ⟨by kernel_rfl,by kernel_rfl,by kernel_rfl,by kernel_rfl⟩,
    ⟨by kernel_rfl,by kernel_rfl,by kernel_rfl,by kernel_rfl⟩,
    ⟨by kernel_rfl,by kernel_rfl,by kernel_rfl,by kernel_rfl⟩,
    ⟨by kernel_rfl,by kernel_rfl,by kernel_rfl,by kernel_rfl⟩,
    ⟨by kernel_rfl,by kernel_rfl,by kernel_rfl,by kernel_rfl⟩,
    ⟨by kernel_rfl,by kernel_rfl,by kernel_rfl,by kernel_rfl⟩,
    ⟨by kernel_rfl,by kernel_rfl,by kernel_rfl,by kernel_rfl⟩,
    ⟨by kernel_rfl,by kernel_rfl,by kernel_rfl,by kernel_rfl⟩,
    ⟨by kernel_rfl,by kernel_rfl,by kernel_rfl,by kernel_rfl⟩,
    ⟨by kernel_rfl,by kernel_rfl,by kernel_rfl,by kernel_rfl⟩,
    ⟨by kernel_rfl,by kernel_rfl,by kernel_rfl,by kernel_rfl⟩,
    ⟨by kernel_rfl,by kernel_rfl,by kernel_rfl,by kernel_rfl⟩,
    ⟨by kernel_rfl,by kernel_rfl,by kernel_rfl,by kernel_rfl⟩,
    ⟨by kernel_rfl,by kernel_rfl,by kernel_rfl,by kernel_rfl⟩,
    ⟨by kernel_rfl,by kernel_rfl,by kernel_rfl,by kernel_rfl⟩,
    ⟨by kernel_rfl,by kernel_rfl,by kernel_rfl,by kernel_rfl⟩,
    ⟨by kernel_rfl,by kernel_rfl,by kernel_rfl,by kernel_rfl⟩,
    ⟨by kernel_rfl,by kernel_rfl,by kernel_rfl,by kernel_rfl⟩,
    ⟨by kernel_rfl,by kernel_rfl,by kernel_rfl,by kernel_rfl⟩,
    ⟨by kernel_rfl,by kernel_rfl,by kernel_rfl,by kernel_rfl⟩,
    ⟨by kernel_rfl,by kernel_rfl,by kernel_rfl,by kernel_rfl⟩,
    ⟨by kernel_rfl,by kernel_rfl,by kernel_rfl,by kernel_rfl⟩,
    ⟨by kernel_rfl,by kernel_rfl,by kernel_rfl,by kernel_rfl⟩,
    ⟨by kernel_rfl,by kernel_rfl,by kernel_rfl,by kernel_rfl⟩,
    ⟨by kernel_rfl,by kernel_rfl,by kernel_rfl,by kernel_rfl⟩,
    ⟨by kernel_rfl,by kernel_rfl,by kernel_rfl,by kernel_rfl⟩,
    ⟨by kernel_rfl,by kernel_rfl,by kernel_rfl,by kernel_rfl⟩,
    ⟨by kernel_rfl,by kernel_rfl,by kernel_rfl,by kernel_rfl⟩,
    ⟨by kernel_rfl,by kernel_rfl,by kernel_rfl,by kernel_rfl⟩,
    ⟨by kernel_rfl,by kernel_rfl,by kernel_rfl,by kernel_rfl⟩,
    ⟨by kernel_rfl,by kernel_rfl,by kernel_rfl,by kernel_rfl⟩,
    ⟨by kernel_rfl,by kernel_rfl,by kernel_rfl,by kernel_rfl⟩,
    ⟨by kernel_rfl,by kernel_rfl,by kernel_rfl,by kernel_rfl⟩,
    ⟨by kernel_rfl,by kernel_rfl,by kernel_rfl,by kernel_rfl⟩,
    ⟨by kernel_rfl,by kernel_rfl,by kernel_rfl,by kernel_rfl⟩,
    ⟨by kernel_rfl,by kernel_rfl,by kernel_rfl,by kernel_rfl⟩,
    ⟨by kernel_rfl,by kernel_rfl,by kernel_rfl,by kernel_rfl⟩,
    ⟨by kernel_rfl,by kernel_rfl,by kernel_rfl,by kernel_rfl⟩,
    ⟨by kernel_rfl,by kernel_rfl,by kernel_rfl,by kernel_rfl⟩,
    ⟨by kernel_rfl,by kernel_rfl,by kernel_rfl,by kernel_rfl⟩,
    ⟨by kernel_rfl,by kernel_rfl,by kernel_rfl,by kernel_rfl⟩,
    ⟨by kernel_rfl,by kernel_rfl,by kernel_rfl,by kernel_rfl⟩,
    ⟨by kernel_rfl,by kernel_rfl,by kernel_rfl,by kernel_rfl⟩,
    ⟨by kernel_rfl,by kernel_rfl,by kernel_rfl,by kernel_rfl⟩,
    ⟨by kernel_rfl,by kernel_rfl,by kernel_rfl,by kernel_rfl⟩,
    ⟨by kernel_rfl,by kernel_rfl,by kernel_rfl,by kernel_rfl⟩,
    ⟨by kernel_rfl,by kernel_rfl,by kernel_rfl,by kernel_rfl⟩,
    ⟨by kernel_rfl,by kernel_rfl,by kernel_rfl,by kernel_rfl⟩,
    ⟨by kernel_rfl,by kernel_rfl,by kernel_rfl,by kernel_rfl⟩,
    ⟨by kernel_rfl,by kernel_rfl,by kernel_rfl,by kernel_rfl⟩,
    ⟨by kernel_rfl,by kernel_rfl,by kernel_rfl,by kernel_rfl⟩,
    ⟨by kernel_rfl,by kernel_rfl,by kernel_rfl,by kernel_rfl⟩,
    ⟨by kernel_rfl,by kernel_rfl,by kernel_rfl,by kernel_rfl⟩,
    ⟨by kernel_rfl,by kernel_rfl,by kernel_rfl,by kernel_rfl⟩,trivial⟩
def J:=@htt
theorem Q {α:Sort _} {a:α}:a=a:=rfl
section
variable [LxP]
theorem wH {X:Ctx} {tt:List (Nat × TD)} (htt:TTOk X.P tt) (n:Nat) {b t:Bool} (K:b=t) {c:Cf} (k:Wc X (setC t (adv tt X.fn.ntmps n c))) (hp:(look (adv tt X.fn.ntmps n c).st.L (slC (adv tt X.fn.ntmps n c)),stepC (adv tt X.fn.ntmps n c))=(some (.c (.b b)),wantC b (adv tt X.fn.ntmps n c)):=by kernel_rfl):Wc X c:=wa htt n (eK K k hp)
theorem wr {P:Program} {f:FuncId} {fn:Func} {ct:Ct} {E0:Env} {F0:FSet} {w0:World} {tt:List (Nat × TD)} (htt:TTOk P tt) (n:Nat) (hf:P.funcs[f]? = some fn) (l:List (Nat × SC)) {c:Cf}
    (hp:(retC (adv tt fn.ntmps n c),resV tt (adv tt fn.ntmps n c).st fn.results.toList,ct.V1.map (fun p=>findV (adv tt fn.ntmps n c).st ⟨l,0,0⟩ p.1 p.2),ct.M1.map (fun p=>findM (adv tt fn.ntmps n c).st ⟨l,0,0⟩ p.1 p.2),
        (okV ⟨l,0,0⟩ ct.res && nodupB (ct.M1.filterMap fun p=>keyM ⟨l,0,0⟩ p.1 p.2) && nodupB (ct.M1.map (·.1)) && l.all (fun p=>Nat.ble ct.nk p.1 && p.2.kbb (adv tt fn.ntmps n c).st.nx))) =
      (true,some (renV ⟨l,0,0⟩ ct.res),ct.V1.map (fun p=>some p.2),ct.M1.map (fun p=>some (renM ⟨l,0,0⟩ p.2)),true):=by kernel_rfl):Wc (ct.ctx P f fn E0 F0 w0) c:=wa (X:=ct.ctx P f fn E0 F0 w0) htt n (eRet htt hf l hp)
theorem oi {α:Type} {a b:α} (h:some a=some b):a=b:=Option.some.inj h
theorem eB {X:Ctx} {b:Bool} {α:Type} {x y:Option α} {r:α} (h:(bif b then x else y)=some r) {c:Cf} (k1:x=some r→Wc X (setC true c)) (k2:y=some r→Wc X (setC false c)) (hp:(look c.st.L (slC c),stepC c)=(some (.c (.b b)),wantC b c):=by kernel_rfl):Wc X c:=by
  rcases oc h with ⟨K,h⟩ | ⟨K,h⟩
  · exact eK K (k1 h) hp
  · exact eK K (k2 h) hp
theorem eB' {X:Ctx} {b:Bool} {α:Type} {x y:Option α} {r:α} (h:(bif b then x else y)=some r) {c:Cf} (k1:y=some r→Wc X (setC false c)) (k2:x=some r→Wc X (setC true c)) (hp:(look c.st.L (slC c),stepC c)=(some (.c (.b b)),wantC b c):=by kernel_rfl):Wc X c:=eB h k2 k1 hp
theorem wB {X:Ctx} {tt:List (Nat × TD)} (htt:TTOk X.P tt) (n:Nat) {b:Bool} {α:Type} {x y:Option α} {r:α} (h:(bif b then x else y)=some r) {c:Cf} (k1:x=some r→Wc X (setC true (adv tt X.fn.ntmps n c))) (k2:y=some r→Wc X (setC false (adv tt X.fn.ntmps n c))) (hp:(look (adv tt X.fn.ntmps n c).st.L (slC (adv tt X.fn.ntmps n c)),stepC (adv tt X.fn.ntmps n c))=(some (.c (.b b)),wantC b (adv tt X.fn.ntmps n c)):=by kernel_rfl):Wc X c:=by
  rcases oc h with ⟨K,h⟩ | ⟨K,h⟩
  · exact wH htt n K (k1 h) hp
  · exact wH htt n K (k2 h) hp
theorem wB' {X:Ctx} {tt:List (Nat × TD)} (htt:TTOk X.P tt) (n:Nat) {b:Bool} {α:Type} {x y:Option α} {r:α} (h:(bif b then x else y)=some r) {c:Cf} (k1:y=some r→Wc X (setC false (adv tt X.fn.ntmps n c))) (k2:x=some r→Wc X (setC true (adv tt X.fn.ntmps n c))) (hp:(look (adv tt X.fn.ntmps n c).st.L (slC (adv tt X.fn.ntmps n c)),stepC (adv tt X.fn.ntmps n c))=(some (.c (.b b)),wantC b (adv tt X.fn.ntmps n c)):=by kernel_rfl):Wc X c:=wB htt n h k2 k1 hp
theorem wO {X:Ctx} {tt:List (Nat × TD)} (htt:TTOk X.P tt) (n:Nat) {α β:Type} {o:Option α} {f:α→Option β} {r:β} (h:o.bind f=some r) {c:Cf} (k:∀ x,o=some x→f x=some r→Wc X (adv tt X.fn.ntmps n c)):Wc X c:=by
  obtain ⟨x,e,h⟩:=ob h
  exact wa htt n (k x e h)
end
abbrev zz0:=fun L=>(⟨L,[],[],0⟩:St)
abbrev zz1:=fun x0 x1 L=>(⟨L,[(0,.box [.s x0,.I x1] 154)],[],1⟩:St)
abbrev zz2:=fun x0 L=>(⟨L,[],[(0,.sl rS x0)],1⟩:St)
abbrev zz3:=fun x0 L=>(⟨L,[],[(0,.sl rR10 x0)],1⟩:St)
abbrev zz4:=fun x0 L=>(⟨L,[(0,.box (cC5 x0) 154),(1,.box [.I 0,.s (str []),.I 0,.I 0] 158)],[],2⟩:St)
abbrev zz5:=fun x0 L=>(⟨L,[(0,.own rS x0 true)],[],1⟩:St)
abbrev zz6:=fun x0 x1 x2 L=>(⟨L,[(1,.box [.s x0,.sl 2,.sl 3,.sl 4] 35)],((0,.sl rR17 x1)::vV17 2 3 4 x2 []),5⟩:St)
abbrev zz7:=fun x0 x1 x2 x3 x4 x5 x6 x7 L=>(⟨L,[(1,.box [.I x0,.s x1,.sl 2,.s x2,.s x3,.I x4,.sl 3] 27)],[(0,.sl rR8 x5),(2,.sl rS x6),(3,.sl (rSl rR15) x7)],4⟩:St)
abbrev zz8:=fun x0 x1 x2 x3 x4 x5 x6 x7 x8 x9 x10 L=>(⟨L,[(0,.box [.sl 6,.s x0,.sl 7,.sl 8,.sl 9,.sl 10,.s x1,.s x2,.I x3] 86),(10,.own rS x4 false)],((1,.sl rR17 x5)::vV17 2 3 4 x6 [(6,.sl rR17 x7),(7,.sl rS x8),(8,.sl rR16 x9),(9,.sl rR15 x10)]),11⟩:St)
abbrev zz9:=fun x0 x1 x2 x3 x4 x5 x6 x7 x8 x9 x10 x11 x12 x13 x14 x15 x16 x17 x18 x19 x20 L=>(⟨L,[(0,.box [.sl 18,.s x0,.sl 19,.sl 20,.sl 21,.sl 22,.s x1,.s x2,.I x3] 86),(16,.box [.I x4,.s x5,.sl 14,.s x6,.s x7,.I x8,.sl 15] 27),(22,.own rS x9 false),(23,.own rR8 x10 true)],((1,.sl rR17 x11)::vV17 2 3 4 x12 [(6,.sl rR15 x13),(7,.sl rR8 x14),(14,.sl rS x15),(15,.sl (rSl rR15) x16),(18,.sl rR17 x17),(19,.sl rS x18),(20,.sl rR16 x19),(21,.sl rR15 x20)]),24⟩:St)
abbrev zz10:=fun x0 x1 x2 x3 x4 x5 x6 x7 x8 x9 x10 x11 x12 L=>(⟨L,[(0,.av x0),(2,.box [.sl 0,.s x1] 105),(3,.own rR15 x2 true),(7,.box [.I x3,.s x4,.sl 5,.s x5,.s x6,.I x7,.sl 6] 27),(8,.box [.I x3,.s x8,.sl 9,.s x5,.s x6,.I x7,.nil] 27),(9,.own rS x9 true)],[(1,.sl rR15 x10),(5,.sl rS x11),(6,.sl (rSl rR15) x12)],10⟩:St)
abbrev zz11:=fun x0 x1 L=>(⟨L,[(0,.box (cC5 x0) 154),(1,.box [.I 0,.s (str []),.I 0,.I 0] 158),(2,.box [.I 2,.s (str []),.I x1,.I 0] 158)],[],3⟩:St)
abbrev zz12:=fun x0 x1 x2 L=>(⟨L,[(0,.box [.s x0,.I x1] 154),(1,.box [.I 0,.s (str []),.I 0,.I 0] 158),(2,.own (rI .u8) x2 true)],[],3⟩:St)
abbrev zz13:=fun x0 x1 x2 x3 x4 x5 x6 x7 x8 L=>(⟨L,[(0,.box [.sl 13,.I x0,.I x1,.I x2,.I x3] 99),(2,.box [.s (str []),.nil,.nil] 32),(4,.box [.s x4,.sl 8,.sl 14] 32),(8,.own rR0 x5 true),(14,.own rR14 x6 true)],[(1,.sl rR4 x7),(13,.sl rR4 x8)],15⟩:St)
abbrev zz14:=fun x0 x1 x2 x3 x4 x5 x6 x7 L=>(⟨L,[(0,.box [.sl 10,.I x0,.I x1,.I x2,.I x3] 99),(2,.box [.s (str []),.nil,.nil] 32),(4,.box [.s x4,.sl 11,.nil] 32),(11,.own rR0 x5 true)],[(1,.sl rR4 x6),(10,.sl rR4 x7)],12⟩:St)
abbrev zz15:=fun x0 x1 x2 x3 x4 x5 x6 x7 x8 L=>(⟨L,[(0,.box [.sl 11,.I x0,.I x1,.I x2,.I x3] 99),(2,.box [.I 0,.s (str []),.nil,.s (str []),.s (str []),.I 0,.nil] 27),(5,.box [.I 2,.s x4,.nil,.s (str []),.s (str []),.I x5,.sl 12] 27),(12,.own (rSl rR15) x6 true)],[(1,.sl rR4 x7),(11,.sl rR4 x8)],13⟩:St)
abbrev zz16:=fun x0 x1 x2 x3 x4 x5 x6 L=>(⟨L,[(0,.box [.sl 16,.I x0,.I x1,.I x2,.I x3] 99),(2,.box [.I 0,.s (str []),.nil,.s (str []),.s (str []),.I 0,.nil] 27),(10,.box [.I 5,.s (str []),.nil,.s (str []),.s (str []),.I 0,.sl 17] 27),(17,.own (rSl rR15) x4 true)],[(1,.sl rR4 x5),(16,.sl rR4 x6)],18⟩:St)
abbrev zz17:=fun x0 x1 x2 x3 x4 x5 x6 x7 x8 L=>(⟨L,[(0,.box [.sl 11,.I x0,.I x1,.I x2,.I x3] 99),(2,.box [.s (str []),.nil,.nil,.nil] 35),(5,.box [.s x4,.sl 7,.sl 12,.nil] 35),(7,.own rS x5 true),(12,.own rR16 x6 true)],[(1,.sl rR4 x7),(11,.sl rR4 x8)],13⟩:St)
abbrev zz18:=fun x0 x1 x2 x3 x4 x5 L=>(⟨L,[(2,.box [.bp 2 0,.sl 3,.I x0] 177),(3,.buf x1 5),(4,.abs x2),(5,.box [.s x3,.sl 0,.sl 1] 32),(6,.own rS x4 true)],(vV16 0 1 x5 []),7⟩:St)
abbrev zz19:=fun x0 x1 x2 x3 x4 x5 x6 L=>(⟨L,[(2,.box [.bp 2 0,.sl 3,.I x0] 177),(3,.buf x1 5),(4,.abs x2),(5,.box [.s x3,.sl 0,.sl 1] 32),(6,.own rS x4 true),(7,.own rS x5 true)],(vV16 0 1 x6 []),8⟩:St)
abbrev zz20:=fun x0 x1 x2 x3 x4 x5 L=>(⟨L,[(1,.abs x0),(2,.box [.bp 2 0,.sl 10,.I x1] 177),(7,.box [.s x2,.sl 4,.sl 5,.sl 6] 35),(10,.buf x3 5)],((0,.sl rR17 x4)::vV17 4 5 6 x5 []),11⟩:St)
abbrev zz21:=fun x0 x1 x2 x3 x4 x5 L=>(⟨L,[(1,.abs x0),(2,.box [.bp 2 0,.sl 22,.I x1] 177),(19,.box [.s x2,.sl 16,.sl 17,.sl 18] 35),(22,.buf x3 5)],((0,.sl rR17 x4)::vV17 16 17 18 x5 []),23⟩:St)
abbrev zz22:=fun x0 x1 x2 x3 x4 x5 x6 x7 x8 x9 x10 x11 x12 x13 x14 x15 x16 x17 L=>(⟨L,[(0,.box [.sl 18,.s x0,.sl 19,.sl 20,.sl 21,.sl 22,.s x1,.s x2,.I x3] 86),(8,.box [.I x4,.s x5,.sl 6,.s x6,.s x7,.I x8,.sl 7] 27),(22,.own rS x9 false)],((1,.sl rR17 x10)::vV17 2 3 4 x11 [(6,.sl rS x12),(7,.sl (rSl rR15) x13),(18,.sl rR17 x14),(19,.sl rS x15),(20,.sl rR16 x16),(21,.sl rR15 x17)]),23⟩:St)
abbrev zz23:=fun x0 x1 x2 x3 x4 x5 x6 x7 x8 x9 x10 x11 x12 L=>(⟨L,[(0,.box [.sl 8,.s x0,.sl 9,.sl 10,.sl 11,.sl 12,.s x1,.s x2,.I x3] 86),(12,.own rS x4 false)],((1,.sl rR17 x5)::vV17 2 3 4 x6 [(6,.sl rR15 x7),(7,.sl rR8 x8),(8,.sl rR17 x9),(9,.sl rS x10),(10,.sl rR16 x11),(11,.sl rR15 x12)]),13⟩:St)
abbrev zz24:=fun x0 x1 x2 x3 x4 x5 x6 x7 x8 x9 x10 x11 x12 x13 x14 x15 x16 x17 x18 x19 x20 L=>(⟨L,[(0,.box [.sl 8,.s x0,.sl 9,.sl 10,.sl 11,.sl 12,.s x1,.s x2,.I x3] 86),(12,.own rS x4 false),(16,.box [.I x5,.s x6,.sl 14,.s x7,.s x8,.I x9,.sl 15] 27),(17,.own rR8 x10 true)],((1,.sl rR17 x11)::vV17 2 3 4 x12 [(6,.sl rR15 x13),(7,.sl rR8 x14),(8,.sl rR17 x15),(9,.sl rS x16),(10,.sl rR16 x17),(11,.sl rR15 x18),(14,.sl rS x19),(15,.sl (rSl rR15) x20)]),18⟩:St)
abbrev zz25:=fun x0 x1 x2 x3 x4 x5 x6 x7 x8 x9 x10 x11 x12 x13 L=>(⟨L,[(0,.box [.sl 29,.s x0,.sl 30,.sl 31,.sl 32,.sl 33,.s x1,.s x2,.I x3] 86),(14,.box [.s x4,.sl 12,.sl 13] 32),(27,.box (cC0 x5) 128),(33,.own rS x6 false)],((1,.sl rR17 x7)::vV17 2 3 4 x8 (vV16 12 13 x9 [(29,.sl rR17 x10),(30,.sl rS x11),(31,.sl rR16 x12),(32,.sl rR15 x13)])),34⟩:St)
abbrev zz26:=fun x0 x1 x2 x3 x4 x5 x6 x7 x8 x9 x10 x11 x12 x13 x14 x15 x16 x17 x18 x19 x20 x21 x22 x23 L=>(⟨L,[(0,.box [.sl 24,.s x0,.sl 25,.sl 26,.sl 27,.sl 28,.s x1,.s x2,.I x3] 86),(14,.box [.s x4,.sl 12,.sl 13] 32),(21,.box [.I x5,.s x6,.s x7,.I x8,.s x9,.I x10,.s x11,.s x12,.I x13] 78),(22,.box [.I x5,.s x6,.s x7,.I x8,.I x10,.s x11,.s x12,.I x13] 131),(23,.box [.I x14,.I x15] 132),(28,.own rS x16 false)],((1,.sl rR17 x17)::vV17 2 3 4 x18 (vV16 12 13 x19 [(24,.sl rR17 x20),(25,.sl rS x21),(26,.sl rR16 x22),(27,.sl rR15 x23)])),29⟩:St)
abbrev zz27:=fun x0 x1 x2 x3 x4 x5 x6 x7 x8 x9 x10 x11 x12 x13 x14 x15 x16 x17 x18 x19 x20 x21 x22 x23 x24 x25 x26 x27 L=>(⟨L,[(0,.box [.sl 29,.s x0,.sl 30,.sl 31,.sl 32,.sl 33,.s x1,.s x2,.I x3] 86),(14,.box [.s x4,.sl 12,.sl 13] 32),(21,.box [.I x5,.s x6,.s x7,.I x8,.s x9,.I x10,.s x11,.s x12,.I x13] 78),(23,.box [.I x14,.I x15] 132),(33,.own rS x16 false),(34,.box [.I x17,.s x18,.s x19,.I x20] 76)],((1,.sl rR17 x21)::vV17 2 3 4 x22 (vV16 12 13 x23 [(29,.sl rR17 x24),(30,.sl rS x25),(31,.sl rR16 x26),(32,.sl rR15 x27)])),35⟩:St)
abbrev zz28:=fun x0 x1 L=>(⟨L,[(1,.box (cC7 2 3 4 5 6 x0) 86),(7,.box [.bp 1 0] 84)],((0,.sl rS x1)::vV7 2 3 4 5 6 x0 []),8⟩:St)
abbrev zz29:=fun x0 x1 L=>(⟨L,[(0,.own rS x0 false),(1,.box (cC7 2 3 4 5 6 x1) 86),(7,.box [.bp 1 0] 84)],(vV7 2 3 4 5 6 x1 []),8⟩:St)
abbrev zz30:=fun x0 x1 x2 x3 x4 L=>(⟨L,[(0,.box (cC7 1 2 3 4 5 x0) 86),(5,.own rS x1 false),(6,.box [.bp 0 0] 84),(8,.own rS x2 true)],((1,.sl rR17 x3)::vV17 2 3 4 x4 []),9⟩:St)
abbrev zz31:=fun x0 x1 L=>(⟨L,[(1,.abs x0),(2,.box [.s (str []),.s (str []),.I 0] 52)],[(0,.sl rR17 x1)],3⟩:St)
abbrev zz32:=fun x0 x1 x2 x3 x4 x5 x6 x7 x8 x9 x10 x11 x12 L=>(⟨L,[(1,.abs x0),(2,.box [.s (str []),.s (str []),.I 0] 52),(7,.box [.s x1,.sl 4,.sl 5,.sl 6] 35),(8,.box [.sl 15,.s x2,.sl 16,.sl 17,.sl 18,.sl 19,.s x3,.s x4,.I x5] 86),(19,.own rS x6 true)],((0,.sl rR17 x7)::vV17 4 5 6 x8 [(15,.sl rR17 x9),(16,.sl rS x10),(17,.sl rR16 x11),(18,.sl rR15 x12)]),20⟩:St)
abbrev zz33:=fun x0 x1 x2 x3 x4 x5 x6 x7 x8 L=>(⟨L,[(6,.box [.I x0,.s x1,.sl 4,.s x2,.s x3,.I x4,.sl 5] 27),(7,.own rS x5 false)],[(0,.sl rR15 x6),(4,.sl rS x7),(5,.sl (rSl rR15) x8)],8⟩:St)
abbrev zz34:=fun x0 x1 x2 x3 x4 x5 L=>(⟨L,[(1,.box [.sl 2,.sl 3] 62),(2,.av x0),(3,.av x1),(4,.box [.bp 1 0] 59),(5,.box [.sl 6] 65),(6,.av x2),(7,.box [.s x3,.sl 8,.sl 9,.sl 10] 35),(11,.box [.cl 34 [] [4,5,7,11]] 101)],((0,.sl rR15 x4)::vV17 8 9 10 x5 []),12⟩:St)
abbrev zz35:=fun x0 x1 x2 x3 x4 x5 x6 x7 x8 x9 x10 L=>(⟨L,[(1,.box [.sl 2,.sl 3] 62),(2,.av x0),(3,.av x1),(4,.box [.bp 1 0] 59),(5,.box [.b x2] 4),(6,.box [.s x3,.sl 11,.sl 12,.sl 13] 35),(10,.box [.cl 38 [] [4,5,6,10]] 108),(12,.own rR16 x4 false),(14,.own rR15 x5 true)],[(0,.sl rR15 x6),(7,.sl rS x7),(9,.sl rR15 x8),(11,.sl rS x9),(13,.sl rR15 x10)],15⟩:St)
abbrev zz36:=fun x0 x1 x2 x3 x4 x5 x6 x7 x8 x9 x10 L=>(⟨L,[(1,.box [.sl 2,.sl 3] 62),(2,.av x0),(3,.av x1),(4,.box [.bp 1 0] 59),(5,.box [.b x2] 4),(6,.box [.s x3,.sl 19,.sl 20,.sl 21] 35),(10,.box [.cl 38 [] [4,5,6,10]] 108),(20,.own rR16 x4 false),(22,.own rR15 x5 true)],[(0,.sl rR15 x6),(7,.sl rS x7),(9,.sl rR15 x8),(19,.sl rS x9),(21,.sl rR15 x10)],23⟩:St)
abbrev zz37:=fun x0 x1 x2 x3 L=>(⟨L,[(1,.abs x0),(2,.box [.s (str []),.nil,.nil,.nil] 35),(3,.av x1),(4,.av x2),(5,.box [.sl 3,.sl 4] 62)],[(0,.sl rR17 x3)],6⟩:St)
end Gx
end
