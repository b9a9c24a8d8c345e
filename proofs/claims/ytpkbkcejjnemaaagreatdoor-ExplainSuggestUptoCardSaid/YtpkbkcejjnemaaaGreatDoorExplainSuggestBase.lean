/- How typed values lie in the machine, and the types of the program. -/
import Derived.Test.YtpkbkcejjnemaaaGreatDoorChecked
import Derived.Test.YtpkbkcejjnemaaaGreatDoorExplainSuggestPure
import Derived.Test.YtpkbkcejjnemaaaGreatDoorExplainSuggestLib
set_option linter.all false
section
open Go Go.Kx Go.Proofs
namespace Gx
abbrev Zea:TRep YV:=rM (fun x=>(x.Zt,x.Lo,x.Hi)) (rP (rI .i64) (rP (rI .i64) (rI .i64)))
abbrev Zqe:YU Zea:=oM _ (oP (oI .i64) (oP (oI .i64) (oI .i64)))
abbrev XN:TRep T4:=rM (fun x=>(x.Zu,x.Zv)) (rP rS Zea)
abbrev WE:YU XN:=oM _ (oP oS Zqe)
abbrev Xe:TRep T1:=rM (fun x=>(x.X,x.Y,x.C)) (rP (rI .i64) (rP (rI .i64) (rI .i64)))
abbrev Uv:YU Xe:=oM _ (oP (oI .i64) (oP (oI .i64) (oI .i64)))
abbrev rR6:TRep T6:=rM (fun x=>(x.Zw,x.Zy)) (rP (XO Xe) (XO (rP (rI .i64) (rI .i64))))
abbrev oO6:YU rR6:=oM _ (oP (WX Xe) (WX (rP (rI .i64) (rI .i64))))
abbrev Ys:TRep T0:=rM (fun x=>(x.Zu,x.Zz,x.ZA,x.ZB)) (rP rS (rP (XO XN) (rP (rI .i64) rR6)))
abbrev Xu:YU Ys:=oM _ (oP oS (oP (WX XN) (oP (oI .i64) oO6)))
abbrev rR7:TRep T7:=rM (fun x=>(x.ZC,x.To,x.ZD)) (rP (rI .i64) (rP (rI .i64) (rI .i64)))
abbrev oO7:YU rR7:=oM _ (oP (oI .i64) (oP (oI .i64) (oI .i64)))
abbrev Xb:TRep T2:=rM (fun x=>(x.ZC,x.Act,x.To,x.ZE)) (rP (rI .i64) (rP rR7 (rP (rI .i64) rB)))
abbrev WW:YU Xb:=oM _ (oP (oI .i64) (oP oO7 (oP (oI .i64) oB)))
abbrev YN:TRep XB:=rM (fun x=>(x.ZF,x.ZG,x.ZH)) (rP (rI .i64) (rP (rI .i64) (rI .i64)))
abbrev Rn:YU YN:=oM _ (oP (oI .i64) (oP (oI .i64) (oI .i64)))
abbrev rR5:TRep T5:=rM (fun x=>(x.Zu,x.ZI,x.ZJ,x.ZL,x.ZM,x.ZN,x.ZO,x.ZP)) (rP rS (rP (XO rS) (rP (XO Ys) (rP (rI .i64) (rP (rI .i64) (rP (rI .i64) (rP (XO Xb) (XO YN))))))))
abbrev oO5:YU rR5:=oM _ (oP oS (oP (WX rS) (oP (WX Ys) (oP (oI .i64) (oP (oI .i64) (oP (oI .i64) (oP (WX Xb) (WX YN))))))))
abbrev Wh:TRep T9:=rM (fun x=>(x.ZC,x.ZQ,x.ZR,x.ZD,x.To,x.ZE)) (rP (rI .i64) (rP rB (rP (rI .i64) (rP (rI .i64) (rP (rI .i64) rB)))))
abbrev XM:YU Wh:=oM _ (oP (oI .i64) (oP oB (oP (oI .i64) (oP (oI .i64) (oP (oI .i64) oB)))))
abbrev rR8:TRep T8:=rM (fun x=>(x.ZS,x.ZL,x.ZM,x.ZT,x.ZU,x.ZP)) (rP (rI .i64) (rP (rI .i64) (rP (rI .i64) (rP (XO rB) (rP (XO Wh) (XO YN))))))
abbrev HT:YU rR8:=oM _ (oP (oI .i64) (oP (oI .i64) (oP (oI .i64) (oP (WX rB) (oP (WX Wh) (WX YN))))))
abbrev Ym:TRep T12:=rM (fun x=>(x.Zt,x.N,x.S)) (rP (rI .i64) (rP (rI .i64) rS))
abbrev YR:YU Ym:=oM _ (oP (oI .i64) (oP (oI .i64) oS))
abbrev Xf:TRep T3:=rM (fun x=>(x.ZS,x.ZQ,x.ZR,x.ZD,x.ZV)) (rP (rI .i64) (rP rB (rP (rI .i64) (rP (rI .i64) (XO Ym)))))
abbrev Uw:YU Xf:=oM _ (oP (oI .i64) (oP oB (oP (oI .i64) (oP (oI .i64) (WX Ym)))))
abbrev ZqC:TRep Yt:=rM (fun x=>(x.At,x.ZW,x.ZX)) (rP (rI .i64) (rP (XO Ym) (XO Ym)))
abbrev Zv1:YU ZqC:=oM _ (oP (oI .i64) (oP (WX Ym) (WX Ym)))
abbrev ZqB:TRep Xw:=rM (fun x=>(x.ZY,x.out')) (rP rR8 (XO (XO (rI .i64))))
abbrev Zv0:YU ZqB:=oM _ (oP HT (WX (XO (rI .i64))))
abbrev ZqA:TRep S9:=rM (fun x=>(x.send',x.peer',x.label')) (rP rB (rP (rI .i64) (rI .i64)))
abbrev ZvZ:YU ZqA:=oM _ (oP oB (oP (oI .i64) (oI .i64)))
abbrev Zqz:TRep TC:=rM (fun x=>(x.At,x.Zt,x.ZZ,x.ZS)) (rP (rI .i64) (rP (rI .i64) (rP (rI .i64) (rI .i64))))
abbrev ZvY:YU Zqz:=oM _ (oP (oI .i64) (oP (oI .i64) (oP (oI .i64) (oI .i64))))
abbrev ZqD:TRep Yi:=rM (fun x=>(x.N,x.B)) (rP (rI .i64) (XO (rI .i64)))
abbrev Zv2:YU ZqD:=oM _ (oP (oI .i64) (WX (rI .i64)))
end Gx
namespace Go.Kx
abbrev SV.I (n:Int):SV:=.c (.i .i64 n)
abbrev SC.I (n:Int):SC:=.i .i64 n
abbrev SV.O (b:Bool):SV:=.c (.b b)
abbrev SV.B (k o:Nat):SV:=.c (.bp k o)
abbrev SV.P (k o:Nat):SV:=.c (.px k o)
abbrev SV.S (k:Nat):SV:=.c (.sl k)
end Go.Kx
namespace Gx
def rg (a:Nat):Nat->List Nat
  | 0=>[]
  | n+1=>a::rg (a+1) n
abbrev TF (e:YV):List SC:=[.i .i64 e.Zt,.i .i64 e.Lo,.i .i64 e.Hi]
abbrev Ua (e:T4):List SC:=[.s e.Zu,.i .i64 e.Zv.Zt,.i .i64 e.Zv.Lo,.i .i64 e.Zv.Hi]
abbrev MA (e:T1):List SC:=[.i .i64 e.X,.i .i64 e.Y,.i .i64 e.C]
abbrev Y5 (k0 k1 k2:Nat) (e:T0):List SC:=[.s e.Zu,.sl k0,.i .i64 e.ZA,.sl k1,.sl k2]
abbrev Y3 (k0 k1 k2:Nat) (e:T0) (l:List (Nat × VF)):List (Nat × VF):=(k0,.sl XN e.Zz)::(k1,.sl Xe e.ZB.Zw)::(k2,.sl (rP (rI .i64) (rI .i64)) e.ZB.Zy)::l
abbrev cC2 (e:T2):List SC:=[.i .i64 e.ZC,.i .i64 e.Act.ZC,.i .i64 e.Act.To,.i .i64 e.Act.ZD,.i .i64 e.To,.b e.ZE]
abbrev Bj (e:XB):List SC:=[.i .i64 e.ZF,.i .i64 e.ZG,.i .i64 e.ZH]
abbrev YH (k0 k1 k2 k3:Nat) (e:T5):List SC:=[.s e.Zu,.sl k0,.sl k1,.i .i64 e.ZL,.i .i64 e.ZM,.i .i64 e.ZN,.sl k2,.sl k3]
abbrev Xk (k0 k1 k2 k3:Nat) (e:T5) (l:List (Nat × VF)):List (Nat × VF):=(k0,.sl rS e.ZI)::(k1,.sl Ys e.ZJ)::(k2,.sl Xb e.ZO)::(k3,.sl YN e.ZP)::l
abbrev TG (e:T9):List SC:=[.i .i64 e.ZC,.b e.ZQ,.i .i64 e.ZR,.i .i64 e.ZD,.i .i64 e.To,.b e.ZE]
abbrev YM (k0 k1 k2:Nat) (e:T8):List SC:=[.i .i64 e.ZS,.i .i64 e.ZL,.i .i64 e.ZM,.sl k0,.sl k1,.sl k2]
abbrev YP (k0 k1 k2:Nat) (e:T8) (l:List (Nat × VF)):List (Nat × VF):=(k0,.sl rB e.ZT)::(k1,.sl Wh e.ZU)::(k2,.sl YN e.ZP)::l
abbrev W5 (e:T12):List SC:=[.i .i64 e.Zt,.i .i64 e.N,.s e.S]
abbrev W6 (k0:Nat) (e:T3):List SC:=[.i .i64 e.ZS,.b e.ZQ,.i .i64 e.ZR,.i .i64 e.ZD,.sl k0]
abbrev X8 (k0 k1:Nat) (e:Yt):List SC:=[.i .i64 e.At,.sl k0,.sl k1]
abbrev Wm (k0 k1:Nat) (e:Yt) (l:List (Nat × VF)):List (Nat × VF):=(k0,.sl Ym e.ZW)::(k1,.sl Ym e.ZX)::l
abbrev WV (k0 k1 k2 k3:Nat) (e:Xw):List SC:=[.i .i64 e.ZY.ZS,.i .i64 e.ZY.ZL,.i .i64 e.ZY.ZM,.sl k0,.sl k1,.sl k2,.sl k3]
abbrev VJ (k0 k1 k2 k3:Nat) (e:Xw) (l:List (Nat × VF)):List (Nat × VF):=(k0,.sl rB e.ZY.ZT)::(k1,.sl Wh e.ZY.ZU)::(k2,.sl YN e.ZY.ZP)::(k3,.sl (XO (rI .i64)) e.out')::l
abbrev ZcP (e:S9):List SC:=[.b e.send',.i .i64 e.peer',.i .i64 e.label']
abbrev ZgQ (e:TC):List SC:=[.i .i64 e.At,.i .i64 e.Zt,.i .i64 e.ZZ,.i .i64 e.ZS]
abbrev WI (k0:Nat) (e:Yi):List SC:=[.i .i64 e.N,.sl k0]
def tt:List (Nat × TD):=[
 (1,{ sz:=1,byt:=8,ag:=false,z:=[.v .nilFunc],kd:=0 }),
 (3,{ sz:=1,byt:=8,ag:=false,z:=[.i .i64 (0:Int)],kd:=3,ik:=some .i64 }),
 (4,{ sz:=1,byt:=1,ag:=false,z:=[.b false],kd:=1 }),
 (5,{ sz:=1,byt:=1,ag:=false,z:=[.i .u8 (0:Int)],kd:=3,ik:=some .u8 }),
 (9,{ sz:=1,byt:=16,ag:=false,z:=[.s (str [])],kd:=2 }),
 (21,{ sz:=1,byt:=4,ag:=false,z:=[.i .i32 (0:Int)],kd:=3,ik:=some .i32 }),
 (22,{ sz:=1,byt:=24,ag:=false,z:=[.nil],kd:=6,es:=1,eb:=16,el:=9 }),
 (23,{ sz:=1,byt:=24,ag:=false,z:=[.nil],kd:=6,es:=5,eb:=96,el:=59 }),
 (24,{ sz:=1,byt:=24,ag:=false,z:=[.nil],kd:=6,es:=6,eb:=48,el:=63 }),
 (25,{ sz:=1,byt:=24,ag:=false,z:=[.nil],kd:=6,es:=3,eb:=24,el:=152 }),
 (27,{ sz:=8,byt:=136,ag:=true,z:=[.s (str []),.nil,.nil,.i .i64 (0:Int),.i .i64 (0:Int),.i .i64 (0:Int),.nil,.nil],kd:=4,fo:=[(0,1,false),(1,1,false),(2,1,false),(3,1,false),(4,1,false),(5,1,false),(6,1,false),(7,1,false)] }),
 (28,{ sz:=1,byt:=24,ag:=false,z:=[.nil],kd:=6,es:=1,eb:=1,el:=4 }),
 (29,{ sz:=1,byt:=24,ag:=false,z:=[.nil],kd:=6,es:=6,eb:=48,el:=65 }),
 (31,{ sz:=6,byt:=96,ag:=true,z:=[.i .i64 (0:Int),.i .i64 (0:Int),.i .i64 (0:Int),.nil,.nil,.nil],kd:=4,fo:=[(0,1,false),(1,1,false),(2,1,false),(3,1,false),(4,1,false),(5,1,false)] }),
 (32,{ sz:=1,byt:=24,ag:=false,z:=[.nil],kd:=6,es:=5,eb:=56,el:=48 }),
 (35,{ sz:=1,byt:=24,ag:=false,z:=[.nil],kd:=6,es:=3,eb:=32,el:=74 }),
 (37,{ sz:=3,byt:=56,ag:=true,z:=[.i .i64 (0:Int),.nil,.nil],kd:=4,fo:=[(0,1,false),(1,1,false),(2,1,false)] }),
 (42,{ sz:=3,byt:=56,ag:=true,z:=[.i .i64 (0:Int),.nil,.nil],kd:=4,fo:=[(0,1,false),(1,1,false),(2,1,false)] }),
 (48,{ sz:=5,byt:=56,ag:=true,z:=[.i .i64 (0:Int),.b false,.i .i64 (0:Int),.i .i64 (0:Int),.nil],kd:=4,fo:=[(0,1,false),(1,1,false),(2,1,false),(3,1,false),(4,1,false)] }),
 (50,{ sz:=3,byt:=24,ag:=true,z:=[.i .i64 (0:Int),.i .i64 (0:Int),.i .i64 (0:Int)],kd:=4,fo:=[(0,1,false),(1,1,false),(2,1,false)] }),
 (52,{ sz:=4,byt:=40,ag:=true,z:=[.s (str []),.i .i64 (0:Int),.i .i64 (0:Int),.i .i64 (0:Int)],kd:=4,fo:=[(0,1,false),(1,3,true)] }),
 (53,{ sz:=1,byt:=24,ag:=false,z:=[.nil],kd:=6,es:=4,eb:=40,el:=52 }),
 (54,{ sz:=1,byt:=24,ag:=false,z:=[.nil],kd:=6,es:=3,eb:=24,el:=122 }),
 (55,{ sz:=1,byt:=24,ag:=false,z:=[.nil],kd:=6,es:=2,eb:=16,el:=123 }),
 (57,{ sz:=2,byt:=48,ag:=true,z:=[.nil,.nil],kd:=4,fo:=[(0,1,false),(1,1,false)] }),
 (59,{ sz:=5,byt:=96,ag:=true,z:=[.s (str []),.nil,.i .i64 (0:Int),.nil,.nil],kd:=4,fo:=[(0,1,false),(1,1,false),(2,1,false),(3,2,true)] }),
 (61,{ sz:=3,byt:=24,ag:=true,z:=[.i .i64 (0:Int),.i .i64 (0:Int),.i .i64 (0:Int)],kd:=4,fo:=[(0,1,false),(1,1,false),(2,1,false)] }),
 (63,{ sz:=6,byt:=48,ag:=true,z:=[.i .i64 (0:Int),.i .i64 (0:Int),.i .i64 (0:Int),.i .i64 (0:Int),.i .i64 (0:Int),.b false],kd:=4,fo:=[(0,1,false),(1,3,true),(4,1,false),(5,1,false)] }),
 (65,{ sz:=6,byt:=48,ag:=true,z:=[.i .i64 (0:Int),.b false,.i .i64 (0:Int),.i .i64 (0:Int),.i .i64 (0:Int),.b false],kd:=4,fo:=[(0,1,false),(1,1,false),(2,1,false),(3,1,false),(4,1,false),(5,1,false)] }),
 (74,{ sz:=3,byt:=32,ag:=true,z:=[.i .i64 (0:Int),.i .i64 (0:Int),.s (str [])],kd:=4,fo:=[(0,1,false),(1,1,false),(2,1,false)] }),
 (84,{ sz:=1,byt:=24,ag:=false,z:=[.nil],kd:=6,es:=1,eb:=8,el:=3 }),
 (112,{ sz:=1,byt:=24,ag:=false,z:=[.nil],kd:=6,es:=1,eb:=24,el:=84 }),
 (114,{ sz:=7,byt:=120,ag:=true,z:=[.i .i64 (0:Int),.i .i64 (0:Int),.i .i64 (0:Int),.nil,.nil,.nil,.nil],kd:=4,fo:=[(0,6,true),(6,1,false)] }),
 (117,{ sz:=2,byt:=32,ag:=true,z:=[.i .i64 (0:Int),.nil],kd:=4,fo:=[(0,1,false),(1,1,false)] }),
 (122,{ sz:=3,byt:=24,ag:=true,z:=[.i .i64 (0:Int),.i .i64 (0:Int),.i .i64 (0:Int)],kd:=4,fo:=[(0,1,false),(1,1,false),(2,1,false)] }),
 (123,{ sz:=2,byt:=16,ag:=true,z:=[.i .i64 (0:Int),.i .i64 (0:Int)],kd:=5,n:=2,es:=1,el:=3 }),
 (141,{ sz:=2,byt:=32,ag:=true,z:=[.i .i64 (0:Int),.nil],kd:=4,fo:=[(0,1,false),(1,1,false)] }),
 (152,{ sz:=3,byt:=24,ag:=true,z:=[.i .i64 (0:Int),.i .i64 (0:Int),.i .i64 (0:Int)],kd:=4,fo:=[(0,1,false),(1,1,false),(2,1,false)] }),
 (156,{ sz:=4,byt:=32,ag:=true,z:=[.i .i64 (0:Int),.i .i64 (0:Int),.i .i64 (0:Int),.i .i64 (0:Int)],kd:=4,fo:=[(0,1,false),(1,1,false),(2,1,false),(3,1,false)] }),
 (161,{ sz:=1,byt:=8,ag:=false,z:=[.v (.pointer none)],kd:=0 }),
 (162,{ sz:=1,byt:=24,ag:=false,z:=[.nil],kd:=6,es:=1,eb:=1,el:=5 }),
 (164,{ sz:=2,byt:=32,ag:=true,z:=[.v (.pointer none),.nil],kd:=4,fo:=[(0,1,false),(1,1,false)] }),
 (174,{ sz:=1,byt:=8,ag:=false,z:=[.v .nilFunc],kd:=0 }),
 (175,{ sz:=1,byt:=8,ag:=false,z:=[.v .nilFunc],kd:=0 }),
 (184,{ sz:=1,byt:=8,ag:=false,z:=[.v .nilFunc],kd:=0 }),
 (185,{ sz:=1,byt:=8,ag:=false,z:=[.i .u64 (0:Int)],kd:=3,ik:=some .u64 }),
 (220,{ sz:=3,byt:=24,ag:=true,z:=[.b false,.i .i64 (0:Int),.i .i64 (0:Int)],kd:=4,fo:=[(0,1,false),(1,1,false),(2,1,false)] }),
 (259,{ sz:=28,byt:=448,ag:=true,z:=[.s (str []),.s (str []),.s (str []),.s (str []),.s (str []),.s (str []),.s (str []),.s (str []),.s (str []),.s (str []),.s (str []),.s (str []),.s (str []),.s (str []),.s (str []),.s (str []),.s (str []),.s (str []),.s (str []),.s (str []),.s (str []),.s (str []),.s (str []),.s (str []),.s (str []),.s (str []),.s (str []),.s (str [])],kd:=5,n:=28,es:=1,el:=9 })]
theorem htt:TTOk Tryz.prog tt:=by
  unfold tt
  exact ⟨⟨by kernel_rfl,by kernel_rfl,by kernel_rfl,by kernel_rfl⟩,
    ⟨by kernel_rfl,by kernel_rfl,by kernel_rfl,by kernel_rfl⟩,
    ⟨by kernel_rfl,by kernel_rfl,by kernel_rfl,by kernel_rfl⟩,
    ⟨by kernel_rfl,by kernel_rfl,by kernel_rfl,by kernel_rfl⟩,
    ⟨by kernel_rfl,by kernel_rfl,by kernel_rfl,by kernel_rfl⟩,
    ⟨by kernel_rfl,by kernel_rfl,by kernel_rfl,by kernel_rfl⟩,
    ⟨by kernel_rfl,by kernel_rfl,by kernel_rfl,by kernel_rfl⟩,
    ⟨by kernel_rfl,by kernel_rfl,by kernel_rfl,by kernel_rfl⟩,
    ⟨by kernel_rfl,by kernel_rfl,by kernel_rfl,by kernel_rfl⟩,
    ⟨by kernel_rfl,by kernel_rfl,by kernel_rfl,by kernel_rfl⟩,
    ⟨by kernel_rfl,by kernel_rfl,by kernel_rfl,by kernel_rfl⟩,
    ⟨by kernel_rfl,by kernel_rfl,by kernel_rfl,by kernel_rfl⟩,
    ⟨by kernel_rfl,by kernel_rfl,by kernel_rfl,by kernel_rfl⟩,
    ⟨by kernel_rfl,by kernel_rfl,by kernel_rfl,by kernel_rfl⟩,
    ⟨by kernel_rfl,by kernel_rfl,by kernel_rfl,by kernel_rfl⟩,
    ⟨by kernel_rfl,by kernel_rfl,by kernel_rfl,by kernel_rfl⟩,
    ⟨by kernel_rfl,by kernel_rfl,by kernel_rfl,by kernel_rfl⟩,
    ⟨by kernel_rfl,by kernel_rfl,by kernel_rfl,by kernel_rfl⟩,
    ⟨by kernel_rfl,by kernel_rfl,by kernel_rfl,by kernel_rfl⟩,
    ⟨by kernel_rfl,by kernel_rfl,by kernel_rfl,by kernel_rfl⟩,
    ⟨by kernel_rfl,by kernel_rfl,by kernel_rfl,by kernel_rfl⟩,
    ⟨by kernel_rfl,by kernel_rfl,by kernel_rfl,by kernel_rfl⟩,
    ⟨by kernel_rfl,by kernel_rfl,by kernel_rfl,by kernel_rfl⟩,
    ⟨by kernel_rfl,by kernel_rfl,by kernel_rfl,by kernel_rfl⟩,
    ⟨by kernel_rfl,by kernel_rfl,by kernel_rfl,by kernel_rfl⟩,
    ⟨by kernel_rfl,by kernel_rfl,by kernel_rfl,by kernel_rfl⟩,
    ⟨by kernel_rfl,by kernel_rfl,by kernel_rfl,by kernel_rfl⟩,
    ⟨by kernel_rfl,by kernel_rfl,by kernel_rfl,by kernel_rfl⟩,
    ⟨by kernel_rfl,by kernel_rfl,by kernel_rfl,by kernel_rfl⟩,
    ⟨by kernel_rfl,by kernel_rfl,by kernel_rfl,by kernel_rfl⟩,
    ⟨by kernel_rfl,by kernel_rfl,by kernel_rfl,by kernel_rfl⟩,
    ⟨by kernel_rfl,by kernel_rfl,by kernel_rfl,by kernel_rfl⟩,
    ⟨by kernel_rfl,by kernel_rfl,by kernel_rfl,by kernel_rfl⟩,
    ⟨by kernel_rfl,by kernel_rfl,by kernel_rfl,by kernel_rfl⟩,
    ⟨by kernel_rfl,by kernel_rfl,by kernel_rfl,by kernel_rfl⟩,
    ⟨by kernel_rfl,by kernel_rfl,by kernel_rfl,by kernel_rfl⟩,
    ⟨by kernel_rfl,by kernel_rfl,by kernel_rfl,by kernel_rfl⟩,
    ⟨by kernel_rfl,by kernel_rfl,by kernel_rfl,by kernel_rfl⟩,
    ⟨by kernel_rfl,by kernel_rfl,by kernel_rfl,by kernel_rfl⟩,
    ⟨by kernel_rfl,by kernel_rfl,by kernel_rfl,by kernel_rfl⟩,
    ⟨by kernel_rfl,by kernel_rfl,by kernel_rfl,by kernel_rfl⟩,
    ⟨by kernel_rfl,by kernel_rfl,by kernel_rfl,by kernel_rfl⟩,
    ⟨by kernel_rfl,by kernel_rfl,by kernel_rfl,by kernel_rfl⟩,
    ⟨by kernel_rfl,by kernel_rfl,by kernel_rfl,by kernel_rfl⟩,
    ⟨by kernel_rfl,by kernel_rfl,by kernel_rfl,by kernel_rfl⟩,
    ⟨by kernel_rfl,by kernel_rfl,by kernel_rfl,by kernel_rfl⟩,
    ⟨by kernel_rfl,by kernel_rfl,by kernel_rfl,by kernel_rfl⟩,
    ⟨by kernel_rfl,by kernel_rfl,by kernel_rfl,by kernel_rfl⟩,trivial⟩
def J:=@htt
theorem Q {α:Sort _} {a:α}:a=a:=rfl
section
variable [LxP]
theorem wH {X:Ctx} {tt:List (Nat × TD)} (htt:TTOk X.P tt) (n:Nat) {b t:Bool} (K:b=t) {c:Cf} (k:Wc X (Sw t (Wo tt X.fn.ntmps n c))) (hp:(Z3 (Wo tt X.fn.ntmps n c).st.L (TP (Wo tt X.fn.ntmps n c)),La (Wo tt X.fn.ntmps n c))=(some (.c (.b b)),Lh b (Wo tt X.fn.ntmps n c)):=by kernel_rfl):Wc X c:=wa htt n (eK K k hp)
theorem wr {P:Program} {f:FuncId} {fn:Func} {ct:Ct} {E0:Env} {F0:YD} {w0:World} {tt:List (Nat × TD)} (htt:TTOk P tt) (n:Nat) (hf:P.funcs[f]? = some fn) (l:List (Nat × SC)) {c:Cf}
    (hp:(Zeg (Wo tt fn.ntmps n c),M4 tt (Wo tt fn.ntmps n c).st fn.results.toList,ct.V1.map (fun p=>Sn (Wo tt fn.ntmps n c).st ⟨l,0,0⟩ p.1 p.2),ct.M1.map (fun p=>Vr (Wo tt fn.ntmps n c).st ⟨l,0,0⟩ p.1 p.2),
        (Td ⟨l,0,0⟩ ct.res && X5 (ct.M1.filterMap fun p=>Wb ⟨l,0,0⟩ p.1 p.2) && X5 (ct.M1.map (·.1)) && l.all (fun p=>Nat.ble ct.nk p.1 && p.2.kbb (Wo tt fn.ntmps n c).st.nx))) =
      (true,some (WY ⟨l,0,0⟩ ct.res),ct.V1.map (fun p=>some p.2),ct.M1.map (fun p=>some (VI ⟨l,0,0⟩ p.2)),true):=by kernel_rfl):Wc (ct.ctx P f fn E0 F0 w0) c:=wa (X:=ct.ctx P f fn E0 F0 w0) htt n (YW htt hf l hp)
theorem oi {α:Type} {a b:α} (h:some a=some b):a=b:=Zl h
theorem eB {X:Ctx} {b:Bool} {α:Type} {x y:Option α} {r:α} (h:(bif b then x else y)=some r) {c:Cf} (k1:x=some r->Wc X (Sw true c)) (k2:y=some r->Wc X (Sw false c)) (hp:(Z3 c.st.L (TP c),La c)=(some (.c (.b b)),Lh b c):=by kernel_rfl):Wc X c:=by
  rcases oc h with ⟨K,h⟩ | ⟨K,h⟩
  · exact eK K (k1 h) hp
  · exact eK K (k2 h) hp
theorem Ub {X:Ctx} {b:Bool} {α:Type} {x y:Option α} {r:α} (h:(bif b then x else y)=some r) {c:Cf} (k1:y=some r->Wc X (Sw false c)) (k2:x=some r->Wc X (Sw true c)) (hp:(Z3 c.st.L (TP c),La c)=(some (.c (.b b)),Lh b c):=by kernel_rfl):Wc X c:=eB h k2 k1 hp
theorem wB {X:Ctx} {tt:List (Nat × TD)} (htt:TTOk X.P tt) (n:Nat) {b:Bool} {α:Type} {x y:Option α} {r:α} (h:(bif b then x else y)=some r) {c:Cf} (k1:x=some r->Wc X (Sw true (Wo tt X.fn.ntmps n c))) (k2:y=some r->Wc X (Sw false (Wo tt X.fn.ntmps n c))) (hp:(Z3 (Wo tt X.fn.ntmps n c).st.L (TP (Wo tt X.fn.ntmps n c)),La (Wo tt X.fn.ntmps n c))=(some (.c (.b b)),Lh b (Wo tt X.fn.ntmps n c)):=by kernel_rfl):Wc X c:=by
  rcases oc h with ⟨K,h⟩ | ⟨K,h⟩
  · exact wH htt n K (k1 h) hp
  · exact wH htt n K (k2 h) hp
theorem Z7 {X:Ctx} {tt:List (Nat × TD)} (htt:TTOk X.P tt) (n:Nat) {b:Bool} {α:Type} {x y:Option α} {r:α} (h:(bif b then x else y)=some r) {c:Cf} (k1:y=some r->Wc X (Sw false (Wo tt X.fn.ntmps n c))) (k2:x=some r->Wc X (Sw true (Wo tt X.fn.ntmps n c))) (hp:(Z3 (Wo tt X.fn.ntmps n c).st.L (TP (Wo tt X.fn.ntmps n c)),La (Wo tt X.fn.ntmps n c))=(some (.c (.b b)),Lh b (Wo tt X.fn.ntmps n c)):=by kernel_rfl):Wc X c:=wB htt n h k2 k1 hp
theorem wO {X:Ctx} {tt:List (Nat × TD)} (htt:TTOk X.P tt) (n:Nat) {α β:Type} {o:Option α} {f:α->Option β} {r:β} (h:o.bind f=some r) {c:Cf} (k:∀ x,o=some x->f x=some r->Wc X (Wo tt X.fn.ntmps n c)):Wc X c:=by
  have ⟨x,e,h⟩:=ob h
  exact wa htt n (k x e h)
end
abbrev Un:=fun L=>(⟨L,[],[],0⟩:St)
abbrev Ty:=fun x0 x1 x2 L=>(⟨L,[(2,.box [.I 0,.nil] 117),(3,.own (rI .i64) x0 true),(4,.box (WI 3 x1) 117)],[(0,.sl (rI .i64) x2)],5⟩:St)
abbrev Tz:=fun x0 x1 x2 L=>(⟨L,[(2,.box [.I 0,.nil] 141),(4,.own (rI .i64) x0 true),(5,.box (WI 4 x1) 141)],[(0,.sl (rI .i64) x2)],6⟩:St)
abbrev S7:=fun x0 L=>(⟨L,[(4,.box (YH 0 1 2 3 x0) 27)],(Xk 0 1 2 3 x0 []),5⟩:St)
abbrev QP:=fun x0 L=>(⟨L,[],[(0,.sl rS x0)],1⟩:St)
abbrev QQ:=fun x0 x1 L=>(⟨L,[],[(0,.sl XN x0),(1,.sl Ym x1)],2⟩:St)
abbrev QR:=fun x0 x1 x2 L=>(⟨L,[(3,.box [.sl 0,.sl 1] 57)],[(0,.sl Xe x0),(1,.sl (rP (rI .i64) (rI .i64)) x1),(2,.sl Ym x2)],4⟩:St)
abbrev QS:=fun x0 x1 L=>(⟨L,[],[(0,.sl Ym x0),(1,.sl Ym x1)],2⟩:St)
abbrev Mr:=fun x0 L=>(⟨L,[],[(0,.sl (rI .i64) x0)],1⟩:St)
abbrev Ht:=fun x0 L=>(⟨L,[],(Xk 0 1 2 3 x0 []),5⟩:St)
abbrev Hq:=fun x0 L=>(⟨L,[(0,.abs x0)],[],1⟩:St)
abbrev Hr:=fun x0 L=>(⟨L,[(0,.box (WV 1 2 3 4 x0) 114)],(VJ 1 2 3 4 x0 []),5⟩:St)
abbrev Hs:=fun x0 L=>(⟨L,[],[(0,.sl Ys x0)],1⟩:St)
abbrev D3:=fun x0 L=>(⟨L,[],[(0,.sl (rI .i64) x0)],2⟩:St)
abbrev D4:=fun x0 x1 x2 L=>(⟨L,[(3,.own Ym x0 false),(4,.box (Y5 0 1 2 x1) 59),(5,.own rB x2 true)],(Y3 0 1 2 x1 []),6⟩:St)
abbrev D5:=fun x0 x1 L=>(⟨L,[(4,.box (YH 0 1 2 3 x0) 27),(5,.own (rI .i64) x1 true)],(Xk 0 1 2 3 x0 []),7⟩:St)
abbrev D6:=fun x0 x1 x2 x3 L=>(⟨L,[(4,.box (Y5 0 1 2 x0) 59),(5,.own rS x1 true),(6,.own rB x2 true)],(Y3 0 1 2 x0 [(3,.sl Ym x3)]),7⟩:St)
abbrev Zcs:=fun x0 L=>(⟨L,[(0,.own rS x0 true)],[],1⟩:St)
abbrev Zct:=fun x0 x1 L=>(⟨L,[(4,.box (YH 0 1 2 3 x0) 27),(6,.box (cC2 x1) 63)],(Xk 0 1 2 3 x0 []),7⟩:St)
abbrev Zcu:=fun x0 x1 L=>(⟨L,[(1,.own (rI .i64) x0 true)],[(0,.sl (rI .i64) x1)],2⟩:St)
abbrev Zcv:=fun x0 L=>(⟨L,[(3,.box (YM 0 1 2 x0) 31)],(YP 0 1 2 x0 []),4⟩:St)
abbrev Zcw:=fun x0 x1 x2 L=>(⟨L,[],[(0,.sl Xe x0),(1,.sl (rP (rI .i64) (rI .i64)) x1),(2,.sl Ym x2)],4⟩:St)
abbrev Zcx:=fun x0 x1 L=>(⟨L,[(0,.box [.I 0,.nil] 117),(1,.own (rI .i64) x0 true),(2,.box [.I x1,.sl 1] 117)],[],3⟩:St)
abbrev Zcy:=fun x0 x1 x2 L=>(⟨L,[(3,.box [.sl 1,.sl 2] 57)],[(0,.sl Ys x0),(1,.sl Xe x1),(2,.sl (rP (rI .i64) (rI .i64)) x2)],4⟩:St)
abbrev Zcz:=fun x0 x1 L=>(⟨L,[(5,.box (Y5 2 3 4 x0) 59)],((0,.sl Ys x1)::Y3 2 3 4 x0 []),6⟩:St)
abbrev ZcA:=fun x0 x1 L=>(⟨L,[(4,.box (YH 0 1 2 3 x0) 27),(5,.own rB x1 true)],(Xk 0 1 2 3 x0 []),7⟩:St)
abbrev Zgu:=fun x0 x1 L=>(⟨L,[(1,.own XN x0 true)],[(0,.sl Ys x1)],2⟩:St)
abbrev Zgv:=fun x0 x1 x2 x3 L=>(⟨L,[(3,.box (WI 2 x0) 117),(5,.own (rI .i64) x1 true)],[(0,.sl (rI .i64) x2),(2,.sl (rI .i64) x3)],6⟩:St)
abbrev Zgw:=fun x0 x1 x2 x3 x4 x5 x6 x7 L=>(⟨L,[(6,.box (Y5 3 4 5 x0) 59),(8,.box [.I x1,.sl 10] 117),(9,.own Xe x2 true),(13,.box [.I x3,.I x4] 123)],((0,.sl Ys x5)::(1,.sl Ym x6)::Y3 3 4 5 x0 [(10,.sl (rI .i64) x7)]),14⟩:St)
abbrev Zgx:=fun x0 x1 L=>(⟨L,[(4,.box (YH 0 1 2 3 x0) 27),(5,.own (rI .i64) x1 true)],(Xk 0 1 2 3 x0 []),6⟩:St)
abbrev Zgy:=fun x0 x1 L=>(⟨L,[(0,.box (TF x0) 50),(1,.box (W5 x1) 74)],[],2⟩:St)
abbrev Zgz:=fun x0 x1 x2 x3 L=>(⟨L,[(4,.box (Y5 0 1 2 x0) 59),(5,.own rS x1 true),(6,.own rB x2 true)],(Y3 0 1 2 x0 [(3,.sl Ym x3)]),8⟩:St)
abbrev ZlK:=fun x0 x1 x2 L=>(⟨L,[(3,.box [.sl 0,.sl 1] 57)],[(0,.sl Xe x0),(1,.sl (rP (rI .i64) (rI .i64)) x1),(2,.sl XN x2)],4⟩:St)
abbrev ZlL:=fun x0 x1 x2 L=>(⟨L,[(1,.own XN x0 true),(6,.box (Y5 3 4 5 x1) 59)],((0,.sl Ys x2)::Y3 3 4 5 x1 []),8⟩:St)
abbrev ZlM:=fun x0 x1 x2 L=>(⟨L,[(4,.box (YH 0 1 2 3 x0) 27),(6,.box (cC2 x1) 63),(8,.box (cC2 x2) 63)],(Xk 0 1 2 3 x0 []),9⟩:St)
abbrev ZlN:=fun x0 x1 x2 L=>(⟨L,[(4,.box (YH 0 1 2 3 x0) 27),(6,.own (rI .i64) x1 true),(10,.own (rI .i64) x2 true)],(Xk 0 1 2 3 x0 []),11⟩:St)
abbrev ZlO:=fun x0 x1 x2 x3 x4 x5 L=>(⟨L,[(3,.box (YM 0 1 2 x0) 31),(5,.box [.I x1,.I x2,.I x3,.sl 0,.sl 1,.sl 2,.sl 4] 114),(4,.abs x4)],(YP 0 1 2 x0 [(4,.fn x5)]),6⟩:St)
abbrev ZlP:=fun x0 L=>(⟨L,[(1,.box [.s (str []),.nil,.I 0,.nil,.nil] 59),(2,.box [.s (str []),.I 0,.I 0,.I 0] 52)],[(0,.sl Ys x0)],3⟩:St)
abbrev ZlQ:=fun x0 x1 x2 x3 L=>(⟨L,[(1,.abs x0),(7,.box (Y5 4 5 6 x1) 59),(8,.own rS x2 true)],((0,.sl Ys x3)::Y3 4 5 6 x1 []),9⟩:St)
abbrev ZlR:=fun x0 x1 x2 x3 x4 L=>(⟨L,[(1,.abs x0),(7,.box (Y5 4 5 6 x1) 59),(8,.own rS x2 true),(9,.own rS x3 true)],((0,.sl Ys x4)::Y3 4 5 6 x1 []),10⟩:St)
abbrev ZlS:=fun x0 x1 x2 x3 L=>(⟨L,[(1,.box (X8 2 3 x0) 42),(4,.box (W6 5 x1) 48)],((0,.sl Wh x2)::Wm 2 3 x0 [(5,.sl Ym x3)]),6⟩:St)
abbrev ZlT:=fun x0 x1 x2 x3 x4 x5 L=>(⟨L,[(3,.box [.sl 0,.sl 1] 57),(5,.box (MA x0) 122),(6,.box [.I x1,.I x2] 123)],[(0,.sl Xe x3),(1,.sl (rP (rI .i64) (rI .i64)) x4),(2,.sl Ym x5)],7⟩:St)
abbrev ZlU:=fun x0 x1 x2 x3 x4 x5 x6 x7 x8 L=>(⟨L,[(7,.box (YH 0 1 2 3 x0) 27),(8,.box (X8 4 5 x1) 42),(9,.box (W6 6 x2) 48),(14,.box (Y5 11 12 13 x3) 59)],((0,.sl rS x4)::(1,.sl Ys x5)::(2,.sl Xb x6)::(3,.sl YN x7)::Wm 4 5 x1 ((6,.sl Ym x8)::Y3 11 12 13 x3 [])),15⟩:St)
abbrev ZlV:=fun x0 x1 x2 x3 x4 L=>(⟨L,[(3,.own Ym x0 false),(4,.box (Y5 0 1 2 x1) 59),(5,.own rB x2 true),(7,.box [.I x3,.I x4] 123)],(Y3 0 1 2 x1 []),8⟩:St)
abbrev ZlW:=fun x0 x1 x2 x3 x4 x5 x6 x7 x8 L=>(⟨L,[(13,.own Xf x0 true)],((0,.sl rS x1)::(1,.sl Ys x2)::(2,.sl Xb x3)::(3,.sl YN x4)::(4,.sl rB x5)::(5,.sl Wh x6)::(6,.sl YN x7)::Wm 7 8 x8 []),14⟩:St)
abbrev ZlX:=fun x0 x1 x2 x3 L=>(⟨L,[(3,.box [.sl 0,.sl 1] 57),(5,.box (MA x0) 122)],[(0,.sl Xe x1),(1,.sl (rP (rI .i64) (rI .i64)) x2),(2,.sl Ym x3)],6⟩:St)
abbrev ZlY:=fun x0 x1 x2 L=>(⟨L,[(5,.box (Y5 2 3 4 x0) 59),(6,.own Xe x1 true)],((0,.sl Ys x2)::Y3 2 3 4 x0 []),7⟩:St)
abbrev ZlZ:=fun x0 x1 L=>(⟨L,[(0,.box [.I 0,.nil] 141),(1,.box [.I x0,.sl 2] 141),(2,.own (rI .i64) x1 true)],[],3⟩:St)
abbrev Zl0:=fun x0 x1 L=>(⟨L,[(0,.box [.I 0,.nil] 141),(1,.box [.I x0,.sl 3] 141),(3,.own (rI .i64) x1 true)],[],4⟩:St)
abbrev Zl1:=fun x0 x1 x2 x3 L=>(⟨L,[(6,.box (Y5 3 4 5 x0) 59),(7,.own Xe x1 true)],((0,.sl Ys x2)::(1,.sl Ym x3)::Y3 3 4 5 x0 []),8⟩:St)
abbrev Zl2:=fun x0 x1 x2 x3 x4 x5 x6 L=>(⟨L,[(6,.box (Y5 3 4 5 x0) 59),(8,.own rS x1 true),(9,.own rB x2 true),(11,.box [.I x3,.sl 13] 141)],((0,.sl Ys x4)::(1,.sl Ym x5)::Y3 3 4 5 x0 [(13,.sl (rI .i64) x6)]),14⟩:St)
end Gx
end
