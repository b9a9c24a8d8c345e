/- How typed values lie in the machine, and the types of the program. -/
import Derived.Test.YtaahbojckmgghaaGreatDoorChecked
import Derived.Test.YtaahbojckmgghaaGreatDoorMonitorActorsPure
import Derived.Test.YtaahbojckmgghaaGreatDoorMonitorActorsLib
set_option linter.all false
section
open Go Go.Kx Go.Proofs
namespace Gx
abbrev ZcL:TRep Yg:=rM (fun x=>(x.Kind,x.Lo,x.Hi)) (rP (rI .i64) (rP (rI .i64) (rI .i64)))
abbrev ZhQ:Z2 ZcL:=oM _ (oP (oI .i64) (oP (oI .i64) (oI .i64)))
abbrev Y7:TRep T4:=rM (fun x=>(x.Name,x.Sort')) (rP rS ZcL)
abbrev WD:Z2 Y7:=oM _ (oP oS ZhQ)
abbrev Yy:TRep T1:=rM (fun x=>(x.X,x.Y,x.C)) (rP (rI .i64) (rP (rI .i64) (rI .i64)))
abbrev Tx:Z2 Yy:=oM _ (oP (oI .i64) (oP (oI .i64) (oI .i64)))
abbrev rR6:TRep T6:=rM (fun x=>(x.Diffs,x.Equals)) (rP (Yf Yy) (Yf (rP (rI .i64) (rI .i64))))
abbrev oO6:Z2 rR6:=oM _ (oP (YK Yy) (YK (rP (rI .i64) (rI .i64))))
abbrev ZQ:TRep T0:=rM (fun x=>(x.Name,x.Fields,x.First,x.Guard)) (rP rS (rP (Yf Y7) (rP (rI .i64) rR6)))
abbrev Xf:Z2 ZQ:=oM _ (oP oS (oP (YK Y7) (oP (oI .i64) oO6)))
abbrev rR7:TRep T7:=rM (fun x=>(x.From,x.To,x.Label)) (rP (rI .i64) (rP (rI .i64) (rI .i64)))
abbrev oO7:Z2 rR7:=oM _ (oP (oI .i64) (oP (oI .i64) (oI .i64)))
abbrev YQ:TRep T2:=rM (fun x=>(x.From,x.Act,x.To,x.Again)) (rP (rI .i64) (rP rR7 (rP (rI .i64) rB)))
abbrev Wh:Z2 YQ:=oM _ (oP (oI .i64) (oP oO7 (oP (oI .i64) oB)))
abbrev Z8:TRep W5:=rM (fun x=>(x.State,x.Ticks,x.Else)) (rP (rI .i64) (rP (rI .i64) (rI .i64)))
abbrev RZ:Z2 Z8:=oM _ (oP (oI .i64) (oP (oI .i64) (oI .i64)))
abbrev rR5:TRep T5:=rM (fun x=>(x.Name,x.Roles,x.Decls,x.States,x.Start,x.End,x.Edges,x.Timeouts)) (rP rS (rP (Yf rS) (rP (Yf ZQ) (rP (rI .i64) (rP (rI .i64) (rP (rI .i64) (rP (Yf YQ) (Yf Z8))))))))
abbrev oO5:Z2 rR5:=oM _ (oP oS (oP (YK rS) (oP (YK ZQ) (oP (oI .i64) (oP (oI .i64) (oP (oI .i64) (oP (YK YQ) (YK Z8))))))))
abbrev YL:TRep T9:=rM (fun x=>(x.From,x.Send,x.Peer,x.Label,x.To,x.Again)) (rP (rI .i64) (rP rB (rP (rI .i64) (rP (rI .i64) (rP (rI .i64) rB)))))
abbrev YX:Z2 YL:=oM _ (oP (oI .i64) (oP oB (oP (oI .i64) (oP (oI .i64) (oP (oI .i64) oB)))))
abbrev rR8:TRep T8:=rM (fun x=>(x.Role,x.States,x.Start,x.Finals,x.Moves,x.Timeouts)) (rP (rI .i64) (rP (rI .i64) (rP (rI .i64) (rP (Yf rB) (rP (Yf YL) (Yf Z8))))))
abbrev oO8:Z2 rR8:=oM _ (oP (oI .i64) (oP (oI .i64) (oP (oI .i64) (oP (YK rB) (oP (YK YL) (YK Z8))))))
abbrev Zw:TRep Zk:=rM (fun x=>(x.Kind,x.N,x.S)) (rP (rI .i64) (rP (rI .i64) rS))
abbrev Yd:Z2 Zw:=oM _ (oP (oI .i64) (oP (oI .i64) oS))
abbrev Sa:TRep T3:=rM (fun x=>(x.Role,x.Send,x.Peer,x.Label,x.Values)) (rP (rI .i64) (rP rB (rP (rI .i64) (rP (rI .i64) (Yf Zw)))))
abbrev oO3:Z2 Sa:=oM _ (oP (oI .i64) (oP oB (oP (oI .i64) (oP (oI .i64) (YK Zw)))))
abbrev Zru:TRep ZM:=rM (fun x=>(x.At,x.Known,x.Pending)) (rP (rI .i64) (rP (Yf Zw) (Yf Zw)))
abbrev Zuv:Z2 Zru:=oM _ (oP (oI .i64) (oP (YK Zw) (YK Zw)))
abbrev Zor:TRep YF:=rM (fun x=>(x.Machine,x.out')) (rP rR8 (Yf (Yf (rI .i64))))
abbrev Zup:Z2 Zor:=oM _ (oP oO8 (YK (Yf (rI .i64))))
abbrev Ztj:TRep SB:=rM (fun x=>(x.send',x.peer',x.label')) (rP rB (rP (rI .i64) (rI .i64)))
abbrev Zuq:Z2 Ztj:=oM _ (oP oB (oP (oI .i64) (oI .i64)))
abbrev Y6:TRep Tf:=rM (fun x=>(x.Name,x.Sort',x.Init)) (rP rS (rP ZcL Zw))
abbrev Uw:Z2 Y6:=oM _ (oP oS (oP ZhQ Yd))
abbrev Xw:TRep L9:=rM (fun x=>(x.Peer,x.Label,x.Entry)) (rP (rI .i64) (rP (rI .i64) (rI .i64)))
abbrev Gu:Z2 Xw:=oM _ (oP (oI .i64) (oP (oI .i64) (oI .i64)))
abbrev Xx:TRep U2:=rM (fun x=>(x.Peer,x.Label,x.When,x.Args)) (rP (rI .i64) (rP (rI .i64) (rP (rI .i64) (rI .i64))))
abbrev Zev:Z2 Xx:=oM _ (oP (oI .i64) (oP (oI .i64) (oP (oI .i64) (oI .i64))))
abbrev Xz:TRep Wy:=rM (fun x=>(x.Op,x.N,x.S)) (rP (rI .i64) (rP (rI .i64) rS))
abbrev PI:Z2 Xz:=oM _ (oP (oI .i64) (oP (oI .i64) oS))
abbrev ZdH:TRep Z6:=rM (fun x=>(x.Name,x.Role,x.Vars,x.Handlers,x.Offers,x.Code)) (rP rS (rP (rI .i64) (rP (Yf Y6) (rP (Yf Xw) (rP (Yf Xx) (Yf Xz))))))
abbrev Zsm:Z2 ZdH:=oM _ (oP oS (oP (oI .i64) (oP (YK Y6) (oP (YK Xw) (oP (YK Xx) (YK Xz))))))
abbrev Zkm:TRep Z7:=rM (fun x=>(x.G,x.M,x.P)) (rP rR5 (rP rR8 ZdH))
abbrev Zb9:Z2 Zkm:=oM _ (oP oO5 (oP oO8 Zsm))
abbrev Sk:TRep XA:=rM (fun x=>(x.Send,x.Waited,x.Pick,x.Values)) (rP rB (rP (rI .i64) (rP (rI .u8) (Yf Zw))))
abbrev Zcm:Z2 Sk:=oM _ (oP oB (oP (oI .i64) (oP (oI .u8) (YK Zw))))
abbrev Vf:TRep YI:=rM (fun x=>(x.At,x.Label,x.Params,x.Results)) (rP (rI .i64) (rP (rI .i64) (rP (Yf (rI .i64)) (Yf (rI .i64)))))
abbrev Sz:Z2 Vf:=oM _ (oP (oI .i64) (oP (oI .i64) (oP (YK (rI .i64)) (YK (rI .i64)))))
abbrev WM:TRep Yq:=rM (fun x=>(x.known',x.stack',x.loops')) (rP rB (rP (Yf (rI .i64)) (Yf (rI .i64))))
abbrev Si:Z2 WM:=oM _ (oP oB (oP (YK (rI .i64)) (YK (rI .i64))))
abbrev Zsq:TRep ZS:=rM (fun x=>(x.State,x.Known,x.Vars,x.Pending)) (rP (rI .i64) (rP (Yf Zw) (rP (Yf Zw) (Yf Zw))))
abbrev Zuw:Z2 Zsq:=oM _ (oP (oI .i64) (oP (YK Zw) (oP (YK Zw) (YK Zw))))
abbrev Zlc:TRep X8:=rM (fun x=>(x.Stack,x.Vars,x.Steps)) (rP (Yf Zw) (rP (Yf Zw) (rI .i64)))
abbrev Zur:Z2 Zlc:=oM _ (oP (YK Zw) (oP (YK Zw) (oI .i64)))
abbrev ZoK:TRep Yh:=rM (fun x=>(x.stack',x.vars',x.params',x.loops',x.trap')) (rP (Yf Zw) (rP (Yf Zw) (rP (Yf Zw) (rP (Yf (rI .i64)) rB))))
abbrev Zuu:Z2 ZoK:=oM _ (oP (YK Zw) (oP (YK Zw) (oP (YK Zw) (oP (YK (rI .i64)) oB))))
abbrev Zuk:TRep ZU:=rM (fun x=>(x.N,x.B)) (rP (rI .i64) (Yf (rI .i64)))
abbrev Zus:Z2 Zuk:=oM _ (oP (oI .i64) (YK (rI .i64)))
end Gx
namespace Go.Kx
abbrev SV.I (n:Int):SV:=.c (.i .i64 n)
abbrev SC.I (n:Int):SC:=.i .i64 n
abbrev SV.O (b:Bool):SV:=.c (.b b)
abbrev SV.B (k o:Nat):SV:=.c (.bp k o)
abbrev SV.P (k o:Nat):SV:=.c (.px k o)
abbrev SV.S (k:Nat):SV:=.c (.sl k)
end Go.Kx
namespace Gx
def rg (a:Nat):Nat→List Nat
  | 0=>[]
  | n+1=>a::rg (a+1) n
abbrev V8 (e:Yg):List SC:=[.i .i64 e.Kind,.i .i64 e.Lo,.i .i64 e.Hi]
abbrev Ur (e:T4):List SC:=[.s e.Name,.i .i64 e.Sort'.Kind,.i .i64 e.Sort'.Lo,.i .i64 e.Sort'.Hi]
abbrev cC1 (e:T1):List SC:=[.i .i64 e.X,.i .i64 e.Y,.i .i64 e.C]
abbrev YM (k0 k1 k2:Nat) (e:T0):List SC:=[.s e.Name,.sl k0,.i .i64 e.First,.sl k1,.sl k2]
abbrev YJ (k0 k1 k2:Nat) (e:T0) (l:List (Nat × VF)):List (Nat × VF):=(k0,.sl Y7 e.Fields)::(k1,.sl Yy e.Guard.Diffs)::(k2,.sl (rP (rI .i64) (rI .i64)) e.Guard.Equals)::l
abbrev cC2 (e:T2):List SC:=[.i .i64 e.From,.i .i64 e.Act.From,.i .i64 e.Act.To,.i .i64 e.Act.Label,.i .i64 e.To,.b e.Again]
abbrev Zfg (e:W5):List SC:=[.i .i64 e.State,.i .i64 e.Ticks,.i .i64 e.Else]
abbrev Yr (k0 k1 k2 k3:Nat) (e:T5):List SC:=[.s e.Name,.sl k0,.sl k1,.i .i64 e.States,.i .i64 e.Start,.i .i64 e.End,.sl k2,.sl k3]
abbrev Yx (k0 k1 k2 k3:Nat) (e:T5) (l:List (Nat × VF)):List (Nat × VF):=(k0,.sl rS e.Roles)::(k1,.sl ZQ e.Decls)::(k2,.sl YQ e.Edges)::(k3,.sl Z8 e.Timeouts)::l
abbrev QJ (e:T9):List SC:=[.i .i64 e.From,.b e.Send,.i .i64 e.Peer,.i .i64 e.Label,.i .i64 e.To,.b e.Again]
abbrev YT (k0 k1 k2:Nat) (e:T8):List SC:=[.i .i64 e.Role,.i .i64 e.States,.i .i64 e.Start,.sl k0,.sl k1,.sl k2]
abbrev YZ (k0 k1 k2:Nat) (e:T8) (l:List (Nat × VF)):List (Nat × VF):=(k0,.sl rB e.Finals)::(k1,.sl YL e.Moves)::(k2,.sl Z8 e.Timeouts)::l
abbrev XI (e:Zk):List SC:=[.i .i64 e.Kind,.i .i64 e.N,.s e.S]
abbrev QI (k0:Nat) (e:T3):List SC:=[.i .i64 e.Role,.b e.Send,.i .i64 e.Peer,.i .i64 e.Label,.sl k0]
abbrev VD (k0 k1:Nat) (e:ZM):List SC:=[.i .i64 e.At,.sl k0,.sl k1]
abbrev Us (k0 k1:Nat) (e:ZM) (l:List (Nat × VF)):List (Nat × VF):=(k0,.sl Zw e.Known)::(k1,.sl Zw e.Pending)::l
abbrev Wm (k0 k1 k2 k3:Nat) (e:YF):List SC:=[.i .i64 e.Machine.Role,.i .i64 e.Machine.States,.i .i64 e.Machine.Start,.sl k0,.sl k1,.sl k2,.sl k3]
abbrev WZ (k0 k1 k2 k3:Nat) (e:YF) (l:List (Nat × VF)):List (Nat × VF):=(k0,.sl rB e.Machine.Finals)::(k1,.sl YL e.Machine.Moves)::(k2,.sl Z8 e.Machine.Timeouts)::(k3,.sl (Yf (rI .i64)) e.out')::l
abbrev Zff (e:SB):List SC:=[.b e.send',.i .i64 e.peer',.i .i64 e.label']
abbrev Zs3 (e:L9):List SC:=[.i .i64 e.Peer,.i .i64 e.Label,.i .i64 e.Entry]
abbrev Zbf (e:U2):List SC:=[.i .i64 e.Peer,.i .i64 e.Label,.i .i64 e.When,.i .i64 e.Args]
abbrev BV (e:Wy):List SC:=[.i .i64 e.Op,.i .i64 e.N,.s e.S]
abbrev XU (k0 k1 k2 k3:Nat) (e:Z6):List SC:=[.s e.Name,.i .i64 e.Role,.sl k0,.sl k1,.sl k2,.sl k3]
abbrev Y5 (k0 k1 k2 k3:Nat) (e:Z6) (l:List (Nat × VF)):List (Nat × VF):=(k0,.sl Y6 e.Vars)::(k1,.sl Xw e.Handlers)::(k2,.sl Xx e.Offers)::(k3,.sl Xz e.Code)::l
abbrev XQ (k0 k1 k2 k3 k4 k5 k6 k7 k8 k9 k10:Nat) (e:Z7):List SC:=[.s e.G.Name,.sl k0,.sl k1,.i .i64 e.G.States,.i .i64 e.G.Start,.i .i64 e.G.End,.sl k2,.sl k3,.i .i64 e.M.Role,.i .i64 e.M.States,.i .i64 e.M.Start,.sl k4,.sl k5,.sl k6,.s e.P.Name,.i .i64 e.P.Role,.sl k7,.sl k8,.sl k9,.sl k10]
abbrev U9 (k0 k1 k2 k3 k4 k5 k6 k7 k8 k9 k10:Nat) (e:Z7) (l:List (Nat × VF)):List (Nat × VF):=(k0,.sl rS e.G.Roles)::(k1,.sl ZQ e.G.Decls)::(k2,.sl YQ e.G.Edges)::(k3,.sl Z8 e.G.Timeouts)::(k4,.sl rB e.M.Finals)::(k5,.sl YL e.M.Moves)::(k6,.sl Z8 e.M.Timeouts)::(k7,.sl Y6 e.P.Vars)::(k8,.sl Xw e.P.Handlers)::(k9,.sl Xx e.P.Offers)::(k10,.sl Xz e.P.Code)::l
abbrev ZiI (k0:Nat) (e:XA):List SC:=[.b e.Send,.i .i64 e.Waited,.i .u8 e.Pick,.sl k0]
abbrev ZkM (k0 k1:Nat) (e:Yq):List SC:=[.b e.known',.sl k0,.sl k1]
abbrev ZkD (k0 k1:Nat) (e:Yq) (l:List (Nat × VF)):List (Nat × VF):=(k0,.sl (rI .i64) e.stack')::(k1,.sl (rI .i64) e.loops')::l
abbrev Wz (k0 k1 k2:Nat) (e:ZS):List SC:=[.i .i64 e.State,.sl k0,.sl k1,.sl k2]
abbrev X1 (k0 k1 k2:Nat) (e:ZS) (l:List (Nat × VF)):List (Nat × VF):=(k0,.sl Zw e.Known)::(k1,.sl Zw e.Vars)::(k2,.sl Zw e.Pending)::l
abbrev Zqm (k0 k1:Nat) (e:X8):List SC:=[.sl k0,.sl k1,.i .i64 e.Steps]
abbrev VG (k0 k1 k2 k3:Nat) (e:Yh):List SC:=[.sl k0,.sl k1,.sl k2,.sl k3,.b e.trap']
abbrev Ts (k0:Nat) (e:ZU):List SC:=[.i .i64 e.N,.sl k0]
def tt:List (Nat × TD):=[
 (1,{ sz:=1,byt:=8,ag:=false,z:=[.v .nilFunc],kd:=0 }),
 (3,{ sz:=1,byt:=8,ag:=false,z:=[.i .i64 (0:Int)],kd:=3,ik:=some .i64 }),
 (4,{ sz:=1,byt:=1,ag:=false,z:=[.b false],kd:=1 }),
 (5,{ sz:=1,byt:=1,ag:=false,z:=[.i .u8 (0:Int)],kd:=3,ik:=some .u8 }),
 (9,{ sz:=1,byt:=16,ag:=false,z:=[.s (str [])],kd:=2 }),
 (21,{ sz:=1,byt:=4,ag:=false,z:=[.i .i32 (0:Int)],kd:=3,ik:=some .i32 }),
 (22,{ sz:=1,byt:=24,ag:=false,z:=[.nil],kd:=6,es:=1,eb:=16,el:=9 }),
 (23,{ sz:=1,byt:=24,ag:=false,z:=[.nil],kd:=6,es:=5,eb:=96,el:=106 }),
 (24,{ sz:=1,byt:=24,ag:=false,z:=[.nil],kd:=6,es:=6,eb:=48,el:=110 }),
 (25,{ sz:=1,byt:=24,ag:=false,z:=[.nil],kd:=6,es:=3,eb:=24,el:=171 }),
 (27,{ sz:=8,byt:=136,ag:=true,z:=[.s (str []),.nil,.nil,.i .i64 (0:Int),.i .i64 (0:Int),.i .i64 (0:Int),.nil,.nil],kd:=4,fo:=[(0,1,false),(1,1,false),(2,1,false),(3,1,false),(4,1,false),(5,1,false),(6,1,false),(7,1,false)] }),
 (28,{ sz:=1,byt:=24,ag:=false,z:=[.nil],kd:=6,es:=1,eb:=1,el:=4 }),
 (29,{ sz:=1,byt:=24,ag:=false,z:=[.nil],kd:=6,es:=6,eb:=48,el:=84 }),
 (31,{ sz:=6,byt:=96,ag:=true,z:=[.i .i64 (0:Int),.i .i64 (0:Int),.i .i64 (0:Int),.nil,.nil,.nil],kd:=4,fo:=[(0,1,false),(1,1,false),(2,1,false),(3,1,false),(4,1,false),(5,1,false)] }),
 (32,{ sz:=1,byt:=24,ag:=false,z:=[.nil],kd:=6,es:=5,eb:=56,el:=75 }),
 (35,{ sz:=1,byt:=24,ag:=false,z:=[.nil],kd:=6,es:=3,eb:=32,el:=88 }),
 (37,{ sz:=3,byt:=56,ag:=true,z:=[.i .i64 (0:Int),.nil,.nil],kd:=4,fo:=[(0,1,false),(1,1,false),(2,1,false)] }),
 (41,{ sz:=3,byt:=56,ag:=true,z:=[.i .i64 (0:Int),.nil,.nil],kd:=4,fo:=[(0,1,false),(1,1,false),(2,1,false)] }),
 (45,{ sz:=1,byt:=24,ag:=false,z:=[.nil],kd:=6,es:=7,eb:=72,el:=131 }),
 (46,{ sz:=1,byt:=24,ag:=false,z:=[.nil],kd:=6,es:=3,eb:=24,el:=147 }),
 (47,{ sz:=1,byt:=24,ag:=false,z:=[.nil],kd:=6,es:=4,eb:=32,el:=177 }),
 (48,{ sz:=1,byt:=24,ag:=false,z:=[.nil],kd:=6,es:=3,eb:=32,el:=129 }),
 (50,{ sz:=6,byt:=120,ag:=true,z:=[.s (str []),.i .i64 (0:Int),.nil,.nil,.nil,.nil],kd:=4,fo:=[(0,1,false),(1,1,false),(2,1,false),(3,1,false),(4,1,false),(5,1,false)] }),
 (52,{ sz:=20,byt:=352,ag:=true,z:=[.s (str []),.nil,.nil,.i .i64 (0:Int),.i .i64 (0:Int),.i .i64 (0:Int),.nil,.nil,.i .i64 (0:Int),.i .i64 (0:Int),.i .i64 (0:Int),.nil,.nil,.nil,.s (str []),.i .i64 (0:Int),.nil,.nil,.nil,.nil],kd:=4,fo:=[(0,8,true),(8,6,true),(14,6,true)] }),
 (53,{ sz:=1,byt:=24,ag:=false,z:=[.nil],kd:=6,es:=4,eb:=48,el:=57 }),
 (57,{ sz:=4,byt:=48,ag:=true,z:=[.b false,.i .i64 (0:Int),.i .u8 (0:Int),.nil],kd:=4,fo:=[(0,1,false),(1,1,false),(2,1,false),(3,1,false)] }),
 (59,{ sz:=4,byt:=80,ag:=true,z:=[.i .i64 (0:Int),.nil,.nil,.nil],kd:=4,fo:=[(0,1,false),(1,1,false),(2,1,false),(3,1,false)] }),
 (75,{ sz:=5,byt:=56,ag:=true,z:=[.i .i64 (0:Int),.b false,.i .i64 (0:Int),.i .i64 (0:Int),.nil],kd:=4,fo:=[(0,1,false),(1,1,false),(2,1,false),(3,1,false),(4,1,false)] }),
 (84,{ sz:=6,byt:=48,ag:=true,z:=[.i .i64 (0:Int),.b false,.i .i64 (0:Int),.i .i64 (0:Int),.i .i64 (0:Int),.b false],kd:=4,fo:=[(0,1,false),(1,1,false),(2,1,false),(3,1,false),(4,1,false),(5,1,false)] }),
 (88,{ sz:=3,byt:=32,ag:=true,z:=[.i .i64 (0:Int),.i .i64 (0:Int),.s (str [])],kd:=4,fo:=[(0,1,false),(1,1,false),(2,1,false)] }),
 (97,{ sz:=3,byt:=24,ag:=true,z:=[.i .i64 (0:Int),.i .i64 (0:Int),.i .i64 (0:Int)],kd:=4,fo:=[(0,1,false),(1,1,false),(2,1,false)] }),
 (99,{ sz:=4,byt:=40,ag:=true,z:=[.s (str []),.i .i64 (0:Int),.i .i64 (0:Int),.i .i64 (0:Int)],kd:=4,fo:=[(0,1,false),(1,3,true)] }),
 (100,{ sz:=1,byt:=24,ag:=false,z:=[.nil],kd:=6,es:=4,eb:=40,el:=99 }),
 (101,{ sz:=1,byt:=24,ag:=false,z:=[.nil],kd:=6,es:=3,eb:=24,el:=191 }),
 (102,{ sz:=1,byt:=24,ag:=false,z:=[.nil],kd:=6,es:=2,eb:=16,el:=216 }),
 (104,{ sz:=2,byt:=48,ag:=true,z:=[.nil,.nil],kd:=4,fo:=[(0,1,false),(1,1,false)] }),
 (106,{ sz:=5,byt:=96,ag:=true,z:=[.s (str []),.nil,.i .i64 (0:Int),.nil,.nil],kd:=4,fo:=[(0,1,false),(1,1,false),(2,1,false),(3,2,true)] }),
 (108,{ sz:=3,byt:=24,ag:=true,z:=[.i .i64 (0:Int),.i .i64 (0:Int),.i .i64 (0:Int)],kd:=4,fo:=[(0,1,false),(1,1,false),(2,1,false)] }),
 (110,{ sz:=6,byt:=48,ag:=true,z:=[.i .i64 (0:Int),.i .i64 (0:Int),.i .i64 (0:Int),.i .i64 (0:Int),.i .i64 (0:Int),.b false],kd:=4,fo:=[(0,1,false),(1,3,true),(4,1,false),(5,1,false)] }),
 (129,{ sz:=3,byt:=32,ag:=true,z:=[.i .i64 (0:Int),.i .i64 (0:Int),.s (str [])],kd:=4,fo:=[(0,1,false),(1,1,false),(2,1,false)] }),
 (131,{ sz:=7,byt:=72,ag:=true,z:=[.s (str []),.i .i64 (0:Int),.i .i64 (0:Int),.i .i64 (0:Int),.i .i64 (0:Int),.i .i64 (0:Int),.s (str [])],kd:=4,fo:=[(0,1,false),(1,3,true),(4,3,true)] }),
 (132,{ sz:=1,byt:=24,ag:=false,z:=[.nil],kd:=6,es:=1,eb:=8,el:=3 }),
 (134,{ sz:=1,byt:=24,ag:=false,z:=[.nil],kd:=6,es:=4,eb:=64,el:=137 }),
 (137,{ sz:=4,byt:=64,ag:=true,z:=[.i .i64 (0:Int),.i .i64 (0:Int),.nil,.nil],kd:=4,fo:=[(0,1,false),(1,1,false),(2,1,false),(3,1,false)] }),
 (147,{ sz:=3,byt:=24,ag:=true,z:=[.i .i64 (0:Int),.i .i64 (0:Int),.i .i64 (0:Int)],kd:=4,fo:=[(0,1,false),(1,1,false),(2,1,false)] }),
 (149,{ sz:=3,byt:=56,ag:=true,z:=[.nil,.nil,.i .i64 (0:Int)],kd:=4,fo:=[(0,1,false),(1,1,false),(2,1,false)] }),
 (171,{ sz:=3,byt:=24,ag:=true,z:=[.i .i64 (0:Int),.i .i64 (0:Int),.i .i64 (0:Int)],kd:=4,fo:=[(0,1,false),(1,1,false),(2,1,false)] }),
 (177,{ sz:=4,byt:=32,ag:=true,z:=[.i .i64 (0:Int),.i .i64 (0:Int),.i .i64 (0:Int),.i .i64 (0:Int)],kd:=4,fo:=[(0,1,false),(1,1,false),(2,1,false),(3,1,false)] }),
 (181,{ sz:=1,byt:=24,ag:=false,z:=[.nil],kd:=6,es:=3,eb:=56,el:=183 }),
 (183,{ sz:=3,byt:=56,ag:=true,z:=[.b false,.nil,.nil],kd:=4,fo:=[(0,1,false),(1,1,false),(2,1,false)] }),
 (191,{ sz:=3,byt:=24,ag:=true,z:=[.i .i64 (0:Int),.i .i64 (0:Int),.i .i64 (0:Int)],kd:=4,fo:=[(0,1,false),(1,1,false),(2,1,false)] }),
 (195,{ sz:=2,byt:=32,ag:=true,z:=[.i .i64 (0:Int),.nil],kd:=4,fo:=[(0,1,false),(1,1,false)] }),
 (206,{ sz:=5,byt:=104,ag:=true,z:=[.nil,.nil,.nil,.nil,.b false],kd:=4,fo:=[(0,1,false),(1,1,false),(2,1,false),(3,1,false),(4,1,false)] }),
 (207,{ sz:=1,byt:=8,ag:=false,z:=[.v .nilFunc],kd:=0 }),
 (208,{ sz:=1,byt:=8,ag:=false,z:=[.v .nilFunc],kd:=0 }),
 (213,{ sz:=1,byt:=8,ag:=false,z:=[.v .nilFunc],kd:=0 }),
 (216,{ sz:=2,byt:=16,ag:=true,z:=[.i .i64 (0:Int),.i .i64 (0:Int)],kd:=5,n:=2,es:=1,el:=3 }),
 (253,{ sz:=28,byt:=448,ag:=true,z:=[.s (str []),.s (str []),.s (str []),.s (str []),.s (str []),.s (str []),.s (str []),.s (str []),.s (str []),.s (str []),.s (str []),.s (str []),.s (str []),.s (str []),.s (str []),.s (str []),.s (str []),.s (str []),.s (str []),.s (str []),.s (str []),.s (str []),.s (str []),.s (str []),.s (str []),.s (str []),.s (str []),.s (str [])],kd:=5,n:=28,es:=1,el:=9 }),
 (255,{ sz:=1,byt:=8,ag:=false,z:=[.i .u64 (0:Int)],kd:=3,ik:=some .u64 }),
 (259,{ sz:=1,byt:=24,ag:=false,z:=[.nil],kd:=6,es:=1,eb:=24,el:=132 }),
 (261,{ sz:=7,byt:=120,ag:=true,z:=[.i .i64 (0:Int),.i .i64 (0:Int),.i .i64 (0:Int),.nil,.nil,.nil,.nil],kd:=4,fo:=[(0,6,true),(6,1,false)] }),
 (264,{ sz:=3,byt:=24,ag:=true,z:=[.b false,.i .i64 (0:Int),.i .i64 (0:Int)],kd:=4,fo:=[(0,1,false),(1,1,false),(2,1,false)] })]
theorem htt:TTOk Tryz.prog tt:=by
  unfold tt
  exact ⟨⟨by kernel_rfl,by kernel_rfl,by kernel_rfl,by kernel_rfl⟩,
    ⟨by kernel_rfl,by kernel_rfl,by kernel_rfl,by kernel_rfl⟩,
    ⟨by kernel_rfl,by kernel_rfl,by kernel_rfl,by kernel_rfl⟩,
    ⟨by kernel_rfl,by kernel_rfl,by kernel_rfl,by kernel_rfl⟩,
    ⟨by kernel_rfl,by kernel_rfl,by kernel_rfl,by kernel_rfl⟩,
    ⟨by kernel_rfl,by kernel_rfl,by kernel_rfl,by kernel_rfl⟩,
    ⟨by kernel_rfl,by kernel_rfl,by kernel_rfl,by kernel_rfl⟩,
    ⟨by kernel_rfl,by kernel_rfl,by kernel_rfl,by kernel_rfl⟩,
    ⟨by kernel_rfl,by kernel_rfl,by kernel_rfl,by kernel_rfl⟩,
    ⟨by kernel_rfl,by kernel_rfl,by kernel_rfl,by kernel_rfl⟩,
    ⟨by kernel_rfl,by kernel_rfl,by kernel_rfl,by kernel_rfl⟩,
    ⟨by kernel_rfl,by kernel_rfl,by kernel_rfl,by kernel_rfl⟩,
    ⟨by kernel_rfl,by kernel_rfl,by kernel_rfl,by kernel_rfl⟩,
    ⟨by kernel_rfl,by kernel_rfl,by kernel_rfl,by kernel_rfl⟩,
    ⟨by kernel_rfl,by kernel_rfl,by kernel_rfl,by kernel_rfl⟩,
    ⟨by kernel_rfl,by kernel_rfl,by kernel_rfl,by kernel_rfl⟩,
    ⟨by kernel_rfl,by kernel_rfl,by kernel_rfl,by kernel_rfl⟩,
    ⟨by kernel_rfl,by kernel_rfl,by kernel_rfl,by kernel_rfl⟩,
    ⟨by kernel_rfl,by kernel_rfl,by kernel_rfl,by kernel_rfl⟩,
    ⟨by kernel_rfl,by kernel_rfl,by kernel_rfl,by kernel_rfl⟩,
    ⟨by kernel_rfl,by kernel_rfl,by kernel_rfl,by kernel_rfl⟩,
    ⟨by kernel_rfl,by kernel_rfl,by kernel_rfl,by kernel_rfl⟩,
    ⟨by kernel_rfl,by kernel_rfl,by kernel_rfl,by kernel_rfl⟩,
    ⟨by kernel_rfl,by kernel_rfl,by kernel_rfl,by kernel_rfl⟩,
    ⟨by kernel_rfl,by kernel_rfl,by kernel_rfl,by kernel_rfl⟩,
    ⟨by kernel_rfl,by kernel_rfl,by kernel_rfl,by kernel_rfl⟩,
    ⟨by kernel_rfl,by kernel_rfl,by kernel_rfl,by kernel_rfl⟩,
    ⟨by kernel_rfl,by kernel_rfl,by kernel_rfl,by kernel_rfl⟩,
    ⟨by kernel_rfl,by kernel_rfl,by kernel_rfl,by kernel_rfl⟩,
    ⟨by kernel_rfl,by kernel_rfl,by kernel_rfl,by kernel_rfl⟩,
    ⟨by kernel_rfl,by kernel_rfl,by kernel_rfl,by kernel_rfl⟩,
    ⟨by kernel_rfl,by kernel_rfl,by kernel_rfl,by kernel_rfl⟩,
    ⟨by kernel_rfl,by kernel_rfl,by kernel_rfl,by kernel_rfl⟩,
    ⟨by kernel_rfl,by kernel_rfl,by kernel_rfl,by kernel_rfl⟩,
    ⟨by kernel_rfl,by kernel_rfl,by kernel_rfl,by kernel_rfl⟩,
    ⟨by kernel_rfl,by kernel_rfl,by kernel_rfl,by kernel_rfl⟩,
    ⟨by kernel_rfl,by kernel_rfl,by kernel_rfl,by kernel_rfl⟩,
    ⟨by kernel_rfl,by kernel_rfl,by kernel_rfl,by kernel_rfl⟩,
    ⟨by kernel_rfl,by kernel_rfl,by kernel_rfl,by kernel_rfl⟩,
    ⟨by kernel_rfl,by kernel_rfl,by kernel_rfl,by kernel_rfl⟩,
    ⟨by kernel_rfl,by kernel_rfl,by kernel_rfl,by kernel_rfl⟩,
    ⟨by kernel_rfl,by kernel_rfl,by kernel_rfl,by kernel_rfl⟩,
    ⟨by kernel_rfl,by kernel_rfl,by kernel_rfl,by kernel_rfl⟩,
    ⟨by kernel_rfl,by kernel_rfl,by kernel_rfl,by kernel_rfl⟩,
    ⟨by kernel_rfl,by kernel_rfl,by kernel_rfl,by kernel_rfl⟩,
    ⟨by kernel_rfl,by kernel_rfl,by kernel_rfl,by kernel_rfl⟩,
    ⟨by kernel_rfl,by kernel_rfl,by kernel_rfl,by kernel_rfl⟩,
    ⟨by kernel_rfl,by kernel_rfl,by kernel_rfl,by kernel_rfl⟩,
    ⟨by kernel_rfl,by kernel_rfl,by kernel_rfl,by kernel_rfl⟩,
    ⟨by kernel_rfl,by kernel_rfl,by kernel_rfl,by kernel_rfl⟩,
    ⟨by kernel_rfl,by kernel_rfl,by kernel_rfl,by kernel_rfl⟩,
    ⟨by kernel_rfl,by kernel_rfl,by kernel_rfl,by kernel_rfl⟩,
    ⟨by kernel_rfl,by kernel_rfl,by kernel_rfl,by kernel_rfl⟩,
    ⟨by kernel_rfl,by kernel_rfl,by kernel_rfl,by kernel_rfl⟩,
    ⟨by kernel_rfl,by kernel_rfl,by kernel_rfl,by kernel_rfl⟩,
    ⟨by kernel_rfl,by kernel_rfl,by kernel_rfl,by kernel_rfl⟩,
    ⟨by kernel_rfl,by kernel_rfl,by kernel_rfl,by kernel_rfl⟩,
    ⟨by kernel_rfl,by kernel_rfl,by kernel_rfl,by kernel_rfl⟩,
    ⟨by kernel_rfl,by kernel_rfl,by kernel_rfl,by kernel_rfl⟩,
    ⟨by kernel_rfl,by kernel_rfl,by kernel_rfl,by kernel_rfl⟩,
    ⟨by kernel_rfl,by kernel_rfl,by kernel_rfl,by kernel_rfl⟩,
    ⟨by kernel_rfl,by kernel_rfl,by kernel_rfl,by kernel_rfl⟩,trivial⟩
def J:=@htt
theorem Q {α:Sort _} {a:α}:a=a:=rfl
section
variable [LxP]
theorem wH {X:Ctx} {tt:List (Nat × TD)} (htt:TTOk X.P tt) (n:Nat) {b t:Bool} (K:b=t) {c:Cf} (k:Wc X (Vd t (Ys tt X.fn.ntmps n c))) (hp:(Zl (Ys tt X.fn.ntmps n c).st.L (UL (Ys tt X.fn.ntmps n c)),P2 (Ys tt X.fn.ntmps n c))=(some (.c (.b b)),Pj b (Ys tt X.fn.ntmps n c)):=by kernel_rfl):Wc X c:=wa htt n (eK K k hp)
theorem wr {P:Program} {f:FuncId} {fn:Func} {ct:Ct} {E0:Env} {F0:ZV} {w0:World} {tt:List (Nat × TD)} (htt:TTOk P tt) (n:Nat) (hf:P.funcs[f]? = some fn) (l:List (Nat × SC)) {c:Cf}
    (hp:(Gq (Ys tt fn.ntmps n c),Qh tt (Ys tt fn.ntmps n c).st fn.results.toList,ct.V1.map (fun p=>Ut (Ys tt fn.ntmps n c).st ⟨l,0,0⟩ p.1 p.2),ct.M1.map (fun p=>Wx (Ys tt fn.ntmps n c).st ⟨l,0,0⟩ p.1 p.2),
        (VN ⟨l,0,0⟩ ct.res && Y2 (ct.M1.filterMap fun p=>Xj ⟨l,0,0⟩ p.1 p.2) && Y2 (ct.M1.map (·.1)) && l.all (fun p=>Nat.ble ct.nk p.1 && p.2.kbb (Ys tt fn.ntmps n c).st.nx))) =
      (true,some (X2 ⟨l,0,0⟩ ct.res),ct.V1.map (fun p=>some p.2),ct.M1.map (fun p=>some (WB ⟨l,0,0⟩ p.2)),true):=by kernel_rfl):Wc (ct.ctx P f fn E0 F0 w0) c:=wa (X:=ct.ctx P f fn E0 F0 w0) htt n (Yc htt hf l hp)
theorem eB {X:Ctx} {b:Bool} {α:Type} {x y:Option α} {r:α} (h:(bif b then x else y)=some r) {c:Cf} (k1:x=some r→Wc X (Vd true c)) (k2:y=some r→Wc X (Vd false c)) (hp:(Zl c.st.L (UL c),P2 c)=(some (.c (.b b)),Pj b c):=by kernel_rfl):Wc X c:=by
  rcases oc h with ⟨K,h⟩ | ⟨K,h⟩
  · exact eK K (k1 h) hp
  · exact eK K (k2 h) hp
theorem WA {X:Ctx} {b:Bool} {α:Type} {x y:Option α} {r:α} (h:(bif b then x else y)=some r) {c:Cf} (k1:y=some r→Wc X (Vd false c)) (k2:x=some r→Wc X (Vd true c)) (hp:(Zl c.st.L (UL c),P2 c)=(some (.c (.b b)),Pj b c):=by kernel_rfl):Wc X c:=eB h k2 k1 hp
theorem wB {X:Ctx} {tt:List (Nat × TD)} (htt:TTOk X.P tt) (n:Nat) {b:Bool} {α:Type} {x y:Option α} {r:α} (h:(bif b then x else y)=some r) {c:Cf} (k1:x=some r→Wc X (Vd true (Ys tt X.fn.ntmps n c))) (k2:y=some r→Wc X (Vd false (Ys tt X.fn.ntmps n c))) (hp:(Zl (Ys tt X.fn.ntmps n c).st.L (UL (Ys tt X.fn.ntmps n c)),P2 (Ys tt X.fn.ntmps n c))=(some (.c (.b b)),Pj b (Ys tt X.fn.ntmps n c)):=by kernel_rfl):Wc X c:=by
  rcases oc h with ⟨K,h⟩ | ⟨K,h⟩
  · exact wH htt n K (k1 h) hp
  · exact wH htt n K (k2 h) hp
theorem Zp {X:Ctx} {tt:List (Nat × TD)} (htt:TTOk X.P tt) (n:Nat) {b:Bool} {α:Type} {x y:Option α} {r:α} (h:(bif b then x else y)=some r) {c:Cf} (k1:y=some r→Wc X (Vd false (Ys tt X.fn.ntmps n c))) (k2:x=some r→Wc X (Vd true (Ys tt X.fn.ntmps n c))) (hp:(Zl (Ys tt X.fn.ntmps n c).st.L (UL (Ys tt X.fn.ntmps n c)),P2 (Ys tt X.fn.ntmps n c))=(some (.c (.b b)),Pj b (Ys tt X.fn.ntmps n c)):=by kernel_rfl):Wc X c:=wB htt n h k2 k1 hp
theorem wO {X:Ctx} {tt:List (Nat × TD)} (htt:TTOk X.P tt) (n:Nat) {α β:Type} {o:Option α} {f:α→Option β} {r:β} (h:o.bind f=some r) {c:Cf} (k:∀ x,o=some x→f x=some r→Wc X (Ys tt X.fn.ntmps n c)):Wc X c:=by
  obtain ⟨x,e,h⟩:=ob h
  exact wa htt n (k x e h)
end
abbrev Wp:=fun L=>(⟨L,[],[],0⟩:St)
abbrev UT:=fun x0 x1 x2 L=>(⟨L,[(2,.box [.I 0,.nil] 195),(4,.own (rI .i64) x0 true),(5,.box (Ts 4 x1) 195)],[(0,.sl (rI .i64) x2)],6⟩:St)
abbrev Tp:=fun x0 L=>(⟨L,[(4,.box (Yr 0 1 2 3 x0) 27)],(Yx 0 1 2 3 x0 []),5⟩:St)
abbrev S4:=fun x0 L=>(⟨L,[(4,.box (XU 0 1 2 3 x0) 50)],(Y5 0 1 2 3 x0 []),5⟩:St)
abbrev RR:=fun x0 L=>(⟨L,[],[(0,.sl rS x0)],1⟩:St)
abbrev RX:=fun x0 x1 x2 x3 x4 x5 x6 x7 x8 x9 x10 x11 x12 x13 L=>(⟨L,[(14,.box (XQ 0 1 2 3 4 5 6 7 8 9 10 x0) 52),(15,.box (Wz 11 12 13 x1) 59),(16,.own (rI .i64) x2 true)],((0,.sl rS x3)::(1,.sl ZQ x4)::(2,.sl YQ x5)::(3,.sl Z8 x6)::(4,.sl rB x7)::(5,.sl YL x8)::(6,.sl Z8 x9)::(7,.sl Y6 x10)::(8,.sl Xw x11)::(9,.sl Xx x12)::(10,.sl Xz x13)::X1 11 12 13 x1 []),17⟩:St)
abbrev MA:=fun x0 L=>(⟨L,[],(Yx 0 1 2 3 x0 []),5⟩:St)
abbrev PL:=fun x0 L=>(⟨L,[],[(0,.sl (rI .i64) x0)],1⟩:St)
abbrev Hl:=fun x0 L=>(⟨L,[(0,.abs x0)],[],1⟩:St)
abbrev HH:=fun x0 L=>(⟨L,[(0,.box (Wm 1 2 3 4 x0) 261)],(WZ 1 2 3 4 x0 []),5⟩:St)
abbrev Lq:=fun x0 x1 L=>(⟨L,[],[(0,.sl Y7 x0),(1,.sl Zw x1)],2⟩:St)
abbrev Hs:=fun x0 L=>(⟨L,[],[(0,.sl ZQ x0)],1⟩:St)
abbrev H6:=fun x0 L=>(⟨L,[],(YZ 0 1 2 x0 []),4⟩:St)
abbrev DO:=fun x0 L=>(⟨L,[(3,.box (YT 0 1 2 x0) 31)],(YZ 0 1 2 x0 []),4⟩:St)
abbrev By:=fun x0 x1 x2 L=>(⟨L,[(3,.box [.sl 0,.sl 1] 104)],[(0,.sl Yy x0),(1,.sl (rP (rI .i64) (rI .i64)) x1),(2,.sl Zw x2)],4⟩:St)
abbrev GI:=fun x0 x1 L=>(⟨L,[(4,.box (Yr 0 1 2 3 x0) 27),(5,.own (rI .i64) x1 true)],(Yx 0 1 2 3 x0 []),7⟩:St)
abbrev Be:=fun x0 x1 x2 x3 L=>(⟨L,[(4,.box (YM 0 1 2 x0) 106),(5,.own rS x1 true),(6,.own rB x2 true)],(YJ 0 1 2 x0 [(3,.sl Zw x3)]),7⟩:St)
abbrev Zbg:=fun x0 L=>(⟨L,[(0,.own rS x0 true)],[],1⟩:St)
abbrev ZcZ:=fun x0 x1 L=>(⟨L,[(4,.box (Yr 0 1 2 3 x0) 27),(6,.box (cC2 x1) 110)],(Yx 0 1 2 3 x0 []),7⟩:St)
abbrev ZaM:=fun x0 x1 L=>(⟨L,[(1,.own (rI .i64) x0 true)],[(0,.sl (rI .i64) x1)],2⟩:St)
abbrev ZbJ:=fun x0 x1 L=>(⟨L,[],[(0,.sl Zw x0),(1,.sl Zw x1)],2⟩:St)
abbrev B7:=fun x0 x1 x2 L=>(⟨L,[(3,.box [.sl 1,.sl 2] 104)],[(0,.sl ZQ x0),(1,.sl Yy x1),(2,.sl (rP (rI .i64) (rI .i64)) x2)],4⟩:St)
abbrev ZbY:=fun x0 x1 L=>(⟨L,[(5,.box (YM 2 3 4 x0) 106)],((0,.sl ZQ x1)::YJ 2 3 4 x0 []),6⟩:St)
abbrev Zal:=fun x0 x1 L=>(⟨L,[(4,.box (Yr 0 1 2 3 x0) 27),(5,.own rB x1 true)],(Yx 0 1 2 3 x0 []),7⟩:St)
abbrev ZeJ:=fun x0 x1 L=>(⟨L,[(1,.own Y7 x0 true)],[(0,.sl ZQ x1)],2⟩:St)
abbrev ZeQ:=fun x0 x1 x2 L=>(⟨L,[],[(0,.sl Yy x0),(1,.sl (rP (rI .i64) (rI .i64)) x1),(2,.sl Zw x2)],4⟩:St)
abbrev Zd7:=fun x0 x1 L=>(⟨L,[(4,.box (Yr 0 1 2 3 x0) 27),(5,.own (rI .i64) x1 true)],(Yx 0 1 2 3 x0 []),6⟩:St)
abbrev ZdI:=fun x0 x1 L=>(⟨L,[(0,.box (V8 x0) 97),(1,.box (XI x1) 88)],[],2⟩:St)
abbrev Zd2:=fun x0 x1 x2 L=>(⟨L,[(5,.box (XU 0 1 2 3 x0) 50),(6,.own Vf x1 true)],(Y5 0 1 2 3 x0 [(4,.sl ZQ x2)]),7⟩:St)
abbrev ZeS:=fun x0 x1 x2 x3 x4 x5 x6 L=>(⟨L,[(4,.own WM x0 false),(12,.box (BV x1) 129),(15,.box [.b true,.sl 14,.sl 16] 183)],(Y5 0 1 2 3 x2 [(5,.sl (rI .i64) x3),(6,.sl (rI .i64) x4),(14,.sl (rI .i64) x5),(16,.sl (rI .i64) x6)]),17⟩:St)
abbrev ZfI:=fun x0 x1 x2 x3 L=>(⟨L,[(4,.box (YM 0 1 2 x0) 106),(5,.own rS x1 true),(6,.own rB x2 true)],(YJ 0 1 2 x0 [(3,.sl Zw x3)]),8⟩:St)
abbrev Zgx:=fun x0 x1 x2 L=>(⟨L,[(3,.box [.sl 0,.sl 1] 104)],[(0,.sl Yy x0),(1,.sl (rP (rI .i64) (rI .i64)) x1),(2,.sl Y7 x2)],4⟩:St)
abbrev Zg6:=fun x0 x1 x2 L=>(⟨L,[(1,.own Y7 x0 true),(6,.box (YM 3 4 5 x1) 106)],((0,.sl ZQ x2)::YJ 3 4 5 x1 []),8⟩:St)
abbrev Zhe:=fun x0 x1 x2 L=>(⟨L,[(4,.box (Yr 0 1 2 3 x0) 27),(6,.box (cC2 x1) 110),(8,.box (cC2 x2) 110)],(Yx 0 1 2 3 x0 []),9⟩:St)
abbrev ZhH:=fun x0 x1 x2 L=>(⟨L,[(4,.box (Yr 0 1 2 3 x0) 27),(6,.own (rI .i64) x1 true),(10,.own (rI .i64) x2 true)],(Yx 0 1 2 3 x0 []),11⟩:St)
abbrev ZjK:=fun x0 x1 x2 x3 x4 x5 L=>(⟨L,[(3,.box (YT 0 1 2 x0) 31),(5,.box [.I x1,.I x2,.I x3,.sl 0,.sl 1,.sl 2,.sl 4] 261),(4,.abs x4)],(YZ 0 1 2 x0 [(4,.fn x5)]),6⟩:St)
abbrev ZhN:=fun x0 x1 x2 x3 L=>(⟨L,[(1,.box (VD 2 3 x0) 37),(4,.box (QI 5 x1) 75)],((0,.sl YL x2)::Us 2 3 x0 [(5,.sl Zw x3)]),6⟩:St)
abbrev ZkE:=fun x0 x1 x2 x3 x4 x5 L=>(⟨L,[(3,.box [.sl 0,.sl 1] 104),(5,.box (cC1 x0) 191),(6,.box [.I x1,.I x2] 216)],[(0,.sl Yy x3),(1,.sl (rP (rI .i64) (rI .i64)) x4),(2,.sl Zw x5)],7⟩:St)
abbrev Zi7:=fun x0 x1 x2 x3 L=>(⟨L,[(3,.box [.sl 0,.sl 1] 104),(5,.box (cC1 x0) 191)],[(0,.sl Yy x1),(1,.sl (rP (rI .i64) (rI .i64)) x2),(2,.sl Zw x3)],6⟩:St)
abbrev Zhj:=fun x0 x1 x2 x3 L=>(⟨L,[(11,.own (rI .i64) x0 true)],(Y5 0 1 2 3 x1 [(4,.sl (rI .i64) x2),(5,.sl (rI .i64) x3)]),12⟩:St)
abbrev Zh7:=fun x0 x1 x2 x3 L=>(⟨L,[(6,.box (XU 0 1 2 3 x0) 50),(7,.own WM x1 true)],(Y5 0 1 2 3 x0 [(4,.sl (rI .i64) x2),(5,.sl (rI .i64) x3)]),14⟩:St)
abbrev Zhb:=fun x0 L=>(⟨L,[(11,.box (XQ 0 1 2 3 4 5 6 7 8 9 10 x0) 52)],(U9 0 1 2 3 4 5 6 7 8 9 10 x0 []),12⟩:St)
abbrev Zjo:=fun x0 x1 x2 L=>(⟨L,[(5,.box (YM 2 3 4 x0) 106),(6,.own Yy x1 true)],((0,.sl ZQ x2)::YJ 2 3 4 x0 []),7⟩:St)
abbrev ZiE:=fun x0 x1 L=>(⟨L,[(0,.box [.I 0,.nil] 195),(1,.box [.I x0,.sl 2] 195),(2,.own (rI .i64) x1 true)],[],3⟩:St)
abbrev Zgz:=fun x0 x1 L=>(⟨L,[(0,.box [.I 0,.nil] 195),(1,.box [.I x0,.sl 3] 195),(3,.own (rI .i64) x1 true)],[],4⟩:St)
abbrev Zko:=fun x0 x1 x2 x3 L=>(⟨L,[(6,.box (YM 3 4 5 x0) 106),(7,.own Yy x1 true)],((0,.sl ZQ x2)::(1,.sl Zw x3)::YJ 3 4 5 x0 []),8⟩:St)
abbrev Zg9:=fun x0 x1 x2 x3 x4 x5 x6 L=>(⟨L,[(6,.box (YM 3 4 5 x0) 106),(8,.own rS x1 true),(9,.own rB x2 true),(11,.box [.I x3,.sl 13] 195)],((0,.sl ZQ x4)::(1,.sl Zw x5)::YJ 3 4 5 x0 [(13,.sl (rI .i64) x6)]),14⟩:St)
abbrev ZjM:=fun x0 x1 x2 x3 x4 x5 x6 x7 x8 x9 x10 x11 x12 x13 x14 x15 L=>(⟨L,[(15,.box (XQ 0 1 2 3 4 5 6 7 8 9 10 x0) 52),(16,.box (Wz 11 12 13 x1) 59),(17,.box (ZiI 14 x2) 57),(18,.own (rI .i64) x3 true)],((0,.sl rS x4)::(1,.sl ZQ x5)::(2,.sl YQ x6)::(3,.sl Z8 x7)::(4,.sl rB x8)::(5,.sl YL x9)::(6,.sl Z8 x10)::(7,.sl Y6 x11)::(8,.sl Xw x12)::(9,.sl Xx x13)::(10,.sl Xz x14)::X1 11 12 13 x1 [(14,.sl Zw x15)]),19⟩:St)
abbrev ZfZ:=fun x0 x1 x2 L=>(⟨L,[(6,.box (XU 0 1 2 3 x0) 50),(7,.box [.nil,.nil,.I 0] 149)],(Y5 0 1 2 3 x0 [(4,.sl Zw x1),(5,.sl Zw x2)]),8⟩:St)
abbrev Zf2:=fun x0 x1 L=>(⟨L,[(12,.box (XQ 0 1 2 3 4 5 6 7 8 9 10 x0) 52)],(U9 0 1 2 3 4 5 6 7 8 9 10 x0 [(11,.sl Sk x1)]),13⟩:St)
end Gx
end
