/- How typed values lie in the machine, and the types of the program. -/
import Derived.Test.YtnlleampnlmdlaaGreatDoorChecked
import Derived.Test.YtnlleampnlmdlaaGreatDoorExpandProblemsPure
import Derived.Test.YtnlleampnlmdlaaGreatDoorExpandProblemsLib
set_option linter.all false
section
open Go Go.Kx Go.Proofs
namespace Gx
abbrev rR1:TRep T1:=rM (fun x=>(x.Zq,x.Lo,x.Hi)) (rP (rI .i64) (rP (rI .i64) (rI .i64)))
abbrev oO1:Opn rR1:=oM _ (oP (oI .i64) (oP (oI .i64) (oI .i64)))
abbrev Xs:TRep T0:=rM (fun x=>(x.Zt,x.Zu)) (rP rS rR1)
abbrev W9:Opn Xs:=oM _ (oP oS oO1)
abbrev M4:TRep Ys:=rM (fun x=>(x.Zq,x.Zv,x.Field,x.N)) (rP (rI .i64) (rP rS (rP rS (rI .i64))))
abbrev Zal:Opn M4:=oM _ (oP (oI .i64) (oP oS (oP oS (oI .i64))))
abbrev Vt:TRep YM:=rM (fun x=>(x.Zw,x.Op,x.Zx)) (rP M4 (rP rS M4))
abbrev RS:Opn Vt:=oM _ (oP Zal (oP oS Zal))
abbrev YE:TRep ZS:=rM (fun x=>(x.Zt,x.Zy,x.Zz)) (rP rS (rP (Yk Xs) (Yk Vt)))
abbrev VU:Opn YE:=oM _ (oP oS (oP (YQ Xs) (YQ Vt)))
abbrev Zjc (R:TRep ZJ):TRep ZJ:=rM (fun x=>(x.Zq,x.ZA,x.To,x.Zt,x.As,x.ZB,x.ZC)) (rP (rI .i64) (rP rS (rP (Yk rS) (rP rS (rP rS (rP (rI .i64) (Yk (Yk R))))))))
theorem Zpy:Uv Zjc:=ZiF _ (UI (UJ _) (UI (UJ _) (UI (UJ _) (UI (UJ _) (UI (UJ _) (UI (UJ _) (Zaf (Zaf ZiG))))))))
abbrev ZR:TRep ZJ:=RV Zjc 7 (by decide) (fun _ _=>rfl)
abbrev Va:Opn ZR:=Opn.of (Zeq Zpy) (oM _ (oP (oI .i64) (oP oS (oP (YQ rS) (oP oS (oP oS (oP (oI .i64) (YQ (Yk ZR)))))))))
abbrev ZV:TRep ZL:=rM (fun x=>(x.Zt,x.ZD,x.ZE,x.ZF)) (rP rS (rP (Yk rS) (rP (Yk YE) (Yk ZR))))
abbrev X2:Opn ZV:=oM _ (oP oS (oP (YQ rS) (oP (YQ YE) (YQ ZR))))
abbrev Yv:TRep T4:=rM (fun x=>(x.Zq,x.ZG,x.Value,x.ZA)) (rP (rI .i64) (rP rS (rP (rI .i64) (rI .i64))))
abbrev MX:Opn Yv:=oM _ (oP (oI .i64) (oP oS (oP (oI .i64) (oI .i64))))
abbrev rR5:TRep T5:=rM (fun x=>(x.s',x.at')) (rP rS (rI .i64))
abbrev oO5:Opn rR5:=oM _ (oP oS (oI .i64))
abbrev Zpu:TRep Z4:=rM (fun x=>(x.l',x.n',x.end',x.at',x.err')) (rP (Yk Yv) (rP (rI .i64) (rP (rI .i64) (rP (rI .i64) (rI .i64)))))
abbrev ZtO:Opn Zpu:=oM _ (oP (YQ Yv) (oP (oI .i64) (oP (oI .i64) (oP (oI .i64) (oI .i64)))))
abbrev rR6:TRep T6:=rM (fun x=>(x.ZH,x.Zt,x.ZI)) (rP rS (rP rS (rI .i64)))
abbrev oO6:Opn rR6:=oM _ (oP oS (oP oS (oI .i64)))
abbrev rR7:TRep T7:=rM (fun x=>(x.all',x.p',x.calls',x.out')) (rP (Yk ZV) (rP ZV (rP (Yk rS) rR6)))
abbrev oO7:Opn rR7:=oM _ (oP (YQ ZV) (oP X2 (oP (YQ rS) oO6)))
abbrev Xv:TRep T8:=rM (fun x=>(x.name',x.tail',x.hidden')) (rP rS (rP rB rB))
abbrev UM:Opn Xv:=oM _ (oP oS (oP oB oB))
abbrev Q3:TRep T9:=rM (fun x=>(x.Zw,x.Op,x.Zx)) (rP M4 (rP rS M4))
abbrev MY:Opn Q3:=oM _ (oP Zal (oP oS Zal))
abbrev Xp:TRep Yi:=rM (fun x=>(x.Zt,x.Zy,x.Zz)) (rP rS (rP (Yk Xs) (Yk Q3)))
abbrev SL:Opn Xp:=oM _ (oP oS (oP (YQ Xs) (YQ Q3)))
abbrev Zja (R:TRep ZT):TRep ZT:=rM (fun x=>(x.Zq,x.ZA,x.To,x.Zt,x.As,x.ZB,x.ZC)) (rP (rI .i64) (rP rS (rP (Yk rS) (rP rS (rP rS (rP (rI .i64) (Yk (Yk R))))))))
theorem Zjb:Uv Zja:=ZiF _ (UI (UJ _) (UI (UJ _) (UI (UJ _) (UI (UJ _) (UI (UJ _) (UI (UJ _) (Zaf (Zaf ZiG))))))))
abbrev Yo:TRep ZT:=RV Zja 7 (by decide) (fun _ _=>rfl)
abbrev VT:Opn Yo:=Opn.of (Zeq Zjb) (oM _ (oP (oI .i64) (oP oS (oP (YQ rS) (oP oS (oP oS (oP (oI .i64) (YQ (Yk Yo)))))))))
abbrev Yp:TRep ZU:=rM (fun x=>(x.Zt,x.ZD,x.ZE,x.ZF)) (rP rS (rP (Yk rS) (rP (Yk Xp) (Yk Yo))))
abbrev Wv:Opn Yp:=oM _ (oP oS (oP (YQ rS) (oP (YQ Xp) (YQ Yo))))
abbrev Zpt:TRep ZZ:=rM (fun x=>(x.l',x.p',x.calls',x.first')) (rP (Yk Yp) (rP Yp (rP (Yk rS) rR6)))
abbrev ZtN:Opn Zpt:=oM _ (oP (YQ Yp) (oP Wv (oP (YQ rS) oO6)))
theorem MT:Sq Tryz.prog ZV 60 true (⟨(str []),([]:List ByteArray),([]:List ZS),([]:List ZJ)⟩:ZL):=by
  refine ⟨9,35,([.s (str []),.nil,.nil,.nil]:List SC).map (ZX Ru),by kernel_rfl,by kernel_rfl,Zf7 (by kernel_rfl),fun F w=>?_⟩
  exact (X2).cok (V:=fun _=>none) (x:=(⟨(str []),([]:List ByteArray),([]:List ZS),([]:List ZJ)⟩:ZL)) (cs:=[.s (str []),.nil,.nil,.nil]) ((X2).eqn rfl) Ru F w (fun _ _ h=>by cases h)
theorem Zah:Sq Tryz.prog rB 65 false false:=by
  refine ⟨9,4,([.b false]:List SC).map (ZX Ru),by kernel_rfl,by kernel_rfl,Zf7 (by kernel_rfl),fun F w=>?_⟩
  exact (oB).cok (V:=fun _=>none) (x:=false) (cs:=[.b false]) ((oB).eqn rfl) Ru F w (fun _ _ h=>by cases h)
theorem ZiH:Sq Tryz.prog rS 103 false (str []):=by
  refine ⟨9,9,([.s (str [])]:List SC).map (ZX Ru),by kernel_rfl,by kernel_rfl,Zf7 (by kernel_rfl),fun F w=>?_⟩
  exact (oS).cok (V:=fun _=>none) (x:=(str [])) (cs:=[.s (str [])]) ((oS).eqn rfl) Ru F w (fun _ _ h=>by cases h)
end Gx
namespace Go.Kx
abbrev SV.I (n:Int):SV:=.c (.i .i64 n)
abbrev SC.I (n:Int):SC:=.i .i64 n
abbrev SV.O (b:Bool):SV:=.c (.b b)
abbrev SV.B (k o:Nat):SV:=.c (.bp k o)
abbrev SV.P (k o:Nat):SV:=.c (.px k o)
abbrev SV.S (k:Nat):SV:=.c (.sl k)
end Go.Kx
namespace Gx
def rg (a:Nat):Nat->List Nat
  | 0=>[]
  | n+1=>a::rg (a+1) n
abbrev Wz (e:T0):List SC:=[.s e.Zt,.i .i64 e.Zu.Zq,.i .i64 e.Zu.Lo,.i .i64 e.Zu.Hi]
abbrev XE (e:Ys):List SC:=[.i .i64 e.Zq,.s e.Zv,.s e.Field,.i .i64 e.N]
abbrev Xu (k0 k1:Nat) (e:ZS) (l:List (Nat × VF)):List (Nat × VF):=(k0,.sl Xs e.Zy)::(k1,.sl Vt e.Zz)::l
abbrev Yz (k0 k1 k2:Nat) (e:ZL) (l:List (Nat × VF)):List (Nat × VF):=(k0,.sl rS e.ZD)::(k1,.sl YE e.ZE)::(k2,.sl ZR e.ZF)::l
abbrev HI (e:T4):List SC:=[.i .i64 e.Zq,.s e.ZG,.i .i64 e.Value,.i .i64 e.ZA]
abbrev W8 (e:T5):List SC:=[.s e.s',.i .i64 e.at']
abbrev YR (k0:Nat) (e:Z4):List SC:=[.sl k0,.i .i64 e.n',.i .i64 e.end',.i .i64 e.at',.i .i64 e.err']
abbrev cC6 (e:T6):List SC:=[.s e.ZH,.s e.Zt,.i .i64 e.ZI]
abbrev Xe (k0 k1 k2 k3 k4:Nat) (e:T7):List SC:=[.sl k0,.s e.p'.Zt,.sl k1,.sl k2,.sl k3,.sl k4,.s e.out'.ZH,.s e.out'.Zt,.i .i64 e.out'.ZI]
abbrev Q8 (k0 k1 k2 k3 k4:Nat) (e:T7) (l:List (Nat × VF)):List (Nat × VF):=(k0,.sl ZV e.all')::(k1,.sl rS e.p'.ZD)::(k2,.sl YE e.p'.ZE)::(k3,.sl ZR e.p'.ZF)::(k4,.sl rS e.calls')::l
abbrev cC8 (e:T8):List SC:=[.s e.name',.b e.tail',.b e.hidden']
abbrev Wk (k0 k1:Nat) (e:Yi) (l:List (Nat × VF)):List (Nat × VF):=(k0,.sl Xs e.Zy)::(k1,.sl Q3 e.Zz)::l
abbrev YV (k0 k1 k2:Nat) (e:ZU) (l:List (Nat × VF)):List (Nat × VF):=(k0,.sl rS e.ZD)::(k1,.sl Xp e.ZE)::(k2,.sl Yo e.ZF)::l
abbrev Wr (k0 k1 k2 k3 k4:Nat) (e:ZZ):List SC:=[.sl k0,.s e.p'.Zt,.sl k1,.sl k2,.sl k3,.sl k4,.s e.first'.ZH,.s e.first'.Zt,.i .i64 e.first'.ZI]
def tt:List (Nat × TD):=[
 (3,{ sz:=1,byt:=8,ag:=false,z:=[.i .i64 (0:Int)],kd:=3,ik:=some .i64 }),
 (4,{ sz:=1,byt:=1,ag:=false,z:=[.b false],kd:=1 }),
 (5,{ sz:=1,byt:=1,ag:=false,z:=[.i .u8 (0:Int)],kd:=3,ik:=some .u8 }),
 (9,{ sz:=1,byt:=16,ag:=false,z:=[.s (str [])],kd:=2 }),
 (21,{ sz:=1,byt:=4,ag:=false,z:=[.i .i32 (0:Int)],kd:=3,ik:=some .i32 }),
 (24,{ sz:=1,byt:=24,ag:=false,z:=[.nil],kd:=6,es:=1,eb:=16,el:=9 }),
 (25,{ sz:=1,byt:=24,ag:=false,z:=[.nil],kd:=6,es:=1,eb:=24,el:=28 }),
 (27,{ sz:=7,byt:=112,ag:=true,z:=[.i .i64 (0:Int),.s (str []),.nil,.s (str []),.s (str []),.i .i64 (0:Int),.nil],kd:=4,fo:=[(0,1,false),(1,1,false),(2,1,false),(3,1,false),(4,1,false),(5,1,false),(6,1,false)] }),
 (28,{ sz:=1,byt:=24,ag:=false,z:=[.nil],kd:=6,es:=7,eb:=112,el:=27 }),
 (29,{ sz:=1,byt:=24,ag:=false,z:=[.nil],kd:=6,es:=4,eb:=40,el:=128 }),
 (30,{ sz:=1,byt:=24,ag:=false,z:=[.nil],kd:=6,es:=9,eb:=112,el:=78 }),
 (32,{ sz:=3,byt:=64,ag:=true,z:=[.s (str []),.nil,.nil],kd:=4,fo:=[(0,1,false),(1,1,false),(2,1,false)] }),
 (33,{ sz:=1,byt:=24,ag:=false,z:=[.nil],kd:=6,es:=3,eb:=64,el:=32 }),
 (35,{ sz:=4,byt:=88,ag:=true,z:=[.s (str []),.nil,.nil,.nil],kd:=4,fo:=[(0,1,false),(1,1,false),(2,1,false),(3,1,false)] }),
 (36,{ sz:=1,byt:=24,ag:=false,z:=[.nil],kd:=6,es:=4,eb:=88,el:=35 }),
 (37,{ sz:=1,byt:=8,ag:=false,z:=[.i .i64 (0:Int)],kd:=3,ik:=some .i64 }),
 (41,{ sz:=1,byt:=24,ag:=false,z:=[.nil],kd:=6,es:=4,eb:=88,el:=47 }),
 (44,{ sz:=1,byt:=24,ag:=false,z:=[.nil],kd:=6,es:=3,eb:=64,el:=71 }),
 (45,{ sz:=1,byt:=24,ag:=false,z:=[.nil],kd:=6,es:=7,eb:=112,el:=83 }),
 (47,{ sz:=4,byt:=88,ag:=true,z:=[.s (str []),.nil,.nil,.nil],kd:=4,fo:=[(0,1,false),(1,1,false),(2,1,false),(3,1,false)] }),
 (52,{ sz:=3,byt:=40,ag:=true,z:=[.s (str []),.s (str []),.i .i64 (0:Int)],kd:=4,fo:=[(0,1,false),(1,1,false),(2,1,false)] }),
 (59,{ sz:=1,byt:=8,ag:=false,z:=[.v (.pointer none)],kd:=0 }),
 (60,{ sz:=1,byt:=8,ag:=false,z:=[.v (.map none)],kd:=0 }),
 (62,{ sz:=2,byt:=16,ag:=true,z:=[.v (.map none),.v (.map none)],kd:=4,fo:=[(0,1,false),(1,1,false)] }),
 (65,{ sz:=1,byt:=8,ag:=false,z:=[.v (.map none)],kd:=0 }),
 (69,{ sz:=1,byt:=24,ag:=false,z:=[.nil],kd:=6,es:=9,eb:=112,el:=75 }),
 (71,{ sz:=3,byt:=64,ag:=true,z:=[.s (str []),.nil,.nil],kd:=4,fo:=[(0,1,false),(1,1,false),(2,1,false)] }),
 (73,{ sz:=4,byt:=48,ag:=true,z:=[.i .i64 (0:Int),.s (str []),.s (str []),.i .i64 (0:Int)],kd:=4,fo:=[(0,1,false),(1,1,false),(2,1,false),(3,1,false)] }),
 (75,{ sz:=9,byt:=112,ag:=true,z:=[.i .i64 (0:Int),.s (str []),.s (str []),.i .i64 (0:Int),.s (str []),.i .i64 (0:Int),.s (str []),.s (str []),.i .i64 (0:Int)],kd:=4,fo:=[(0,4,true),(4,1,false),(5,4,true)] }),
 (76,{ sz:=4,byt:=48,ag:=true,z:=[.i .i64 (0:Int),.s (str []),.s (str []),.i .i64 (0:Int)],kd:=4,fo:=[(0,1,false),(1,1,false),(2,1,false),(3,1,false)] }),
 (78,{ sz:=9,byt:=112,ag:=true,z:=[.i .i64 (0:Int),.s (str []),.s (str []),.i .i64 (0:Int),.s (str []),.i .i64 (0:Int),.s (str []),.s (str []),.i .i64 (0:Int)],kd:=4,fo:=[(0,4,true),(4,1,false),(5,4,true)] }),
 (79,{ sz:=3,byt:=40,ag:=true,z:=[.s (str []),.s (str []),.i .i64 (0:Int)],kd:=4,fo:=[(0,1,false),(1,1,false),(2,1,false)] }),
 (81,{ sz:=1,byt:=24,ag:=false,z:=[.nil],kd:=6,es:=1,eb:=24,el:=45 }),
 (83,{ sz:=7,byt:=112,ag:=true,z:=[.i .i64 (0:Int),.s (str []),.nil,.s (str []),.s (str []),.i .i64 (0:Int),.nil],kd:=4,fo:=[(0,1,false),(1,1,false),(2,1,false),(3,1,false),(4,1,false),(5,1,false),(6,1,false)] }),
 (84,{ sz:=1,byt:=8,ag:=false,z:=[.v (.pointer none)],kd:=0 }),
 (86,{ sz:=9,byt:=176,ag:=true,z:=[.nil,.s (str []),.nil,.nil,.nil,.nil,.s (str []),.s (str []),.i .i64 (0:Int)],kd:=4,fo:=[(0,1,false),(1,4,true),(5,1,false),(6,3,true)] }),
 (94,{ sz:=1,byt:=24,ag:=false,z:=[.nil],kd:=6,es:=4,eb:=40,el:=158 }),
 (99,{ sz:=5,byt:=56,ag:=true,z:=[.nil,.i .i64 (0:Int),.i .i64 (0:Int),.i .i64 (0:Int),.i .i64 (0:Int)],kd:=4,fo:=[(0,1,false),(1,1,false),(2,1,false),(3,1,false),(4,1,false)] }),
 (101,{ sz:=1,byt:=8,ag:=false,z:=[.v .nilFunc],kd:=0 }),
 (103,{ sz:=1,byt:=8,ag:=false,z:=[.v (.map none)],kd:=0 }),
 (105,{ sz:=2,byt:=24,ag:=true,z:=[.v (.map none),.s (str [])],kd:=4,fo:=[(0,1,false),(1,1,false)] }),
 (108,{ sz:=1,byt:=8,ag:=false,z:=[.v .nilFunc],kd:=0 }),
 (117,{ sz:=9,byt:=176,ag:=true,z:=[.nil,.s (str []),.nil,.nil,.nil,.nil,.s (str []),.s (str []),.i .i64 (0:Int)],kd:=4,fo:=[(0,1,false),(1,4,true),(5,1,false),(6,3,true)] }),
 (126,{ sz:=3,byt:=24,ag:=true,z:=[.i .i64 (0:Int),.i .i64 (0:Int),.i .i64 (0:Int)],kd:=4,fo:=[(0,1,false),(1,1,false),(2,1,false)] }),
 (128,{ sz:=4,byt:=40,ag:=true,z:=[.s (str []),.i .i64 (0:Int),.i .i64 (0:Int),.i .i64 (0:Int)],kd:=4,fo:=[(0,1,false),(1,3,true)] }),
 (131,{ sz:=8,byt:=96,ag:=true,z:=[.i .i64 (0:Int),.s (str []),.s (str []),.i .i64 (0:Int),.i .i64 (0:Int),.s (str []),.s (str []),.i .i64 (0:Int)],kd:=5,n:=2,es:=4,el:=76 }),
 (132,{ sz:=2,byt:=16,ag:=true,z:=[.i .i64 (0:Int),.i .i64 (0:Int)],kd:=5,n:=2,es:=1,el:=3 }),
 (134,{ sz:=1,byt:=24,ag:=false,z:=[.nil],kd:=6,es:=3,eb:=24,el:=137 }),
 (137,{ sz:=3,byt:=24,ag:=true,z:=[.s (str []),.b false,.b false],kd:=4,fo:=[(0,1,false),(1,1,false),(2,1,false)] }),
 (154,{ sz:=2,byt:=24,ag:=true,z:=[.s (str []),.i .i64 (0:Int)],kd:=4,fo:=[(0,1,false),(1,1,false)] }),
 (158,{ sz:=4,byt:=40,ag:=true,z:=[.i .i64 (0:Int),.s (str []),.i .i64 (0:Int),.i .i64 (0:Int)],kd:=4,fo:=[(0,1,false),(1,1,false),(2,1,false),(3,1,false)] }),
 (169,{ sz:=28,byt:=448,ag:=true,z:=[.s (str []),.s (str []),.s (str []),.s (str []),.s (str []),.s (str []),.s (str []),.s (str []),.s (str []),.s (str []),.s (str []),.s (str []),.s (str []),.s (str []),.s (str []),.s (str []),.s (str []),.s (str []),.s (str []),.s (str []),.s (str []),.s (str []),.s (str []),.s (str []),.s (str []),.s (str []),.s (str []),.s (str [])],kd:=5,n:=28,es:=1,el:=9 }),
 (172,{ sz:=1,byt:=8,ag:=false,z:=[.v (.pointer none)],kd:=0 }),
 (173,{ sz:=1,byt:=24,ag:=false,z:=[.nil],kd:=6,es:=1,eb:=1,el:=5 }),
 (175,{ sz:=2,byt:=32,ag:=true,z:=[.v (.pointer none),.nil],kd:=4,fo:=[(0,1,false),(1,1,false)] }),
 (177,{ sz:=3,byt:=40,ag:=true,z:=[.v (.pointer none),.nil,.i .i64 (0:Int)],kd:=4,fo:=[(0,2,true),(2,1,false)] }),
 (206,{ sz:=8,byt:=128,ag:=true,z:=[.s (str []),.s (str []),.s (str []),.s (str []),.s (str []),.s (str []),.s (str []),.s (str [])],kd:=5,n:=8,es:=1,el:=9 }),
 (230,{ sz:=8,byt:=96,ag:=true,z:=[.i .i64 (0:Int),.s (str []),.s (str []),.i .i64 (0:Int),.i .i64 (0:Int),.s (str []),.s (str []),.i .i64 (0:Int)],kd:=5,n:=2,es:=4,el:=73 })]
theorem htt:TTOk Tryz.prog tt:=by
  unfold tt
  exact ⟨⟨by kernel_rfl,by kernel_rfl,by kernel_rfl,by kernel_rfl⟩,
    ⟨by kernel_rfl,by kernel_rfl,by kernel_rfl,by kernel_rfl⟩,
    ⟨by kernel_rfl,by kernel_rfl,by kernel_rfl,by kernel_rfl⟩,
    ⟨by kernel_rfl,by kernel_rfl,by kernel_rfl,by kernel_rfl⟩,
    ⟨by kernel_rfl,by kernel_rfl,by kernel_rfl,by kernel_rfl⟩,
    ⟨by kernel_rfl,by kernel_rfl,by kernel_rfl,by kernel_rfl⟩,
    ⟨by kernel_rfl,by kernel_rfl,by kernel_rfl,by kernel_rfl⟩,
    ⟨by kernel_rfl,by kernel_rfl,by kernel_rfl,by kernel_rfl⟩,
    ⟨by kernel_rfl,by kernel_rfl,by kernel_rfl,by kernel_rfl⟩,
    ⟨by kernel_rfl,by kernel_rfl,by kernel_rfl,by kernel_rfl⟩,
    ⟨by kernel_rfl,by kernel_rfl,by kernel_rfl,by kernel_rfl⟩,
    ⟨by kernel_rfl,by kernel_rfl,by kernel_rfl,by kernel_rfl⟩,
    ⟨by kernel_rfl,by kernel_rfl,by kernel_rfl,by kernel_rfl⟩,
    ⟨by kernel_rfl,by kernel_rfl,by kernel_rfl,by kernel_rfl⟩,
    ⟨by kernel_rfl,by kernel_rfl,by kernel_rfl,by kernel_rfl⟩,
    ⟨by kernel_rfl,by kernel_rfl,by kernel_rfl,by kernel_rfl⟩,
    ⟨by kernel_rfl,by kernel_rfl,by kernel_rfl,by kernel_rfl⟩,
    ⟨by kernel_rfl,by kernel_rfl,by kernel_rfl,by kernel_rfl⟩,
    ⟨by kernel_rfl,by kernel_rfl,by kernel_rfl,by kernel_rfl⟩,
    ⟨by kernel_rfl,by kernel_rfl,by kernel_rfl,by kernel_rfl⟩,
    ⟨by kernel_rfl,by kernel_rfl,by kernel_rfl,by kernel_rfl⟩,
    ⟨by kernel_rfl,by kernel_rfl,by kernel_rfl,by kernel_rfl⟩,
    ⟨by kernel_rfl,by kernel_rfl,by kernel_rfl,by kernel_rfl⟩,
    ⟨by kernel_rfl,by kernel_rfl,by kernel_rfl,by kernel_rfl⟩,
    ⟨by kernel_rfl,by kernel_rfl,by kernel_rfl,by kernel_rfl⟩,
    ⟨by kernel_rfl,by kernel_rfl,by kernel_rfl,by kernel_rfl⟩,
    ⟨by kernel_rfl,by kernel_rfl,by kernel_rfl,by kernel_rfl⟩,
    ⟨by kernel_rfl,by kernel_rfl,by kernel_rfl,by kernel_rfl⟩,
    ⟨by kernel_rfl,by kernel_rfl,by kernel_rfl,by kernel_rfl⟩,
    ⟨by kernel_rfl,by kernel_rfl,by kernel_rfl,by kernel_rfl⟩,
    ⟨by kernel_rfl,by kernel_rfl,by kernel_rfl,by kernel_rfl⟩,
    ⟨by kernel_rfl,by kernel_rfl,by kernel_rfl,by kernel_rfl⟩,
    ⟨by kernel_rfl,by kernel_rfl,by kernel_rfl,by kernel_rfl⟩,
    ⟨by kernel_rfl,by kernel_rfl,by kernel_rfl,by kernel_rfl⟩,
    ⟨by kernel_rfl,by kernel_rfl,by kernel_rfl,by kernel_rfl⟩,
    ⟨by kernel_rfl,by kernel_rfl,by kernel_rfl,by kernel_rfl⟩,
    ⟨by kernel_rfl,by kernel_rfl,by kernel_rfl,by kernel_rfl⟩,
    ⟨by kernel_rfl,by kernel_rfl,by kernel_rfl,by kernel_rfl⟩,
    ⟨by kernel_rfl,by kernel_rfl,by kernel_rfl,by kernel_rfl⟩,
    ⟨by kernel_rfl,by kernel_rfl,by kernel_rfl,by kernel_rfl⟩,
    ⟨by kernel_rfl,by kernel_rfl,by kernel_rfl,by kernel_rfl⟩,
    ⟨by kernel_rfl,by kernel_rfl,by kernel_rfl,by kernel_rfl⟩,
    ⟨by kernel_rfl,by kernel_rfl,by kernel_rfl,by kernel_rfl⟩,
    ⟨by kernel_rfl,by kernel_rfl,by kernel_rfl,by kernel_rfl⟩,
    ⟨by kernel_rfl,by kernel_rfl,by kernel_rfl,by kernel_rfl⟩,
    ⟨by kernel_rfl,by kernel_rfl,by kernel_rfl,by kernel_rfl⟩,
    ⟨by kernel_rfl,by kernel_rfl,by kernel_rfl,by kernel_rfl⟩,
    ⟨by kernel_rfl,by kernel_rfl,by kernel_rfl,by kernel_rfl⟩,
    ⟨by kernel_rfl,by kernel_rfl,by kernel_rfl,by kernel_rfl⟩,
    ⟨by kernel_rfl,by kernel_rfl,by kernel_rfl,by kernel_rfl⟩,
    ⟨by kernel_rfl,by kernel_rfl,by kernel_rfl,by kernel_rfl⟩,
    ⟨by kernel_rfl,by kernel_rfl,by kernel_rfl,by kernel_rfl⟩,
    ⟨by kernel_rfl,by kernel_rfl,by kernel_rfl,by kernel_rfl⟩,
    ⟨by kernel_rfl,by kernel_rfl,by kernel_rfl,by kernel_rfl⟩,
    ⟨by kernel_rfl,by kernel_rfl,by kernel_rfl,by kernel_rfl⟩,
    ⟨by kernel_rfl,by kernel_rfl,by kernel_rfl,by kernel_rfl⟩,
    ⟨by kernel_rfl,by kernel_rfl,by kernel_rfl,by kernel_rfl⟩,
    ⟨by kernel_rfl,by kernel_rfl,by kernel_rfl,by kernel_rfl⟩,trivial⟩
def J:=@htt
theorem Q {α:Sort _} {a:α}:a=a:=rfl
section
variable [LxP]
theorem wH {X:Ctx} {tt:List (Nat × TD)} (htt:TTOk X.P tt) (n:Nat) {b t:Bool} (K:b=t) {c:Cf} (k:Wc X (TV t (XM tt X.fn.ntmps n c))) (hp:(ZP (XM tt X.fn.ntmps n c).st.L (Ti (XM tt X.fn.ntmps n c)),Lf (XM tt X.fn.ntmps n c))=(some (.c (.b b)),Lk b (XM tt X.fn.ntmps n c)):=by kernel_rfl):Wc X c:=wa htt n (eK K k hp)
theorem wr {P:Program} {f:FuncId} {fn:Func} {ct:Ct} {E0:Env} {F0:Yu} {w0:World} {tt:List (Nat × TD)} (htt:TTOk P tt) (n:Nat) (hf:P.funcs[f]? = some fn) (l:List (Nat × SC)) {c:Cf}
    (hp:(Zew (XM tt fn.ntmps n c),M8 tt (XM tt fn.ntmps n c).st fn.results.toList,ct.V1.map (fun p=>TL (XM tt fn.ntmps n c).st ⟨l,0,0⟩ p.1 p.2),ct.M1.map (fun p=>WZ (XM tt fn.ntmps n c).st ⟨l,0,0⟩ p.1 p.2),
        (Tf ⟨l,0,0⟩ ct.res && XC (ct.M1.filterMap fun p=>Xr ⟨l,0,0⟩ p.1 p.2) && XC (ct.M1.map (·.1)) && l.all (fun p=>Nat.ble ct.nk p.1 && p.2.kbb (XM tt fn.ntmps n c).st.nx))) =
      (true,some (W2 ⟨l,0,0⟩ ct.res),ct.V1.map (fun p=>some p.2),ct.M1.map (fun p=>some (Vu ⟨l,0,0⟩ p.2)),true):=by kernel_rfl):Wc (ct.ctx P f fn E0 F0 w0) c:=wa (X:=ct.ctx P f fn E0 F0 w0) htt n (Y7 htt hf l hp)
theorem oi {α:Type} {a b:α} (h:some a=some b):a=b:=Zk h
theorem eB {X:Ctx} {b:Bool} {α:Type} {x y:Option α} {r:α} (h:(bif b then x else y)=some r) {c:Cf} (k1:x=some r->Wc X (TV true c)) (k2:y=some r->Wc X (TV false c)) (hp:(ZP c.st.L (Ti c),Lf c)=(some (.c (.b b)),Lk b c):=by kernel_rfl):Wc X c:=by
  rcases oc h with ⟨K,h⟩ | ⟨K,h⟩
  · exact eK K (k1 h) hp
  · exact eK K (k2 h) hp
theorem YZ {X:Ctx} {b:Bool} {α:Type} {x y:Option α} {r:α} (h:(bif b then x else y)=some r) {c:Cf} (k1:y=some r->Wc X (TV false c)) (k2:x=some r->Wc X (TV true c)) (hp:(ZP c.st.L (Ti c),Lf c)=(some (.c (.b b)),Lk b c):=by kernel_rfl):Wc X c:=eB h k2 k1 hp
theorem wB {X:Ctx} {tt:List (Nat × TD)} (htt:TTOk X.P tt) (n:Nat) {b:Bool} {α:Type} {x y:Option α} {r:α} (h:(bif b then x else y)=some r) {c:Cf} (k1:x=some r->Wc X (TV true (XM tt X.fn.ntmps n c))) (k2:y=some r->Wc X (TV false (XM tt X.fn.ntmps n c))) (hp:(ZP (XM tt X.fn.ntmps n c).st.L (Ti (XM tt X.fn.ntmps n c)),Lf (XM tt X.fn.ntmps n c))=(some (.c (.b b)),Lk b (XM tt X.fn.ntmps n c)):=by kernel_rfl):Wc X c:=by
  rcases oc h with ⟨K,h⟩ | ⟨K,h⟩
  · exact wH htt n K (k1 h) hp
  · exact wH htt n K (k2 h) hp
theorem ZQ {X:Ctx} {tt:List (Nat × TD)} (htt:TTOk X.P tt) (n:Nat) {b:Bool} {α:Type} {x y:Option α} {r:α} (h:(bif b then x else y)=some r) {c:Cf} (k1:y=some r->Wc X (TV false (XM tt X.fn.ntmps n c))) (k2:x=some r->Wc X (TV true (XM tt X.fn.ntmps n c))) (hp:(ZP (XM tt X.fn.ntmps n c).st.L (Ti (XM tt X.fn.ntmps n c)),Lf (XM tt X.fn.ntmps n c))=(some (.c (.b b)),Lk b (XM tt X.fn.ntmps n c)):=by kernel_rfl):Wc X c:=wB htt n h k2 k1 hp
theorem wO {X:Ctx} {tt:List (Nat × TD)} (htt:TTOk X.P tt) (n:Nat) {α β:Type} {o:Option α} {f:α->Option β} {r:β} (h:o.bind f=some r) {c:Cf} (k:∀ x,o=some x->f x=some r->Wc X (XM tt X.fn.ntmps n c)):Wc X c:=by
  have ⟨x,e,h⟩:=ob h
  exact wa htt n (k x e h)
end
abbrev WH:=fun L=>(⟨L,[],[],0⟩:St)
abbrev V9:=fun x0 L=>(⟨L,[],[(0,.sl rS x0)],1⟩:St)
abbrev Ua:=fun x0 L=>(⟨L,[],[(0,.sl Yo x0)],1⟩:St)
abbrev QA:=fun x0 L=>(⟨L,[],[(0,.sl Yp x0)],1⟩:St)
abbrev QC:=fun x0 x1 L=>(⟨L,[(2,.box [.s x0,.sl 0,.sl 1] 71)],(Wk 0 1 x1 []),3⟩:St)
abbrev Hx:=fun x0 x1 L=>(⟨L,[(0,.box [.s x0,.I x1] 154)],[],1⟩:St)
abbrev Hy:=fun x0 L=>(⟨L,[],[(0,.sl Yp x0)],9⟩:St)
abbrev Hz:=fun x0 x1 x2 x3 x4 x5 x6 L=>(⟨L,[(2,.box [.I x0,.s x1,.sl 0,.s x2,.s x3,.I x4,.sl 1] 83)],[(0,.sl rS x5),(1,.sl (Yk Yo) x6)],3⟩:St)
abbrev zz8:=fun x0 L=>(⟨L,[(0,.box (W8 x0) 154),(1,.box [.I 0,.s (str []),.I 0,.I 0] 158)],[],2⟩:St)
abbrev zz9:=fun x0 L=>(⟨L,[(0,.own rS x0 true)],[],1⟩:St)
abbrev Zc4:=fun x0 x1 x2 L=>(⟨L,[(1,.box [.s x0,.sl 2,.sl 3,.sl 4] 35)],((0,.sl ZV x1)::Yz 2 3 4 x2 []),5⟩:St)
abbrev Zc5:=fun x0 x1 x2 x3 x4 x5 x6 x7 L=>(⟨L,[(1,.box [.I x0,.s x1,.sl 2,.s x2,.s x3,.I x4,.sl 3] 27)],[(0,.sl Xv x5),(2,.sl rS x6),(3,.sl (Yk ZR) x7)],4⟩:St)
abbrev Zc6:=fun x0 x1 x2 x3 x4 x5 x6 x7 x8 x9 x10 L=>(⟨L,[(0,.box [.sl 6,.s x0,.sl 7,.sl 8,.sl 9,.sl 10,.s x1,.s x2,.I x3] 86),(10,.own rS x4 false)],((1,.sl ZV x5)::Yz 2 3 4 x6 [(6,.sl ZV x7),(7,.sl rS x8),(8,.sl YE x9),(9,.sl ZR x10)]),11⟩:St)
abbrev Zf8:=fun x0 x1 x2 x3 x4 x5 x6 x7 x8 x9 x10 x11 x12 x13 x14 x15 x16 x17 x18 x19 x20 L=>(⟨L,[(0,.box [.sl 18,.s x0,.sl 19,.sl 20,.sl 21,.sl 22,.s x1,.s x2,.I x3] 86),(16,.box [.I x4,.s x5,.sl 14,.s x6,.s x7,.I x8,.sl 15] 27),(22,.own rS x9 false),(23,.own Xv x10 true)],((1,.sl ZV x11)::Yz 2 3 4 x12 [(6,.sl ZR x13),(7,.sl Xv x14),(14,.sl rS x15),(15,.sl (Yk ZR) x16),(18,.sl ZV x17),(19,.sl rS x18),(20,.sl YE x19),(21,.sl ZR x20)]),24⟩:St)
abbrev Zf9:=fun x0 x1 x2 x3 x4 x5 x6 x7 x8 x9 x10 x11 x12 L=>(⟨L,[(0,.av x0),(2,.box [.sl 0,.s x1] 105),(3,.own ZR x2 true),(7,.box [.I x3,.s x4,.sl 5,.s x5,.s x6,.I x7,.sl 6] 27),(8,.box [.I x3,.s x8,.sl 9,.s x5,.s x6,.I x7,.nil] 27),(9,.own rS x9 true)],[(1,.sl ZR x10),(5,.sl rS x11),(6,.sl (Yk ZR) x12)],10⟩:St)
abbrev Zga:=fun x0 x1 x2 x3 x4 x5 x6 x7 x8 x9 x10 x11 x12 x13 L=>(⟨L,[(0,.box [.sl 16,.s x0,.sl 17,.sl 18,.sl 19,.sl 20,.s x1,.s x2,.I x3] 117),(8,.box [.s x4,.sl 6,.sl 7] 71),(15,.box (Wz x5) 128),(20,.own rS x6 false)],((1,.sl Yp x7)::YV 2 3 4 x8 (Wk 6 7 x9 [(16,.sl Yp x10),(17,.sl rS x11),(18,.sl Xp x12),(19,.sl Yo x13)])),21⟩:St)
abbrev ZkS:=fun x0 x1 L=>(⟨L,[(0,.box (W8 x0) 154),(1,.box [.I 0,.s (str []),.I 0,.I 0] 158),(2,.box [.I 2,.s (str []),.I x1,.I 0] 158)],[],3⟩:St)
abbrev ZkT:=fun x0 x1 x2 L=>(⟨L,[(0,.box [.s x0,.I x1] 154),(1,.box [.I 0,.s (str []),.I 0,.I 0] 158),(2,.own (rI .u8) x2 true)],[],3⟩:St)
abbrev ZkU:=fun x0 x1 x2 x3 x4 x5 x6 x7 x8 L=>(⟨L,[(0,.box [.sl 13,.I x0,.I x1,.I x2,.I x3] 99),(2,.box [.s (str []),.nil,.nil] 32),(4,.box [.s x4,.sl 8,.sl 14] 32),(8,.own Xs x5 true),(14,.own Vt x6 true)],[(1,.sl Yv x7),(13,.sl Yv x8)],15⟩:St)
abbrev ZkV:=fun x0 x1 x2 x3 x4 x5 x6 x7 L=>(⟨L,[(0,.box [.sl 10,.I x0,.I x1,.I x2,.I x3] 99),(2,.box [.s (str []),.nil,.nil] 32),(4,.box [.s x4,.sl 11,.nil] 32),(11,.own Xs x5 true)],[(1,.sl Yv x6),(10,.sl Yv x7)],12⟩:St)
abbrev ZkW:=fun x0 x1 x2 x3 x4 x5 x6 x7 x8 L=>(⟨L,[(0,.box [.sl 11,.I x0,.I x1,.I x2,.I x3] 99),(2,.box [.I 0,.s (str []),.nil,.s (str []),.s (str []),.I 0,.nil] 27),(5,.box [.I 2,.s x4,.nil,.s (str []),.s (str []),.I x5,.sl 12] 27),(12,.own (Yk ZR) x6 true)],[(1,.sl Yv x7),(11,.sl Yv x8)],13⟩:St)
abbrev ZkX:=fun x0 x1 x2 x3 x4 x5 x6 L=>(⟨L,[(0,.box [.sl 16,.I x0,.I x1,.I x2,.I x3] 99),(2,.box [.I 0,.s (str []),.nil,.s (str []),.s (str []),.I 0,.nil] 27),(10,.box [.I 5,.s (str []),.nil,.s (str []),.s (str []),.I 0,.sl 17] 27),(17,.own (Yk ZR) x4 true)],[(1,.sl Yv x5),(16,.sl Yv x6)],18⟩:St)
abbrev ZkY:=fun x0 x1 x2 x3 x4 x5 x6 x7 x8 L=>(⟨L,[(0,.box [.sl 11,.I x0,.I x1,.I x2,.I x3] 99),(2,.box [.s (str []),.nil,.nil,.nil] 35),(5,.box [.s x4,.sl 7,.sl 12,.nil] 35),(7,.own rS x5 true),(12,.own YE x6 true)],[(1,.sl Yv x7),(11,.sl Yv x8)],13⟩:St)
abbrev ZkZ:=fun x0 x1 x2 x3 x4 x5 L=>(⟨L,[(2,.box [.bp 2 0,.sl 3,.I x0] 177),(3,.buf x1 5),(4,.abs x2),(5,.box [.s x3,.sl 0,.sl 1] 32),(6,.own rS x4 true)],(Xu 0 1 x5 []),7⟩:St)
abbrev Zk0:=fun x0 x1 x2 x3 x4 x5 x6 L=>(⟨L,[(2,.box [.bp 2 0,.sl 3,.I x0] 177),(3,.buf x1 5),(4,.abs x2),(5,.box [.s x3,.sl 0,.sl 1] 32),(6,.own rS x4 true),(7,.own rS x5 true)],(Xu 0 1 x6 []),8⟩:St)
abbrev Zk1:=fun x0 x1 x2 x3 x4 x5 L=>(⟨L,[(1,.abs x0),(2,.box [.bp 2 0,.sl 10,.I x1] 177),(7,.box [.s x2,.sl 4,.sl 5,.sl 6] 35),(10,.buf x3 5)],((0,.sl ZV x4)::Yz 4 5 6 x5 []),11⟩:St)
abbrev Zk2:=fun x0 x1 x2 x3 x4 x5 L=>(⟨L,[(1,.abs x0),(2,.box [.bp 2 0,.sl 22,.I x1] 177),(19,.box [.s x2,.sl 16,.sl 17,.sl 18] 35),(22,.buf x3 5)],((0,.sl ZV x4)::Yz 16 17 18 x5 []),23⟩:St)
abbrev Zk3:=fun x0 x1 x2 x3 x4 x5 x6 x7 x8 x9 x10 x11 x12 x13 x14 x15 x16 x17 L=>(⟨L,[(0,.box [.sl 18,.s x0,.sl 19,.sl 20,.sl 21,.sl 22,.s x1,.s x2,.I x3] 86),(8,.box [.I x4,.s x5,.sl 6,.s x6,.s x7,.I x8,.sl 7] 27),(22,.own rS x9 false)],((1,.sl ZV x10)::Yz 2 3 4 x11 [(6,.sl rS x12),(7,.sl (Yk ZR) x13),(18,.sl ZV x14),(19,.sl rS x15),(20,.sl YE x16),(21,.sl ZR x17)]),23⟩:St)
abbrev Zk4:=fun x0 x1 x2 x3 x4 x5 x6 x7 x8 x9 x10 x11 x12 L=>(⟨L,[(0,.box [.sl 8,.s x0,.sl 9,.sl 10,.sl 11,.sl 12,.s x1,.s x2,.I x3] 86),(12,.own rS x4 false)],((1,.sl ZV x5)::Yz 2 3 4 x6 [(6,.sl ZR x7),(7,.sl Xv x8),(8,.sl ZV x9),(9,.sl rS x10),(10,.sl YE x11),(11,.sl ZR x12)]),13⟩:St)
abbrev Zk5:=fun x0 x1 x2 x3 x4 x5 x6 x7 x8 x9 x10 x11 x12 x13 x14 x15 x16 x17 x18 x19 x20 L=>(⟨L,[(0,.box [.sl 8,.s x0,.sl 9,.sl 10,.sl 11,.sl 12,.s x1,.s x2,.I x3] 86),(12,.own rS x4 false),(16,.box [.I x5,.s x6,.sl 14,.s x7,.s x8,.I x9,.sl 15] 27),(17,.own Xv x10 true)],((1,.sl ZV x11)::Yz 2 3 4 x12 [(6,.sl ZR x13),(7,.sl Xv x14),(8,.sl ZV x15),(9,.sl rS x16),(10,.sl YE x17),(11,.sl ZR x18),(14,.sl rS x19),(15,.sl (Yk ZR) x20)]),18⟩:St)
abbrev Zk6:=fun x0 x1 x2 x3 x4 x5 x6 x7 x8 x9 x10 x11 x12 x13 L=>(⟨L,[(0,.box [.sl 29,.s x0,.sl 30,.sl 31,.sl 32,.sl 33,.s x1,.s x2,.I x3] 86),(14,.box [.s x4,.sl 12,.sl 13] 32),(27,.box (Wz x5) 128),(33,.own rS x6 false)],((1,.sl ZV x7)::Yz 2 3 4 x8 (Xu 12 13 x9 [(29,.sl ZV x10),(30,.sl rS x11),(31,.sl YE x12),(32,.sl ZR x13)])),34⟩:St)
abbrev Zk7:=fun x0 x1 x2 x3 x4 x5 x6 x7 x8 x9 x10 x11 x12 x13 x14 x15 x16 x17 x18 x19 x20 x21 x22 x23 L=>(⟨L,[(0,.box [.sl 24,.s x0,.sl 25,.sl 26,.sl 27,.sl 28,.s x1,.s x2,.I x3] 86),(14,.box [.s x4,.sl 12,.sl 13] 32),(21,.box [.I x5,.s x6,.s x7,.I x8,.s x9,.I x10,.s x11,.s x12,.I x13] 78),(22,.box [.I x5,.s x6,.s x7,.I x8,.I x10,.s x11,.s x12,.I x13] 131),(23,.box [.I x14,.I x15] 132),(28,.own rS x16 false)],((1,.sl ZV x17)::Yz 2 3 4 x18 (Xu 12 13 x19 [(24,.sl ZV x20),(25,.sl rS x21),(26,.sl YE x22),(27,.sl ZR x23)])),29⟩:St)
abbrev Zk8:=fun x0 x1 x2 x3 x4 x5 x6 x7 x8 x9 x10 x11 x12 x13 x14 x15 x16 x17 x18 x19 x20 x21 x22 x23 x24 x25 x26 x27 L=>(⟨L,[(0,.box [.sl 29,.s x0,.sl 30,.sl 31,.sl 32,.sl 33,.s x1,.s x2,.I x3] 86),(14,.box [.s x4,.sl 12,.sl 13] 32),(21,.box [.I x5,.s x6,.s x7,.I x8,.s x9,.I x10,.s x11,.s x12,.I x13] 78),(23,.box [.I x14,.I x15] 132),(33,.own rS x16 false),(34,.box [.I x17,.s x18,.s x19,.I x20] 76)],((1,.sl ZV x21)::Yz 2 3 4 x22 (Xu 12 13 x23 [(29,.sl ZV x24),(30,.sl rS x25),(31,.sl YE x26),(32,.sl ZR x27)])),35⟩:St)
abbrev Zk9:=fun x0 x1 L=>(⟨L,[(1,.box (Xe 2 3 4 5 6 x0) 86),(7,.box [.bp 1 0] 84)],((0,.sl rS x1)::Q8 2 3 4 5 6 x0 []),8⟩:St)
abbrev Zla:=fun x0 x1 L=>(⟨L,[(0,.own rS x0 false),(1,.box (Xe 2 3 4 5 6 x1) 86),(7,.box [.bp 1 0] 84)],(Q8 2 3 4 5 6 x1 []),8⟩:St)
abbrev Zlb:=fun x0 x1 x2 x3 x4 L=>(⟨L,[(0,.box (Xe 1 2 3 4 5 x0) 86),(5,.own rS x1 false),(6,.box [.bp 0 0] 84),(8,.own rS x2 true)],((1,.sl ZV x3)::Yz 2 3 4 x4 []),9⟩:St)
abbrev Zlc:=fun x0 x1 L=>(⟨L,[(1,.abs x0),(2,.box [.s (str []),.s (str []),.I 0] 52)],[(0,.sl ZV x1)],3⟩:St)
abbrev Zld:=fun x0 x1 x2 x3 x4 x5 x6 x7 x8 x9 x10 x11 x12 L=>(⟨L,[(1,.abs x0),(2,.box [.s (str []),.s (str []),.I 0] 52),(7,.box [.s x1,.sl 4,.sl 5,.sl 6] 35),(8,.box [.sl 15,.s x2,.sl 16,.sl 17,.sl 18,.sl 19,.s x3,.s x4,.I x5] 86),(19,.own rS x6 true)],((0,.sl ZV x7)::Yz 4 5 6 x8 [(15,.sl ZV x9),(16,.sl rS x10),(17,.sl YE x11),(18,.sl ZR x12)]),20⟩:St)
abbrev Zle:=fun x0 x1 x2 x3 x4 x5 x6 x7 x8 L=>(⟨L,[(6,.box [.I x0,.s x1,.sl 4,.s x2,.s x3,.I x4,.sl 5] 27),(7,.own rS x5 false)],[(0,.sl ZR x6),(4,.sl rS x7),(5,.sl (Yk ZR) x8)],8⟩:St)
abbrev Zlf:=fun x0 x1 x2 x3 x4 x5 L=>(⟨L,[(1,.box [.sl 2,.sl 3] 62),(2,.av x0),(3,.av x1),(4,.box [.bp 1 0] 59),(5,.box [.sl 6] 65),(6,.av x2),(7,.box [.s x3,.sl 8,.sl 9,.sl 10] 35),(11,.box [.cl 34 [] [4,5,7,11]] 101)],((0,.sl ZR x4)::Yz 8 9 10 x5 []),12⟩:St)
abbrev Zlg:=fun x0 x1 x2 x3 x4 x5 x6 x7 x8 x9 x10 L=>(⟨L,[(1,.box [.sl 2,.sl 3] 62),(2,.av x0),(3,.av x1),(4,.box [.bp 1 0] 59),(5,.box [.b x2] 4),(6,.box [.s x3,.sl 11,.sl 12,.sl 13] 35),(10,.box [.cl 38 [] [4,5,6,10]] 108),(12,.own YE x4 false),(14,.own ZR x5 true)],[(0,.sl ZR x6),(7,.sl rS x7),(9,.sl ZR x8),(11,.sl rS x9),(13,.sl ZR x10)],15⟩:St)
abbrev Zlh:=fun x0 x1 x2 x3 x4 x5 x6 x7 x8 x9 x10 L=>(⟨L,[(1,.box [.sl 2,.sl 3] 62),(2,.av x0),(3,.av x1),(4,.box [.bp 1 0] 59),(5,.box [.b x2] 4),(6,.box [.s x3,.sl 19,.sl 20,.sl 21] 35),(10,.box [.cl 38 [] [4,5,6,10]] 108),(20,.own YE x4 false),(22,.own ZR x5 true)],[(0,.sl ZR x6),(7,.sl rS x7),(9,.sl ZR x8),(19,.sl rS x9),(21,.sl ZR x10)],23⟩:St)
abbrev Zli:=fun x0 x1 x2 x3 L=>(⟨L,[(1,.abs x0),(2,.box [.s (str []),.nil,.nil,.nil] 35),(3,.av x1),(4,.av x2),(5,.box [.sl 3,.sl 4] 62)],[(0,.sl ZV x3)],6⟩:St)
abbrev Zlj:=fun x0 x1 x2 x3 x4 x5 L=>(⟨L,[(6,.box [.s x0,.sl 9,.sl 10] 71),(7,.box (XE x1) 73),(8,.box [.s (str []),.I 0,.I 0,.I 0] 128)],(YV 0 1 2 x2 (Wk 3 4 x3 [(9,.sl Xs x4),(10,.sl Q3 x5)])),11⟩:St)
abbrev Zlk:=fun x0 x1 x2 x3 x4 x5 x6 x7 x8 x9 x10 x11 L=>(⟨L,[(0,.box [.sl 7,.s x0,.sl 8,.sl 9,.sl 10,.sl 11,.s x1,.s x2,.I x3] 117),(11,.own rS x4 false)],((1,.sl Yp x5)::YV 2 3 4 x6 [(6,.sl rS x7),(7,.sl Yp x8),(8,.sl rS x9),(9,.sl Xp x10),(10,.sl Yo x11)]),12⟩:St)
abbrev Zll:=fun x0 x1 x2 x3 x4 x5 x6 x7 x8 x9 x10 x11 x12 L=>(⟨L,[(0,.box [.sl 8,.s x0,.sl 9,.sl 10,.sl 11,.sl 12,.s x1,.s x2,.I x3] 117),(12,.own rS x4 false)],((1,.sl Yp x5)::YV 2 3 4 x6 [(6,.sl Yo x7),(7,.sl rS x8),(8,.sl Yp x9),(9,.sl rS x10),(10,.sl Xp x11),(11,.sl Yo x12)]),13⟩:St)
abbrev Zlm:=fun x0 x1 x2 x3 x4 x5 x6 x7 x8 x9 x10 L=>(⟨L,[(0,.box [.sl 11,.s x0,.sl 12,.sl 13,.sl 14,.sl 15,.s x1,.s x2,.I x3] 117),(15,.own rS x4 false)],((1,.sl Yp x5)::YV 2 3 4 x6 [(11,.sl Yp x7),(12,.sl rS x8),(13,.sl Xp x9),(14,.sl Yo x10)]),16⟩:St)
abbrev Zln:=fun x0 x1 x2 x3 x4 x5 x6 x7 x8 x9 L=>(⟨L,[(1,.box [.s (str []),.s (str []),.I 0] 79),(6,.box [.sl 7,.s x0,.sl 8,.sl 9,.sl 10,.sl 11,.s x1,.s x2,.I x3] 117),(11,.own rS x4 true)],[(0,.sl Yp x5),(7,.sl Yp x6),(8,.sl rS x7),(9,.sl Xp x8),(10,.sl Yo x9)],12⟩:St)
abbrev Zlo:=fun x0 x1 x2 x3 x4 x5 x6 x7 x8 x9 L=>(⟨L,[(1,.box [.s (str []),.s (str []),.I 0] 79),(6,.box [.sl 12,.s x0,.sl 13,.sl 14,.sl 15,.sl 16,.s x1,.s x2,.I x3] 117),(16,.own rS x4 true)],[(0,.sl Yp x5),(12,.sl Yp x6),(13,.sl rS x7),(14,.sl Xp x8),(15,.sl Yo x9)],17⟩:St)
end Gx
end
