/- How typed values lie in the machine, and the types of the program. -/
import Derived.Test.YteimgnlbpphmjaaGreatDoorChecked
import Derived.Test.YteimgnlbpphmjaaGreatDoorSyntaxPrintPure
import Derived.Test.YteimgnlbpphmjaaGreatDoorSyntaxPrintLib
set_option linter.all false
section
open Go Go.Kx Go.Proofs
namespace Gx
abbrev rR1:TRep T1:=rM (fun x=>(x.Kind,x.Lo,x.Hi)) (rP (rI .i64) (rP (rI .i64) (rI .i64)))
abbrev oO1:Opn rR1:=oM _ (oP (oI .i64) (oP (oI .i64) (oI .i64)))
abbrev rR0:TRep T0:=rM (fun x=>(x.Name,x.Sort')) (rP rS rR1)
abbrev oO0:Opn rR0:=oM _ (oP oS oO1)
abbrev rR13:TRep T13:=rM (fun x=>(x.Kind,x.Message,x.Field,x.N)) (rP (rI .i64) (rP rS (rP rS (rI .i64))))
abbrev oO13:Opn rR13:=oM _ (oP (oI .i64) (oP oS (oP oS (oI .i64))))
abbrev rR9:TRep T9:=rM (fun x=>(x.Left,x.Op,x.Right)) (rP rR13 (rP rS rR13))
abbrev oO9:Opn rR9:=oM _ (oP oO13 (oP oS oO13))
abbrev rR11:TRep T11:=rM (fun x=>(x.Name,x.Fields,x.Where)) (rP rS (rP (rSl rR0) (rSl rR9)))
abbrev oO11:Opn rR11:=oM _ (oP oS (oP (oSl rR0) (oSl rR9)))
abbrev r_syntax_Item_F (R:TRep T10):TRep T10:=rM (fun x=>(x.Kind,x.From,x.To,x.Name,x.As,x.Ticks,x.Blocks)) (rP (rI .i64) (rP rS (rP (rSl rS) (rP rS (rP rS (rP (rI .i64) (rSl (rSl R))))))))
theorem r_syntax_Item_mono:MonoR r_syntax_Item_F:=mono_M _ (mono_P (mono_const _) (mono_P (mono_const _) (mono_P (mono_const _) (mono_P (mono_const _) (mono_P (mono_const _) (mono_P (mono_const _) (mono_Sl (mono_Sl mono_id))))))))
abbrev rR10:TRep T10:=rFix r_syntax_Item_F 7 (by decide) (fun _ _=>rfl)
abbrev oO10:Opn rR10:=Opn.of (rFix_iff r_syntax_Item_mono) (oM _ (oP (oI .i64) (oP oS (oP (oSl rS) (oP oS (oP oS (oP (oI .i64) (oSl (rSl rR10)))))))))
abbrev rR12:TRep T12:=rM (fun x=>(x.Name,x.Roles,x.Messages,x.Body)) (rP rS (rP (rSl rS) (rP (rSl rR11) (rSl rR10))))
abbrev oO12:Opn rR12:=oM _ (oP oS (oP (oSl rS) (oP (oSl rR11) (oSl rR10))))
abbrev rR2:TRep T2:=rM (fun x=>(x.Kind,x.Text,x.Value,x.From)) (rP (rI .i64) (rP rS (rP (rI .i64) (rI .i64))))
abbrev oO2:Opn rR2:=oM _ (oP (oI .i64) (oP oS (oP (oI .i64) (oI .i64))))
abbrev rR3:TRep T3:=rM (fun x=>(x.s',x.at')) (rP rS (rI .i64))
abbrev oO3:Opn rR3:=oM _ (oP oS (oI .i64))
abbrev rR14:TRep T14:=rM (fun x=>(x.l',x.n',x.end',x.at',x.err')) (rP (rSl rR2) (rP (rI .i64) (rP (rI .i64) (rP (rI .i64) (rI .i64)))))
abbrev oO14:Opn rR14:=oM _ (oP (oSl rR2) (oP (oI .i64) (oP (oI .i64) (oP (oI .i64) (oI .i64)))))
abbrev rR4:TRep T4:=rM (fun x=>(x.Left,x.Op,x.Right)) (rP rR13 (rP rS rR13))
abbrev oO4:Opn rR4:=oM _ (oP oO13 (oP oS oO13))
abbrev rR6:TRep T6:=rM (fun x=>(x.Name,x.Fields,x.Where)) (rP rS (rP (rSl rR0) (rSl rR4)))
abbrev oO6:Opn rR6:=oM _ (oP oS (oP (oSl rR0) (oSl rR4)))
abbrev r_ref10_Item_F (R:TRep T5):TRep T5:=rM (fun x=>(x.Kind,x.From,x.To,x.Name,x.As,x.Ticks,x.Blocks)) (rP (rI .i64) (rP rS (rP (rSl rS) (rP rS (rP rS (rP (rI .i64) (rSl (rSl R))))))))
theorem r_ref10_Item_mono:MonoR r_ref10_Item_F:=mono_M _ (mono_P (mono_const _) (mono_P (mono_const _) (mono_P (mono_const _) (mono_P (mono_const _) (mono_P (mono_const _) (mono_P (mono_const _) (mono_Sl (mono_Sl mono_id))))))))
abbrev rR5:TRep T5:=rFix r_ref10_Item_F 7 (by decide) (fun _ _=>rfl)
abbrev oO5:Opn rR5:=Opn.of (rFix_iff r_ref10_Item_mono) (oM _ (oP (oI .i64) (oP oS (oP (oSl rS) (oP oS (oP oS (oP (oI .i64) (oSl (rSl rR5)))))))))
abbrev rR7:TRep T7:=rM (fun x=>(x.Name,x.Roles,x.Messages,x.Body)) (rP rS (rP (rSl rS) (rP (rSl rR6) (rSl rR5))))
abbrev oO7:Opn rR7:=oM _ (oP oS (oP (oSl rS) (oP (oSl rR6) (oSl rR5))))
abbrev rR8:TRep T8:=rM (fun x=>(x.s',x.l',x.next',x.at',x.e')) (rP rS (rP (rSl rR2) (rP (rI .i64) (rP (rI .i64) (rI .i64)))))
abbrev oO8:Opn rR8:=oM _ (oP oS (oP (oSl rR2) (oP (oI .i64) (oP (oI .i64) (oI .i64)))))
end Gx
namespace Go.Kx
abbrev SV.I (n:Int):SV:=.c (.i .i64 n)
abbrev SC.I (n:Int):SC:=.i .i64 n
abbrev SV.O (b:Bool):SV:=.c (.b b)
abbrev SV.B (k o:Nat):SV:=.c (.bp k o)
abbrev SV.P (k o:Nat):SV:=.c (.px k o)
abbrev SV.S (k:Nat):SV:=.c (.sl k)
end Go.Kx
namespace Gx
def rg (a:Nat):Nat→List Nat
  | 0=>[]
  | n+1=>a::rg (a+1) n
abbrev cC0 (e:T0):List SC:=[.s e.Name,.i .i64 e.Sort'.Kind,.i .i64 e.Sort'.Lo,.i .i64 e.Sort'.Hi]
abbrev cC13 (e:T13):List SC:=[.i .i64 e.Kind,.s e.Message,.s e.Field,.i .i64 e.N]
abbrev vV11 (k0 k1:Nat) (e:T11) (l:List (Nat × VF)):List (Nat × VF):=(k0,.sl rR0 e.Fields)::(k1,.sl rR9 e.Where)::l
abbrev vV12 (k0 k1 k2:Nat) (e:T12) (l:List (Nat × VF)):List (Nat × VF):=(k0,.sl rS e.Roles)::(k1,.sl rR11 e.Messages)::(k2,.sl rR10 e.Body)::l
abbrev cC2 (e:T2):List SC:=[.i .i64 e.Kind,.s e.Text,.i .i64 e.Value,.i .i64 e.From]
abbrev cC3 (e:T3):List SC:=[.s e.s',.i .i64 e.at']
abbrev cC14 (k0:Nat) (e:T14):List SC:=[.sl k0,.i .i64 e.n',.i .i64 e.end',.i .i64 e.at',.i .i64 e.err']
abbrev vV6 (k0 k1:Nat) (e:T6) (l:List (Nat × VF)):List (Nat × VF):=(k0,.sl rR0 e.Fields)::(k1,.sl rR4 e.Where)::l
abbrev vV7 (k0 k1 k2:Nat) (e:T7) (l:List (Nat × VF)):List (Nat × VF):=(k0,.sl rS e.Roles)::(k1,.sl rR6 e.Messages)::(k2,.sl rR5 e.Body)::l
abbrev cC8 (k0:Nat) (e:T8):List SC:=[.s e.s',.sl k0,.i .i64 e.next',.i .i64 e.at',.i .i64 e.e']
def tt:List (Nat × TD):=[
 (3,{ sz:=1,byt:=8,ag:=false,z:=[.i .i64 (0:Int)],kd:=3,ik:=some .i64 }),
 (4,{ sz:=1,byt:=1,ag:=false,z:=[.b false],kd:=1 }),
 (5,{ sz:=1,byt:=1,ag:=false,z:=[.i .u8 (0:Int)],kd:=3,ik:=some .u8 }),
 (9,{ sz:=1,byt:=16,ag:=false,z:=[.s (str [])],kd:=2 }),
 (21,{ sz:=1,byt:=4,ag:=false,z:=[.i .i32 (0:Int)],kd:=3,ik:=some .i32 }),
 (23,{ sz:=1,byt:=24,ag:=false,z:=[.nil],kd:=6,es:=4,eb:=88,el:=57 }),
 (24,{ sz:=1,byt:=8,ag:=false,z:=[.i .i64 (0:Int)],kd:=3,ik:=some .i64 }),
 (27,{ sz:=1,byt:=24,ag:=false,z:=[.nil],kd:=6,es:=4,eb:=88,el:=68 }),
 (42,{ sz:=1,byt:=24,ag:=false,z:=[.nil],kd:=6,es:=4,eb:=40,el:=46 }),
 (46,{ sz:=4,byt:=40,ag:=true,z:=[.i .i64 (0:Int),.s (str []),.i .i64 (0:Int),.i .i64 (0:Int)],kd:=4,fo:=[(0,1,false),(1,1,false),(2,1,false),(3,1,false)] }),
 (47,{ sz:=1,byt:=24,ag:=false,z:=[.nil],kd:=6,es:=1,eb:=1,el:=5 }),
 (48,{ sz:=1,byt:=24,ag:=false,z:=[.nil],kd:=6,es:=1,eb:=16,el:=9 }),
 (53,{ sz:=5,byt:=56,ag:=true,z:=[.nil,.i .i64 (0:Int),.i .i64 (0:Int),.i .i64 (0:Int),.i .i64 (0:Int)],kd:=4,fo:=[(0,1,false),(1,1,false),(2,1,false),(3,1,false),(4,1,false)] }),
 (54,{ sz:=1,byt:=24,ag:=false,z:=[.nil],kd:=6,es:=3,eb:=64,el:=77 }),
 (55,{ sz:=1,byt:=24,ag:=false,z:=[.nil],kd:=6,es:=7,eb:=112,el:=129 }),
 (57,{ sz:=4,byt:=88,ag:=true,z:=[.s (str []),.nil,.nil,.nil],kd:=4,fo:=[(0,1,false),(1,1,false),(2,1,false),(3,1,false)] }),
 (59,{ sz:=1,byt:=24,ag:=false,z:=[.nil],kd:=6,es:=4,eb:=40,el:=115 }),
 (64,{ sz:=5,byt:=64,ag:=true,z:=[.s (str []),.nil,.i .i64 (0:Int),.i .i64 (0:Int),.i .i64 (0:Int)],kd:=4,fo:=[(0,1,false),(1,1,false),(2,1,false),(3,1,false),(4,1,false)] }),
 (65,{ sz:=1,byt:=24,ag:=false,z:=[.nil],kd:=6,es:=3,eb:=64,el:=80 }),
 (66,{ sz:=1,byt:=24,ag:=false,z:=[.nil],kd:=6,es:=7,eb:=112,el:=121 }),
 (68,{ sz:=4,byt:=88,ag:=true,z:=[.s (str []),.nil,.nil,.nil],kd:=4,fo:=[(0,1,false),(1,1,false),(2,1,false),(3,1,false)] }),
 (74,{ sz:=1,byt:=24,ag:=false,z:=[.nil],kd:=6,es:=4,eb:=40,el:=126 }),
 (75,{ sz:=1,byt:=24,ag:=false,z:=[.nil],kd:=6,es:=9,eb:=112,el:=84 }),
 (77,{ sz:=3,byt:=64,ag:=true,z:=[.s (str []),.nil,.nil],kd:=4,fo:=[(0,1,false),(1,1,false),(2,1,false)] }),
 (78,{ sz:=1,byt:=24,ag:=false,z:=[.nil],kd:=6,es:=9,eb:=112,el:=87 }),
 (80,{ sz:=3,byt:=64,ag:=true,z:=[.s (str []),.nil,.nil],kd:=4,fo:=[(0,1,false),(1,1,false),(2,1,false)] }),
 (82,{ sz:=4,byt:=48,ag:=true,z:=[.i .i64 (0:Int),.s (str []),.s (str []),.i .i64 (0:Int)],kd:=4,fo:=[(0,1,false),(1,1,false),(2,1,false),(3,1,false)] }),
 (84,{ sz:=9,byt:=112,ag:=true,z:=[.i .i64 (0:Int),.s (str []),.s (str []),.i .i64 (0:Int),.s (str []),.i .i64 (0:Int),.s (str []),.s (str []),.i .i64 (0:Int)],kd:=4,fo:=[(0,4,true),(4,1,false),(5,4,true)] }),
 (85,{ sz:=4,byt:=48,ag:=true,z:=[.i .i64 (0:Int),.s (str []),.s (str []),.i .i64 (0:Int)],kd:=4,fo:=[(0,1,false),(1,1,false),(2,1,false),(3,1,false)] }),
 (87,{ sz:=9,byt:=112,ag:=true,z:=[.i .i64 (0:Int),.s (str []),.s (str []),.i .i64 (0:Int),.s (str []),.i .i64 (0:Int),.s (str []),.s (str []),.i .i64 (0:Int)],kd:=4,fo:=[(0,4,true),(4,1,false),(5,4,true)] }),
 (104,{ sz:=2,byt:=24,ag:=true,z:=[.s (str []),.i .i64 (0:Int)],kd:=4,fo:=[(0,1,false),(1,1,false)] }),
 (115,{ sz:=4,byt:=40,ag:=true,z:=[.i .i64 (0:Int),.s (str []),.i .i64 (0:Int),.i .i64 (0:Int)],kd:=4,fo:=[(0,1,false),(1,1,false),(2,1,false),(3,1,false)] }),
 (119,{ sz:=1,byt:=24,ag:=false,z:=[.nil],kd:=6,es:=1,eb:=24,el:=66 }),
 (121,{ sz:=7,byt:=112,ag:=true,z:=[.i .i64 (0:Int),.s (str []),.nil,.s (str []),.s (str []),.i .i64 (0:Int),.nil],kd:=4,fo:=[(0,1,false),(1,1,false),(2,1,false),(3,1,false),(4,1,false),(5,1,false),(6,1,false)] }),
 (124,{ sz:=3,byt:=24,ag:=true,z:=[.i .i64 (0:Int),.i .i64 (0:Int),.i .i64 (0:Int)],kd:=4,fo:=[(0,1,false),(1,1,false),(2,1,false)] }),
 (126,{ sz:=4,byt:=40,ag:=true,z:=[.s (str []),.i .i64 (0:Int),.i .i64 (0:Int),.i .i64 (0:Int)],kd:=4,fo:=[(0,1,false),(1,3,true)] }),
 (127,{ sz:=1,byt:=24,ag:=false,z:=[.nil],kd:=6,es:=1,eb:=24,el:=55 }),
 (129,{ sz:=7,byt:=112,ag:=true,z:=[.i .i64 (0:Int),.s (str []),.nil,.s (str []),.s (str []),.i .i64 (0:Int),.nil],kd:=4,fo:=[(0,1,false),(1,1,false),(2,1,false),(3,1,false),(4,1,false),(5,1,false),(6,1,false)] }),
 (130,{ sz:=28,byt:=448,ag:=true,z:=[.s (str []),.s (str []),.s (str []),.s (str []),.s (str []),.s (str []),.s (str []),.s (str []),.s (str []),.s (str []),.s (str []),.s (str []),.s (str []),.s (str []),.s (str []),.s (str []),.s (str []),.s (str []),.s (str []),.s (str []),.s (str []),.s (str []),.s (str []),.s (str []),.s (str []),.s (str []),.s (str []),.s (str [])],kd:=5,n:=28,es:=1,el:=9 }),
 (133,{ sz:=1,byt:=8,ag:=false,z:=[.v (.pointer none)],kd:=0 }),
 (135,{ sz:=2,byt:=32,ag:=true,z:=[.v (.pointer none),.nil],kd:=4,fo:=[(0,1,false),(1,1,false)] }),
 (137,{ sz:=3,byt:=40,ag:=true,z:=[.v (.pointer none),.nil,.i .i64 (0:Int)],kd:=4,fo:=[(0,2,true),(2,1,false)] }),
 (158,{ sz:=8,byt:=128,ag:=true,z:=[.s (str []),.s (str []),.s (str []),.s (str []),.s (str []),.s (str []),.s (str []),.s (str [])],kd:=5,n:=8,es:=1,el:=9 })]
theorem htt:TTOk Tryz.prog tt:=by
  unfold tt
  exact ⟨⟨by kernel_rfl,by kernel_rfl,by kernel_rfl,by kernel_rfl⟩,
    ⟨by kernel_rfl,by kernel_rfl,by kernel_rfl,by kernel_rfl⟩,
    ⟨by kernel_rfl,by kernel_rfl,by kernel_rfl,by kernel_rfl⟩,
    ⟨by kernel_rfl,by kernel_rfl,by kernel_rfl,by kernel_rfl⟩,
    ⟨by kernel_rfl,by kernel_rfl,by kernel_rfl,by kernel_rfl⟩,
    ⟨by kernel_rfl,by kernel_rfl,by kernel_rfl,by kernel_rfl⟩,
    ⟨by kernel_rfl,by kernel_rfl,by kernel_rfl,by kernel_rfl⟩,
    ⟨by kernel_rfl,by kernel_rfl,by kernel_rfl,by kernel_rfl⟩,
    ⟨by kernel_rfl,by kernel_rfl,by kernel_rfl,by kernel_rfl⟩,
    ⟨by kernel_rfl,by kernel_rfl,by kernel_rfl,by kernel_rfl⟩,
    ⟨by kernel_rfl,by kernel_rfl,by kernel_rfl,by kernel_rfl⟩,
    ⟨by kernel_rfl,by kernel_rfl,by kernel_rfl,by kernel_rfl⟩,
    ⟨by kernel_rfl,by kernel_rfl,by kernel_rfl,by kernel_rfl⟩,
    ⟨by kernel_rfl,by kernel_rfl,by kernel_rfl,by kernel_rfl⟩,
    ⟨by kernel_rfl,by kernel_rfl,by kernel_rfl,by kernel_rfl⟩,
    ⟨by kernel_rfl,by kernel_rfl,by kernel_rfl,by kernel_rfl⟩,
    ⟨by kernel_rfl,by kernel_rfl,by kernel_rfl,by kernel_rfl⟩,
    ⟨by kernel_rfl,by kernel_rfl,by kernel_rfl,by kernel_rfl⟩,
    ⟨by kernel_rfl,by kernel_rfl,by kernel_rfl,by kernel_rfl⟩,
    ⟨by kernel_rfl,by kernel_rfl,by kernel_rfl,by kernel_rfl⟩,
    ⟨by kernel_rfl,by kernel_rfl,by kernel_rfl,by kernel_rfl⟩,
    ⟨by kernel_rfl,by kernel_rfl,by kernel_rfl,by kernel_rfl⟩,
    ⟨by kernel_rfl,by kernel_rfl,by kernel_rfl,by kernel_rfl⟩,
    ⟨by kernel_rfl,by kernel_rfl,by kernel_rfl,by kernel_rfl⟩,
    ⟨by kernel_rfl,by kernel_rfl,by kernel_rfl,by kernel_rfl⟩,
    ⟨by kernel_rfl,by kernel_rfl,by kernel_rfl,by kernel_rfl⟩,
    ⟨by kernel_rfl,by kernel_rfl,by kernel_rfl,by kernel_rfl⟩,
    ⟨by kernel_rfl,by kernel_rfl,by kernel_rfl,by kernel_rfl⟩,
    ⟨by kernel_rfl,by kernel_rfl,by kernel_rfl,by kernel_rfl⟩,
    ⟨by kernel_rfl,by kernel_rfl,by kernel_rfl,by kernel_rfl⟩,
    ⟨by kernel_rfl,by kernel_rfl,by kernel_rfl,by kernel_rfl⟩,
    ⟨by kernel_rfl,by kernel_rfl,by kernel_rfl,by kernel_rfl⟩,
    ⟨by kernel_rfl,by kernel_rfl,by kernel_rfl,by kernel_rfl⟩,
    ⟨by kernel_rfl,by kernel_rfl,by kernel_rfl,by kernel_rfl⟩,
    ⟨by kernel_rfl,by kernel_rfl,by kernel_rfl,by kernel_rfl⟩,
    ⟨by kernel_rfl,by kernel_rfl,by kernel_rfl,by kernel_rfl⟩,
    ⟨by kernel_rfl,by kernel_rfl,by kernel_rfl,by kernel_rfl⟩,
    ⟨by kernel_rfl,by kernel_rfl,by kernel_rfl,by kernel_rfl⟩,
    ⟨by kernel_rfl,by kernel_rfl,by kernel_rfl,by kernel_rfl⟩,
    ⟨by kernel_rfl,by kernel_rfl,by kernel_rfl,by kernel_rfl⟩,
    ⟨by kernel_rfl,by kernel_rfl,by kernel_rfl,by kernel_rfl⟩,
    ⟨by kernel_rfl,by kernel_rfl,by kernel_rfl,by kernel_rfl⟩,
    ⟨by kernel_rfl,by kernel_rfl,by kernel_rfl,by kernel_rfl⟩,trivial⟩
def J:=@htt
theorem Q {α:Sort _} {a:α}:a=a:=rfl
section
variable [LxP]
theorem wH {X:Ctx} {tt:List (Nat × TD)} (htt:TTOk X.P tt) (n:Nat) {b t:Bool} (K:b=t) {c:Cf} (k:Wc X (setC t (adv tt X.fn.ntmps n c))) (hp:(look (adv tt X.fn.ntmps n c).st.L (slC (adv tt X.fn.ntmps n c)),stepC (adv tt X.fn.ntmps n c))=(some (.c (.b b)),wantC b (adv tt X.fn.ntmps n c)):=by kernel_rfl):Wc X c:=wa htt n (eK K k hp)
theorem wr {P:Program} {f:FuncId} {fn:Func} {ct:Ct} {E0:Env} {F0:FSet} {w0:World} {tt:List (Nat × TD)} (htt:TTOk P tt) (n:Nat) (hf:P.funcs[f]? = some fn) (l:List (Nat × SC)) {c:Cf}
    (hp:(retC (adv tt fn.ntmps n c),resV tt (adv tt fn.ntmps n c).st fn.results.toList,ct.V1.map (fun p=>findV (adv tt fn.ntmps n c).st ⟨l,0,0⟩ p.1 p.2),ct.M1.map (fun p=>findM (adv tt fn.ntmps n c).st ⟨l,0,0⟩ p.1 p.2),
        (okV ⟨l,0,0⟩ ct.res && nodupB (ct.M1.filterMap fun p=>keyM ⟨l,0,0⟩ p.1 p.2) && nodupB (ct.M1.map (·.1)) && l.all (fun p=>Nat.ble ct.nk p.1 && p.2.kbb (adv tt fn.ntmps n c).st.nx))) =
      (true,some (renV ⟨l,0,0⟩ ct.res),ct.V1.map (fun p=>some p.2),ct.M1.map (fun p=>some (renM ⟨l,0,0⟩ p.2)),true):=by kernel_rfl):Wc (ct.ctx P f fn E0 F0 w0) c:=wa (X:=ct.ctx P f fn E0 F0 w0) htt n (eRet htt hf l hp)
theorem oi {α:Type} {a b:α} (h:some a=some b):a=b:=Option.some.inj h
theorem eB {X:Ctx} {b:Bool} {α:Type} {x y:Option α} {r:α} (h:(bif b then x else y)=some r) {c:Cf} (k1:x=some r→Wc X (setC true c)) (k2:y=some r→Wc X (setC false c)) (hp:(look c.st.L (slC c),stepC c)=(some (.c (.b b)),wantC b c):=by kernel_rfl):Wc X c:=by
  rcases oc h with ⟨K,h⟩ | ⟨K,h⟩
  · exact eK K (k1 h) hp
  · exact eK K (k2 h) hp
theorem eB' {X:Ctx} {b:Bool} {α:Type} {x y:Option α} {r:α} (h:(bif b then x else y)=some r) {c:Cf} (k1:y=some r→Wc X (setC false c)) (k2:x=some r→Wc X (setC true c)) (hp:(look c.st.L (slC c),stepC c)=(some (.c (.b b)),wantC b c):=by kernel_rfl):Wc X c:=eB h k2 k1 hp
theorem wB {X:Ctx} {tt:List (Nat × TD)} (htt:TTOk X.P tt) (n:Nat) {b:Bool} {α:Type} {x y:Option α} {r:α} (h:(bif b then x else y)=some r) {c:Cf} (k1:x=some r→Wc X (setC true (adv tt X.fn.ntmps n c))) (k2:y=some r→Wc X (setC false (adv tt X.fn.ntmps n c))) (hp:(look (adv tt X.fn.ntmps n c).st.L (slC (adv tt X.fn.ntmps n c)),stepC (adv tt X.fn.ntmps n c))=(some (.c (.b b)),wantC b (adv tt X.fn.ntmps n c)):=by kernel_rfl):Wc X c:=by
  rcases oc h with ⟨K,h⟩ | ⟨K,h⟩
  · exact wH htt n K (k1 h) hp
  · exact wH htt n K (k2 h) hp
theorem wB' {X:Ctx} {tt:List (Nat × TD)} (htt:TTOk X.P tt) (n:Nat) {b:Bool} {α:Type} {x y:Option α} {r:α} (h:(bif b then x else y)=some r) {c:Cf} (k1:y=some r→Wc X (setC false (adv tt X.fn.ntmps n c))) (k2:x=some r→Wc X (setC true (adv tt X.fn.ntmps n c))) (hp:(look (adv tt X.fn.ntmps n c).st.L (slC (adv tt X.fn.ntmps n c)),stepC (adv tt X.fn.ntmps n c))=(some (.c (.b b)),wantC b (adv tt X.fn.ntmps n c)):=by kernel_rfl):Wc X c:=wB htt n h k2 k1 hp
theorem wO {X:Ctx} {tt:List (Nat × TD)} (htt:TTOk X.P tt) (n:Nat) {α β:Type} {o:Option α} {f:α→Option β} {r:β} (h:o.bind f=some r) {c:Cf} (k:∀ x,o=some x→f x=some r→Wc X (adv tt X.fn.ntmps n c)):Wc X c:=by
  obtain ⟨x,e,h⟩:=ob h
  exact wa htt n (k x e h)
end
abbrev zz0:=fun L=>(⟨L,[],[],0⟩:St)
abbrev zz1:=fun x0 L=>(⟨L,[],[(0,.sl rS x0)],1⟩:St)
abbrev zz2:=fun x0 L=>(⟨L,[],[(0,.sl rR5 x0)],1⟩:St)
abbrev zz3:=fun x0 x1 L=>(⟨L,[(2,.box [.s x0,.sl 0,.sl 1] 80)],(vV6 0 1 x1 []),3⟩:St)
abbrev zz4:=fun x0 x1 L=>(⟨L,[(0,.box [.s x0,.I x1] 104)],[],1⟩:St)
abbrev zz5:=fun x0 x1 x2 x3 x4 x5 x6 L=>(⟨L,[(2,.box [.I x0,.s x1,.sl 0,.s x2,.s x3,.I x4,.sl 1] 121)],[(0,.sl rS x5),(1,.sl (rSl rR5) x6)],3⟩:St)
abbrev zz6:=fun x0 L=>(⟨L,[],[(0,.sl rR7 x0)],1⟩:St)
abbrev zz7:=fun x0 L=>(⟨L,[],[(0,.sl rR7 x0)],9⟩:St)
abbrev zz8:=fun x0 L=>(⟨L,[(0,.box (cC3 x0) 104),(1,.box [.I 0,.s (str []),.I 0,.I 0] 46)],[],2⟩:St)
abbrev zz9:=fun x0 L=>(⟨L,[(0,.own rS x0 true)],[],1⟩:St)
abbrev zz10:=fun x0 x1 L=>(⟨L,[],[(0,.sl rS x0),(1,.sl rS x1)],2⟩:St)
abbrev zz11:=fun x0 x1 L=>(⟨L,[],[(0,.sl rR6 x0),(1,.sl rR6 x1)],20⟩:St)
abbrev zz12:=fun x0 x1 L=>(⟨L,[(0,.box (cC3 x0) 104),(1,.box [.I 0,.s (str []),.I 0,.I 0] 46),(2,.box [.I 2,.s (str []),.I x1,.I 0] 46)],[],3⟩:St)
abbrev zz13:=fun x0 x1 x2 L=>(⟨L,[(0,.box [.s x0,.I x1] 104),(1,.box [.I 0,.s (str []),.I 0,.I 0] 46),(2,.own (rI .u8) x2 true)],[],3⟩:St)
abbrev zz14:=fun x0 x1 x2 x3 x4 x5 x6 x7 x8 L=>(⟨L,[(0,.box [.sl 13,.I x0,.I x1,.I x2,.I x3] 53),(2,.box [.s (str []),.nil,.nil] 77),(4,.box [.s x4,.sl 8,.sl 14] 77),(8,.own rR0 x5 true),(14,.own rR9 x6 true)],[(1,.sl rR2 x7),(13,.sl rR2 x8)],15⟩:St)
abbrev zz15:=fun x0 x1 x2 x3 x4 x5 x6 x7 L=>(⟨L,[(0,.box [.sl 10,.I x0,.I x1,.I x2,.I x3] 53),(2,.box [.s (str []),.nil,.nil] 77),(4,.box [.s x4,.sl 11,.nil] 77),(11,.own rR0 x5 true)],[(1,.sl rR2 x6),(10,.sl rR2 x7)],12⟩:St)
abbrev zz16:=fun x0 x1 x2 x3 x4 x5 x6 x7 x8 L=>(⟨L,[(0,.box [.sl 11,.I x0,.I x1,.I x2,.I x3] 53),(2,.box [.I 0,.s (str []),.nil,.s (str []),.s (str []),.I 0,.nil] 129),(5,.box [.I 2,.s x4,.nil,.s (str []),.s (str []),.I x5,.sl 12] 129),(12,.own (rSl rR10) x6 true)],[(1,.sl rR2 x7),(11,.sl rR2 x8)],13⟩:St)
abbrev zz17:=fun x0 x1 x2 x3 x4 x5 x6 L=>(⟨L,[(0,.box [.sl 16,.I x0,.I x1,.I x2,.I x3] 53),(2,.box [.I 0,.s (str []),.nil,.s (str []),.s (str []),.I 0,.nil] 129),(10,.box [.I 5,.s (str []),.nil,.s (str []),.s (str []),.I 0,.sl 17] 129),(17,.own (rSl rR10) x4 true)],[(1,.sl rR2 x5),(16,.sl rR2 x6)],18⟩:St)
abbrev zz18:=fun x0 x1 x2 x3 x4 x5 x6 x7 x8 L=>(⟨L,[(0,.box [.sl 11,.I x0,.I x1,.I x2,.I x3] 53),(2,.box [.s (str []),.nil,.nil,.nil] 57),(5,.box [.s x4,.sl 7,.sl 12,.nil] 57),(7,.own rS x5 true),(12,.own rR11 x6 true)],[(1,.sl rR2 x7),(11,.sl rR2 x8)],13⟩:St)
abbrev zz19:=fun x0 x1 x2 x3 x4 x5 L=>(⟨L,[(2,.box [.bp 2 0,.sl 3,.I x0] 137),(3,.buf x1 5),(4,.abs x2),(5,.box [.s x3,.sl 0,.sl 1] 77),(6,.own rS x4 true)],(vV11 0 1 x5 []),7⟩:St)
abbrev zz20:=fun x0 x1 x2 x3 x4 x5 x6 L=>(⟨L,[(2,.box [.bp 2 0,.sl 3,.I x0] 137),(3,.buf x1 5),(4,.abs x2),(5,.box [.s x3,.sl 0,.sl 1] 77),(6,.own rS x4 true),(7,.own rS x5 true)],(vV11 0 1 x6 []),8⟩:St)
abbrev zz21:=fun x0 x1 x2 x3 x4 x5 L=>(⟨L,[(1,.abs x0),(2,.box [.bp 2 0,.sl 10,.I x1] 137),(7,.box [.s x2,.sl 4,.sl 5,.sl 6] 57),(10,.buf x3 5)],((0,.sl rR12 x4)::vV12 4 5 6 x5 []),11⟩:St)
abbrev zz22:=fun x0 x1 x2 x3 x4 x5 L=>(⟨L,[(1,.abs x0),(2,.box [.bp 2 0,.sl 22,.I x1] 137),(19,.box [.s x2,.sl 16,.sl 17,.sl 18] 57),(22,.buf x3 5)],((0,.sl rR12 x4)::vV12 16 17 18 x5 []),23⟩:St)
end Gx
end
