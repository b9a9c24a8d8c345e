/- The plain law, part 1: what the functions compute answers as the statement says. -/
import Derived.Test.YtnlleampnlmdlaaGreatDoorExpandSharedPure
set_option linter.all false
section
namespace Gp
open Go Go.Kx Gx
theorem dF {p:Prop} [Decidable p] (h:¬p):decide p=false:=decide_eq_false h
theorem dT {p:Prop} [Decidable p] (h:p):decide p=true:=decide_eq_true h
theorem bS {α β:Type _} (a:α) (f:α→Option β):(some a).bind f=f a:=rfl
theorem cF {α:Sort _} {a b:α}:(bif false then a else b)=b:=rfl
theorem cT {α:Sort _} {a b:α}:(bif true then a else b)=a:=rfl
theorem aA {α:Type _} (a b c:List α):(a++b)++c=a++(b++c):=List.append_assoc a b c
theorem lA {α:Type _} {a b:List α}:(a++b).length=a.length+b.length:=List.length_append
set_option maxRecDepth 100000
theorem awake_some (k:Nat):z7 (k+300)=some true:=by kernel_rfl
def shB (k a b c d:Nat):Bool:=law12_ExpandShared_l2 (k+300) ((a:Int),(b:Int)) ((c:Int),(d:Int)) (k+300) [] 0==some true
def sh3 (k a:Nat):Bool:=(List.range 5).all fun b=>(List.range 5).all fun c=>(List.range 5).all fun d=>shB k a b c d
theorem sh0 (k:Nat):sh3 k 0=true:=by kernel_rfl
theorem sh1 (k:Nat):sh3 k 1=true:=by kernel_rfl
theorem sh2 (k:Nat):sh3 k 2=true:=by kernel_rfl
theorem sh4 (k:Nat):sh3 k 3=true:=by kernel_rfl
theorem sh5 (k:Nat):sh3 k 4=true:=by kernel_rfl
theorem sh_all (k:Nat) {a b c d:Nat} (ha:a < 5) (hb:b < 5) (hc:c < 5) (hd:d < 5):law12_ExpandShared_l2 (k+300) ((a:Int),(b:Int)) ((c:Int),(d:Int)) (k+300) [] 0=some true:=by
 have h:sh3 k a=true:=by
  have:a=0∨a=1∨a=2∨a=3∨a=4:=by omega
  rcases this with rfl | rfl | rfl | rfl | rfl
  ·exact sh0 k
  ·exact sh1 k
  ·exact sh2 k
  ·exact sh4 k
  ·exact sh5 k
 unfold sh3 at h
 have h:=List.all_eq_true.1 h b (List.mem_range.2 hb)
 have h:=List.all_eq_true.1 h c (List.mem_range.2 hc)
 have h:=List.all_eq_true.1 h d (List.mem_range.2 hd)
 unfold shB at h
 exact eq_of_beq h
theorem tm (a:Int):(a.tmod 5).tmod 5=a.tmod 5:=Int.tmod_tmod_of_dvd a (Int.dvd_refl 5)
theorem res (N:Nat) (f t:Int × Int):∀ n acc i,law12_ExpandShared_l2 N f t n acc i=law12_ExpandShared_l2 N (f.1.tmod 5,f.2.tmod 5) (t.1.tmod 5,t.2.tmod 5) n acc i
 | 0,_,_=>rfl
 | n+1,acc,i=>by
  have ih:law12_ExpandShared_l2 N f t n=law12_ExpandShared_l2 N (f.1.tmod 5,f.2.tmod 5) (t.1.tmod 5,t.2.tmod 5) n:=by
   funext acc i;exact res N f t n acc i
  simp only [law12_ExpandShared_l2,law12_ExpandShared_k1,tm,ih]
theorem mod5 {a:Int} (h:(Lit.int .u8 a).wf=true):∃ k:Nat,k < 5∧a.tmod 5=(k:Int):=by
 simp only [Lit.wf,Bool.and_eq_true,decide_eq_true_eq] at h
 have e1:IntKind.u8.min=0:=by decide
 rw [e1] at h
 obtain ⟨n,rfl⟩:=Int.eq_ofNat_of_zero_le h.1
 exact ⟨n % 5,Nat.mod_lt _ (by omega),rfl⟩
theorem shared_law (k:Nat) (f t:Int × Int) (h1:(Lit.int .u8 f.1).wf=true) (h2:(Lit.int .u8 f.2).wf=true) (h3:(Lit.int .u8 t.1).wf=true) (h4:(Lit.int .u8 t.2).wf=true):law12_ExpandShared (k+300) f t=some true:=by
 unfold law12_ExpandShared
 rw [awake_some,res]
 obtain ⟨a,ha,ea⟩:=mod5 h1
 obtain ⟨b,hb,eb⟩:=mod5 h2
 obtain ⟨c,hc,ec⟩:=mod5 h3
 obtain ⟨d,hd,ed⟩:=mod5 h4
 rw [ea,eb,ec,ed]
 exact sh_all k ha hb hc hd
end Gp
end
section
namespace Gx
open Go Go.Kx
end Gx
end
section
namespace Gp
open Go Go.Kx Gx
theorem plain:∀ (x0:(Int × Int)) (x1:(Int × Int)),(((Lit.int .u8 x0.1).wf=true)∧((Lit.int .u8 x0.2).wf=true))→(((Lit.int .u8 x1.1).wf=true)∧((Lit.int .u8 x1.2).wf=true))→∃ N,law12_ExpandShared N x0 x1=some true :=
 fun f t h g=>⟨0+300,shared_law 0 f t h.1 h.2 g.1 g.2⟩
end Gp
end
