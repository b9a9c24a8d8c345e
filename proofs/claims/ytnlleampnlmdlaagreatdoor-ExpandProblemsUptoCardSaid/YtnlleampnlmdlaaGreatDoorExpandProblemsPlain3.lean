/- The plain law, part 3: what the functions compute answers as the statement says. -/
import Derived.Test.YtnlleampnlmdlaaGreatDoorExpandProblemsPlain2
set_option linter.all false
section
namespace Gp
open Go Go.Kx Gx
def Uw (all:List ZL) (p:ZL) (ls:List ByteArray) (re ta:Nat) (x:ZJ):Prop :=
 (x.Zq=1->Bn p x)/\(x.Zq=2->x.ZA∈p.ZD)/\(x.Zq=3->x.Zt ∉ ls)/\(x.Zq=4->x.Zt∈ls.drop re/\(ta:Int)<=Y9 (fun y=>y.toList==x.Zt.toList) ls)/\(x.Zq=6->QE all p x)
def UO (ls:List ByteArray) (x:ZJ):List ByteArray:=if x.Zq=3 then ls++[x.Zt] else ls
def SP (ls:List ByteArray) (re:Nat) (x:ZJ):Nat:=if x.Zq=5 then ls.length else re
mutual
def SO (all:List ZL) (p:ZL):List ByteArray->Nat->Nat->ZJ->Prop
 | ls,re,ta,⟨k,f,t,n,a,x,b⟩=>Uw all p ls re ta ⟨k,f,t,n,a,x,b⟩/\TS all p (UO ls ⟨k,f,t,n,a,x,b⟩) (SP ls re ⟨k,f,t,n,a,x,b⟩) ta b
def Um (all:List ZL) (p:ZL):List ByteArray->Nat->Nat->List ZJ->Prop
 | _,_,_,[]=>True
 | ls,re,ta,x::l=>SO all p ls re (if l.isEmpty then ta else ls.length) x/\Um all p ls re ta l
def TS (all:List ZL) (p:ZL):List ByteArray->Nat->Nat->List (List ZJ)->Prop
 | _,_,_,[]=>True
 | ls,re,ta,b::r=>Um all p ls re ta b/\TS all p ls re ta r
end
theorem Zjv (all p ls re ta) (x:ZJ):SO all p ls re ta x↔Uw all p ls re ta x/\TS all p (UO ls x) (SP ls re x) ta x.ZC:=by cases x;simp only [SO]
theorem Zjx (all p ls re ta):∀ l:List ZT,Um all p ls re ta (oL l)↔∀ (k:Nat) x,l[k]? = some x->SO all p ls re (if k+1=l.length then ta else ls.length) (oI x)
 | []=>by simp [oL,Um]
 | x::l=>by
  simp only [oL,Um]
  rw [Zjx all p ls re ta l]
  have b:(if (oL l).isEmpty=true then ta else ls.length)=if 0+1=(x::l).length then ta else ls.length:=by cases l<;>simp [oL]
  have es:∀ k,(if k+1+1=(x::l).length then ta else ls.length)=if k+1=l.length then ta else ls.length:=fun k=>by simp
  constructor
  ·rintro ⟨c,d⟩ k y a
   cases k with
   | zero =>
    simp only [List.getElem?_cons_zero,Option.some.injEq] at a
    subst a
    rw [<- b];exact c
   | succ k =>
    rw [List.getElem?_cons_succ] at a
    rw [es];exact d k y a
  ·intro h
   refine ⟨?_,fun k y a=>?_⟩
   ·rw [b];exact h 0 x rfl
   ·have:=h (k+1) y (by rw [List.getElem?_cons_succ];exact a)
    rw [es] at this;exact this
theorem Zjw (all p ls re ta):∀ l:List (List ZT),TS all p ls re ta (YA l)↔∀ (k:Nat) b,l[k]? = some b->Um all p ls re ta (oL b)
 | []=>by simp [YA,TS]
 | x::l=>by
  simp only [YA,TS]
  rw [Zjw all p ls re ta l]
  constructor
  ·rintro ⟨c,d⟩ k y a
   cases k with
   | zero=>simp only [List.getElem?_cons_zero,Option.some.injEq] at a;subst a;exact c
   | succ k=>rw [List.getElem?_cons_succ] at a;exact d k y a
  ·exact fun h=>⟨h 0 x rfl,fun k y a=>h (k+1) y (by rw [List.getElem?_cons_succ];exact a)⟩
theorem ZlF (l:List ZT):VD (oL l)=l.flatMap fun x=>U4 (oI x):=by rw [Zdk,MW,List.flatMap_map]
theorem ZlE (l:List (List ZT)):Rz (YA l)=l.flatMap fun x=>VD (oL x):=by rw [Zdj,MV,List.flatMap_map]
theorem ZgK (l:List ZT):cL (oL l)=(l.map fun x=>cI (oI x)).sum:=by rw [Bw,MW,List.map_map];rfl
theorem ZgH (l:List (List ZT)):YF (YA l)=(l.map fun x=>cL (oL x)).sum:=by rw [Bu,MV,List.map_map];rfl
theorem Zou (p:ZU) (a:ByteArray):(p.ZE.find? (fun m=>m.Zt.toList==a.toList)).isSome=true↔∃ m∈(oP p).ZE,m.Zt=a:=by
 rw [List.find?_isSome]
 constructor
 ·rintro ⟨m,b,c⟩;exact ⟨oM m,List.mem_map.2 ⟨m,b,rfl⟩,Xm.1 c⟩
 ·rintro ⟨m,b,c⟩
  obtain ⟨m',d,rfl⟩:=List.mem_map.1 b
  exact ⟨m',d,Xm.2 c⟩
set_option maxHeartbeats 1000000 in
theorem Zig:∀ (N:Nat) (c:ZZ) (l:List ZT) (u:List ByteArray) (w M:Nat),Sr 8388610 c->8388611+dL (oL l)<=N->l.length<=4194304->bL (oL l)->u.length+dL (oL l)<=4194304->w<=u.length->c.calls'.length+cL (oL l)<=4194304 ->
  Rk (UU N c l u (w:Int) (M:Int)) c (Um (c.l'.map oP) (oP c.p') u w M (oL l)) (VD (oL l)) (cL (oL l))
 | 0,_,_,_,_,_,_,h,_,_,_,_,_=>by omega
 | N+1,c,l,u,w,M,hs,h,hlen,hb,hls,hre,hc=>by
  show Rk (DI N (UU N) c l u (w:Int) (M:Int)) _ _ _ _
  unfold DI
  have hN:8388609 < N:=by omega
  have hsz:∀ s:ZZ,s.l'=c.l'->s.p'=c.p'->Sr N s:=fun s G B=>⟨by rw [B];exact hs.r,by rw [B];exact hs.m,by rw [G];exact hs.a,hN⟩
  have hsz2:∀ s:ZZ,s.l'=c.l'->s.p'=c.p'->Sr 8388610 s:=fun s G B=>hs.of G B
  -- the blocks of one item
  have k5:∀ (k:Nat) (x:ZT) (s:ZZ) (ms:List ByteArray) (z v:Nat) (ag),l[k]? = some x->s.l'=c.l'->s.p'=c.p'->ms.length+WB (YA x.ZC)<=4194304->z<=ms.length->s.calls'.length+YF (YA x.ZC)<=4194304 ->
    ∃ o,W6 N (UU N) (k:Int) ag x (v:Int) s.l' s.p'.Zt s.p'.ZD s.p'.ZE s.p'.ZF s.calls' s.first'.ZH s.first'.Zt s.first'.ZI ms (z:Int) =
     o.bind (fun t:ZZ=>ag t.l' t.p'.Zt t.p'.ZD t.p'.ZE t.p'.ZF t.calls' t.first'.ZH t.first'.Zt t.first'.ZI ((k+1:Nat):Int)) /\
     Rk o s (TS (c.l'.map oP) (oP c.p') ms z v (YA x.ZC)) (Rz (YA x.ZC)) (YF (YA x.ZC)):=by
   intro k x s ms z v ag K G B hms H hcc
   have hm:=Zb K
   have I:=(WT _).1 (Wy hb (XV hm))
   rw [Xl,UK] at I
   have S:=Wt (XV hm)
   rw [Ws,Xl] at S
   have hk:=Yf K
   unfold W6
   have ⟨o,e,g⟩:=La x.ZC (fun n c i=>Ma (UU N) (k:Int) ag x (v:Int) ms (z:Int) n c.l' c.p'.Zt c.p'.ZD c.p'.ZE c.p'.ZF c.calls' c.first'.ZH c.first'.Zt c.first'.ZI i)
    (fun c=>DK (k:Int) ag c.l' c.p'.Zt c.p'.ZD c.p'.ZE c.p'.ZF c.calls' c.first'.ZH c.first'.Zt c.first'.ZI) Option.bind (fun _ _=>rfl)
    (fun _ b=>Um (c.l'.map oP) (oP c.p') ms z v (oL b)) (fun b=>VD (oL b)) (fun b=>cL (oL b)) c.l' c.p' 4194304
    (fun n j b t O X Y hc2=>by
     rw [VM O,List.map_cons,List.sum_cons] at hc2
     have hmb:=Zb O
     have T:=Vl I.2.2 (WD hmb)
     rw [UL] at T
     have hdb:=WK (WD hmb)
     have:=Zig N t b ms z v (hsz2 t X Y) (by omega) T.1 T.2 (by omega) H (by omega)
     rw [X,Y] at this
     refine ⟨_,?_,this⟩
     simp only [Ma,Yh (Yf O),cT,Ye,O,bS]
     rw [YT (by have:=Yf O;omega)])
    (fun n j t O=>by simp only [Ma,Yl O,cF]) (N:=N) (by omega) s G B (by rw [<- ZgH];omega)
   rw [<- ZlE,<- ZgH] at g
   refine ⟨o,e.trans ?_,g.iff (Zjw _ _ _ _ _ _).symm⟩
   congr 1
   funext t
   unfold DK
   rw [YT (by omega)]
  -- one item
  have k6:∀ (k:Nat) (x:ZT) (s:ZZ) (v:Nat) (ag),l[k]? = some x->s.l'=c.l'->s.p'=c.p'->s.calls'.length+cI (oI x)<=4194304 ->
    ∃ o,Hp N (UU N) u (w:Int) s.l' s.p'.Zt s.p'.ZD s.p'.ZE s.p'.ZF s.calls' s.first'.ZH s.first'.Zt s.first'.ZI (k:Int) ag x (v:Int) =
     o.bind (fun t:ZZ=>ag t.l' t.p'.Zt t.p'.ZD t.p'.ZE t.p'.ZF t.calls' t.first'.ZH t.first'.Zt t.first'.ZI ((k+1:Nat):Int)) /\
     Rk o s (SO (c.l'.map oP) (oP c.p') u w v (oI x)) (U4 (oI x)) (cI (oI x)):=by
   intro k x s v ag K G B hcc
   have hm:=Zb K
   have I:=(WT _).1 (Wy hb (XV hm))
   rw [HX] at I
   have S:=Wt (XV hm)
   rw [Ws,Xl] at S
   rw [Ud,Xl] at hcc
   have hS:=hsz s G B
   have hto:=I.1
   have eK:(oI x).Zq=x.Zq:=by rw [XU]
   have eN:(oI x).Zt=x.Zt:=by rw [XU]
   have eA:(oI x).As=x.As:=by rw [XU]
   have eF:(oI x).ZA=x.ZA:=by rw [XU]
   have eT:(oI x).To=x.To:=HX x
   have hSr:=hS.r
   have hSm:=hS.m
   -- behind a first step
   have C:∀ (o1:Option ZZ) (P:Prop) (bs:List ByteArray) (m:Nat) (V:List ByteArray) (z:Nat),Rk o1 s P bs m->bs=TN (oI x)->m<=1->V.length<=u.length+1->z<=V.length->(P↔Uw (c.l'.map oP) (oP c.p') u w v (oI x))->V=UO u (oI x)->z=SP u w (oI x) ->
     ∃ o,(o1.bind fun t:ZZ=>W6 N (UU N) (k:Int) ag x (v:Int) t.l' t.p'.Zt t.p'.ZD t.p'.ZE t.p'.ZF t.calls' t.first'.ZH t.first'.Zt t.first'.ZI V (z:Int)) =
      o.bind (fun t:ZZ=>ag t.l' t.p'.Zt t.p'.ZD t.p'.ZE t.p'.ZF t.calls' t.first'.ZH t.first'.Zt t.first'.ZI ((k+1:Nat):Int))/\Rk o s (SO (c.l'.map oP) (oP c.p') u w v (oI x)) (U4 (oI x)) (cI (oI x)):=by
    rintro o1 P bs m V z ⟨t,rfl,g⟩ rfl hm1 hns H hP hin hir
    have ⟨o,e,c3,e3,g3⟩:=k5 k x t V z v ag K (by rw [g.all,G]) (by rw [g.p,B]) (by omega) H (by have:=g.len;omega)
    refine ⟨o,e,?_⟩
    have W:=(g.seq g3).iff (Q:=SO (c.l'.map oP) (oP c.p') u w v (oI x)) (by rw [Zjv,hP,hin,hir,Xl])
    rw [<- Xl,<- Zgr] at W
    exact Rk.le ⟨c3,e3,W⟩ (by rw [Ud];omega)
   have A:x.Zq≠6->([]:List ByteArray)=TN (oI x):=fun R=>by unfold TN;rw [eK,if_neg R]
   have D:x.Zq≠3->u=UO u (oI x):=fun L=>by unfold UO;rw [eK,if_neg L]
   have E:x.Zq≠5->w=SP u w (oI x):=fun L=>by unfold SP;rw [eK,if_neg L]
   unfold Hp
   by_cases h1:x.Zq=1
   ·rw [show (x.Zq==(1:Int))=true by simpa using h1,cT,YW (by simp;omega),bS,List.singleton_append]
    have F:=ZeA (N:=N) s (x.ZA::x.To) hS (by simp;omega)
    rw [B] at F
    have U:Rk ((Qa N s (x.ZA::x.To)).bind fun t=>bif !(c.p'.ZE.find? (fun m=>m.Zt.toList==x.Zt.toList)).isSome then Y3 N t x.Zt 10 else some t) s (Ss (oP c.p') (x.ZA::x.To)/\∃ m∈(oP c.p').ZE,m.Zt=x.Zt) ([]++[]) (0+0) :=
     Rk.seq F fun t _ _ _=>(Rk.test (by decide)).iff (by rw [Bool.not_eq_false',Zou])
    have ⟨o,e,g⟩:=C _ _ _ _ u w U (A (by omega)) (by omega) (by omega) hre (by
     unfold Uw Bn
     rw [eK,eN,eF,eT]
     exact ⟨fun q=>⟨fun _=>q,by omega,by omega,by omega,by omega⟩,fun q=>q.1 h1⟩) (D (by omega)) (E (by omega))
    refine ⟨o,?_,g⟩
    rw [<- e]
    have ⟨t,Z,g2⟩:=F
    rw [show (⟨s.l',⟨s.p'.Zt,s.p'.ZD,s.p'.ZE,s.p'.ZF⟩,s.calls',⟨s.first'.ZH,s.first'.Zt,s.first'.ZI⟩⟩:ZZ)=s from rfl,Z,bS,bS]
    rw [Zjr _ _ (by rw [g2.p,B];exact hs.m) (by omega),bS,g2.p,B]
    cases hf:c.p'.ZE.find? (fun m=>m.Zt.toList==x.Zt.toList) with
    | none=>rfl
    | some q=>rw [<- B,<- g2.p];rfl
   rw [show (x.Zq==(1:Int))=false by simpa using h1,cF]
   by_cases h2:x.Zq=2
   ·rw [show (x.Zq==(2:Int))=true by simpa using h2,cT]
    have F:=ZeA (N:=N) s [x.ZA] hS (by simp)
    rw [B] at F
    have ⟨o,e,g⟩:=C _ _ _ _ u w F (A (by omega)) (by omega) (by omega) hre (by
     unfold Uw Ss
     rw [eK,eF]
     constructor
     ·exact fun q=>⟨by omega,fun _=>(q 0 x.ZA rfl).1,by omega,by omega,by omega⟩
     ·intro q k y hy
      cases k with
      | zero=>cases hy;exact ⟨q.2.1 h2,by simp⟩
      | succ k=>cases hy) (D (by omega)) (E (by omega))
    exact ⟨o,e,g⟩
   rw [show (x.Zq==(2:Int))=false by simpa using h2,cF]
   by_cases L:x.Zq=3
   ·rw [show (x.Zq==(3:Int))=true by simpa using L,cT,SN _ (by omega) (by omega),bS,M9]
    have ⟨o,e,g⟩:=C (bif Xk x.Zt u then Y3 N s x.Zt 9 else some s) _ _ _ (u++[x.Zt]) w (Rk.test (by decide)) (A (by omega)) (by omega) (by simp) (by simp;omega) (by
     unfold Uw
     rw [eK,eN,<- Bool.not_eq_true,WM]
     exact ⟨fun q=>⟨by omega,by omega,fun _=>q,by omega,by omega⟩,fun q=>q.2.2.1 L⟩) (by unfold UO;rw [eK,if_pos L,eN]) (E (by omega))
    refine ⟨o,?_,g⟩
    rw [<- e]
    cases hi:Xk x.Zt u with
    | true =>
     rw [cT,cT,YW (by simp;omega),List.nil_append]
     have ⟨t,Z,g2⟩:=Rk.note (N:=N) s x.Zt (e:=9) (by decide) [] 0
     rw [show (⟨s.l',⟨s.p'.Zt,s.p'.ZD,s.p'.ZE,s.p'.ZF⟩,s.calls',⟨s.first'.ZH,s.first'.Zt,s.first'.ZI⟩⟩:ZZ)=s from rfl,Z,bS,bS,bS,YW (by simp;omega),bS]
    | false =>
     rw [cF,cF,YW (by simp;omega),List.nil_append,bS,YW (by simp;omega),bS,bS]
   rw [show (x.Zq==(3:Int))=false by simpa using L,cF]
   by_cases W:x.Zq=4
   ·rw [show (x.Zq==(4:Int))=true by simpa using W,cT,Zix hre,bS,SN _ (by rw [List.length_drop];omega) (by rw [List.length_drop];omega),bS,Zgs]
    have t1:Rk (bif !Xk x.Zt (u.drop w) then Y3 N s x.Zt 10 else some s) s ((!Xk x.Zt (u.drop w))=false) [] 0:=Rk.test (by decide)
    have t2:Rk ((bif !Xk x.Zt (u.drop w) then Y3 N s x.Zt 10 else some s).bind fun t=>bif decide (Y9 (fun y=>y.toList==x.Zt.toList) u < (v:Int)) then Y3 N t x.Zt 7 else some t) s ((!Xk x.Zt (u.drop w))=false/\decide (Y9 (fun y=>y.toList==x.Zt.toList) u < (v:Int))=false) ([]++[]) (0+0) :=
     Rk.seq t1 fun t _ _ _=>Rk.test (by decide)
    have ⟨o,e,g⟩:=C _ _ _ _ u w t2 (A (by omega)) (by omega) (by omega) hre (by
     unfold Uw
     rw [eK,eN,Bool.not_eq_false',WM,decide_eq_false_iff_not,Int.not_lt]
     exact ⟨fun q=>⟨by omega,by omega,by omega,fun _=>q,by omega⟩,fun q=>q.2.2.2.1 W⟩) (D (by omega)) (E (by omega))
    refine ⟨o,?_,g⟩
    rw [<- e]
    cases hi:Xk x.Zt (u.drop w) with
    | false =>
     have ⟨t,Z,g2⟩:=Rk.note (N:=N) s x.Zt (e:=10) (by decide) [] 0
     rw [Bool.not_false,cT,cT,show (⟨s.l',⟨s.p'.Zt,s.p'.ZD,s.p'.ZE,s.p'.ZF⟩,s.calls',⟨s.first'.ZH,s.first'.Zt,s.first'.ZI⟩⟩:ZZ)=s from rfl,Z,bS,bS,SN _ (by omega) (by omega),bS]
     cases decide (Y9 (fun y=>y.toList==x.Zt.toList) u < (v:Int))<;>rfl
    | true =>
     rw [Zg,cF,cF,bS,SN _ (by omega) (by omega),bS]
     cases decide (Y9 (fun y=>y.toList==x.Zt.toList) u < (v:Int))<;>rfl
   rw [show (x.Zq==(4:Int))=false by simpa using W,cF]
   by_cases h5:x.Zq=5
   ·rw [show (x.Zq==(5:Int))=true by simpa using h5,cT]
    exact C (some s) _ _ _ u u.length (Rk.skip s) (A (by omega)) (by omega) (by omega) (Zo _) (by
     unfold Uw
     rw [eK]
     exact ⟨fun q=>⟨by omega,by omega,by omega,by omega,by omega⟩,fun _=>trivial⟩) (D (by omega)) (by unfold SP;rw [eK,if_pos h5])
   rw [show (x.Zq==(5:Int))=false by simpa using h5,cF]
   by_cases R:x.Zq=6
   ·rw [show (x.Zq==(6:Int))=true by simpa using R,cT]
    have hca:=ZpC (N:=N) s x hS hto (by omega)
    rw [B,G] at hca
    exact C _ _ _ _ u w hca (by unfold TN;rw [eK,if_pos R,eA]) (by omega) (by omega) hre (by
     unfold Uw
     rw [eK]
     exact ⟨fun q=>⟨by omega,by omega,by omega,by omega,fun _=>q⟩,fun q=>q.2.2.2.2 R⟩) (D (by omega)) (E (by omega))
   ·rw [show (x.Zq==(6:Int))=false by simpa using R,cF]
    exact C (some s) _ _ _ u w (Rk.skip s) (A R) (by omega) (by omega) hre (by
     unfold Uw
     rw [eK]
     exact ⟨fun q=>⟨by omega,by omega,by omega,by omega,by omega⟩,fun _=>trivial⟩) (D L) (E h5)
  have ⟨o,e,g⟩:=La l (fun n c i=>Us N (UU N) l u (w:Int) (M:Int) n c.l' c.p'.Zt c.p'.ZD c.p'.ZE c.p'.ZF c.calls' c.first'.ZH c.first'.Zt c.first'.ZI i)
   (fun c=>DJ c.l' c.p'.Zt c.p'.ZD c.p'.ZE c.p'.ZF c.calls' c.first'.ZH c.first'.Zt c.first'.ZI) Option.bind (fun _ _=>rfl)
   (fun k x=>SO (c.l'.map oP) (oP c.p') u w (if k+1=l.length then M else u.length) (oI x)) (fun x=>U4 (oI x)) (fun x=>cI (oI x)) c.l' c.p' 4194304
   (fun n k x s K G B hc1=>by
    rw [VM K,List.map_cons,List.sum_cons] at hc1
    have hk:=Yf K
    have ⟨o,e,g⟩:=k6 k x s (if k+1=l.length then M else u.length) (fun a b c d e f g h i j=>Us N (UU N) l u (w:Int) (M:Int) n a b c d e f g h i j) K G B (by omega)
    refine ⟨o,?_,g⟩
    rw [<- e]
    simp only [Us,Yh hk,cT,Ye,K,bS]
    rw [XL (by omega) (by omega)]
    by_cases hl:k+1=l.length
    ·rw [dF (by omega),cF,if_pos hl]
    ·rw [dT (by omega),cT,if_neg hl])
   (fun n k s hk=>by simp only [Us,Yl hk,cF]) (N:=N) (by omega) c rfl rfl (by rw [<- ZgK];omega)
  rw [<- ZlF,<- ZgK] at g
  have e':=e.trans (show (o.bind fun c=>DJ c.l' c.p'.Zt c.p'.ZD c.p'.ZE c.p'.ZF c.calls' c.first'.ZH c.first'.Zt c.first'.ZI)=o from VH o)
  refine Eq.mp (congrArg (fun o=>Rk o c _ _ _) e'.symm) (g.iff (Zjx _ _ _ _ _ _).symm)
end Gp
end
section
namespace Gp
open Go Go.Kx Gx
theorem Zj3 {α:Type} {xs:List α} {j k:Nat} {x:α} (h:(xs.take j)[k]? = some x):k < j/\xs[k]? = some x:=by
 have b:=Yf h
 rw [List.length_take] at b
 rw [List.getElem?_take] at h
 split at h
 ·rename_i a;exact ⟨a,h⟩
 ·cases h
theorem Zm9 {N:Nat} (c:ZZ) (m:Yi) (L:4194304 < N) (M:m.Zy.length<=4194304):Rk (Lu N c m) c (QH (oM m)) [] 0:=by
 unfold Lu
 have I:∀ (j:Nat) (f:T0) (d:ZZ) (ag),j < 4194304->∃ o,Lw N (j:Int) ag f d.l' d.p'.Zt d.p'.ZD d.p'.ZE d.p'.ZF d.calls' d.first'.ZH d.first'.Zt d.first'.ZI =
   o.bind (fun h:ZZ=>ag h.l' h.p'.Zt h.p'.ZD h.p'.ZE h.p'.ZF h.calls' h.first'.ZH h.first'.Zt h.first'.ZI ((j+1:Nat):Int))/\Rk o d (Rv f) [] 0:=by
  intro j f d ag x
  have y:∀ a b:Int,∃ o,Lv N (j:Int) ag f d.l' d.p'.Zt d.p'.ZD d.p'.ZE d.p'.ZF d.calls' d.first'.ZH d.first'.Zt d.first'.ZI a b =
    o.bind (fun h:ZZ=>ag h.l' h.p'.Zt h.p'.ZD h.p'.ZE h.p'.ZF h.calls' h.first'.ZH h.first'.Zt h.first'.ZI ((j+1:Nat):Int))/\Rk o d (f.Zu.Lo<=f.Zu.Hi/\a<=f.Zu.Lo/\f.Zu.Hi<=b) [] 0:=by
   intro a b
   refine ⟨bif (decide (f.Zu.Lo < a) || (decide (f.Zu.Hi > b) || decide (f.Zu.Lo > f.Zu.Hi))) then Y3 N d f.Zt 2 else some d,?_,(Rk.test (by decide)).iff ?_⟩
   ·unfold Lv
    rw [YT (by omega)]
    cases decide (f.Zu.Lo < a)<;>cases decide (f.Zu.Hi > b)<;>cases decide (f.Zu.Lo > f.Zu.Hi)<;>rfl
   ·simp only [Bool.or_eq_false_iff,decide_eq_false_iff_not]
    omega
  unfold Lw
  cases l:(f.Zu.Zq==(2:Int)) with
  | true =>
   have ⟨o,e,g⟩:=y 0 40
   exact ⟨o,e,g.iff (by unfold Rv;rw [l];rfl)⟩
  | false =>
   have ⟨o,e,g⟩:=y (-1000) 1000
   exact ⟨o,e,g.iff (by unfold Rv;rw [l];rfl)⟩
 have ⟨o,e,g⟩:=La m.Zy (fun n c i=>Uq N m n c.l' c.p'.Zt c.p'.ZD c.p'.ZE c.p'.ZF c.calls' c.first'.ZH c.first'.Zt c.first'.ZI i)
  (fun c=>Gw c.l' c.p'.Zt c.p'.ZD c.p'.ZE c.p'.ZF c.calls' c.first'.ZH c.first'.Zt c.first'.ZI) Option.bind (fun _ _=>rfl)
  (fun j f=>(∀ g∈m.Zy.take j,g.Zt≠f.Zt)/\Rv f) (fun _=>[]) (fun _=>0) c.l' c.p' c.calls'.length
  (fun n j f d v O P _=>by
   have x:=Yf v
   have u:(m.Zy.take j).length=j:=by rw [List.length_take];omega
   have ⟨o1,B,h,C,w⟩:=La (m.Zy.take j) (fun p c i=>R9 N m (j:Int) (Uq N m n) f p c.l' c.p'.Zt c.p'.ZD c.p'.ZE c.p'.ZF c.calls' c.first'.ZH c.first'.Zt c.first'.ZI i)
    (fun c=>Lw N (j:Int) (Uq N m n) f c.l' c.p'.Zt c.p'.ZD c.p'.ZE c.p'.ZF c.calls' c.first'.ZH c.first'.Zt c.first'.ZI) Option.bind (fun _ _=>rfl)
    (fun _ g=>g.Zt≠f.Zt) (fun _=>[]) (fun _=>0) d.l' d.p' d.calls'.length
    (fun p k g h z _ _ _=>by
     have ⟨q,r⟩:=Zj3 z
     refine ⟨bif (g.Zt.toList==f.Zt.toList) then Y3 N h f.Zt 9 else some h,?_,(Rk.test (by decide)).iff ?_⟩
     ·simp only [R9,Yh q,cT,Ye,r,bS]
      rw [YT (by omega)]
      cases (g.Zt.toList==f.Zt.toList)<;>rfl
     ·rw [<- Bool.not_eq_true,Xm])
    (fun p k h l=>by rw [u] at l;simp only [R9,Yl l,cF]) (N:=N) (by omega) d rfl rfl (by rw [Xx];omega)
   rw [Xx,Vp] at w
   subst C
   have ⟨D,E,F,G,H⟩:=I j f h (Uq N m n) (by omega)
   refine ⟨D,?_,F,G,(w.seq H).iff ?_⟩
   ·simp only [Uq,Yh x,cT,Ye,v,bS]
    exact B.trans E
   ·constructor
    ·rintro ⟨s,t⟩
     refine ⟨fun g A=>?_,t⟩
     have ⟨k,l⟩:=List.mem_iff_getElem?.1 A
     exact s k g l
    ·rintro ⟨s,t⟩
     exact ⟨fun k g l=>s g (Zb l),t⟩)
  (fun n k d l=>by simp only [Uq,Yl l,cF]) (N:=N) (by omega) c rfl rfl (by rw [Xx];omega)
 rw [Xx,Vp] at g
 have K:=e.trans (show (o.bind fun c=>Gw c.l' c.p'.Zt c.p'.ZD c.p'.ZE c.p'.ZF c.calls' c.first'.ZH c.first'.Zt c.first'.ZI)=o from VH o)
 exact Eq.mp (congrArg (fun o=>Rk o c _ _ _) K.symm) g
def MK (fs:List T0) (t:Ys):Option T0:=fs.find? fun f=>f.Zt.toList==t.Field.toList
def Xi (p:ZU) (m:Yi) (t:Ys):Option T0 :=
 bif !(t.Zv.toList==(str []).toList) then (p.ZE.find? (fun q=>q.Zt.toList==t.Zv.toList)).bind (fun q=>MK q.Zy t) else MK m.Zy t
def BW:T0:=⟨str [],⟨0,0,0⟩⟩
theorem ZpZ {N:Nat} (p:ZU) (m:Yi) (t:Ys) (g:4194304 < N) (b:p.ZE.length<=4194304) (i:∀ m∈p.ZE,m.Zy.length<=4194304) (j:m.Zy.length<=4194304) :
  GZ N p m t=some ((Xi p m t).elim (BW,false) fun f=>(f,true)):=by
 have e:∀ (a:ByteArray) (fs:List T0) (w),fs.length<=4194304->LQ N t a fs w=some ((MK fs t).elim (BW,false) fun f=>(f,true)):=by
  intro a fs w h
  unfold LQ MK
  refine Zd8 fs (fun f=>f.Zt.toList==t.Field.toList) (BW,false) (fun f=>(f,true)) (PH t fs) (fun n k x d c=>?_) (fun n k c=>?_) (N:=N) (by omega) (by omega)
  ·simp only [PH,Yh (Yf d),cT,Ye,d,bS]
   rw [Yy c]
  ·simp only [PH,Yl c,cF,ZbC,BW]
 unfold GZ Xi
 cases (!(t.Zv.toList==(str []).toList)) with
 | false=>rw [cF,cF,e _ _ _ j]
 | true =>
  rw [cT,cT,Zjr p t.Zv b g,bS]
  cases h:p.ZE.find? (fun m=>m.Zt.toList==t.Zv.toList) with
  | none=>rfl
  | some q =>
   simp only [Option.elim_some,Zg,cF,bS]
   exact e _ _ _ (i q (List.mem_of_find?_eq_some h))
def Th (t:Ys) (o:Option T0):Bool:=(t.Zq==3) && o.elim false fun f=>f.Zu.Zq != 2
def Vv (t:Ys) (o:Option T0):Nat:=bif t.Zq==2 then (o.elim 0 fun f=>bif f.Zu.Zq==2 then 1 else 0) else 0
def TH (p:ZU) (m:Yi) (a:T9):Prop :=
 ((!(a.Zw.Zq==1) && (Xi p m a.Zw).isNone)=false)/\((!(a.Zx.Zq==1) && (Xi p m a.Zx).isNone)=false)/\((Th a.Zw (Xi p m a.Zw) || Th a.Zx (Xi p m a.Zx))=false) /\
 (Vv a.Zw (Xi p m a.Zw)+Vv a.Zx (Xi p m a.Zx) > 0->Vv a.Zw (Xi p m a.Zw)+Vv a.Zx (Xi p m a.Zx)>=2/\a.Op=str [61,61]/\a.Zw.N=0/\a.Zx.N=0)
theorem Zax (t o):Vv t o<=1:=by
 unfold Vv
 cases (t.Zq==2) with
 | false=>exact Nat.zero_le _
 | true =>
  cases o with
  | none=>exact Nat.zero_le _
  | some f=>rw [cT,Option.elim_some];cases (f.Zu.Zq==2)<;>simp
theorem ZlI {N:Nat} (c:ZZ) (m:Yi) (a:T9) (z:Sr N c) (E:∀ m∈c.p'.ZE,m.Zy.length<=4194304) (F:m.Zy.length<=4194304):Rk (Gy N c m a) c (TH c.p' m a) [] 0:=by
 have W:=z.n
 have B:∀ (d:ZZ) (g i:Nat) (wr:Bool) (ag) (t:Ys),g<=1->i<=1->d.p'=c.p' ->
   Ly N m d.l' d.p'.Zt d.p'.ZD d.p'.ZE d.p'.ZF d.calls' d.first'.ZH d.first'.Zt d.first'.ZI (g:Int) wr (i:Int) ag t.Zq t.Zv t.Field t.N =
   (bif (!(t.Zq==1) && (Xi c.p' m t).isNone) then Y3 N d m.Zt 10 else some d).bind fun j:ZZ =>
    ag j.l' j.p'.Zt j.p'.ZD j.p'.ZE j.p'.ZF j.calls' j.first'.ZH j.first'.Zt j.first'.ZI ((g+Vv t (Xi c.p' m t):Nat):Int) (wr || Th t (Xi c.p' m t)) ((i+1:Nat):Int):=by
  intro d g i wr ag t k hi y
  unfold Ly
  rw [YT (n:=i) (by omega)]
  by_cases s:t.Zq=1
  ·have x:(t.Zq==(3:Int))=false:=by simp;omega
   have r:(t.Zq==(2:Int))=false:=by simp;omega
   rw [show (t.Zq==(1:Int))=true by simpa using s]
   unfold Vv Th
   rw [r,x]
   simp
  ·rw [show (t.Zq==(1:Int))=false by simpa using s,cF,
    show (⟨t.Zq,t.Zv,t.Field,t.N⟩:Ys)=t from rfl,
    show (⟨d.p'.Zt,d.p'.ZD,d.p'.ZE,d.p'.ZF⟩:ZU)=d.p' from rfl,y,ZpZ c.p' m t (by omega) z.m E F,bS]
   cases h:Xi c.p' m t with
   | none =>
    unfold Vv Th
    rw [<- y]
    simp only [Option.elim_none,Bool.not_false,cT,Option.isNone_none,Bool.and_self,Bool.and_false,Bool.or_false]
    cases (t.Zq==(2:Int))<;>rfl
   | some f =>
    unfold Vv Th GA
    rw [<- y]
    simp only [Option.elim_some,Zg,cF,Option.isNone_some,Bool.and_false,bS]
    rw [YT (n:=g) (by omega),YT (n:=i) (by omega)]
    by_cases D:t.Zq=3
    ·have r:(t.Zq==(2:Int))=false:=by simp;omega
     rw [show (t.Zq==(3:Int))=true by simpa using D,r]
     cases (f.Zu.Zq != 2)<;>cases wr<;>rfl
    ·rw [show (t.Zq==(3:Int))=false by simpa using D]
     cases (t.Zq==(2:Int))<;>cases (f.Zu.Zq==2)<;>cases wr<;>rfl
 have P:∀ (d:ZZ) (g:Nat),g<=2->Rk (Pj N m a (g:Int) d.l' d.p'.Zt d.p'.ZD d.p'.ZE d.p'.ZF d.calls' d.first'.ZH d.first'.Zt d.first'.ZI) d (g > 0->g>=2/\a.Op=str [61,61]/\a.Zw.N=0/\a.Zx.N=0) [] 0:=by
  intro d g k
  have l:Rk (bif (decide (g > 0) && (decide (g < 2) || (!(a.Op.toList==(str [61,61]).toList) || (a.Zw.N != 0 || a.Zx.N != 0)))) then Y3 N d m.Zt 11 else some d) d _ [] 0:=Rk.test (by decide)
  refine Eq.mp (congrArg (fun o=>Rk o d _ _ _) ?_) (l.iff ?_)
  ·unfold Pj
   have R:decide ((g:Int) > 0)=decide (g > 0):=by
    by_cases h:g > 0
    ·rw [dT h,dT (by omega)]
    ·rw [dF h,dF (by omega)]
   have S:decide ((g:Int) < 2)=decide (g < 2):=by
    by_cases h:g < 2
    ·rw [dT h,dT (by omega)]
    ·rw [dF h,dF (by omega)]
   rw [R,S]
   simp only [VH]
   cases decide (g > 0)<;>cases decide (g < 2)<;>cases (a.Op.toList==(str [61,61]).toList)<;>cases (a.Zw.N != 0)<;>cases (a.Zx.N != 0)<;>rfl
  ·simp only [Bool.or_eq_false_iff,Bool.and_eq_false_iff,decide_eq_false_iff_not,ZiV,bne_eq_false_iff_eq]
   constructor
   ·rintro (q | ⟨G,u,v,w⟩) h
    ·exact absurd h q
    ·exact ⟨by omega,u,v,w⟩
   ·intro q
    by_cases h:g > 0
    ·have ⟨G,u,v,w⟩:=q h
     exact .inr ⟨by omega,u,v,w⟩
    ·exact .inl h
 have T:∀ (d:ZZ) (g:Nat) (wr:Bool),g<=2->Rk (Gz N m a d.l' d.p'.Zt d.p'.ZD d.p'.ZE d.p'.ZF d.calls' d.first'.ZH d.first'.Zt d.first'.ZI (g:Int) wr) d (wr=false/\(g > 0->g>=2/\a.Op=str [61,61]/\a.Zw.N=0/\a.Zx.N=0)) ([]++[]) (0+0):=by
  intro d g wr k
  have l:Rk (bif wr then Y3 N d m.Zt 11 else some d) d (wr=false) [] 0:=Rk.test (by decide)
  have:=Rk.seq l (f:=fun c=>Pj N m a (g:Int) c.l' c.p'.Zt c.p'.ZD c.p'.ZE c.p'.ZF c.calls' c.first'.ZH c.first'.Zt c.first'.ZI) fun j _ _ _=>P j g k
  refine Eq.mp (congrArg (fun o=>Rk o d _ _ _) ?_) this
  unfold Gz
  cases wr<;>rfl
 obtain ⟨M,rfl⟩:∃ M,N=M+3:=⟨N-3,by omega⟩
 unfold Gy
 have l:=fun (t:Ys) (d:ZZ)=>Rk.test (N:=M+3) (b := !(t.Zq==1) && (Xi c.p' m t).isNone) (c:=d) (nm:=m.Zt) (e:=10) (by decide)
 have ⟨j,r,A⟩:=l a.Zw c
 have ⟨H,x,I⟩:=l a.Zx j
 have U:=Zax a.Zw (Xi c.p' m a.Zw)
 have V:=Zax a.Zx (Xi c.p' m a.Zx)
 have ⟨K,L,O⟩:=T H (Vv a.Zw (Xi c.p' m a.Zw)+Vv a.Zx (Xi c.p' m a.Zx)) (Th a.Zw (Xi c.p' m a.Zw) || Th a.Zx (Xi c.p' m a.Zx)) (by omega)
 refine ⟨K,?_,((A.seq I).seq O).iff ?_⟩
 ·have C:=B c 0 0 false (UQ (M+3) m a (M+2)) a.Zw (by omega) (by omega) rfl
  have s:=B j (0+Vv a.Zw (Xi c.p' m a.Zw)) 1 (false || Th a.Zw (Xi c.p' m a.Zw)) (UQ (M+3) m a (M+1)) a.Zx (by omega) (by omega) A.p
  rw [r,bS] at C
  rw [x,bS] at s
  rw [UQ,show decide ((0:Int) < 2)=true from rfl,cT,show ((0:Int)==0)=true from rfl,cT]
  refine C.trans ?_
  rw [UQ,show decide (((0+1:Nat):Int) < 2)=true from rfl,cT,show (((0+1:Nat):Int)==0)=false from rfl,cF,show (((0+1:Nat):Int)==1)=true from rfl,cT]
  refine s.trans ?_
  rw [UQ,show decide (((1+1:Nat):Int) < 2)=false from rfl,cF,Nat.zero_add,Bool.false_or]
  exact L
 ·unfold TH;simp only [and_assoc]
theorem Zar {α γ:Type} (xs:List α) (F:Nat->ZZ->Int->γ) (j:ZZ->γ) (b:Option ZZ->(ZZ->γ)->γ) (D:∀ c f,b (some c) f=f c)
  (P:Nat->α->Prop) (z:α->List ByteArray) (m:α->Nat) (a0:List ZU) (u:ZU) (B:Nat)
  (E:∀ (n k:Nat) x c,xs[k]? = some x->c.l'=a0->c.p'=u->c.calls'.length+((xs.drop k).map m).sum<=B->∃ o,F (n+1) c (k:Int)=b o (fun A=>F n A ((k+1:Nat):Int))/\Rk o c (P k x) (z x) (m x))
  (G:∀ (n k:Nat) c,xs.length<=k->c.l'=a0->c.p'=u->F (n+1) c (k:Int)=j c) {N:Nat} (H:xs.length < N) (c:ZZ) (r:c.l'=a0) (s:c.p'=u) (hB:c.calls'.length+(xs.map m).sum<=B) :
  ∃ o,F N c (0:Int)=b o j/\Rk o c (∀ (k:Nat) x,xs[k]? = some x->P k x) (xs.flatMap z) (xs.map m).sum:=by
 have key:∀ (l:List α) (k n:Nat) (c:ZZ),xs.drop k=l->l.length < n->c.l'=a0->c.p'=u->c.calls'.length+(l.map m).sum<=B ->
   ∃ o,F n c (k:Int)=b o j/\Rk o c (∀ (i:Nat) x,l[i]? = some x->P (k+i) x) (l.flatMap z) (l.map m).sum:=by
  intro l
  induction l with
  | nil =>
   intro k n c h w r s hB
   obtain ⟨n,rfl⟩:=pS n (by simp at w;omega)
   refine ⟨some c,by rw [G n k c (Xh h) r s,D],?_⟩
   exact (Rk.skip c).iff (by simp)
  | cons x l S =>
   intro k n c h w r s hB
   obtain ⟨n,rfl⟩:=pS n (by simp at w;omega)
   have ⟨a,e,d⟩:=Xg h
   have ⟨o1,v,A,C,g⟩:=E n k x c e r s (by rw [h];exact hB)
   subst C
   rw [D] at v
   rw [List.map_cons,List.sum_cons] at hB
   have ⟨I,K,L⟩:=S (k+1) n A d (by simp at w;omega) (by rw [g.all,r]) (by rw [g.p,s]) (by have:=g.len;omega)
   refine ⟨I,v.trans K,?_⟩
   have ⟨M,O,R⟩:=L
   refine ⟨M,O,(g.seq R).iff ?_⟩
   constructor
   ·rintro ⟨v,C⟩ i y t
    cases i with
    | zero=>simp only [List.getElem?_cons_zero,Option.some.injEq] at t;subst t;exact v
    | succ i=>rw [List.getElem?_cons_succ] at t;have:=C i y t;rwa [show k+(i+1)=k+1+i by omega]
   ·intro q
    refine ⟨q 0 x rfl,fun i y t=>?_⟩
    have:=q (i+1) y (by rw [List.getElem?_cons_succ];exact t)
    rwa [show k+(i+1)=k+1+i by omega] at this
 have:=key xs 0 N c rfl H r s hB
 simpa using this
def Bl (p:ZU):Prop:=∀ (k:Nat) m,p.ZE[k]? = some m->(∀ q∈p.ZE.take k,q.Zt≠m.Zt)/\QH (oM m)
theorem Zoq {N:Nat} (c:ZZ) (B:Sr N c) (C:∀ m∈c.p'.ZE,m.Zy.length<=4194304/\m.Zz.length<=4194304) :
  Rk (DF N c) c (Bl c.p'/\∀ m∈c.p'.ZE,∀ a∈m.Zz,TH c.p' m a) [] 0:=by
 have hN:=B.n
 have hml:=B.m
 unfold DF
 -- the atoms
 have k5:∀ d:ZZ,d.l'=c.l'->d.p'=c.p'->Rk (P8 N d.l' d.p'.Zt d.p'.ZD d.p'.ZE d.p'.ZF d.calls' d.first'.ZH d.first'.Zt d.first'.ZI) d (∀ m∈c.p'.ZE,∀ a∈m.Zz,TH c.p' m a) [] 0:=by
  intro d y I
  unfold P8
  have ⟨o,e,g⟩:=Zar c.p'.ZE (fun n c i=>TB N n c.l' c.p'.Zt c.p'.ZD c.p'.ZE c.p'.ZF c.calls' c.first'.ZH c.first'.Zt c.first'.ZI i)
   (fun c=>DG c.l' c.p'.Zt c.p'.ZD c.p'.ZE c.p'.ZF c.calls' c.first'.ZH c.first'.Zt c.first'.ZI) Option.bind (fun _ _=>rfl)
   (fun _ m=>∀ (k:Nat) a,m.Zz[k]? = some a->TH c.p' m a) (fun _=>[]) (fun _=>0) c.l' c.p' d.calls'.length
   (fun n j m v r w l _=>by
    have t:=Yf r
    have ⟨u,K⟩:=C m (Zb r)
    have ⟨o1,T,O⟩:=La m.Zz (fun D c i=>P9 N (j:Int) (TB N n) m D c.l' c.p'.Zt c.p'.ZD c.p'.ZE c.p'.ZF c.calls' c.first'.ZH c.first'.Zt c.first'.ZI i)
     (fun c=>DH (j:Int) (TB N n) c.l' c.p'.Zt c.p'.ZD c.p'.ZE c.p'.ZF c.calls' c.first'.ZH c.first'.Zt c.first'.ZI) Option.bind (fun _ _=>rfl)
     (fun _ a=>TH c.p' m a) (fun _=>[]) (fun _=>0) c.l' c.p' v.calls'.length
     (fun D k a x E F s _=>by
      have h:=ZlI (N:=N) x m a (B.of F s) (by rw [s];exact fun m G=>(C m G).1) u
      rw [s] at h
      refine ⟨_,?_,h⟩
      simp only [P9,Yh (Yf E),cT,Ye,E,bS]
      rw [YT (by have:=Yf E;omega)])
     (fun D k x p=>by simp only [P9,Yl p,cF]) (N:=N) (by omega) v w l (by rw [Xx];omega)
    rw [Xx,Vp] at O
    refine ⟨o1,?_,O⟩
    simp only [TB]
    rw [l,Yh t,cT,Ye,r,bS,<- l]
    refine T.trans ?_
    congr 1
    funext x
    unfold DH
    rw [YT (by omega)])
   (fun n k v p _ l=>by
    simp only [TB]
    rw [l,Yl p,cF]) (N:=N) (by omega) d y I (by rw [Xx];omega)
  rw [Xx,Vp] at g
  have e':=e.trans (show (o.bind fun c=>DG c.l' c.p'.Zt c.p'.ZD c.p'.ZE c.p'.ZF c.calls' c.first'.ZH c.first'.Zt c.first'.ZI)=o from VH o)
  refine Eq.mp (congrArg (fun o=>Rk o d _ _ _) e'.symm) (g.iff ?_)
  constructor
  ·intro q m G a y
   have ⟨j,t⟩:=List.mem_iff_getElem?.1 G
   have ⟨k,p⟩:=List.mem_iff_getElem?.1 y
   exact q j m t k a p
  ·exact fun q j m t k a p=>q m (Zb t) a (Zb p)
 have ⟨o,e,g⟩:=Zar c.p'.ZE (fun n d i=>Qu N n d.l' d.p'.Zt d.p'.ZD d.p'.ZE d.p'.ZF d.calls' d.first'.ZH d.first'.Zt d.first'.ZI ((c.p'.ZE.take i.toNat).map fun m=>m.Zt) i)
  (fun c=>P8 N c.l' c.p'.Zt c.p'.ZD c.p'.ZE c.p'.ZF c.calls' c.first'.ZH c.first'.Zt c.first'.ZI) Option.bind (fun _ _=>rfl)
  (fun k m=>(∀ q∈c.p'.ZE.take k,q.Zt≠m.Zt)/\QH (oM m)) (fun _=>[]) (fun _=>0) c.l' c.p' c.calls'.length
  (fun n j m v r w l _=>by
   have ⟨U,V,W,X⟩:=v
   have l:V=c.p':=l
   subst l
   have t:=Yf r
   have ⟨u,K⟩:=C m (Zb r)
   have z:((c.p'.ZE.take j).map fun m=>m.Zt).length=j:=by rw [List.length_map,List.length_take];omega
   have ⟨x,A,Y⟩:=Rk.test (N:=N) (b:=Xk m.Zt ((c.p'.ZE.take j).map fun m=>m.Zt)) (c:=⟨U,c.p',W,X⟩) (nm:=m.Zt) (e:=9) (by decide)
   have ⟨P,R,Z⟩:=Zm9 (N:=N) x m (by omega) u
   refine ⟨some P,?_,P,rfl,(Y.seq Z).iff ?_⟩
   ·have hn:((c.p'.ZE.take ((j+1:Nat):Int).toNat).map fun m=>m.Zt)=((c.p'.ZE.take j).map fun m=>m.Zt)++[m.Zt]:=by
     rw [Int.toNat_natCast,Gb r,List.map_append];rfl
    simp only [Qu]
    rw [hn,Int.toNat_natCast,Yh t,cT,Ye,r,bS,SN _ (by omega) (by omega),bS,M9,YT (by omega)]
    cases S:Xk m.Zt ((c.p'.ZE.take j).map fun m=>m.Zt) with
    | true =>
     rw [S,cT] at A
     rw [cT,A,bS,YW (by rw [z];simp;omega),bS,R]
    | false =>
     rw [S,cF] at A
     cases A
     rw [cF,YW (by rw [z];simp;omega),bS,R]
   ·rw [<- Bool.not_eq_true,WM,List.mem_map]
    constructor
    ·rintro ⟨L,M⟩;exact ⟨fun q H e=>L ⟨q,H,e⟩,M⟩
    ·rintro ⟨L,M⟩;exact ⟨fun ⟨q,H,e⟩=>L q H e,M⟩)
  (fun n k v p _ l=>by
   simp only [Qu]
   rw [l,Yl p,cF]) (N:=N) (by omega) c rfl rfl (by rw [Xx];omega)
 rw [Xx,Vp] at g
 refine Eq.mp (congrArg (fun o=>Rk o c _ _ _) e.symm) ?_
 exact Rk.seq g (f:=fun c=>P8 N c.l' c.p'.Zt c.p'.ZD c.p'.ZE c.p'.ZF c.calls' c.first'.ZH c.first'.Zt c.first'.ZI) (bs:=[]) (m:=0) fun d y I _=>k5 d y I
end Gp
end
section
namespace Gp
open Go Go.Kx Gx
theorem ZgV:∀ (l:List ZT) (s:List ByteArray),l.foldl (fun s x=>s++VK (oI x)) s=s++Xc (oL l)
 | [],s=>by simp [oL,Xc]
 | x::l,s=>by rw [List.foldl_cons,ZgV l];simp only [oL,Xc,aA]
theorem ZgT:∀ (l:List (List ZT)) (s:List ByteArray),l.foldl (fun s x=>s++Xc (oL x)) s=s++WA (YA l)
 | [],s=>by simp [YA,WA]
 | x::l,s=>by rw [List.foldl_cons,ZgT l];simp only [YA,WA,aA]
theorem Zev:∀ (N:Nat) (xs:List ZT),4194306+dL (oL xs)<=N->xs.length<=4194304->bL (oL xs)->cL (oL xs)<=4194304->S5 N xs=some (Xc (oL xs))
 | 0,_,h,_,_,_=>by omega
 | N+1,xs,h,hs,hb,hc=>by
  show GD N (S5 N) xs=_
  unfold GD
  have a:∀ (k:Nat) (x:ZT) (s:List ByteArray) (ag:List ByteArray->Int->Option (List ByteArray)),xs[k]? = some x->s.length+YF (YA x.ZC)<=4194304 ->
    LB N (S5 N) xs (k:Int) ag s=ag (s++WA (YA x.ZC)) ((k+1:Nat):Int):=by
   intro k x s ag c m
   have t:=Zb c
   have g:=(WT _).1 (Wy hb (XV t))
   rw [Xl,UK] at g
   have o:=Wt (XV t)
   rw [Ws,Xl] at o
   have r:=Yf c
   unfold LB
   have:=(Xz x.ZC (Po (S5 N) xs (k:Int) ag) (fun s b=>s++Xc (oL b)) (fun s=>ag s ((k+1:Nat):Int))
    (fun j s=>s.length+YF (YA (x.ZC.drop j))<=4194304) (fun n j s b hi d=>?_) (fun n j s hi d=>?_) (N:=N) (s:=s) (by omega) (by rw [List.drop_zero];exact m)).1
   ·rw [this,ZgT]
   ·rw [VM d] at hi
    simp only [YA,YF] at hi
    have i:=Zb d
    have f:=Vl g.2.2 (WD i)
    rw [UL] at f
    have u:=WK (WD i)
    have p:=MC (oL b)
    have e:=Zev N b (by omega) f.1 f.2 (by omega)
    refine ⟨?_,by rw [lA];omega⟩
    simp only [Po,Ye,c,bS,Yh (Yf d),cT,d,e]
    rw [YW (by omega),bS,Yy (by have:=Yf d;omega)]
   ·simp only [Po,Ye,c,bS,Yl d,cF,Za0]
    rw [Yy (by omega)]
  have:=(Xz xs (Tr N (S5 N) xs) (fun s x=>s++VK (oI x)) (fun s=>some s)
   (fun j s=>s.length+cL (oL (xs.drop j))<=4194304) (fun n k s x hi c=>?_) (fun n k s hi r=>?_) (N:=N) (s:=[]) (by omega) (by rw [List.drop_zero];simpa using hc)).1
  ·rw [this,ZgV];simp
  ·rw [VM c] at hi
   simp only [oL,cL] at hi
   have q:=Ud (oI x)
   have p:=Zds (oI x)
   rw [Xl] at q
   have eK:(oI x).Zq=x.Zq:=by rw [XU]
   have v:(oI x).Zt=x.Zt:=by rw [XU]
   refine ⟨?_,by rw [lA];omega⟩
   simp only [Tr,Yh (Yf c),cT,Ye,c,bS]
   rw [ZgR,Xl]
   unfold RG
   rw [eK,v]
   by_cases l:x.Zq=6
   ·rw [show (x.Zq==(6:Int))=true by simpa using l,cT,YW (by simp;omega),bS,a k x _ _ c (by simp;omega),if_pos l,aA]
   ·rw [show (x.Zq==(6:Int))=false by simpa using l,cF,a k x _ _ c (by omega),if_neg l,List.nil_append]
  ·simp only [Tr,Yl r,cF,ZaZ]
def Vh (l:List ZU):Nat->ByteArray->Prop
 | 0,a=>∃ q,l.find? (fun m=>m.Zt.toList==a.toList)=some q/\Xc (oL q.ZF)≠[]
 | k+1,a=>∃ q,l.find? (fun m=>m.Zt.toList==a.toList)=some q/\∃ b∈Xc (oL q.ZF),Vh l k b
structure Zr (N:Nat) (l:List ZU):Prop where
 len:l.length<=4194304
 p:∀ p∈l,RP p/\8388611+dL (oL p.ZF)<=N/\dL (oL p.ZF)<=4194304
 c:∀ p∈l,cL (oL p.ZF)<=4194304
 n:8388611 < N
theorem Zn7 {y:Nat} {l:List ZU} (d:Zr y l):∀ (k N:Nat) (a:ByteArray),k<=4->y<=N+1000-k->∃ b,Qw (N+1) l a (k:Int)=some b/\(b=true↔Vh l k a):=by
 intro k
 induction k with
 | zero =>
  intro N a H I
  have i:=d.n
  show ∃ b,Mb N (Qw N) l a ((0:Nat):Int)=some b/\_
  unfold Mb
  rw [ZeB l a d.len (by omega),bS]
  cases f:l.find? (fun m=>m.Zt.toList==a.toList) with
  | none =>
   refine ⟨false,rfl,?_⟩
   unfold Vh
   rw [f];simp
  | some q =>
   have o:=List.mem_of_find?_eq_some f
   have ⟨s,B,C⟩:=d.p q o
   have e:ZaY N q.ZF=_:=Zev N q.ZF (by omega) (QJ s) s.b (d.c q o)
   simp only [Option.elim_some,Zg,cF]
   rw [e,bS]
   obtain ⟨M,rfl⟩:∃ M,N=M+1:=⟨N-1,by omega⟩
   have u:Vh l 0 a↔Xc (oL q.ZF)≠[]:=by
    unfold Vh
    rw [f]
    exact ⟨fun ⟨A,h,g⟩=>by cases h;exact g,fun g=>⟨q,rfl,g⟩⟩
   rw [Qv]
   cases z:Xc (oL q.ZF) with
   | nil=>exact ⟨false,rfl,by rw [u,z];simp⟩
   | cons x r =>
    refine ⟨true,?_,by rw [u,z];simp⟩
    rw [show decide ((0:Int) < ((x::r).length:Int))=true by simp];rfl
 | succ k P =>
  intro N a H I
  have i:=d.n
  show ∃ b,Mb N (Qw N) l a ((k+1:Nat):Int)=some b/\_
  unfold Mb
  rw [ZeB l a d.len (by omega),bS]
  cases f:l.find? (fun m=>m.Zt.toList==a.toList) with
  | none =>
   refine ⟨false,rfl,?_⟩
   unfold Vh
   rw [f];simp
  | some q =>
   have o:=List.mem_of_find?_eq_some f
   have ⟨s,B,C⟩:=d.p q o
   have e:ZaY N q.ZF=_:=Zev N q.ZF (by omega) (QJ s) s.b (d.c q o)
   simp only [Option.elim_some,Zg,cF]
   rw [e,bS]
   have K:=MC (oL q.ZF)
   have L:=d.c q o
   have u:Vh l (k+1) a↔∃ b∈Xc (oL q.ZF),Vh l k b:=by
    rw [Vh,f]
    exact ⟨fun ⟨A,h,g⟩=>by cases h;exact g,fun g=>⟨q,rfl,g⟩⟩
   have key:∀ (r:List ByteArray) (j n:Nat),(Xc (oL q.ZF)).drop j=r->r.length < n->∃ b,Qv (Qw N) l ((k+1:Nat):Int) (Xc (oL q.ZF)) n (j:Int)=some b/\(b=true↔∃ x∈r,Vh l k x):=by
    intro r
    induction r with
    | nil =>
     intro j n h i
     obtain ⟨n,rfl⟩:=pS n (by simp at i;omega)
     exact ⟨false,by simp only [Qv,Yl (Xh h),cF,Zcv],by simp⟩
    | cons x r w =>
     intro j n h i
     obtain ⟨n,rfl⟩:=pS n (by simp at i;omega)
     have ⟨a2,D,d2⟩:=Xg h
     obtain ⟨M,rfl⟩:∃ M,N=M+1:=⟨N-1,by omega⟩
     have ⟨b,v,t⟩:=P M x (by omega) (by omega)
     simp only [Qv,Yh a2,cT,Ye,D,bS]
     rw [show (((k+1:Nat):Int)==0)=false by simp;omega,cF,show ZM (((k+1:Nat):Int)-1)=(k:Int) by rw [XL (by omega) (by omega)];omega,v,bS]
     cases b with
     | true=>exact ⟨true,rfl,by simp [t.1 rfl]⟩
     | false =>
      have ⟨E,F,G⟩:=w (j+1) n d2 (by simp at i;omega)
      rw [cF,Yy (by omega)]
      have O:¬ Vh l k x:=fun h=>by have:=t.2 h;cases this
      exact ⟨E,F,by rw [G];simp [O]⟩
   have ⟨b,v,t⟩:=key _ 0 N rfl (by rw [List.drop_zero];omega)
   exact ⟨b,v,by rw [t,u];simp⟩
structure Bi (l:List ZU) (i:Nat) (p:ZU):Prop where
 name:∀ q∈l.take i,q.Zt≠p.Zt
 roles:∀ (k:Nat) x,p.ZD[k]? = some x->x ∉ p.ZD.take k
 sorts:Bl p
 atoms:∀ m∈p.ZE,∀ a∈m.Zz,TH p m a
 items:Um (l.map oP) (oP p) [] 0 0 (oL p.ZF)
 calls:Vr [] (VD (oL p.ZF))
 chain:¬ Vh l 4 p.Zt
theorem Zqa {N:Nat} (l:List ZU) (t:Zr N l) (i:Nat) (p:ZU) (o:l[i]? = some p) (ag:Int->Option T6) :
  ∃ c':ZZ,Rg N l (i:Int) ag N l p.Zt p.ZD p.ZE p.ZF ([]:List ByteArray) (str []) (str []) (0:Int) (0:Int) =
   (bif (c'.first'.ZI != (0:Int)) then some c'.first' else ag ((i+1:Nat):Int))/\(c'.first'.ZI=0↔Bi l i p):=by
 have hN:=t.n
 have hl:=t.len
 have hil:=Yf o
 have ⟨u,O,P⟩:=t.p p (Zb o)
 have hcp:=t.c p (Zb o)
 have z:p.ZD.length<=4194304:=u.r
 have A:p.ZE.length<=4194304:=by have:=u.m;rw [show (oP p).ZE=p.ZE.map oM from rfl,List.length_map] at this;exact this
 have B:∀ m∈p.ZE,m.Zy.length<=4194304/\m.Zz.length<=4194304:=fun m hm=>by
  have:=u.ms (oM m) (List.mem_map.2 ⟨m,hm,rfl⟩)
  have ⟨R,F⟩:=this
  exact ⟨R,by rw [show (oM m).Zz=m.Zz.map oA from rfl,List.length_map] at F;exact F⟩
 have Y:(l.take i).length=i:=by rw [List.length_take];omega
 obtain ⟨S,d⟩:∃ S:ZZ,S=⟨l,p,[],⟨str [],str [],0⟩⟩:=⟨_,rfl⟩
 -- the name
 have ⟨o1,e1,f,T,v⟩:=Zar (l.take i) (fun n c K=>Rg N l (i:Int) ag n c.l' c.p'.Zt c.p'.ZD c.p'.ZE c.p'.ZF c.calls' c.first'.ZH c.first'.Zt c.first'.ZI K)
  (fun c=>L6 N l (i:Int) ag c.l' c.p'.Zt c.p'.ZD c.p'.ZE c.p'.ZF c.calls' c.first'.ZH c.first'.Zt c.first'.ZI) Option.bind (fun _ _=>rfl)
  (fun k q=>q.Zt≠p.Zt) (fun _=>[]) (fun _=>0) l p 0
  (fun n k q c E L g _=>by
   have ⟨U,V⟩:=Zj3 E
   refine ⟨bif (q.Zt.toList==p.Zt.toList) then Y3 N c p.Zt 9 else some c,?_,(Rk.test (by decide)).iff ?_⟩
   ·simp only [Rg,Yh U,cT,Ye,V,bS]
    rw [YT (by omega),g]
    cases (q.Zt.toList==p.Zt.toList)<;>rw [<- g]<;>rfl
   ·rw [<- Bool.not_eq_true,Xm])
  (fun n k c h _ _=>by rw [Y] at h;simp only [Rg,Yl h,cF]) (N:=N) (by omega) S (by rw [d]) (by rw [d]) (by rw [d,Xx];exact Zo _)
 subst T
 rw [Xx,Vp] at v
 have a1:f.l'=l:=by rw [v.all,d]
 have Z:f.p'=p:=by rw [v.p,d]
 -- the roles
 have ⟨o2,e2,a,W,w⟩:=Zar p.ZD (fun n c K=>Qo N l (i:Int) ag n c.l' c.p'.Zt c.p'.ZD c.p'.ZE c.p'.ZF c.calls' c.first'.ZH c.first'.Zt c.first'.ZI K)
  (fun c=>L5 N l (i:Int) ag c.l' c.p'.Zt c.p'.ZD c.p'.ZE c.p'.ZF c.calls' c.first'.ZH c.first'.Zt c.first'.ZI) Option.bind (fun _ _=>rfl)
  (fun k x=>x ∉ p.ZD.take k) (fun _=>[]) (fun _=>0) f.l' f.p' f.calls'.length
  (fun n k x c E L g _=>by
   have h:=Yf E
   refine ⟨bif Xk x (p.ZD.take k) then Y3 N c x 9 else some c,?_,(Rk.test (by decide)).iff ?_⟩
   ·have j:c.p'.ZD=p.ZD:=by rw [g,Z]
    simp only [Qo]
    rw [j,Yh h,cT,RN (Nat.le_of_lt h),bS,Ye,E,bS,SN _ (by rw [List.length_take];omega) (by rw [List.length_take];omega),bS,M9,YT (by omega),bS,<- j]
    cases Xk x (c.p'.ZD.take k)<;>rfl
   ·rw [<- Bool.not_eq_true,WM])
  (fun n k c h _ g=>by
   have j:c.p'.ZD=p.ZD:=by rw [g,Z]
   simp only [Qo]
   rw [j,Yl h,cF,<- j]) (N:=N) (by omega) f rfl rfl (by rw [Xx];omega)
 subst W
 rw [Xx,Vp] at w
 have a2:a.l'=l:=by rw [w.all,a1]
 have I:a.p'=p:=by rw [w.p,Z]
 have sz:∀ c:ZZ,c.l'=l->c.p'=p->Sr N c:=fun c L o=>⟨by rw [o];exact z,by rw [o];exact A,by rw [L];exact hl,by omega⟩
 have ⟨s,e3,G⟩:=Zoq (N:=N) a (sz a a2 I) (by rw [I];exact B)
 have a3:s.l'=l:=by rw [G.all,a2]
 have C:s.p'=p:=by rw [G.p,I]
 have l3:s.calls'.length<=0:=by
  have D:=v.len;have h2:=w.len;have h3:=G.len
  rw [d] at D
  simp only [List.length_nil] at D
  omega
 have ⟨y,e4,X⟩:=Zig N s p.ZF [] 0 0 ⟨by rw [C];exact z,by rw [C];exact A,by rw [a3];exact hl,by omega⟩ O (QJ u) u.b (by simpa using P) (Nat.zero_le _) (by omega)
 have a4:y.l'=l:=by rw [X.all,a3]
 have p4:y.p'=p:=by rw [X.p,C]
 obtain ⟨M,rfl⟩:∃ M,N=M+1:=⟨N-1,by omega⟩
 have ⟨b,b1,b2⟩:=Zn7 t 4 M p.Zt (by omega) (by omega)
 have ⟨c5,H,g5⟩:=Rk.test (N:=M+1) (b:=b) (c:=y) (nm:=p.Zt) (e:=6) (by decide)
 refine ⟨c5,?_,?_⟩
 ·have D:=e1
  rw [d] at D
  refine D.trans ?_
  show L6 (M+1) l (i:Int) ag f.l' f.p'.Zt f.p'.ZD f.p'.ZE f.p'.ZF f.calls' f.first'.ZH f.first'.Zt f.first'.ZI=_
  unfold L6
  refine e2.trans ?_
  show L5 (M+1) l (i:Int) ag a.l' a.p'.Zt a.p'.ZD a.p'.ZE a.p'.ZF a.calls' a.first'.ZH a.first'.Zt a.first'.ZI=_
  unfold L5
  rw [show (⟨a.l',⟨a.p'.Zt,a.p'.ZD,a.p'.ZE,a.p'.ZF⟩,a.calls',⟨a.first'.ZH,a.first'.Zt,a.first'.ZI⟩⟩:ZZ)=a from rfl,e3,bS]
  have e4':z51 (M+1) s s.p'.ZF [] 0 0=some y:=by rw [C];exact e4
  have b1':z52 (M+1) l y.p'.Zt 4=some b:=by rw [p4];exact b1
  rw [e4',bS,b1',bS]
  unfold G9
  rw [YT (by omega),p4]
  cases b with
  | true =>
   rw [cT] at H
   rw [cT,H];rfl
  | false =>
   rw [cF] at H
   cases H
   rfl
 ·have h6:=(((((v.seq w).seq G).seq X).seq g5)).err
  rw [h6,a3,C,I,d,<- Bool.not_eq_true,b2]
  simp only [List.append_nil,List.nil_append,true_and]
  constructor
  ·rintro ⟨⟨⟨⟨⟨R,F⟩,q3,q4⟩,q5⟩,q6⟩,q7⟩
   refine ⟨fun q hq=>?_,F,q3,q4,q5,q7,q6⟩
   have ⟨k,h⟩:=List.mem_iff_getElem?.1 hq
   exact R k q h
  ·exact fun q=>⟨⟨⟨⟨⟨fun k x h=>q.name x (Zb h),q.roles⟩,q.sorts,q.atoms⟩,q.items⟩,q.chain⟩,q.calls⟩
theorem ZpD {N:Nat} (l:List ZU) (j:Zr N l) (f:∀ p∈l,nL (oL p.ZF)/\∀ m∈p.ZE,nM (oM m)) :
  ∃ r,L4 N l=some r/\(r.ZI=0↔QK (l.map oP)/\∀ (i:Nat) p,l[i]? = some p->Bi l i p):=by
 have F:=j.n
 have C:=j.len
 have ⟨v,A,v2⟩:=Zqf (N:=N) (by omega) l C fun p s=>⟨(j.p p s).1,by have:=(j.p p s).2.1;omega,by have:=j.c p s;omega,(f p s).1,(f p s).2⟩
 unfold L4
 rw [A,bS]
 cases v with
 | false=>exact ⟨_,rfl,by constructor;(intro h;cases h);(intro h;have:=v2.2 h.1;cases this)⟩
 | true =>
  have D:=v2.1 rfl
  rw [Zg,cF]
  have key:∀ (m:List ZU) (k n:Nat),l.drop k=m->m.length < n->∃ r,Vz N l n (k:Int)=some r/\(r.ZI=0↔∀ (i:Nat) p,m[i]? = some p->Bi l (k+i) p):=by
   intro m
   induction m with
   | nil =>
    intro k n h f
    obtain ⟨n,rfl⟩:=pS n (by simp at f;omega)
    exact ⟨_,by simp only [Vz,Yl (Xh h),cF];rfl,by simp⟩
   | cons p m E =>
    intro k n h f
    obtain ⟨n,rfl⟩:=pS n (by simp at f;omega)
    have ⟨a,e,d⟩:=Xg h
    have ⟨t,B,z⟩:=Zqa l j k p e (Vz N l n)
    have b:Vz N l (n+1) (k:Int)=(bif (t.first'.ZI != (0:Int)) then some t.first' else Vz N l n ((k+1:Nat):Int)):=by
     rw [<- B]
     simp only [Vz,Yh a,cT,Ye,e,bS]
    by_cases u:t.first'.ZI=0
    ·have ⟨r,x,w⟩:=E (k+1) n d (by simp at f;omega)
     rw [show (t.first'.ZI != (0:Int))=false by simpa using u,cF] at b
     have y:=z.1 u
     refine ⟨r,b.trans x,?_⟩
     rw [w]
     constructor
     ·intro g i q o
      cases i with
      | zero=>simp only [List.getElem?_cons_zero,Option.some.injEq] at o;subst o;exact y
      | succ i=>rw [List.getElem?_cons_succ] at o;have:=g i q o;rwa [show k+(i+1)=k+1+i by omega]
     ·intro g i q o
      have:=g (i+1) q (by rw [List.getElem?_cons_succ];exact o)
      rwa [show k+(i+1)=k+1+i by omega] at this
    ·rw [show (t.first'.ZI != (0:Int))=true by simpa using u,cT] at b
     refine ⟨_,b,?_⟩
     constructor
     ·exact fun g=>absurd g u
     ·exact fun g=>absurd (z.2 (g 0 p rfl)) u
  have ⟨r,x,w⟩:=key l 0 N rfl (by omega)
  simp only [Nat.zero_add] at w
  exact ⟨r,x,by rw [w];simp [D]⟩
end Gp
end
section
namespace Gp
open Go Go.Kx Gx
def Wm (ls:List ByteArray) (re ta:Nat):List T8:=ls.mapIdx fun i n=>⟨n,decide (ta<=i),decide (i < re)⟩
theorem Zdf (ls re ta):(Wm ls re ta).length=ls.length:=by unfold Wm;rw [List.length_mapIdx]
theorem Su (a:List ByteArray) (b c i:Nat):(Wm a b c)[i]? = (a[i]?).map fun n=>⟨n,decide (c<=i),decide (i < b)⟩:=by unfold Wm;rw [List.getElem?_mapIdx]
theorem Zlx (a:List ByteArray) (c d:Nat) (b:Bool):R4 b (Wm a c d)=Wm a c (if b=true then d else a.length):=by
 apply List.ext_getElem?
 intro i
 unfold R4
 rw [List.getElem?_map,Su,Su]
 cases h:a[i]? with
 | none=>rfl
 | some n =>
  have hi:=Yf h
  cases b with
  | true=>simp
  | false=>simp;omega
theorem Zlu (a:List ByteArray) (c b:Nat):Uh true (Wm a c b)=Wm a a.length b:=by
 apply List.ext_getElem?
 intro i
 unfold Uh
 rw [List.getElem?_map,Su,Su]
 cases h:a[i]? with
 | none=>rfl
 | some n =>
  have hi:=Yf h
  simp [hi]
theorem Zh8 (a:List T8):Uh false a=a:=by
 unfold Uh
 rw [List.map_congr_left (g:=id) (fun o _=>by simp),List.map_id]
theorem Zlw (a:List ByteArray) (b c:Nat) (n:ByteArray) (e:b<=a.length) (d:c<=a.length):Wm (a++[n]) b c=Wm a b c++[⟨n,true,false⟩]:=by
 unfold Wm
 rw [List.mapIdx_append]
 congr 1
 simp only [List.mapIdx_cons,List.mapIdx_nil,Nat.zero_add]
 rw [dT d,dF (by omega)]
theorem Zlv (a:List ByteArray) (d e:Nat) (x:ZJ) (f:d<=a.length) (g:e<=a.length):RH (Wm a d e) x=Wm (UO a x) (SP a d x) e:=by
 unfold RH UO SP
 by_cases b:x.Zq=3
 ·rw [if_pos b,if_pos b,if_neg (by omega),show (x.Zq==(5:Int))=false by simp;omega,Zh8,Zlw _ _ _ _ f g]
 ·rw [if_neg b,if_neg b]
  by_cases c:x.Zq=5
  ·rw [show (x.Zq==(5:Int))=true by simpa using c,if_pos c,Zlu]
  ·rw [show (x.Zq==(5:Int))=false by simpa using c,if_neg c,Zh8]
theorem ZiP {d:List ByteArray} (c:d.Nodup) {i j:Nat} {n:ByteArray} (hi:d[i]? = some n) (g:d[j]? = some n):i=j:=by
 have ⟨a,e⟩:=List.getElem?_eq_some_iff.1 hi
 have ⟨b,f⟩:=List.getElem?_eq_some_iff.1 g
 rcases Nat.lt_trichotomy i j with h | h | h
 ·rw [List.nodup_iff_pairwise_ne,List.pairwise_iff_getElem] at c
  exact absurd (e.trans f.symm) (c i j a b h)
 ·exact h
 ·rw [List.nodup_iff_pairwise_ne,List.pairwise_iff_getElem] at c
  exact absurd (f.trans e.symm) (c j i b a h)
theorem Zgt {a:List ByteArray} (c:a.Nodup) {i:Nat} {n:ByteArray} (hi:a[i]? = some n):Y9 (fun y=>y.toList==n.toList) a=(i:Int):=by
 rcases RA (fun y:ByteArray=>y.toList==n.toList) a with ⟨_,b⟩ | ⟨j,x,d,b,e⟩
 ·rw [List.find?_eq_none] at b
  exact absurd (Xm.2 rfl) (b n (Zb hi))
 ·have f:(x.toList==n.toList)=true:=List.find?_some (p:=fun y:ByteArray=>y.toList==n.toList) e
  have:x=n:=Xm.1 f
  subst this
  rw [d,ZiP c hi b]
theorem Zlz (b:List ByteArray) (a c:Nat) (n:ByteArray) (s:b.Nodup):HA (Wm b a c) n↔n∈b.drop a/\(c:Int)<=Y9 (fun y=>y.toList==n.toList) b:=by
 unfold HA
 constructor
 ·rintro ⟨o,p,q⟩
  rw [List.find?_eq_some_iff_getElem] at p
  have ⟨f,i,hi,w,_⟩:=p
  have h:(Wm b a c)[i]? = some o:=by rw [Za hi,w]
  rw [Su] at h
  cases r:b[i]? with
  | none=>rw [r] at h;cases h
  | some m =>
   rw [r] at h
   cases h
   simp only at q f
   cases v:(m.toList==n.toList) with
   | false=>rw [v] at f;cases f
   | true =>
    have:=Xm.1 v
    subst this
    rw [v,cT] at f
    have x:a<=i:=by simpa using f
    have z:c<=i:=by simpa using q
    rw [Zgt s r]
    refine ⟨?_,by omega⟩
    rw [List.mem_iff_getElem?]
    exact ⟨i-a,by rw [List.getElem?_drop,show a+(i-a)=i by omega];exact r⟩
 ·rintro ⟨p,q⟩
  have ⟨k,g⟩:=List.mem_iff_getElem?.1 p
  rw [List.getElem?_drop] at g
  rw [Zgt s g] at q
  have d:=Yf g
  refine ⟨⟨n,decide (c<=a+k),decide (a+k < a)⟩,?_,by simp;omega⟩
  rw [List.find?_eq_some_iff_getElem]
  refine ⟨by rw [Xm.2 rfl];simp,a+k,by rw [Zdf];exact d,?_,fun j B=>?_⟩
  ·have:=Su b a c (a+k)
   rw [g,Za (by rw [Zdf];exact d)] at this
   exact Zk this
  ·have t:j < (Wm b a c).length:=by rw [Zdf];omega
   have:=Su b a c j
   rw [Za t] at this
   have l:j < b.length:=by omega
   rw [Za l] at this
   have:=Zk this
   rw [this]
   have u:¬ b[j]=n:=fun e=>by
    have:=ZiP s (Za l) (by rw [e];exact g)
    omega
   rw [show (b[j].toList==n.toList)=false from by
    cases A:(b[j].toList==n.toList) with
    | false=>rfl
    | true=>exact absurd (Xm.1 A) u]
   rfl
theorem Znp (all p) (a:List ByteArray) (b c:Nat) (x:ZJ) (f:a.Nodup):Uu all p (Wm a b c) x↔Uw all p a b c x:=by
 have k:(∀ o∈Wm a b c,o.name'≠x.Zt)↔x.Zt ∉ a:=by
  constructor
  ·intro h g
   have ⟨i,hi⟩:=List.mem_iff_getElem?.1 g
   have:=Su a b c i
   rw [hi] at this
   exact h _ (Zb this) rfl
  ·intro h o j e
   have ⟨i,hi⟩:=List.mem_iff_getElem?.1 j
   rw [Su] at hi
   cases d:a[i]? with
   | none=>rw [d] at hi;cases hi
   | some m =>
    rw [d] at hi
    cases hi
    exact h (by rw [<- e];exact Zb d)
 unfold Uu Uw
 rw [k,Zlz a b c x.Zt f]
mutual
theorem Zpg (all p):∀ (x:ZJ) ls re ta,ls.Nodup->re<=ls.length->ta<=ls.length->(SO all p ls re ta x↔Te all p (Wm ls re ta) x)
 | ⟨k,f,t,n,a,z,b⟩,ls,re,ta,hn,hr,ht=>by
  rw [Zjv,Zam,Znp _ _ _ _ _ _ hn,Zlv _ _ _ _ hr ht]
  refine and_congr_right fun g=>?_
  have c:(UO ls ⟨k,f,t,n,a,z,b⟩).Nodup:=by
   unfold UO
   split
   ·rename_i i
    rw [List.nodup_append]
    refine ⟨hn,by simp,fun a h b d=>?_⟩
    rw [List.mem_singleton] at d
    subst d
    intro e
    subst e
    exact g.2.2.1 i h
   ·exact hn
  have j:ls.length<=(UO ls ⟨k,f,t,n,a,z,b⟩).length:=by unfold UO;split<;>simp
  exact Zi0 all p b _ _ ta c (by unfold SP;split<;>omega) (by omega)
theorem Zej (all p):∀ (xs:List ZJ) ls re ta,ls.Nodup->re<=ls.length->ta<=ls.length->(Um all p ls re ta xs↔WE all p (Wm ls re ta) xs)
 | [],_,_,_,_,_,_=>by simp only [Um,WE]
 | x::xs,ls,re,ta,hn,hr,ht=>by
  simp only [Um,WE]
  rw [Zlx]
  rw [Zpg all p x ls re _ hn hr (by split<;>omega),Zej all p xs ls re ta hn hr ht]
theorem Zi0 (all p):∀ (xs:List (List ZJ)) ls re ta,ls.Nodup->re<=ls.length->ta<=ls.length->(TS all p ls re ta xs↔VV all p (Wm ls re ta) xs)
 | [],_,_,_,_,_,_=>by simp only [TS,VV]
 | x::xs,ls,re,ta,hn,hr,ht=>by
  simp only [TS,VV]
  rw [Zej all p x ls re ta hn hr ht,Zi0 all p xs ls re ta hn hr ht]
end
mutual
theorem Zl6 {l:List ZL} {p:ZL}:∀ (x:ZJ) ls,Te l p ls x->∀ a∈VK x,∃ q∈l,q.Zt=a
 | ⟨k,f,t,n,a,z,b⟩,ls,h,c,d=>by
  rw [Zam] at h
  simp only [VK] at d
  rcases List.mem_append.1 d with d | d
  ·unfold RG at d
   split at d
   ·rename_i g
    rw [List.mem_singleton] at d
    subst d
    have ⟨q,e,_⟩:=h.1.2.2.2.2 g
    exact ⟨q,(ZdO e).1,(ZdO e).2⟩
   ·cases d
  ·exact ZgN b _ h.2 c d
theorem By {l:List ZL} {p:ZL}:∀ (xs:List ZJ) ls,WE l p ls xs->∀ a∈Xc xs,∃ q∈l,q.Zt=a
 | [],_,_,_,b=>by cases b
 | x::xs,ls,h,c,b=>by
  simp only [WE] at h
  simp only [Xc] at b
  rcases List.mem_append.1 b with b | b
  ·exact Zl6 x _ h.1 c b
  ·exact By xs _ h.2 c b
theorem ZgN {l:List ZL} {p:ZL}:∀ (xs:List (List ZJ)) ls,VV l p ls xs->∀ a∈WA xs,∃ q∈l,q.Zt=a
 | [],_,_,_,b=>by cases b
 | x::xs,ls,h,c,b=>by
  simp only [VV] at h
  simp only [WA] at b
  rcases List.mem_append.1 b with b | b
  ·exact By x _ h.1 c b
  ·exact ZgN xs _ h.2 c b
end
theorem Zi3 {l:List ZL}:∀ (n:Nat) (a c:ByteArray),XS l (n+1) a c->∃ b,QF l a b/\XS l n b c
 | 0,a,c,⟨b,e,h2⟩=>by
  have e:a=b:=e
  subst e
  exact ⟨c,h2,rfl⟩
 | n+1,a,c,⟨d,e,h2⟩=>by
  have ⟨b,f,g⟩:=Zi3 n a d e
  exact ⟨b,f,d,g,h2⟩
theorem Znc (l:List ZU) (a:ByteArray):(l.map oP).find? (fun q=>q.Zt.toList==a.toList)=(l.find? (fun q=>q.Zt.toList==a.toList)).map oP:=by rw [BS];rfl
theorem Ziu (l:List ZU) (o:∀ p∈l,∀ b∈Xc (oL p.ZF),∃ q∈l.map oP,q.Zt=b):∀ (k:Nat) (a:ByteArray),Vh l k a↔∃ b,XS (l.map oP) (k+1) a b:=by
 have f:∀ a b,QF (l.map oP) a b↔∃ q,l.find? (fun m=>m.Zt.toList==a.toList)=some q/\b∈Xc (oL q.ZF):=by
  intro a b
  unfold QF
  rw [Znc]
  constructor
  ·rintro ⟨⟨q,d,e⟩,_⟩
   cases j:l.find? (fun m=>m.Zt.toList==a.toList) with
   | none=>rw [j] at d;cases d
   | some t=>rw [j] at d;cases d;exact ⟨t,rfl,e⟩
  ·rintro ⟨q,d,e⟩
   exact ⟨⟨oP q,by rw [d];rfl,e⟩,o q (List.mem_of_find?_eq_some d) b e⟩
 intro k
 induction k with
 | zero =>
  intro a
  unfold Vh
  constructor
  ·rintro ⟨q,d,e⟩
   have ⟨b,r⟩:=List.exists_mem_of_ne_nil _ e
   exact ⟨b,a,rfl,(f a b).2 ⟨q,d,r⟩⟩
  ·rintro ⟨b,c,d,e⟩
   have d:a=c:=d
   subst d
   have ⟨q,g,h⟩:=(f _ b).1 e
   exact ⟨q,g,List.ne_nil_of_mem h⟩
 | succ k n =>
  intro a
  rw [Vh]
  constructor
  ·rintro ⟨q,d,b,e,s⟩
   have ⟨c,i⟩:=(n b).1 s
   exact ⟨c,Zel ((f a b).2 ⟨q,d,e⟩) _ c i⟩
  ·rintro ⟨c,i⟩
   have ⟨b,g,h⟩:=Zi3 _ a c i
   have ⟨q,d,e⟩:=(f a b).1 g
   exact ⟨q,d,b,e,(n b).2 ⟨c,h⟩⟩
theorem ZnV (p:ZU) (m:Yi) (t:Ys):kd (oP p) (oM m) t=(Xi p m t).elim 0 fun f=>f.Zu.Zq:=by
 have a:∀ fs,MQ fs t=(MK fs t).elim 0 fun f=>f.Zu.Zq:=by
  intro fs
  unfold MQ MK
  cases fs.find? (fun f=>f.Zt.toList==t.Field.toList)<;>rfl
 unfold kd Xi
 cases (!(t.Zv.toList==(str []).toList)) with
 | false=>rw [cF,cF];exact a _
 | true =>
  rw [cT,cT]
  have:(oP p).ZE.find? (fun q=>q.Zt.toList==t.Zv.toList)=(p.ZE.find? (fun q=>q.Zt.toList==t.Zv.toList)).map oM:=by
   show (p.ZE.map oM).find? _=_
   rw [BS];rfl
  rw [this]
  cases p.ZE.find? (fun q=>q.Zt.toList==t.Zv.toList) with
  | none=>rfl
  | some q=>exact a q.Zy
theorem Zm6 {p:ZU} {m:Yi} {t:Ys} {f} (c:m∈p.ZE) (h:Xi p m t=some f):∃ m∈p.ZE,f∈m.Zy:=by
 unfold Xi at h
 cases b:(!(t.Zv.toList==(str []).toList)) with
 | false=>rw [b,cF] at h;exact ⟨m,c,List.mem_of_find?_eq_some h⟩
 | true =>
  rw [b,cT] at h
  cases a:p.ZE.find? (fun q=>q.Zt.toList==t.Zv.toList) with
  | none=>rw [a] at h;cases h
  | some q=>rw [a] at h;exact ⟨q,List.mem_of_find?_eq_some a,List.mem_of_find?_eq_some h⟩
theorem ZjP {p:ZU} {m:Yi} (t:Ys) (e:m∈p.ZE) (g:∀ m∈p.ZE,∀ f∈m.Zy,f.Zu.Zq≠0) :
  (((!(t.Zq==1) && (Xi p m t).isNone)=false)↔(t.Zq=1\/kd (oP p) (oM m) t≠0))/\Vv t (Xi p m t)=WS (oP p) (oM m) t /\
  ((!(t.Zq==1) && (Xi p m t).isNone)=false->(Th t (Xi p m t)=false↔(t.Zq=3->VR (oP p) (oM m) t=2))):=by
 unfold Vv Th WS VR
 rw [ZnV]
 cases h:Xi p m t with
 | none =>
  refine ⟨by simp,?_,fun i=>?_⟩
  ·simp only [Option.elim_none]
   cases (t.Zq==2)<;>cases (t.Zq==1)<;>rfl
  ·have b:t.Zq=1:=by simpa using i
   simp [b]
 | some f =>
  have ⟨m',b,c⟩:=Zm6 e h
  have d:=g m' b f c
  refine ⟨by simp [d],?_,fun _=>?_⟩
  ·simp only [Option.elim_some]
   by_cases c:t.Zq=2
   ·rw [show (t.Zq==(1:Int))=false by simp;omega];rfl
   ·rw [show (t.Zq==(2:Int))=false by simpa using c];rfl
  ·simp only [Option.elim_some]
   by_cases a:t.Zq=3
   ·rw [show (t.Zq==(1:Int))=false by simp;omega,show (t.Zq==(3:Int))=true by simpa using a]
    simp [a]
   ·rw [show (t.Zq==(3:Int))=false by simpa using a]
    simp [a]
theorem Zgu {p:ZU} {m:Yi} (a:T9) (j:m∈p.ZE) (k:∀ m∈p.ZE,∀ f∈m.Zy,f.Zu.Zq≠0):TH p m a↔QD (oP p) (oM m) (oA a):=by
 have ⟨o,q,l⟩:=ZjP a.Zw j k
 have ⟨r,s,n⟩:=ZjP a.Zx j k
 have u:=Zax a.Zw (Xi p m a.Zw)
 have v:=Zax a.Zx (Xi p m a.Zx)
 unfold TH QD
 show _↔(a.Zw.Zq=1\/kd (oP p) (oM m) a.Zw≠0)/\(a.Zx.Zq=1\/kd (oP p) (oM m) a.Zx≠0)/\(a.Zw.Zq=3->VR (oP p) (oM m) a.Zw=2)/\(a.Zx.Zq=3->VR (oP p) (oM m) a.Zx=2) /\
  (WS (oP p) (oM m) a.Zw+WS (oP p) (oM m) a.Zx≠1)/\(WS (oP p) (oM m) a.Zw+WS (oP p) (oM m) a.Zx=2->a.Op=str [61,61]/\a.Zw.N=0/\a.Zx.N=0)
 rw [<- q,<- s,<- o,<- r,Bool.or_eq_false_iff]
 constructor
 ·rintro ⟨b,c,⟨d,g⟩,i⟩
  refine ⟨b,c,(l b).1 d,(n c).1 g,fun e=>?_,fun e=>?_⟩
  ·have:=(i (by omega)).1;omega
  ·exact (i (by omega)).2
 ·rintro ⟨b,c,d,g,i,t⟩
  exact ⟨b,c,⟨(l b).2 d,(n c).2 g⟩,fun h=>⟨by omega,t (by omega)⟩⟩
theorem ZjU (p:ZU):Bl p↔HD (oP p):=by
 unfold Bl HD
 show _↔∀ (k:Nat) m,(p.ZE.map oM)[k]? = some m->(∀ q∈(p.ZE.map oM).take k,q.Zt≠m.Zt)/\QH m
 constructor
 ·intro h k m a
  rw [List.getElem?_map] at a
  cases f:p.ZE[k]? with
  | none=>rw [f] at a;cases a
  | some m' =>
   rw [f] at a
   cases a
   have ⟨c,d⟩:=h k m' f
   refine ⟨fun q b=>?_,d⟩
   rw [<- List.map_take] at b
   obtain ⟨g,e,rfl⟩:=List.mem_map.1 b
   exact c g e
 ·intro h k m a
  have ⟨c,d⟩:=h k (oM m) (by rw [List.getElem?_map,a];rfl)
  refine ⟨fun q b=>c (oM q) ?_,d⟩
  rw [<- List.map_take]
  exact List.mem_map.2 ⟨q,b,rfl⟩
theorem Zpe (l:List ZU):(QK (l.map oP)/\∀ (i:Nat) p,l[i]? = some p->Bi l i p)↔UZ (l.map oP):=by
 unfold UZ
 refine and_congr_right fun E=>?_
 rw [<- ZiU]
 have D:∀ p∈l,∀ m∈p.ZE,∀ f∈m.Zy,f.Zu.Zq≠0:=fun p c m n f F=>by
  have ⟨_,_,_,_,_,_,v⟩:=E.2.1 (oP p) (List.mem_map.2 ⟨p,c,rfl⟩)
  have ⟨_,_,_,w,_⟩:=v (oM m) (List.mem_map.2 ⟨m,n,rfl⟩)
  have ⟨_,t,_⟩:=w f F
  rcases t with t | t<;>rw [t]<;>decide
 have g:∀ p,Um (l.map oP) (oP p) [] 0 0 (oL p.ZF)↔WE (l.map oP) (oP p) [] (oL p.ZF):=fun p=>Zej _ _ (oL p.ZF) [] 0 0 List.nodup_nil (Zo _) (Zo _)
 have r:∀ p∈l,(∀ m∈p.ZE,∀ a∈m.Zz,TH p m a)↔HB (oP p):=by
  intro p c
  unfold HB
  constructor
  ·intro h m n a A
   obtain ⟨m',o,rfl⟩:=List.mem_map.1 n
   obtain ⟨C,x,rfl⟩:=List.mem_map.1 A
   exact (Zgu C o (D p c)).1 (h m' o C x)
  ·intro h m n a A
   exact (Zgu a n (D p c)).2 (h (oM m) (List.mem_map.2 ⟨m,n,rfl⟩) (oA a) (List.mem_map.2 ⟨a,A,rfl⟩))
 have s:∀ (i:Nat) (p:ZU),(∀ q∈l.take i,q.Zt≠p.Zt)↔∀ q∈(l.map oP).take i,q.Zt≠(oP p).Zt:=by
  intro i p
  rw [<- List.map_take]
  constructor
  ·intro h q u
   obtain ⟨G,y,rfl⟩:=List.mem_map.1 u
   exact h G y
  ·exact fun h q u=>h (oP q) (List.mem_map.2 ⟨q,u,rfl⟩)
 constructor
 ·intro h i H d
  rw [List.getElem?_map] at d
  cases c:l[i]? with
  | none=>rw [c] at d;cases d
  | some p =>
   rw [c] at d
   cases d
   have k:=Zb c
   have B:∀ p∈l,∀ b∈Xc (oL p.ZF),∃ q∈l.map oP,q.Zt=b:=fun p c b e=>by
    have ⟨j,z⟩:=List.mem_iff_getElem?.1 c
    exact By (oL p.ZF) [] ((g p).1 (h j p z).items) b e
   have q:=h i p c
   exact ⟨(s i p).1 q.name,q.roles,(ZjU p).1 q.sorts,(r p k).1 q.atoms,(g p).1 q.items,q.calls,fun b e=>q.chain ((Ziu l B 4 p.Zt).2 ⟨b,e⟩)⟩
 ·intro h i p c
  have k:=Zb c
  have B:∀ p∈l,∀ b∈Xc (oL p.ZF),∃ q∈l.map oP,q.Zt=b:=fun p c b e=>by
   have ⟨j,z⟩:=List.mem_iff_getElem?.1 c
   exact By (oL p.ZF) [] (h j (oP p) (by rw [List.getElem?_map,z];rfl)).items b e
  have q:=h i (oP p) (by rw [List.getElem?_map,c];rfl)
  exact ⟨(s i p).2 q.name,q.roles,(ZjU p).2 q.sorts,(r p k).2 q.atoms,(g p).2 q.items,q.calls,fun e=>by
   have ⟨b,e⟩:=(Ziu l B 4 p.Zt).1 e
   exact q.chain b e⟩
theorem ZpE {N:Nat} (l:List ZU) (a:Zr N l) (b:∀ p∈l,nL (oL p.ZF)/\∀ m∈p.ZE,nM (oM m)):∃ r,L4 N l=some r/\(r.ZI=0↔UZ (l.map oP)):=by
 have ⟨r,c,d⟩:=ZpD l a b
 exact ⟨r,c,by rw [d,Zpe]⟩
end Gp
end
section
namespace Gp
open Go Go.Kx Gx
theorem Zgn {α:Type} (q:α->Bool):∀ (l:List α) (s:Bool),l.foldl (fun s x=>bif s then true else q x) s=(s || l.any q)
 | [],s=>by simp
 | x::l,s=>by
  rw [List.foldl_cons,Zgn q l,List.any_cons]
  cases s<;>cases q x<;>rfl
theorem Zos {l:List ZL} (b:UY l) {a:ByteArray} (h:∀ p∈l,p.Zt≠a):YS (QN l []) a=none:=by
 rw [Zea a l [] b (fun _ _=>rfl)]
 have:l.find? (fun q=>q.Zt.toList==a.toList)=none:=by
  rw [List.find?_eq_none]
  exact fun q c d=>h q c (Xm.1 d)
 rw [this];rfl
theorem Zpp {N:Nat} (l:List ZU) (nm:ByteArray) (O:z7 N=some true) (y:l.length<=4194304)
  (z:∀ p∈l,RP p/\8388611+dL (oL p.ZF)<=N/\dL (oL p.ZF)<=4194304) (I:WW l<=4194304) (t:∀ p∈l,cL (oL p.ZF)<=4194304) (i:∀ p∈l,nL (oL p.ZF)/\∀ m∈p.ZE,nM (oM m)) (P:8389000<=N):SI N l nm=some true:=by
 have u:4194304 < N:=by omega
 have v:∀ p∈l,RP p/\4194306+dL (oL p.ZF)<=N:=fun p a=>⟨(z p a).1,by have:=(z p a).2.1;omega⟩
 have ⟨f,e,X⟩:=Zm7 u l y v I t
 unfold SI
 simp only [O,bS,Zg,cF,e]
 cases f
 ·rfl
 simp only [Zg,cF]
 rw [Zpj u l y v,bS]
 have B:=ZtL (N:=N) y z I (by omega)
 have ⟨r,S,T,_⟩:=Zdp _ B
 have ⟨s,U,K⟩:=ZpE (N:=N) l ⟨y,z,t,by omega⟩ i
 have C:Gn N l=some (s.ZI==(0:Int)):=by unfold Gn;rw [U];rfl
 have D:∃ o c,z8 N (l.map oP) nm=some (o,c)/\((c=1)↔¬ UZ (l.map oP))/\((c=8)↔UZ (l.map oP)/\∀ p∈l,p.Zt≠nm):=by
  by_cases b:UZ (l.map oP)
  ·by_cases d:∃ p∈l,p.Zt=nm
   ·obtain ⟨p,a,rfl⟩:=d
    have E:oP p∈l.map oP:=List.mem_map.2 ⟨p,a,rfl⟩
    have ⟨o,c,Y,_,V⟩:=ZnR (N:=N) b P E
    have i:p.Zt=(oP p).Zt:=rfl
    refine ⟨o,c,by rw [i,ZhY B b];exact V _ (ZlA b.2.1 fun _ h=>h),?_,?_⟩
    ·constructor
     ·intro h;omega
     ·exact fun h=>absurd b h
    ·constructor
     ·intro h;omega
     ·rintro ⟨_,h⟩;exact absurd rfl (h p a)
   ·have w:∀ p∈l,p.Zt≠nm:=fun p a e=>d ⟨p,a,e⟩
    refine ⟨⟨str [],[],[],[]⟩,8,?_,?_,?_⟩
    ·rw [ZhY B b]
     unfold TE
     rw [Zos b.2.1 (fun q R=>by obtain ⟨p,a,rfl⟩:=List.mem_map.1 R;exact w p a)]
     rfl
    ·constructor
     ·intro h;omega
     ·exact fun h=>absurd b h
    ·exact ⟨fun _=>⟨b,w⟩,fun _=>rfl⟩
  ·refine ⟨⟨str [],[],[],[]⟩,1,?_,?_,?_⟩
   ·unfold z8
    have F:¬ r.ZI=0:=fun h=>b (T.1 h)
    rw [S,bS,show (r.ZI != (0:Int))=true by simpa using F,cT]
   ·exact ⟨fun _=>b,fun _=>rfl⟩
   ·constructor
    ·intro h;omega
    ·rintro ⟨h,_⟩;exact absurd h b
 have ⟨o,c,W,L,M⟩:=D
 rw [W,bS]
 have j:=(Xz l (RK N l nm (o,c)) (fun s x=>bif s then true else (x.Zt.toList==nm.toList)) (fun s=>HR N l (o,c) s)
  (fun _ _=>True) (fun n k s x hi A=>?_) (fun n k s hi d=>?_) (N:=N) (s:=false) (by omega) trivial).1
 ·rw [j,Zgn,Bool.false_or]
  unfold HR
  rw [C,bS]
  dsimp only
  by_cases b:UZ (l.map oP)
  ·have G:¬ c=1:=fun h=>(L.1 h) b
   rw [show (s.ZI==(0:Int))=true by simpa using K.2 b,show (c==(1:Int))=false by simpa using G]
   by_cases d:∃ p∈l,p.Zt=nm
   ·have:(l.any fun x=>x.Zt.toList==nm.toList)=true:=by
     rw [List.any_eq_true]
     have ⟨p,a,h⟩:=d
     exact ⟨p,a,Xm.2 h⟩
    have H:¬ c=8:=fun h=>by have ⟨p,a,g⟩:=d;exact (M.1 h).2 p a g
    rw [this,show (c==(8:Int))=false by simpa using H];rfl
   ·have:(l.any fun x=>x.Zt.toList==nm.toList)=false:=by
     rw [List.any_eq_false]
     exact fun p a h=>d ⟨p,a,Xm.1 h⟩
    have H:c=8:=M.2 ⟨b,fun p a e=>d ⟨p,a,e⟩⟩
    rw [this,show (c==(8:Int))=true by simpa using H];rfl
  ·have G:c=1:=L.2 b
   have F:¬ s.ZI=0:=fun h=>b (K.1 h)
   rw [show (s.ZI==(0:Int))=false by simpa using F,G];rfl
 ·refine ⟨?_,trivial⟩
  simp only [RK,Yh (Yf A),cT,Ye,A,bS]
  rw [Yy (by have:=Yf A;omega)]
  cases s<;>rfl
 ·simp only [RK,Yl d,cF]
end Gp
end
section
namespace Gx
open Go Go.Kx
def Zio (x:T1):Prop:=((Lit.int .i64 x.Zq).wf=true)/\((Lit.int .i64 x.Lo).wf=true)/\((Lit.int .i64 x.Hi).wf=true)
def ZdW (x:T0):Prop:=(x.Zt.size<=bd)/\(Zio x.Zu)
def ZdY (x:Ys):Prop:=((Lit.int .i64 x.Zq).wf=true)/\(x.Zv.size<=bd)/\(x.Field.size<=bd)/\((Lit.int .i64 x.N).wf=true)
def ZdX (x:T9):Prop:=(ZdY x.Zw)/\(x.Op.size<=bd)/\(ZdY x.Zx)
def B4 (x:Yi):Prop:=(x.Zt.size<=bd)/\(x.Zy.length<=bd/\∀ y∈x.Zy,ZdW y)/\(x.Zz.length<=bd/\∀ y∈x.Zz,ZdX y)
mutual
def TO:ZT->Prop
 | ⟨a0,a1,a2,a3,a4,a5,a6⟩=>((Lit.int .i64 a0).wf=true)/\(a1.size<=bd)/\(a2.length<=bd/\∀ y∈a2,y.size<=bd)/\(a3.size<=bd)/\(a4.size<=bd)/\((Lit.int .i64 a5).wf=true)/\(a6.length<=bd/\SF a6)
def SG:List ZT->Prop
 | []=>True
 | x::l=>TO x/\SG l
def SF:List (List ZT)->Prop
 | []=>True
 | x::l=>(x.length<=bd/\SG x)/\SF l
end
mutual
def SU:ZT->Nat
 | ⟨_,_,_,_,_,_,a6⟩=>R5 a6+1
def R6:List ZT->Nat
 | []=>0
 | x::l=>SU x+R6 l
def R5:List (List ZT)->Nat
 | []=>0
 | x::l=>R6 x+R5 l
end
theorem ZeU:∀ l,R6 l=XQ SU l
 | []=>by simp only [R6,XQ]
 | x::l=>by simp only [R6,XQ];rw [ZeU l]
theorem B3:∀ l,(∀ x∈l,TO x)->SG l
 | [],_=>by simp only [SG]
 | x::l,h=>by simp only [SG];exact ⟨h x (Zj ..),B3 l fun y a=>h y (Zi _ a)⟩
theorem Zkd:∀ l,R5 l=XQ (XQ SU) l
 | []=>by simp only [R5,XQ]
 | x::l=>by simp only [R5,XQ];rw [Zkd l,ZeU]
theorem Zin:∀ l,(∀ x∈l,x.length<=bd/\∀ y∈x,TO y)->SF l
 | [],_=>by simp only [SF]
 | x::l,h=>by simp only [SF];exact ⟨⟨(h x (Zj ..)).1,B3 x (h x (Zj ..)).2⟩,Zin l fun y a=>h y (Zi _ a)⟩
def SH (x:ZU):Prop:=(x.Zt.size<=bd)/\(x.ZD.length<=bd/\∀ y∈x.ZD,y.size<=bd)/\(x.ZE.length<=bd/\∀ y∈x.ZE,B4 y)/\(x.ZF.length<=bd/\∀ y∈x.ZF,TO y)
def Un (x:ZU):Nat:=XQ SU x.ZF
end Gx
end
section
namespace Gp
open Go Go.Kx Gx
set_option maxRecDepth 100000
theorem ZlK (k:Nat):z7 (k+300)=some true:=by kernel_rfl
mutual
theorem Zmt:∀ x,cI (oI x)=SU x
 | ⟨k,f,t,n,a,x,b⟩=>by simp only [oI,cI,SU,Zg6 b]
theorem Zdx:∀ l,cL (oL l)=R6 l
 | []=>by simp only [oL,cL,R6]
 | x::l=>by simp only [oL,cL,R6,Zmt x,Zdx l]
theorem Zg6:∀ l,YF (YA l)=R5 l
 | []=>by simp only [YA,YF,R5]
 | x::l=>by simp only [YA,YF,R5,Zdx x,Zg6 l]
end
mutual
theorem ZlR:∀ x,TO x->bI (oI x)
 | ⟨k,f,t,n,a,x,b⟩,h=>by
  simp only [TO] at h
  simp only [oI,bI]
  rw [UK]
  have c:=h.2.2.1.1;have d:=h.2.2.2.2.2.2.1
  unfold bd at c d
  exact ⟨by omega,by omega,Zgy b h.2.2.2.2.2.2.2⟩
theorem Zdm:∀ l,SG l->bL (oL l)
 | [],_=>by simp only [oL,bL]
 | x::l,h=>by
  simp only [SG] at h
  simp only [oL,bL]
  exact ⟨ZlR x h.1,Zdm l h.2⟩
theorem Zgy:∀ l,SF l->VG (YA l)
 | [],_=>by simp only [YA,VG]
 | x::l,h=>by
  simp only [SF] at h
  simp only [YA,VG]
  have a:=h.1.1
  unfold bd at a
  exact ⟨by rw [UL];omega,Zdm x h.1.2,Zgy l h.2⟩
end
theorem Zls {p:ZU} (h:SH p):RP p:=by
 have ⟨_,f,c,d⟩:=h
 refine ⟨?_,?_,fun x e=>?_,?_,?_⟩
 ·have:=f.1;unfold bd at this;show p.ZD.length<=_;omega
 ·have:=c.1;unfold bd at this;show (p.ZE.map oM).length<=_;rw [List.length_map];omega
 ·obtain ⟨m,g,rfl⟩:=List.mem_map.1 e
  have ⟨_,a,b⟩:=c.2 m g
  have a:=a.1;have b:=b.1
  unfold bd at a b
  exact ⟨by show m.Zy.length<=_;omega,by show (m.Zz.map oA).length<=_;rw [List.length_map];omega⟩
 ·have:=d.1;unfold bd at this;show (oL p.ZF).length<=_;rw [UL];omega
 ·exact Zdm _ (B3 _ d.2)
theorem Zdy (p:ZU):cL (oL p.ZF)=Un p:=by
 rw [Zdx,ZeU];rfl
theorem ZgL:∀ l,WW l=XQ Un l
 | []=>rfl
 | p::l=>by
  have:=ZgL l
  unfold WW at this ⊢
  simp only [List.map_cons,List.sum_cons,XQ]
  rw [this,Zdy]
theorem Zd2 {α:Type} {f:α->Nat}:∀ {l:List α} {x},x∈l->f x<=XQ f l
 | y::l,x,h=>by
  rcases List.mem_cons.1 h with rfl | h
  ·show _<=f x+_;omega
  ·have:=Zd2 (f:=f) h
   show _<=f y+_;omega
theorem Zqr {l:List ZU} (h:(l.length<=bd/\∀ y∈l,SH y)/\XQ Un l<=bd) :
  l.length<=4194304/\(∀ p∈l,RP p/\8388611+dL (oL p.ZF)<=20000000+300/\dL (oL p.ZF)<=4194304)/\WW l<=4194304:=by
 obtain ⟨⟨b,c⟩,d⟩:=h
 unfold bd at b d
 refine ⟨by omega,fun p a=>?_,by rw [ZgL];omega⟩
 have:=QT (oL p.ZF)
 have:=Zd2 (f:=Un) a
 rw [<- Zdy] at this
 exact ⟨Zls (c p a),by omega,by omega⟩
theorem Zml {l:List ZU} (h:XQ Un l<=bd):∀ p∈l,cL (oL p.ZF)<=4194304:=fun p a=>by
 have:=Zd2 (f:=Un) a
 unfold bd at h
 rw [Zdy];omega
mutual
theorem Zpa:∀ x,TO x->nI (oI x)
 | ⟨k,f,t,n,a,x,b⟩,h=>by
  simp only [TO] at h
  simp only [oI,nI]
  have c:=h.2.2.2.1
  unfold bd at c
  exact ⟨by omega,ZiQ b h.2.2.2.2.2.2.2⟩
theorem Zeg:∀ l,SG l->nL (oL l)
 | [],_=>by simp only [oL,nL]
 | x::l,h=>by
  simp only [SG] at h
  simp only [oL,nL]
  exact ⟨Zpa x h.1,Zeg l h.2⟩
theorem ZiQ:∀ l,SF l->RQ (YA l)
 | [],_=>by simp only [YA,RQ]
 | x::l,h=>by
  simp only [SF] at h
  simp only [YA,RQ]
  exact ⟨Zeg x h.1.2,ZiQ l h.2⟩
end
theorem ZoO {m:Yi} (h:B4 m):nM (oM m):=by
 have ⟨d,_,_,e⟩:=h
 unfold bd at d
 refine ⟨by show m.Zt.size<=_;omega,fun a c=>?_⟩
 obtain ⟨b,f,rfl⟩:=List.mem_map.1 c
 have ⟨g,_,i⟩:=e b f
 have j:=g.2.1;have k:=i.2.1
 unfold bd at j k
 exact ⟨by show b.Zw.Zv.size<=_;omega,by show b.Zx.Zv.size<=_;omega⟩
theorem plain:∀ (a:(List ZU)) (b:ByteArray),((a.length<=bd/\∀ y∈a,SH y)/\XQ Un a<=bd)->(b.size<=bd)->∃ N,SI N a b=some true:=by
 intro l nm e _
 have ⟨a1,a2,a3⟩:=Zqr e
 obtain ⟨⟨_,d⟩,g⟩:=e
 exact ⟨20000000+300,Zpp l nm (ZlK _) a1 a2 a3 (Zml g) (fun p c=>⟨Zeg _ (B3 _ (d p c).2.2.2.2),fun m f=>ZoO ((d p c).2.2.1.2 m f)⟩) (by omega)⟩
end Gp
end
