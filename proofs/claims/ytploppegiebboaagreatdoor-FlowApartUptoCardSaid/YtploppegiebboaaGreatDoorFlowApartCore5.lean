/- Aids for the walks, part 5: a symbolic state of the machine, and that each step of the machine keeps it. -/
import Derived.Test.YtploppegiebboaaGreatDoorFlowApartCore4
set_option linter.all false
open Go renaming World→lQ,TypeId→lS,Operand→lV,Oper→lW,setRow_other→l5
open List renaming mem_singleton→aC,getElem?_eq_some_iff→aE,map_cons→aI,getElem?_map→aK,length_take→aL,append_assoc→aU,mem_cons→aV,getElem?_take→aj,map_nil→au,getElem?_drop→bO,map_toArray→bT,nodup_cons→cR,pairwise_cons→cY
open Go.Result renaming andThen_ok→aD
open Nat renaming beq→aF,mul_le_mul_right→aT,ble→aY,lt_succ_self→ab,lt_or_ge→ay,add_mul→bD,beq_refl→eu
open Go.Sem renaming run_bind→aG,run_pure→aJ
open Array renaming length_toList→aq
open Prod.mk renaming inj→cC
open Go.MapKept renaming run_getObj_map→dH
open Go.Builtin renaming len_→dt,lenOf→eA
open Go.Instr renaming storeAt→dz
open Go.Steps renaming one→gN
namespace Go.Kx
section
variable [kv]
variable {α:Type}
def Zaz(p q:G1×List α):Prop:=∀b,YV p.1.1=some b->YV q.1.1≠some b
theorem ZeC{p q:G1×List α}(h:Zaz p q):Zaz q p:=fun b c d=>h b d c
def WD(R:k6 α)(n:Nat)(ps:List (G1×List α)):SH where
 fp b:=∃p,p∈ps/\YV p.1.1=some b
 ok F w:=(∀p,p∈ps->kh R F w p.2 p.1.1)/\ps.Pairwise Zaz/\∀p,p∈ps->∀b,YV p.1.1=some b->n<=b
 mono g hb h:=⟨fun p hp=>(h.1 p hp).mono g fun b h1=>hb b ⟨p,hp,h1⟩,h.2⟩
section
variable {X:lB}{s:St}{E:lC}{F:YJ}{w:lQ}{a:Act}{α:Type}{R:k6 α}
theorem ky.growF(c:ky X s E F w a)(G:YJ)(e:∀b,G b->X.n0<=b/\¬ X.Z b/\b<w.heap.size/\∀k m,Yg s.M k=some m->¬ m.fp E k b):ky X s E (fun b=>F b\/G b) w a:=by
 have i:X3 F w (fun b=>F b\/G b) w:=⟨fun _ h=>.inl h,fun _ _=>rfl⟩
 exact {
  wf:=c.wf
  nk:=c.nk
  defers:=c.defers
  size:=c.size
  hL:=c.hL
  hV:=fun j f h=>(c.hV j f h).mono i
  hM:=fun j m h=>(c.hM j m h).mono i fun _ _=>rfl
  dis:=c.dis
  mF:=fun j m h b d=>by
   have:=c.mF j m h b d;refine⟨?_,this.2⟩;rintro (g|g)
   ·exact this.1 g
   ·exact (e b g).2.2.2 j m h d
  fresh:=c.fresh
  hF:=fun b d=>by
   rcases d with d|d
   ·exact c.hF b d
   ·exact (e b d).2.2.1
  hF0:=fun b d=>.inl (c.hF0 b d)
  hF1:=fun b d=>by
   rcases d with d|d
   ·exact c.hF1 b d
   ·exact .inr ⟨(e b d).1,(e b d).2.1⟩
  hn0:=c.hn0
  hZ:=c.hZ
  ext:=c.ext
  link:=c.link
  one:=c.one }
variable {c:Cf}
theorem eFe(R:k6 α)(n:Nat)(k:Wc X (W8 (fun s=>⟨s.L,(s.nx,.abs (WD R n []))::s.M,s.V,s.nx+1⟩) c)):Wc X c:=
 VG (fun E F w a e=>⟨E,F,e.addM' (m:=.abs (WD R n [])) ⟨fun p d=>(by cases d),List.Pairwise.nil,fun p d=>(by cases d)⟩ trivial (fun b f=>by have⟨p,d,_⟩:=f;cases d) (fun h=>by cases h)⟩) k
theorem ZfZ{β:Type}(A:List β)(p:β)(B:List β):(A++[p]++B).Perm (p::(A++B)):=by rw[aU];exact List.perm_middle
variable {n:Nat}{ps:List (G1×List α)}
theorem eFt(R:k6 α)(t:Nat)(A:List (G1×List α))(p:G1×List α)(B:List (G1×List α))(e:ps=A++[p]++B)(N:n=X.n0)
  (k:Wc X (W8 (fun s=>⟨s.L,(s.nx,.own R p.2 true)::(t,.abs (WD R n (A++B)))::s.M,(s.nx,.fn (Xx p.1))::s.V,s.nx+1⟩) c))
  (x:Yg c.st.M t=some (.abs (WD R n ps)):=by kernel_rfl):Wc X c:=by
 refine VG (fun E F w a y=>?_) k;subst e;obtain⟨H,O,I⟩:(WD R n (A++[p]++B)).ok F w:=y.hM t _ x;have o:=ZfZ A p B;have r:(p::(A++B)).Pairwise Zaz:=(o.pairwise_iff (fun h=>ZeC h)).1 O;rw[cY]at r;have i:p∈A++[p]++B:=o.symm.subset (Zj ..);have d:∀q,q∈A++B->q∈A++[p]++B:=fun q f=>o.symm.subset (Zi _ f);have D:=y.mF t _ x;have W:=y.setM (m':=.abs (WD R n (A++B))) (w':=w) x rfl rfl .m (Zq _) (fun _ _ _=>rfl) (fun b g=>by have⟨q,f,g⟩:=g;exact⟨q,d q f,g⟩) ⟨fun q f=>H q (d q f),r.2,fun q f=>I q (d q f)⟩ trivial (fun h=>by cases h)
 have⟨K,l,P⟩:=W.newOwn (R:=R) (xs:=p.2) (v:=p.1.1) (fr:=true) (H p i) (fun b g=>by
  have⟨S,T,U⟩:=D b ⟨p,i,g⟩;refine⟨S,T,U,fun j m' u G=>?_⟩;have u:Yg ((t,MO.abs (WD R n (A++B)))::c.st.M) j=some m':=u;rw[YF]at u;split at u
  ·cases u;have⟨q,f,z⟩:=G;exact r.1 q f b g z
  ·rename_i C;exact y.dis t j _ m' x u (fun e=>C e) b ⟨p,i,g⟩ G) (fun _ b g=>by rw[<-N];exact I p i b g)
 have l:K.ρ c.st.nx=p.1.1:=l;have Y:=P.addFn (k:=c.st.nx) (Φ:=Xx p.1) (ab _) l;exact⟨K,F,Y⟩
theorem eFp{u:G1}{D:List α}(R:k6 α)(t K:Nat)(A B:List (G1×List α))(hn:n=X.n0)(y:aF t K=false)
  (k:Wc X (W8 (fun s=>⟨s.L,(t,.abs (WD R n (A++[(u,D)]++B)))::(K,.gone)::s.M,s.V,s.nx⟩) c))
  (Z:(Yg c.st.M t,Yg c.st.M K,Yg c.st.V K)=(some (.abs (WD R n (A++B))),some (.own R D true),some (.fn (Xx u))):=by kernel_rfl):Wc X c:=by
 simp only[Zr]at Z;have⟨p,o,P⟩:=Z;refine VG (fun E F w a d=>?_) k;obtain⟨h1,h2,h3⟩:(WD R n (A++B)).ok F w:=d.hM t _ p;have v:kh R F w D (E.ρ K):=d.hM K _ o;have hu:E.ρ K=u.1:=d.hV K _ P;rw[hu]at v;have I:¬ t=K:=fun e=>by rw[e,eu]at y;cases y
 have r:=ZfZ A (u,D) B;have W:=d.fresh K _ o rfl;have l:∀b,YV u.1=some b->(MO.own R D true).fp E K b:=fun b f=>by show YV (E.ρ K)=some b;rw[hu];exact f
 refine⟨E,F,?_⟩
 -- the forest takes the slice's memory over
 exact {
  wf:=⟨d.wf.hL,fun j m h=>by
   rw[YF]at h;split at h
   ·rename_i e;cases h;subst e;exact⟨(d.wf.hM _ _ p).1,trivial⟩
   ·rw[YF]at h;split at h
    ·rename_i e;cases h;subst e;exact⟨(d.wf.hM _ _ o).1,trivial⟩
    ·exact d.wf.hM j m h,d.wf.hV⟩
  nk:=d.nk
  defers:=d.defers
  size:=d.size
  hL:=d.hL
  hV:=d.hV
  hM:=fun j m h=>by
   rw[YF]at h;split at h
   ·cases h;refine⟨fun q g=>?_,(r.pairwise_iff (fun h=>ZeC h)).2 (cY.2 ⟨fun q g b f O=>?_,h2⟩),fun q g b f=>?_⟩
    ·rcases aV.1 (r.subset g) with rfl|g
     ·exact v
     ·exact h1 q g
    ·exact d.dis K t _ _ o p (fun e=>I e.symm) b (l b f) ⟨q,g,O⟩
    ·rcases aV.1 (r.subset g) with rfl|g
     ·rw[hn];exact W b (l b f)
     ·exact h3 q g b f
   ·rw[YF]at h;split at h
    ·cases h;trivial
    ·exact d.hM j m h
  dis:=fun j j' m m' h h' z b f C=>by
   have key:∀(j:Nat) m,Yg ((t,MO.abs (WD R n (A++[(u,D)]++B)))::(K,.gone)::c.st.M) j=some m->m.fp E j b->∃i N,Yg c.st.M i=some N/\N.fp E i b/\(i=j\/(j=t/\i=K)):=fun j m h f=>by
    rw[YF]at h;split at h
    ·rename_i e;cases h;subst e;have⟨q,g,f⟩:=f;rcases aV.1 (r.subset g) with rfl|g
     ·exact⟨K,_,o,l b f,.inr ⟨rfl,rfl⟩⟩
     ·exact⟨_,_,p,⟨q,g,f⟩,.inl rfl⟩
    ·rw[YF]at h;split at h
     ·cases h;exact f.elim
     ·exact⟨j,m,h,f,.inl rfl⟩
   have x:∀m,Yg ((t,MO.abs (WD R n (A++[(u,D)]++B)))::(K,.gone)::c.st.M) K=some m->¬ m.fp E K b:=fun m h f=>by rw[YF,mE I,YF,mD rfl]at h;cases h;exact f
   have⟨i,N,hi,S,ei⟩:=key j m h f;have⟨i',T,U,G,H⟩:=key j' m' h' C;have Y:i≠i':=by
    rintro rfl;rcases ei with rfl|⟨rfl,rfl⟩
    ·rcases H with e|⟨rfl,rfl⟩
     ·exact z e
     ·exact x m h f
    ·rcases H with e|⟨rfl,_⟩
     ·subst e;exact x m' h' C
     ·exact z rfl
   exact d.dis i i' N T hi U Y b S G
  mF:=fun j m h b f=>by
   rw[YF]at h;split at h
   ·rename_i e;cases h;subst e;have⟨q,g,f⟩:=f;rcases aV.1 (r.subset g) with rfl|g
    ·exact d.mF K _ o b (l b f)
    ·exact d.mF _ _ p b ⟨q,g,f⟩
   ·rw[YF]at h;split at h
    ·cases h;exact f.elim
    ·exact d.mF j m h b f
  fresh:=fun j m h hf b f=>by
   rw[YF]at h;split at h
   ·cases h;cases hf
   ·rw[YF]at h;split at h
    ·cases h;exact f.elim
    ·exact d.fresh j m h hf b f
  hF:=d.hF
  hF0:=d.hF0
  hn0:=d.hn0
  hF1:=d.hF1
  hZ:=d.hZ
  ext:=d.ext
  link:=d.link
  one:=d.one }
theorem eFi(R:k6 α)(j:Nat)(A B:List (G1×List α))(e:ps=A++B)
  (k:Wc X (W8 (fun s=>⟨s.L,(j,.abs (WD R n (A++[(Xn,[])]++B)))::s.M,s.V,s.nx⟩) c))
  (l:Yg c.st.M j=some (.abs (WD R n ps)):=by kernel_rfl):Wc X c:=by
 refine VG (fun E F w a o=>⟨E,F,?_⟩) k;subst e;obtain⟨p,r,t⟩:(WD R n (A++B)).ok F w:=o.hM j _ l;have g:=ZfZ A ((Xn,[]):G1×List α) B;have i:∀b,YV (Xn:G1).1≠some b:=fun b h=>by cases h
 refine o.setM (m':=.abs (WD R n (A++[(Xn,[])]++B))) (w':=w) l rfl rfl .m (Zq _) (fun _ _ _=>rfl) (fun b f=>?_) ⟨fun q d=>?_,(g.pairwise_iff (fun h=>ZeC h)).2 (cY.2 ⟨fun q d b f=>absurd f (i b),r⟩),fun q d b f=>?_⟩ trivial (fun h=>by cases h)
 ·have⟨q,d,f⟩:=f;rcases aV.1 (g.subset d) with rfl|d
  ·exact absurd f (i b)
  ·exact⟨q,d,f⟩
 ·rcases aV.1 (g.subset d) with rfl|d
  ·exact .inl ⟨rfl,rfl⟩
  ·exact p q d
 ·rcases aV.1 (g.subset d) with rfl|d
  ·exact absurd f (i b)
  ·exact t q d b f
theorem eFf{fr:Bool}(R:k6 α)(f l:Nat)(hn:n=X.n0)(v:aF f l=false)
    (k:Wc X (W8 (fun s=>⟨s.L,(l,.own (YH R) (ps.map (·.2)) fr)::(f,.gone)::s.M,s.V,s.nx⟩) c))
    (Z:(Yg c.st.M f,Yg c.st.M l)=(some (.abs (WD R n ps)),some (.own (XW R) (ps.map fun p=>.inr p.1) fr)):=by kernel_rfl):Wc X c:=by
  simp only[Zr]at Z;have⟨g,K⟩:=Z;refine VG (fun E F w a I=>?_) k;have Y:¬ f=l:=fun e=>by rw[e,eu]at v;cases v
  obtain⟨h1,h2,h3⟩:(WD R n ps).ok F w:=I.hM f _ g;have s1:ky X ⟨c.st.L,(f,.gone)::c.st.M,c.st.V,c.st.nx⟩ E F w a:=I.setM (m':=.gone) g rfl rfl .m (Zq _) (fun _ _ _=>rfl) (fun b x=>x.elim) trivial trivial (fun h=>by cases h)
  let G:YJ:=(WD R n ps).fp
  have s2:=s1.growF G (fun b x=>by
    have⟨q,o,r⟩:=x;have⟨g1,g2,g3⟩:=I.mF f _ g b ⟨q,o,r⟩;refine⟨by rw[<-hn];exact h3 q o b r,g2,g3,fun j m u hf=>?_⟩;have u:Yg ((f,MO.gone)::c.st.M) j=some m:=u;rw[YF]at u;split at u
    · cases u;exact hf
    · rename_i W;exact I.dis f j _ m g u W b ⟨q,o,r⟩ hf)
  have hT:Yg ((f,MO.gone)::c.st.M) l=some (.own (XW R) (ps.map fun p=>.inr p.1) fr):=by rw[YF,mE Y];exact K
  have ho:kh (XW R) (fun b=>F b\/G b) w (ps.map fun p=>.inr p.1) (E.ρ l):=s2.hM l _ hT;refine⟨E,_,s2.setM (m':=.own (YH R) (ps.map (·.2)) fr) (w':=w) hT rfl rfl .m (Zq _) (fun _ _ _=>rfl) (fun b x=>x) ?_ trivial (fun h=>h)⟩;show kh (YH R) _ w (ps.map (·.2)) (E.ρ l);rcases ho with⟨he,N⟩|⟨b,off,cap,arr,el,fz,N,hc,ha,ht,hh,hr⟩
  · refine .inl ⟨?_,N⟩;have:ps=[]:=by simpa using he
    rw[this];rfl
  · refine .inr ⟨b,off,cap,arr,el,fz,by rw[N];simp,by simpa using hc,ha,ht,hh,fun i D y=>?_⟩;rw[aK]at y;cases o:ps[i]? with
    |none=>rw[o]at y;cases y
    |some q=>
      rw[o]at y;cases y;have⟨vs,d,t⟩:=hr i (.inr q.1) (by rw[aK,o];rfl);have d:vs=[q.1.1]:=d;refine⟨vs,⟨q.1.1,d,?_⟩,t⟩;have H:=Zb o;have hg:X3 F w (fun b=>F b\/G b) w:=⟨fun _ h=>.inl h,fun _ _=>rfl⟩
      rcases h1 q H with⟨e1,e2⟩|⟨b2,z,A,B,O,P,C,S,ha2,ht2,T,U⟩
      · exact .inl ⟨e1,_,_,e2⟩
      · exact .inr ⟨b2,z,A,B,O,P,C,S,.inr ⟨q,H,by rw[C];rfl⟩,T,U.mono hg⟩
end
def U5(Ds:List Nat):SH where
 fp b:=b∈Ds
 ok _ w:=(∀D,D∈Ds->w.heap[D]?=some (.deferred (some [])))/\Ds.Nodup
 mono:=fun _ hb h=>⟨fun D hD=>by rw[hb D hD];exact h.1 D hD,h.2⟩
abbrev Sl(Ds:List Nat):List Deferred:=Ds.map U4
section
variable {X:lB}{tt:List (Nat×TD)}
variable {c:Cf}
theorem eFa{D:Nat}{Ds:List Nat}(l g:Nat)(u:aF l g=false)(k:Wc X (W8 (fun s=>⟨s.L,(l,.abs (U5 (D::Ds)))::(g,.gone)::s.M,s.V,s.nx⟩) c))
  (P:(Yg c.st.M l,Yg c.st.M g)=(some (.abs (U5 Ds)),some (.abs (R4 D))):=by kernel_rfl):Wc X c:=by
 have⟨n,o⟩:=cC P;refine VG (fun E F w a d=>⟨E,F,?_⟩) k;have A:¬ l=g:=fun e=>by rw[e,eu]at u;cases u
 obtain⟨U,W⟩:(U5 Ds).ok F w:=d.hM l _ n;have Z:w.heap[D]?=some (.deferred (some [])):=d.hM g _ o;have B:D ∉ Ds:=fun S=>d.dis l g _ _ n o A D S rfl;have key:∀b (j:Nat) m,Yg ((l,MO.abs (U5 (D::Ds)))::(g,.gone)::c.st.M) j=some m->m.fp E j b->∃i t,Yg c.st.M i=some t/\t.fp E i b/\(i=j\/(j=l/\i=g)):=fun b j m h f=>by
  rw[YF]at h;split at h
  ·rename_i e;cases h;subst e;have f:b∈D::Ds:=f;rcases aV.1 f with rfl|f
   ·exact⟨g,_,o,rfl,.inr ⟨rfl,rfl⟩⟩
   ·exact⟨_,_,n,f,.inl rfl⟩
  ·rw[YF]at h;split at h
   ·cases h;exact f.elim
   ·exact⟨j,m,h,f,.inl rfl⟩
 have p:∀b m,Yg ((l,MO.abs (U5 (D::Ds)))::(g,.gone)::c.st.M) g=some m->¬ m.fp E g b:=fun b m h f=>by rw[YF,mE A,YF,mD rfl]at h;cases h;exact f
 exact {
  wf:=⟨d.wf.hL,fun j m h=>by
   rw[YF]at h;split at h
   ·rename_i e;cases h;subst e;exact⟨(d.wf.hM _ _ n).1,trivial⟩
   ·rw[YF]at h;split at h
    ·rename_i e;cases h;subst e;exact⟨(d.wf.hM _ _ o).1,trivial⟩
    ·exact d.wf.hM j m h,d.wf.hV⟩
  nk:=d.nk
  defers:=d.defers
  size:=d.size
  hL:=d.hL
  hV:=d.hV
  hM:=fun j m h=>by
   rw[YF]at h;split at h
   ·cases h;exact⟨fun q C=>by
     rcases aV.1 C with rfl|C
     ·exact Z
     ·exact U q C,cR.2 ⟨B,W⟩⟩
   ·rw[YF]at h;split at h
    ·cases h;trivial
    ·exact d.hM j m h
  dis:=fun j T m m' h K v b f x=>by
   have⟨i,t,hi,r,Y⟩:=key b j m h f;have⟨O,G,H,y,z⟩:=key b T m' K x;have I:i≠O:=by
    rintro rfl;rcases Y with rfl|⟨rfl,rfl⟩
    ·rcases z with e|⟨rfl,rfl⟩
     ·exact v e
     ·exact p b m h f
    ·rcases z with e|⟨rfl,_⟩
     ·subst e;exact p b m' K x
     ·exact v rfl
   exact d.dis i O t G hi H I b r y
  mF:=fun j m h b f=>by have⟨i,t,hi,r,_⟩:=key b j m h f;exact d.mF i t hi b r
  fresh:=fun j m h N b f=>by
   rw[YF]at h;split at h
   ·cases h;cases N
   ·rw[YF]at h;split at h
    ·cases h;exact f.elim
    ·exact d.fresh j m h N b f
  hF:=d.hF
  hF0:=d.hF0
  hn0:=d.hn0
  hF1:=d.hF1
  hZ:=d.hZ
  ext:=d.ext
  link:=d.link
  one:=d.one }
theorem eFb(k:Wc X (W8 (fun s=>⟨s.L,(s.nx,.abs (U5 []))::s.M,s.V,s.nx+1⟩) c)):Wc X c:=
 VG (fun E F w a d=>⟨E,F,d.addM' (m:=.abs (U5 [])) ⟨fun p e=>(by cases e),List.nodup_nil⟩ trivial (fun b f=>by cases (show b∈([]:List Nat) from f)) (fun h=>by cases h)⟩) k
theorem Zps{σ ρ:Type}{r:ρ}(H:List Nat->σ->St)(p:Nat->σ->Option ρ)(f:∀b,p 0 b=none){Ds0:List Nat}
  (e:∀n,(∀Ds b,p n b=some r->WP { X with dfs:=Sl Ds } (lpK c) (H Ds b))->∀Ds b,p (n+1) b=some r->Wc { X with dfs:=Sl Ds } (lpS c (H Ds b)))
  (h:(∀n Ds b,p n b=some r->WP { X with dfs:=Sl Ds } (Ra c) (H Ds b))->Wc { X with dfs:=Sl Ds0 } c):Wc { X with dfs:=Sl Ds0 } c:=by
 have key:∀n Ds b,p n b=some r->WP { X with dfs:=Sl Ds } (.code (TA c)::.inLoop (TA c)::c.kk) (H Ds b):=by
  intro n;induction n with
  |zero=>intro Ds b d;rw[f]at d;cases d
  |succ n i=>exact fun Ds b g=>(e n (fun Ds b d=>WP.inLoop (i Ds b d)) Ds b g).1
 exact h fun n Ds b d=>WP.loop (key n Ds b d)
end
variable {P:Program}
theorem Zmn:∀(Ds:List Nat) (fr:Frame) (cs:List Frame) (w:lQ),fr.mode≠.run->fr.defers=Sl Ds->(∀D,D∈Ds->w.heap[D]?=some (.deferred (some [])))->Ds.Nodup ->
  ∃w',Steps P (lone fr cs w) (lone { fr with defers:=[] } cs w')/\w'.os=w.os/\w'.tape=w.tape/\Oq w w'/\w'.heap.size=w.heap.size/\∀b,b ∉ Ds->w'.heap[b]?=w.heap[b]?
 | [],fr,cs,w,_,g,_,_=>by
  refine⟨w,?_,rfl,rfl,.m,rfl,fun _ _=>rfl⟩;have e:{ fr with defers:=[] }=fr:=by have g:fr.defers=[]:=g;rw[<-g]
  rw[e];exact .refl _ _
 |D::Ds,fr,cs,w,hm,g,hD,hn=>by
  rw[cR]at hn;obtain⟨w2,c⟩:∃w2,w.putObj D (.deferred none)=w2:=⟨_,rfl⟩
  have j:∀q,q≠D->w2.heap[q]?=w.heap[q]?:= fun q f=>by rw[<-c];exact World.putObj_heap_other f
  have u:=step_collected (P:=P) (fr:=fr) (cs:=cs) (w:=w) (w':=w2) (d:=U4 D) (r:=D) (ds:=Sl Ds) (calls:=[]) hm g rfl (by rw[<-c];exact run_takeDeferred (hD D (Zj ..)));obtain⟨w',k,l,n,o,p,t⟩:=Zmn Ds { fr with defers:=Sl Ds } cs w2 hm rfl (fun q f=>by rw[j q (fun e=>hn.1 (e▸f))];exact hD q (Zi _ f)) hn.2;refine⟨w',(gN u).trans k,by rw[l,<-c];rfl,by rw[n,<-c];rfl,?_,by rw[p,<-c];simp,fun b i=>?_⟩
  ·have f:Oq w w2:=by rw[<-c];exact .m
   exact f.trans o
  ·rw[t b (fun h=>i (Zi _ h)),j b (fun e=>i (e▸Zj ..))]
theorem Zpx{f:FuncId}{fn:Func}{e:Ct}{E0:lC}{F0:YJ}{w0:lQ}{Ds:List Nat}{tt:List (Nat×TD)}(lO:kf P tt)(z:P.funcs[f]?=some fn)(g:Nat)(l:List (Nat×SC)){c:Cf}
    (u:(ZbH c,Yg c.st.M g,Rh tt (Hf g c.st) fn.results.toList,e.V1.map (fun p=>Uy (Hf g c.st) ⟨l,0,0⟩ p.1 p.2),e.M1.map (fun p=>W0 (Hf g c.st) ⟨l,0,0⟩ p.1 p.2),
        (Ui ⟨l,0,0⟩ e.res && XL (e.M1.filterMap fun p=>XT ⟨l,0,0⟩ p.1 p.2) && XL (e.M1.map (·.1)) && l.all (fun p=>aY e.nk p.1 && p.2.kbb c.st.nx))) =
      (true,some (.abs (U5 Ds)),some (W3 ⟨l,0,0⟩ e.res),e.V1.map (fun p=>some p.2),e.M1.map (fun p=>some (Vl ⟨l,0,0⟩ p.2)),true):=by kernel_rfl):Wc { e.ctx P f fn E0 F0 w0 with dfs:=Sl Ds } c:=by
  simp only[Zr]at u;have⟨n,v,A,B,C,D⟩:=u;unfold ZbH at n;split at n
  · rename_i k s;refine⟨fun E F w a i=>?_⟩;obtain⟨G,o⟩:(U5 Ds).ok F w:=i.hM g _ v;have T:a.defers=Sl Ds:=i.defers;show ku P f none _ a (.code .ret::k) w;intro b cs x O S;obtain⟨w2,r,H,I,K,W,N⟩:=Zmn (P:=P) Ds { b.atR a (.code .ret::k) with mode:=.returning } cs w (by simp) T G o;have d:=i.setM (k:=g) (m:=.abs (U5 Ds)) (m':=.gone) (w':=w2) v H I K (by omega) (fun q _ j=>N q j) (fun q j=>j.elim) trivial trivial (fun h=>by cases h);have y:ky (e.ctx P f fn E0 F0 w0) ⟨s.L,(g,.gone)::s.M,s.V,s.nx⟩ E F w2 { a with defers:=[] }:=
      ⟨d.wf,d.nk,rfl,d.size,d.hL,d.hV,d.hM,d.dis,d.mF,d.fresh,d.hF,d.hF0,d.hn0,d.hF1,d.hZ,d.ext,d.link,d.one⟩
    have U:=HG (X:=e.ctx P f fn E0 F0 w0) lO y A;have t:=ZbI y l rfl B C D;exact⟨_,w2,{ b.atR a (.code .ret::k) with mode:=.returning,defers:=[] },t,(gN (stepR_ret S)).trans r,x,rfl,rfl,O,fn,by show P.funcs[b.fn]?=_;rw[x];exact z,U⟩
  · cases n
section
variable {X:lB}{s:St}{ops:Array lW}{lL:Act->lQ->Prop}{tt:List (Nat×TD)}
theorem kg.mln{α:Type}{R:k6 α}{i:Nat}{lK:List Nat}{o:lW}{t:lS}{x:lV}{d k:Nat}{ag nl:Bool}{z:α}{κ:Type}[ke κ]{lM:List (κ×α)}(p:V6 κ X.P R t ag z)
  (q:ops[i]?=some o) (r:Y3 ops s.L o=some true) (f:o.op=.call { callee:=.builtin .len,args:=#[x],argTypes:=#[t] }) (u:o.dst=some d)
  (y:Yr s.L x=some (.c (.sl k))) (A:Yg s.M k=some (.av (Xr R ag nl lM))) (B:Nat.blt d X.fn.ntmps=true)
  (C:kg X ops lK lL ⟨(d,.c (.i .i64 (lM.length:Int)))::s.L,s.M,s.V,s.nx⟩):kg X ops (i::lK) lL s:=by
 refine kg.val (v:=.c (.i .i64 (lM.length:Int))) (fun E F w a l=>⟨?_,trivial⟩) q r u B C;have⟨K,N,zs,m,O,S,D⟩:=p;have⟨n,_⟩:=l.eval y;have j:(Xr R ag nl lM).ok F w (E.ρ k):=l.hM k _ A;refine Vu f ?_;rcases j with⟨_,rfl,g⟩|⟨b,es,h,g,G,H,I⟩
 ·simp only[bT,aI,au,n,Yt,Yn,g];exact Xe (by simp[dt,Xl m,eA,goInt])
 ·simp only[bT,aI,au,n,Yt,Yn,g];have e:es.size=lM.length:=by have:=H.len;simpa using this
  exact Xe (by simp[dt,Xl m,eA,dH G,Result.andThen,goInt,e])
theorem eMn{α:Type}{R:k6 α}{t:lS}{ag nl:Bool}{z:α}{κ:Type}[ke κ]{lM:List (κ×α)}{c:Cf}(f:V6 κ X.P R t ag z)(k:Wc X (Xh (d1 c (.c (.i .i64 (lM.length:Int)))) c))
  (b:(hB X.fn.ntmps c,(Yf c).dst,(Yf c).op,Yo c 0,Yg (Yk c).M (YA (Yo c 0)))=(true,some (YS c),.call { callee:=.builtin .len,args:=#[Yx (Yf c).op 0],argTypes:=#[t] },some (.c (.sl (YA (Yo c 0)))),some (.av (Xr R ag nl lM))):=by kernel_rfl):Wc X c:=by simp only[Zr]at b;have⟨l,e,m,n,o⟩:=b;have⟨p,q⟩:=Xm l;exact Wc.ev (d:=d1 c (.c (.i .i64 (lM.length:Int)))) p (Xs e rfl) (fun nk E0 F0 w0 n0 Z lK K g j h=>kg.mln (X:=X.var nk E0 F0 w0 n0 Z) f g j m e n o q h) k
end
section
variable {X:lB}{s:St}{ops:Array lW}{lL:Act->lQ->Prop}{tt:List (Nat×TD)}
theorem kg.mui{α:Type}{R:k6 α}(O:ki R){i:Nat}{lK:List Nat}{o:lW}{t:lS}{x y u:lV}{k:Nat}{ag:Bool}{z:α}{κ:Type}[ke κ]{q:κ}{lM:List (κ×α)}{v:SV}{ps:List SC}(e:α)(N:V6 κ X.P R t ag z)
  (S:ops[i]?=some o) (T:Y3 ops s.L o=some true) (m:o.op=.insert t x y u) (U:o.dst=none)
  (W:Yr s.L x=some (.c (.sl k))) (n:Yg s.M k=some (.av (Xr R ag false lM))) (Y:Yr s.L y=some (.c (ke.sc q))) (Z:Yr s.L u=some v) (hp:WI v=some ps) (hc:G9 ag v=true) (hk:O.chk (Yg s.V) e ps)
  (kk:kg X ops lK lL ⟨s.L,(k,.av (Xr R ag false (Xf lM q e)))::s.M,s.V,s.nx⟩):kg X ops (i::lK) lL s:=by
 refine kg.op S T (fun E F w a d=>?_) kk;have⟨kt,et,zs,A,B,hz,hzr⟩:=N;have⟨C,_⟩:=d.eval W;have⟨D,_⟩:=d.eval Y;have⟨G,_⟩:=d.eval Z;have I:(Xr R ag false lM).ok F w (E.ρ k):=d.hM k _ n;have K:=d.mF k _ n;have l:R.rep F w e (ps.map (Yn E)):=O.cok hk E F w (fun j f hj=>d.hV j f hj);obtain⟨w',g,H,g1,g2,g3,g4,g5⟩:=Zlo (nl:=false) rfl (a:=q) A B I l (fun b p=>(K b p).1);refine HW (w':=w') ?_ ?_
 ·have C:a.eval x=E.ρ k:=C;have D:a.eval y=ke.val q:=D.trans (ke.den_sc E q);have G:a.eval u=W2 ag (ps.map (Yn E)):=G.trans (ZhW hc hp);simp only[execOp,m,C,D,G,aG,g,aD,aJ]
 ·have s1:=d.setM (m':=.av (Xr R ag false (Xf lM q e))) n g1 g2 g3 g4 (fun b _ r=>g5 b (fun h=>r h)) (fun b p=>p) H trivial (fun h=>by cases h);rw[U];exact⟨E,F,s1⟩
theorem eMi{α:Type}{R:k6 α}{t:lS}{ag:Bool}{z:α}{κ:Type}[ke κ]{q:κ}{lM:List (κ×α)}{c:Cf}(fz:List Nat)(O:ki R)(e:α)(j:V6 κ X.P R t ag z)(k:Wc X (nMu R ag (Xf lM q e) fz c))
  (g:(VI c,(Yf c).dst,Uz (Yk c) fz,(Yf c).op,Yr (Yv (Yk c) fz).L (Yx (Yf c).op 0),Yg (Yv (Yk c) fz).M (YA (Yr (Yv (Yk c) fz).L (Yx (Yf c).op 0))),Yr (Yv (Yk c) fz).L (Yx (Yf c).op 1),Yr (Yv (Yk c) fz).L (Yx (Yf c).op 2),WI (Ul (Yr (Yv (Yk c) fz).L (Yx (Yf c).op 2))),G9 ag (Ul (Yr (Yv (Yk c) fz).L (Yx (Yf c).op 2))),O.lq (Yg (Yv (Yk c) fz).V) e (Ws (Yr (Yv (Yk c) fz).L (Yx (Yf c).op 2)))) =
   (true,none,true,.insert t (Yx (Yf c).op 0) (Yx (Yf c).op 1) (Yx (Yf c).op 2),some (.c (.sl (YA (Yr (Yv (Yk c) fz).L (Yx (Yf c).op 0))))),some (.av (Xr R ag false lM)),some (.c (ke.sc q)),some (Ul (Yr (Yv (Yk c) fz).L (Yx (Yf c).op 2))),some (Ws (Yr (Yv (Yk c) fz).L (Yx (Yf c).op 2))),true,O.rq (Yg (Yv (Yk c) fz).V) e (Ws (Yr (Yv (Yk c) fz).L (Yx (Yf c).op 2)))):=by kernel_rfl):Wc X c:=by simp only[Zr]at g;have⟨n,i,o,p,r,u,v,x,y,b,f⟩:=g;exact Wc.evz (d:=dMu R ag (Xf lM q e) fz c) fz n o (by rw[i];rfl) (fun nk E0 F0 w0 n0 Z lK K l m h=>kg.mui (X:=X.var nk E0 F0 w0 n0 Z) O e j l m p i r u v x y b (O.eqn f) h) k
end
theorem Fn.more{f:FuncId}{nk c:Nat}{a:List SV}{V m d:List (Nat×VF)}{M i:List (Nat×MO)}{b:SV}(n:Fn P f ⟨nk,a,V,M,c,b,d,i⟩)(h:∀k g,Yg V k=some g->Yg m k=some g) :
  Fn P f ⟨nk,a,m,M,c,b,d,i⟩ where
 callable:=n.callable
 calls E F w hp:=by
  have l:Ct.Pre ⟨nk,a,V,M,c,b,d,i⟩ E F w:=⟨hp.one,hp.hF,fun j g o=>hp.V j g (h j g o),hp.M,hp.dis,hp.mF⟩
  refine Calls.mono (n.calls E F w l) fun e w' h=>?_;have⟨p,q,r,h⟩:=h;exact⟨p,q,r,h.env,h.one,h.V,h.M,h.dis,h.mF,h.fresh,h.F0,h.F1,h.Fs,h.ext⟩
variable {β:Type}
def kj(R:k6 α)(S:k6 β)(off:Nat)(x:α)(z:β)(y:α):Prop:=∀F w vs us,R.rep F w x vs->S.rep F w z us->R.rep F w y (vs.take off++us++vs.drop (off+us.length))
theorem kj.self{R:k6 α}(x z:α):kj R R 0 x z z:=by intro F w c d f b;have e:d.length=c.length:=(R.len b).trans (R.len f).symm;simpa[e]using b
variable {off:Nat}{γ:Type}{S:k6 γ}{z:γ}
theorem kj.head{A:k6 α}{B:k6 β}{a d:α}{b:β}(h:kj A S off a z d)(i:off+S.sz<=A.sz):kj (rP A B) S off (a,b) z (d,b):=by rintro F w j c ⟨u,v,rfl,e,g⟩ f;refine⟨u.take off++c++u.drop (off+c.length),v,?_,h F w u c e f,g⟩;have k:=A.len e;have l:=S.len f;rw[List.take_append_of_le_length (by omega),List.drop_append_of_le_length (by omega)];simp[aU]
theorem kj.tail{A:k6 α}{B:k6 β}{a:α}{b d:β}(h:kj B S off b z d):kj (rP A B) S (A.sz+off) (a,b) z (a,d):=by
 rintro F w l c ⟨u,v,rfl,e,g⟩ i;refine⟨u,v.take off++c++v.drop (off+c.length),?_,e,h F w v c g i⟩;have f:=A.len e;have j:(u++v).take (A.sz+off)=u++v.take off:=by rw[<-f,List.take_append,List.take_of_length_le (by omega)];congr 2;omega
 have k:(u++v).drop (A.sz+off+c.length)=v.drop (off+c.length):=by rw[<-f,Nat.add_assoc,List.drop_append,List.drop_of_length_le (by omega),List.nil_append];congr 1;omega
 rw[j,k,aU,aU,aU]
theorem kj.m{f:α->β}{R:k6 β}{x y:α}(h:kj R S off (f x) z (f y)):kj (rM f R) S off x z y:=h
def Q8(R:k6 α):k6 (Option (List α)) where
 sz:=1
 pos:=Nat.one_pos
 rep F w x vs:=match x with
  |some xs=>(YH R).rep F w xs vs
  |none=>vs=[Xn.1]
 len {F w x vs} h:=by
  cases x with
  |some xs=>exact (YH R).len h
  |none=>
   have h:vs=[Xn.1]:=h;rw[h];rfl
 mono {F w F' w' x vs} g h:=by
  cases x with
  |some xs=>exact (YH R).mono g h
  |none=>exact h
 one {F w x vs} h:=by
  cases x with
  |some xs=>exact (YH R).one h
  |none=>
   have h:vs=[Xn.1]:=h;rw[h];intro v hv;rw[aC.1 hv];exact Xn.2
def oEo(R:k6 α):ki (Q8 R) where
 nk:=1
 cells k _:=[.sl k]
 facts _ _:=[]
 ok {F w x vs} h k E ho:=by
  have hl:vs.length=1:=(Q8 R).len h;obtain⟨v,rfl⟩:∃v,vs=[v]:=by
   match vs,hl with
   | [v],_=>exact⟨v,rfl⟩
  have h1:=(Q8 R).one h v (aC.2 rfl);refine⟨E.setρ k v,E.eqb_setρ _ _ _ (Zq _),fun _=>rfl,fun j hj=>?_,fun j=>?_,?_,fun p hp=>(by cases hp),?_⟩
  ·have:¬ j=k:=by omega
   simp[lC.setρ,this]
  ·simp only[lC.setρ];split
   ·exact h1
   ·exact ho j
  ·simp[Yn,lC.setρ]
  ·intro c hc;rw[aC.1 hc];exact ab _
 chk _ x cs:=x=none/\cs=[.nil]
 cok {V x cs} h E F w _:=by obtain⟨rfl,rfl⟩:=h;rfl
 T:=ULift.{1,0} (Option (List α)×List SC)
 lq _ x cs:=⟨(x,cs)⟩
 rq _ _ _:=⟨(none,[.nil])⟩
 eqn h:=cC (mG ULift.down h)
section
variable {X:lB}{s:St}{tt:List (Nat×TD)}{ops:Array lW}{lL:Act->lQ->Prop}
variable {α:Type}
theorem kg.stw{β:Type}{R:k6 α}{S:k6 β}(O:ki S)(lO:kf X.P tt){i:Nat}{lK:List Nat}{o:lW}{t:lS}{td:TD}{x y:lV}{k q off:Nat}{n:Int}{xs:List α}{e:α}{fr:Bool}{v:SV}{ps:List SC}{z:β}(U:α)(hl:kj R S off e z U)
  (hi:idx xs n=some e) (ho:ops[i]?=some o) (W:Y3 ops s.L o=some true) (hop:o.op=.store t x y) (hd:o.dst=none)
  (hx:Yr s.L x=some (.c (.px q off))) (hV:Yg s.V q=some (.el k (n.toNat*R.sz))) (hM:Yg s.M k=some (.own R xs fr)) (ht:Yg tt t=some td)
  (hy:Yr s.L y=some v) (hp:WI v=some ps)
  (hk:O.chk (Yg s.V) z ps)
  (hc:(aF ps.length td.sz && aY (off+ps.length) R.sz)=true)
  (k:kg X ops lK lL ⟨s.L,(k,.own R (YE xs n U) fr)::s.M,s.V,s.nx⟩):kg X ops (i::lK) lL s:=by
 refine kg.op ho W (fun E F w a A=>?_) k;rename_i k0;simp only[Zc]at hc;have⟨c1,c2⟩:=hc;have c1:=Zd c1;have c2:=Ze c2;have⟨_,_,I⟩:=VD hi;have hsl:=A.hM k0 _ hM;simp only[MO.ok]at hsl;rcases hsl with⟨rfl,_⟩|⟨b,o',cap,arr,ty,fz,hv,hcap,hsza,hth,hh,hr⟩
 ·simp at I
 have⟨Z,D,hvs⟩:=hr n.toNat e I;have⟨hq,_⟩:=A.hV q _ hV;have⟨e1,_⟩:=A.eval hx;have⟨e2,ek⟩:=A.eval hy;have⟨ec,ekk⟩:=HR (s:=s) A.one hp ek;have hvl:=R.len D;have hin:n.toNat<xs.length:=(aE.1 I).1;have hroom:o'+n.toNat*R.sz+R.sz<=arr.size:=by have:(n.toNat+1)*R.sz<=cap*R.sz:=aT _ (by omega);rw[bD]at this;omega
 have g:(ps.map (Yn E)).length=ps.length:=List.length_map ..;have hst:=Qb (P:=X.P) b (o'+n.toNat*R.sz+off) ty fz (ps.map (Yn E)) 0 arr w hh hth (by rw[g];omega)
  (by intro u hu;obtain⟨c,hc',rfl⟩:=List.mem_map.1 hu;exact QQ A.one (ekk c hc'))
 let d:=(arr.toList.take (o'+n.toNat*R.sz+off+0)++ps.map (Yn E)++arr.toList.drop (o'+n.toNat*R.sz+off+0+(ps.map (Yn E)).length)).toArray
 have hrun:(execOp a.eval o).run X.P w=.ok .skip (w.setRow b d):=by
  have hsv:(dz t (a.eval x) (a.eval y)).run X.P w=.ok () (w.setRow b d):=by
   rw[e1,e2];have hsz:(Yt E v).cells.size=td.sz:=by rw[ec];simp[c1]
   have hp:Yt E (.c (.px q off))=.pointer (some ⟨b,o'+n.toNat*R.sz+off,none⟩):=by show WW (E.ρ q) off=_;rw[hq,hv];rfl
   rw[hp];simp only[dz,Instr.sureAddr,aG,aJ,aD,storeVar,DQ w (lO.get ht),hsz,ne_eq,lu,mC];have:(Yt E v).cells.toList=ps.map (Yn E):=by rw[ec]
   rw[this];exact hst
  simp only[execOp,hop,aG,hsv,aD,aJ]
 refine HW hrun ?_;have hmf:=A.mF k0 _ hM;have hbF:¬ F b:=(hmf b (by show YV (E.ρ k0)=some b;rw[hv];rfl)).1;have W:X3 F w F (w.setRow b d):=⟨fun _ h=>h,fun b' hb'=>l5 w b b' _ (fun h=>hbF (h▸hb'))⟩
 have G:d.size=arr.size:=by have K:arr.toList.length=arr.size:=aq;simp only[d,List.size_toArray,List.length_append,aL,List.length_drop,K,g];omega
 -- what the cells are now
 have H:∀j,d[j]?=if o'+n.toNat*R.sz+off<=j/\j<o'+n.toNat*R.sz+off+ps.length then (ps.map (Yn E))[j-(o'+n.toNat*R.sz+off)]? else arr[j]?:= by
  intro j;have K:arr.toList.length=arr.size:=aq;have N:(arr.toList.take (o'+n.toNat*R.sz+off)).length=o'+n.toNat*R.sz+off:=by rw[aL,K];omega
  show ((arr.toList.take (o'+n.toNat*R.sz+off+0)++ps.map (Yn E)++arr.toList.drop (o'+n.toNat*R.sz+off+0+(ps.map (Yn E)).length)).toArray)[j]?=_;simp only[Nat.add_zero,List.getElem?_toArray,aU,g];by_cases c:j<o'+n.toNat*R.sz+off
  ·rw[Zo (by rw[N];exact c),aj,mD c,mE (by omega)];simp
  ·rw[Zp (by rw[N];omega),N];by_cases c':j<o'+n.toNat*R.sz+off+ps.length
   ·rw[Zo (by rw[g];omega),mD ⟨by omega,c'⟩]
   ·rw[Zp (by rw[g];omega),g,bO,mE (by omega)];rw[show o'+n.toNat*R.sz+off+ps.length+(j-(o'+n.toNat*R.sz+off)-ps.length)=j by omega];simp
 have r:R.rep F (w.setRow b d) U (Z.take off++ps.map (Yn E)++Z.drop (off+ps.length)):=by have:=hl F _ Z _ (R.mono W D) (S.mono W (O.cok hk E F w (fun k f h=>A.hV k f h)));rw[g]at this;exact this
 have hrow:Row R F (w.setRow b d) (YE xs n U) d o':=by
  intro i' x' p;unfold YE at p;rw[List.getElem?_set]at p;split at p
  ·rename_i hii;try rw[mD hin]at p
   cases p;refine⟨_,r,fun j u B=>?_⟩;rw[H,<-hii];have l:(Z.take off).length=off:=by rw[aL,hvl];omega
   by_cases c:off<=j/\j<off+ps.length
   ·rw[mD ⟨by omega,by omega⟩,show o'+n.toNat*R.sz+j-(o'+n.toNat*R.sz+off)=j-off by omega];rw[aU,Zp (by rw[l];exact c.1),l,Zo (by rw[g];omega)]at B;exact B
   ·rw[mE (by omega)];have T:Z[j]?=some u:=by
     rcases ay j off with C|hge
     ·rw[aU,Zo (by rw[l];exact C),aj,mD C]at B;exact B
     ·rw[aU,Zp (by rw[l];exact hge),l,Zp (by rw[g];omega),bO,g,
       show off+ps.length+(j-off-ps.length)=j by omega]at B
      exact B
    exact hvs j u T
  ·rename_i Y;have⟨us,hu,huv⟩:=hr i' x' p;refine⟨us,R.mono W hu,fun j u B=>?_⟩;have hjl:j<R.sz:=by rw[<-R.len hu];exact (aE.1 B).1
   rw[H,mE]
   ·exact huv j u B
   ·rintro⟨g1,g2⟩;rcases ay i' n.toNat with C|hge
    ·have:(i'+1)*R.sz<=n.toNat*R.sz:=aT _ C;rw[bD]at this;omega
    ·have:(n.toNat+1)*R.sz<=i'*R.sz:=aT _ (by omega);rw[bD]at this;omega
 refine⟨E,F,?_⟩;rw[hd];refine A.setM (m':=.own R (YE xs n U) fr) hM rfl rfl .m (by simp) (fun b' _ Y=>l5 w b b' _ (fun h=>Y (by subst h;show YV (E.ρ k0)=some b';rw[hv];rfl))) (fun _ h=>h) ?_ trivial (fun h=>h);refine .inr ⟨b,o',cap,d,ty,fz,?_,?_,by rw[G];exact hsza,by rw[G];exact hth,setRow_heap w b arr _ ty fz hh,hrow⟩
 ·rw[hv];simp[YE]
 ·simpa[YE]using hcap
def dSw(R:k6 α)(xs:List α)(m:Int)(e2:α)(fz:List Nat)(c:Cf):Dl:=⟨[],[((Xw (Yg (Yv (Yk c) fz).V (YA (Yr (Yv (Yk c) fz).L (Yx (Yf c).op 0))))),.own R (YE xs m e2) (WT (Yg (Yv (Yk c) fz).M (Xw (Yg (Yv (Yk c) fz).V (YA (Yr (Yv (Yk c) fz).L (Yx (Yf c).op 0))))))))],[],0⟩
def nSw(R:k6 α)(xs:List α)(m:Int)(e2:α)(fz:List Nat)(c:Cf):Cf:=Xh ((dSw R xs m e2 fz c).fz (Yk c) fz) c
theorem PR{β:Type}{R:k6 α}{S:k6 β}{xs:List α}{m:Int}{e b:α}{z:β}{off:Nat}{c:Cf}(lO:kf X.P tt)(fz:List Nat)(O:ki S)(hi:idx xs m=some e)(n:kj R S off e z b)(k:Wc X (nSw R xs m b fz c))
  (j:(VI c,(Yf c).dst,Uz (Yk c) fz,(Yf c).op,(Yr (Yv (Yk c) fz).L (Yx (Yf c).op 0)),Yg (Yv (Yk c) fz).V (YA (Yr (Yv (Yk c) fz).L (Yx (Yf c).op 0))),Yg (Yv (Yk c) fz).M (Xw (Yg (Yv (Yk c) fz).V (YA (Yr (Yv (Yk c) fz).L (Yx (Yf c).op 0))))),Yg tt (Yq (Yf c).op),(Yr (Yv (Yk c) fz).L (Yx (Yf c).op 1)),WI (Ul (Yr (Yv (Yk c) fz).L (Yx (Yf c).op 1))),O.lq (Yg (Yv (Yk c) fz).V) z (Ws (Yr (Yv (Yk c) fz).L (Yx (Yf c).op 1))),(aF (Ws (Yr (Yv (Yk c) fz).L (Yx (Yf c).op 1))).length (YC tt (Yq (Yf c).op)).sz && aY (off+(Ws (Yr (Yv (Yk c) fz).L (Yx (Yf c).op 1))).length) R.sz))=(true,none,true,.store (Yq (Yf c).op) (Yx (Yf c).op 0) (Yx (Yf c).op 1),some (.c (.px (YA (Yr (Yv (Yk c) fz).L (Yx (Yf c).op 0))) off)),some (.el (Xw (Yg (Yv (Yk c) fz).V (YA (Yr (Yv (Yk c) fz).L (Yx (Yf c).op 0))))) (m.toNat*R.sz)),some (.own R xs (WT (Yg (Yv (Yk c) fz).M (Xw (Yg (Yv (Yk c) fz).V (YA (Yr (Yv (Yk c) fz).L (Yx (Yf c).op 0)))))))),some (YC tt (Yq (Yf c).op)),some (Ul (Yr (Yv (Yk c) fz).L (Yx (Yf c).op 1))),some (Ws (Yr (Yv (Yk c) fz).L (Yx (Yf c).op 1))),O.rq (Yg (Yv (Yk c) fz).V) z (Ws (Yr (Yv (Yk c) fz).L (Yx (Yf c).op 1))),true):=by kernel_rfl):Wc X c:=by simp only[Zr]at j;have⟨q,l,r,t,u,v,x,y,A,f,g,i⟩:=j;have B:=q;refine Wc.evz (d:=dSw R xs m b fz c) fz B r (by rw[l];rfl) (fun nk E0 F0 w0 n0 Z lK K o p h=>kg.stw (X:=X.var nk E0 F0 w0 n0 Z) O lO b n hi o p t l u v x y A f (O.eqn g) i h) k
def nNd(q:Nat)(c:Cf):Cf:=Xh (d1 c (.c (.px q (XJ (Yr (Yk c).L (RC (Yf c).op)))))) c
theorem VR{c:Cf}(q:Nat)(k:Wc X (nNd q c))
  (b:(hB X.fn.ntmps c,(Yf c).dst,(Yf c).op,Yr (Yk c).L (RC (Yf c).op),Yg (Yk c).V q) =
   (true,some (YS c),.nilCheck (RC (Yf c).op),some (.c (.px q (XJ (Yr (Yk c).L (RC (Yf c).op))))),some (.el (Xw (Yg (Yk c).V q)) (elJ (Yg (Yk c).V q)))):=by kernel_rfl):Wc X c:=L7 q k b
end
end
end Go.Kx
