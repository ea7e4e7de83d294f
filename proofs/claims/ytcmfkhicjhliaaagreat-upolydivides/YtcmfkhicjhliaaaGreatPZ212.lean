/- Lemmas, part 13 of 24: Divisors; domains with greatest common divisors; Gauss's lemma; Fields; rational numbers; the field of fractions; Whole polynomials and their norms; small solutions of linear equations; Sizes of rational polynomials and of rational functions; Euclid's rows; The field of 2147483647 elements; Fermat's theorem; polynomials that are coprime there; Polynomials modulo a prime: what is coprime there is coprime. No condition. -/
import Derived.Test.YtcmfkhicjhliaaaGreatPZ211
import Init.GrindInstances.Ring.Fin
set_option maxRecDepth 65536
set_option linter.unusedSimpArgs false
set_option linter.unusedVariables false
set_option linter.unusedSectionVars false
namespace Alg
open Classical
section
variable {R:Type} [CR R]
def Dv (a b:R):Prop:=∃ c,b=a*c
theorem Dv.refl (a:R):Dv a a:=⟨1,(mul_one a).symm⟩
theorem Dv.trans {a b c:R}:Dv a b->Dv b c->Dv a c:=fun⟨x,hx⟩ ⟨y,hy⟩=>⟨x*y,by rw[hy,hx,mul_assoc]⟩
theorem Dv.zero (a:R):Dv a 0:=⟨0,(mul_zero a).symm⟩
theorem Dv.one (a:R):Dv 1 a:=⟨a,(one_mul a).symm⟩
theorem Dv.mul_right {a b:R} (h:Dv a b) (c:R):Dv a (b*c):=by
 obtain⟨x,rfl⟩:=h;exact⟨x*c,by rw[mul_assoc]⟩
theorem Dv.mul_left {a b:R} (h:Dv a b) (c:R):Dv a (c*b):=by rw[mul_comm];exact h.mul_right c
theorem Dv.add {a b c:R} (h:Dv a b) (h':Dv a c):Dv a (b+c):=by
 obtain⟨x,rfl⟩:=h;obtain⟨y,rfl⟩:=h';exact⟨x+y,by rw[mul_add]⟩
theorem Dv.neg {a b:R} (h:Dv a b):Dv a (-b):=by
 obtain⟨x,rfl⟩:=h;exact⟨-x,by rw[mul_neg]⟩
theorem Dv.sub {a b c:R} (h:Dv a b) (h':Dv a c):Dv a (b-c):=by rw[sub_eq];exact h.add h'.neg
theorem Dv.mul {a b c d:R} (h:Dv a b) (h':Dv c d):Dv (a*c) (b*d):=by
 obtain⟨x,rfl⟩:=h;obtain⟨y,rfl⟩:=h';exact⟨x*y,ring [a,c,x,y]⟩
theorem Dv.of_add {a b c:R} (h:Dv a (b+c)) (h':Dv a b):Dv a c:=by
 have:=h.sub h';rwa [show b+c-b=c from ring [b,c]]at this
def IsG (g a b:R):Prop:=Dv g a/\Dv g b/\∀ d,Dv d a->Dv d b->Dv d g
def Cop (a b:R):Prop:=∀ d,Dv d a->Dv d b->Dv d 1
theorem IsG.symm {g a b:R} (h:IsG g a b):IsG g b a:=⟨h.2.1,h.1,fun d x y=>h.2.2 d y x⟩
theorem Cop.symm {a b:R} (h:Cop a b):Cop b a:=fun d x y=>h d y x
end
class rh (R:Type) [CR R]:Prop where
 ex:∀ a b:R,∃ g,IsG g a b
section
variable {R:Type} [CR R] [Dom R]
theorem Dv.cancel {a b c:R} (ha:a≠0) (h:Dv (a*b) (a*c)):Dv b c:=by
 obtain⟨x,hx⟩:=h;exact⟨x,bZ ha (by rw[hx,mul_assoc])⟩
theorem Dv.ne {a b:R} (h:Dv a b) (hb:b≠0):a≠0:=by
 rintro rfl;obtain⟨x,hx⟩:=h;rw[zero_mul]at hx;exact hb hx
variable [rh R]
theorem Ku {a b c g h:R} (hg:IsG g a b) (hh:IsG h (c*a) (c*b)):Dv h (c*g):=by
 rcases Classical.em (c=0)with rfl|hc
 ·rw[zero_mul];exact Dv.zero _
 obtain⟨k,hk⟩:=hh.2.2 c ((Dv.refl c).mul_right a) ((Dv.refl c).mul_right b);rw[hk];refine(Dv.refl c).mul (hg.2.2 k ?_ ?_)
 ·exact Dv.cancel hc (hk ▸ hh.1)
 ·exact Dv.cancel hc (hk ▸ hh.2.1)
theorem Cop.dvd {a b c:R} (h:Cop a b) (hd:Dv a (b*c)):Dv a c:=by
 obtain⟨g,hg⟩:=rh.ex a b;obtain⟨k,hk⟩:=rh.ex (c*a) (c*b);have h1:=Ku hg hk;have h2:=h g hg.1 hg.2.1;have h3:Dv a k:=hk.2.2 a ((Dv.refl a).mul_left c) (by rw[mul_comm];exact hd);have h4:Dv (c*g) (c*1):=(Dv.refl c).mul h2;rw[mul_one]at h4;exact(h3.trans h1).trans h4
theorem Cop.mul {a b c:R} (h:Cop a b) (h':Cop a c):Cop a (b*c):=by
 intro d hd hbc;have:Cop d b:=fun e he hb=>h e (he.trans hd) hb;exact h' d hd (this.dvd hbc)
def IsC (c:R) (p:P R):Prop:=(∀ i,Dv c (p.c i))/\∀ d,(∀ i,Dv d (p.c i))->Dv d c
def Prm (p:P R):Prop:=∀ d,(∀ i,Dv d (p.c i))->Dv d 1
theorem tS (p:P R):∃ c,IsC c p:=by
 have key:∀ n,∃ c,(∀ i,i<n->Dv c (p.c i))/\∀ d,(∀ i,i<n->Dv d (p.c i))->Dv d c:=by
  intro n
  induction n with
  | zero=>exact⟨0,fun i h=>absurd h (by omega),fun d _=>Dv.zero d⟩
  | succ n ih =>
   obtain⟨c,h1,h2⟩:=ih;obtain⟨g,hg⟩:=rh.ex c (p.c n);refine⟨g,fun i hi=>?_,fun d hd=>hg.2.2 d (h2 d fun i hi=>hd i (by omega)) (hd n (by omega))⟩;rcases Nat.lt_or_ge i n with h|h
   ·exact hg.1.trans (h1 i h)
   ·rw[show i=n from by omega];exact hg.2.1
 obtain⟨c,h1,h2⟩:=key (sz p);refine⟨c,fun i=>?_,fun d hd=>h2 d fun i _=>hd i⟩;rcases Nat.lt_or_ge i (sz p)with h|h
 ·exact h1 i h
 ·rw[au h];exact Dv.zero c
theorem PO {c:R} {p:P R} (h:∀ i,Dv c (p.c i)):Dv (C c) p:=by
 refine⟨⟨fun i=>if p.c i=0 then 0 else Classical.choose (h i),sz p,fun i hi=>if_pos (au hi)⟩,P.ext fun i=>?_⟩
 rw[bA];show p.c i=c*(if p.c i=0 then 0 else Classical.choose (h i))
 split
 ·rename_i h0;rw[h0,mul_zero]
 ·exact Classical.choose_spec (h i)
theorem NL {c:R} {p:P R} (h:Dv (C c) p) (i:Nat):Dv c (p.c i):=by
 obtain⟨q,rfl⟩:=h;exact⟨q.c i,bA c q i⟩
theorem Prm.of_content {c:R} {p q:P R} (hp:p≠0) (hc:IsC c p) (h:p=C c*q):Prm q:=by
 intro d hd;have hc0:c≠0:=by rintro rfl;rw[cu,zero_mul]at h;exact hp h
 have:Dv (c*d) c:=hc.2 _ fun i=>by rw[h,bA];exact(Dv.refl c).mul (hd i)
 refine Dv.cancel hc0 ?_;rw[mul_one];exact this
theorem kN {p:P R} (hp:p≠0):∃ c q,c≠0/\p=C c*q/\Prm q/\IsC c p:=by
 obtain⟨c,hc⟩:=tS p;obtain⟨q,hq⟩:=PO hc.1;refine⟨c,q,?_,hq,Prm.of_content hp hc hq,hc⟩;rintro rfl;rw[cu,zero_mul]at hq;exact hp hq
theorem Prm.ne {p:P R} (h:Prm p):p≠0:=by
 rintro rfl;obtain⟨x,hx⟩:=h 0 fun i=>Dv.zero 0;rw[zero_mul]at hx;exact one_ne hx
theorem Prm.content {c:R} {q:P R} (hq:Prm q) {d:R} (h:∀ i,Dv d ((C c*q).c i)):Dv d c:=by
 rcases Classical.em (c=0)with rfl|hc
 ·exact Dv.zero d
 obtain⟨h',h1,h2⟩:=tS (C c*q);obtain⟨k,hk⟩:=h2 c fun i=>by rw[bA];exact(Dv.refl c).mul_right _
 have:Dv k 1:=hq k fun i=>by
  have:=h1 i;rw[bA,hk]at this;exact Dv.cancel hc this
 have h3:=h2 d h;rw[hk]at h3;have h4:=(Dv.refl c).mul this;rw[mul_one]at h4;exact h3.trans h4
theorem E1:∀(n:Nat) (p q:P R),sz p+sz q<=n->Prm p->Prm q->Prm (p*q):=by
 intro n
 induction n with
 | zero =>
  intro p q h hp _;have:=az hp.ne;omega
 | succ n ih =>
  have step:∀(p q:P R),sz p+sz q<=n+1->Prm p->Prm q->∀ d,(∀ i,Dv d ((p*q).c i))->Cop d (lc p):=by
   intro p q h hp hq d hd e he hl;have hpq:∀ i,Dv e ((p*q).c i):=fun i=>he.trans (hd i)
   let p1:=p-mon (sz p-1) (lc p)
   have hp1:p=p1+mon (sz p-1) (lc p):=by
    show p=p-mon (sz p-1) (lc p)+mon (sz p-1) (lc p);exact ring [p,mon (sz p-1) (lc p)]
   have hm:∀ i,Dv e ((mon (sz p-1) (lc p)).c i):=fun i=>by
    rw[bJ];split
    ·exact hl
    ·exact Dv.zero e
   refine hp e fun i=>?_;rw[hp1,bK];refine Dv.add ?_ (hm i);rcases Classical.em (p1=0)with h0|h0
   ·rw[h0];exact Dv.zero e
   have hlt:sz p1<sz p:=by
    have h1:=az hp.ne;have:sz p1<=sz p-1:=cm fun j hj=>by
     show p.c j-(mon (sz p-1) (lc p)).c j=0;rw[bJ];split
     ·rename_i h2;rw[h2];exact sub_self _
     ·rw[au (by omega),sub_zero]
    omega
   obtain⟨c,q1,hc,e1,hq1,_⟩:=kN h0;have hprod:=ih q1 q (by rw[e1,bF hc]at hlt;omega) hq1 hq;have hdiv:∀ j,Dv e ((C c*(q1*q)).c j):=fun j=>by
    have e2:p*q=C c*(q1*q)+mon (sz p-1) (lc p)*q:=by
     rw[<-mul_assoc,<-e1,<-add_mul,<-hp1]
    have h3:=hpq j;rw[e2,bK,add_comm]at h3;refine Dv.of_add h3 ?_;rw[bY];split
    ·exact hl.mul_right _
    ·exact Dv.zero e
   have:=hprod.content hdiv;rw[e1,bA];exact this.mul_right _
  intro p q h hp hq d hd;have h1:=step p q h hp hq d hd;have h2:=step q p (by omega) hq hp d fun i=>by rw[mul_comm];exact hd i
  exact(h1.mul h2) d (Dv.refl d) (by rw[<-sK];exact hd _)
theorem Prm.mul {p q:P R} (hp:Prm p) (hq:Prm q):Prm (p*q):=E1 _ p q (ae _) hp hq
theorem Prm.dvd {d a:P R} {c:R} (hd:Prm d) (hc:c≠0) (h:Dv d (C c*a)):Dv d a:=by
 rcases Classical.em (a=0)with rfl|ha
 ·exact Dv.zero d
 obtain⟨q,hq⟩:=h;have hq0:q≠0:=by
  rintro rfl;rw[mul_zero]at hq;exact aE (fv hc) ha hq
 obtain⟨e,q',he,rfl,hq',_⟩:=kN hq0;have h1:C c*a=C e*(d*q'):=by rw[hq,cS]
 obtain⟨k,rfl⟩:Dv c e:=(hd.mul hq').content fun i=>by rw[<-h1,bA];exact(Dv.refl c).mul_right _
 rw[bf,mul_assoc]at h1;have h2:=bZ (fv hc) h1;exact⟨C k*q',by rw[h2,cS]⟩
theorem Prm.of_dvd {d p:P R} (h:Dv d p) (hp:Prm p):Prm d:=fun e he=>hp e fun i=>by
 obtain⟨q,rfl⟩:=h;exact NL ((PO he).mul_right q) i
theorem u6 (b:P R) (hb:b≠0):∀(n:Nat) (a:P R),sz a<=n->∃(k:Nat) (q r:P R),C (pw (lc b) k)*a=q*b+r/\sz r<sz b:=by
 intro n
 induction n with
 | zero =>
  intro a ha;exact⟨0,0,a,by simp only[pw];rw[bU,one_mul,zero_mul,zero_add],by have:=az hb;omega⟩
 | succ n ih =>
  intro a ha;rcases Nat.lt_or_ge (sz a) (sz b)with h|h
  ·exact⟨0,0,a,by simp only[pw];rw[bU,one_mul,zero_mul,zero_add],h⟩
  let t:=mon (sz a-sz b) (lc a)
  have hs:sz (C (lc b)*a-t*b)<=n:=cm fun i hi=>by
   have h1:=az hb;rw[iu,bA,bY,if_pos (by omega)];rcases Nat.lt_or_ge i (sz a)with h2|h2
   ·have h3:i=sz a-1:=by omega
    rw[h3,show sz a-1-(sz a-sz b)=sz b-1 from by omega];show lc b*lc a-lc a*lc b=0;rw[mul_comm,sub_self]
   ·rw[au h2,au (p:=b) (by omega),mul_zero,mul_zero,sub_zero]
  obtain⟨k,q,r,e,hr⟩:=ih _ hs;refine⟨k+1,q+C (pw (lc b) k)*t,r,?_,hr⟩;simp only[pw];rw[bf];exact lc1 1 e (ring [C (pw (lc b) k),C (lc b),a,q,t,b,r])
theorem GI:∀(n:Nat) (a b:P R),sz b<=n->Prm a->(b=0\/Prm b)->∃ g,IsG g a b:=by
 intro n
 induction n with
 | zero =>
  intro a b h _ _;have:b=0:=ap.1 (by omega);subst this;exact⟨a,Dv.refl a,Dv.zero a,fun d h _=>h⟩
 | succ n ih =>
  intro a b h ha hb;rcases hb with rfl|hb
  ·exact⟨a,Dv.refl a,Dv.zero a,fun d h _=>h⟩
  obtain⟨k,q,r,e,hr⟩:=u6 b hb.ne _ a (ae _);have hl:pw (lc b) k≠0:=Cx (bu hb.ne) k;rcases Classical.em (r=0)with h0|h0
  ·subst h0;rw[add_zero]at e;exact⟨b,hb.dvd hl ⟨q,by rw[e,mul_comm]⟩,Dv.refl b,fun d _ h=>h⟩
  obtain⟨c,r',hc,rfl,hr',_⟩:=kN h0;rw[bF hc]at hr;obtain⟨g,h1,h2,h3⟩:=ih b r' (by omega) hb (.inr hr');refine⟨g,?_,h1,fun d da db=>h3 d db ?_⟩
  ·refine(Prm.of_dvd h1 hb).dvd hl ?_;rw[e];exact(h1.mul_left q).add (h2.mul_left _)
  ·refine(Prm.of_dvd db hb).dvd hc ?_;have:Dv d (q*b+C c*r'):=by rw[<-e];exact da.mul_left _
   exact Dv.of_add this (db.mul_left q)
theorem E0 {ca cb cg:R} {a b g:P R} (ha:Prm a) (hb:Prm b) (hca:ca≠0) (hcb:cb≠0) (hc:IsG cg ca cb) (hg:IsG g a b):IsG (C cg*g) (C ca*a) (C cb*b):=by
 have cdv:∀{x y:R},Dv x y->Dv (C x) (C y):=fun⟨z,hz⟩=>⟨C z,by rw[hz,bf]⟩;refine⟨(cdv hc.1).mul hg.1,(cdv hc.2.1).mul hg.2.1,fun d da db=>?_⟩;have hd:d≠0:=da.ne (aE (fv hca) ha.ne);obtain⟨e,d',he,rfl,hd',hce⟩:=kN hd;have h1:Dv d' a:=hd'.dvd hca (Dv.trans ((Dv.refl d').mul_left _) da);have h2:Dv d' b:=hd'.dvd hcb (Dv.trans ((Dv.refl d').mul_left _) db);have h3:Dv e ca:=ha.content fun i=>NL (Dv.trans ((Dv.refl (C e)).mul_right _) da) i;have h4:Dv e cb:=hb.content fun i=>NL (Dv.trans ((Dv.refl (C e)).mul_right _) db) i;exact(cdv (hc.2.2 e h3 h4)).mul (hg.2.2 d' h1 h2)
instance:rh (P R) where
 ex a b:=by
  rcases Classical.em (a=0)with rfl|ha
  ·exact⟨b,Dv.zero b,Dv.refl b,fun d _ h=>h⟩
  rcases Classical.em (b=0)with rfl|hb
  ·exact⟨a,Dv.refl a,Dv.zero a,fun d h _=>h⟩
  obtain⟨ca,a',hca,rfl,ha',_⟩:=kN ha;obtain⟨cb,b',hcb,rfl,hb',_⟩:=kN hb;obtain⟨cg,hcg⟩:=rh.ex ca cb;obtain⟨g,hg⟩:=GI _ a' b' (ae _) ha' (.inr hb');exact⟨_,E0 ha' hb' hca hcb hcg hg⟩
end
class Fd (R:Type) [CR R] where
 inv:R->R
 one_ne:(1:R)≠0
 mul_inv:∀ a:R,a≠0->a*inv a=1
 inv_zero:inv (0:R)=0
section
variable {R:Type} [CR R] [Fd R]
def inv (a:R):R:=Fd.inv a
theorem mul_inv {a:R} (h:a≠0):a*inv a=1:=Fd.mul_inv a h
theorem cx {a:R} (h:a≠0):inv a*a=1:=by rw[mul_comm,mul_inv h]
theorem inv_zero:inv (0:R)=0:=Fd.inv_zero
instance:Dom R where
 one_ne:=Fd.one_ne
 zero_of_mul a b h:=by
  rcases Classical.em (a=0)with ha|ha
  ·exact .inl ha
  refine .inr ?_;have:inv a*(a*b)=b:=by rw[<-mul_assoc,cx ha,one_mul]
  rw[<-this,h,mul_zero]
theorem eH {a:R} (h:a≠0):inv a≠0:=by
 intro h0;have:=mul_inv h;rw[h0,mul_zero]at this;exact one_ne this.symm
theorem o6 {a b:R} (h:a*b=1):b=inv a:=by
 have ha:a≠0:=by rintro rfl;rw[zero_mul]at h;exact one_ne h.symm
 refine bZ ha ?_;rw[h,mul_inv ha]
theorem CS:inv (1:R)=1:=(o6 (mul_one 1)).symm
theorem s9 (a b:R):inv (a*b)=inv a*inv b:=by
 rcases Classical.em (a=0)with rfl|ha
 ·rw[zero_mul,inv_zero,zero_mul]
 rcases Classical.em (b=0)with rfl|hb
 ·rw[mul_zero,inv_zero,mul_zero]
 refine(o6 ?_).symm;have h1:=mul_inv ha;have h2:=mul_inv hb;exact lc2 (b*inv b) 1 h1 h2 (ring [a,b,inv a,inv b])
theorem Ph {a b:R} (h:a≠0):Dv a b:=⟨inv a*b,by rw[<-mul_assoc,mul_inv h,one_mul]⟩
instance (priority:=50):rh R where
 ex a b:=by
  rcases Classical.em (a=0)with rfl|ha
  ·exact⟨b,Dv.zero b,Dv.refl b,fun d _ h=>h⟩
  ·exact⟨1,Dv.one a,Dv.one b,fun d h _=>Ph (h.ne ha)⟩
end
instance:CR Rat where
 zero:=0
 one:=1
 add_assoc:=Rat.add_assoc
 add_comm:=Rat.add_comm
 add_zero:=Rat.add_zero
 neg_add:=Rat.neg_add_cancel
 sub_eq:=Rat.sub_eq_add_neg
 mul_assoc:=Rat.mul_assoc
 mul_comm:=Rat.mul_comm
 mul_one:=Rat.mul_one
 mul_add:=Rat.mul_add
instance:Fd Rat where
 inv:=fun x=>x⁻¹
 one_ne:=by decide
 mul_inv a h:=Rat.mul_inv_cancel a h
 inv_zero:=Rat.inv_zero
section
variable (D:Type) [CR D] [Dom D]
instance frS:Setoid {p:D×D // p.2≠0} where
 r p q:=p.1.1*q.1.2=q.1.1*p.1.2
 iseqv:={
  refl:=fun _=>rfl
  symm:=fun h=>h.symm
  trans:=fun{p q r} h h'=>by
   refine bZ q.2 ?_;exact lc2 r.1.2 p.1.2 h h' (ring [p.1.1,p.1.2,q.1.1,q.1.2,r.1.1,r.1.2])
 }
def K:Type:=Quotient (frS D)
end
section
variable {D:Type} [CR D] [Dom D]
noncomputable def fr (a b:D):K D:=if h:b≠0 then Quotient.mk (frS D) ⟨(a,b),h⟩else Quotient.mk (frS D) ⟨(a,1),one_ne⟩
theorem kt {a b:D} (h:b≠0):fr a b=Quotient.mk (frS D) ⟨(a,b),h⟩:=dif_pos h
theorem K.ind {p:K D->Prop} (h:∀ a b,b≠0->p (fr a b)) (x:K D):p x:=by
 induction x using Quotient.ind with
 | _ x =>
  obtain⟨⟨a,b⟩,hb⟩:=x;have:=h a b hb;rw[kt hb]at this;exact this
theorem eC {a b c d:D} (hb:b≠0) (hd:d≠0):fr a b=fr c d↔a*d=c*b:=by
 rw[kt hb,kt hd];exact⟨fun h=>Quotient.exact h,fun h=>Quotient.sound h⟩
noncomputable def K.lift2 (n:D->D->D->D->D) (m:D->D->D->D->D) (hm:∀ a b c d,b≠0->d≠0->m a b c d≠0)
  (h:∀ a b c d a' b' c' d',b≠0->d≠0->b'≠0->d'≠0->a*b'=a'*b->c*d'=c'*d->n a b c d*m a' b' c' d'=n a' b' c' d'*m a b c d):K D->K D->K D :=
 Quotient.lift₂ (fun p q=>Quotient.mk (frS D) ⟨(n p.1.1 p.1.2 q.1.1 q.1.2,m p.1.1 p.1.2 q.1.1 q.1.2),hm _ _ _ _ p.2 q.2⟩) fun p q p' q' hp hq =>
  Quotient.sound (h _ _ _ _ _ _ _ _ p.2 q.2 p'.2 q'.2 hp hq)
noncomputable instance:Add (K D):=⟨K.lift2 (fun a b c d=>a*d+c*b) (fun _ b _ d=>b*d) (fun _ _ _ _ hb hd=>aE hb hd)
 fun a b c d a' b' c' d' _ _ _ _ h h'=>lc2 (d*d') (b*b') h h' (ring [a,b,c,d,a',b',c',d'])⟩
noncomputable instance:Mul (K D):=⟨K.lift2 (fun a _ c _=>a*c) (fun _ b _ d=>b*d) (fun _ _ _ _ hb hd=>aE hb hd)
 fun a b c d a' b' c' d' _ _ _ _ h h'=>lc2 (c*d') (a'*b) h h' (ring [a,b,c,d,a',b',c',d'])⟩
noncomputable instance:Neg (K D):=⟨Quotient.lift (fun p=>Quotient.mk (frS D) ⟨(-p.1.1,p.1.2),p.2⟩) fun p q h=>Quotient.sound (by
 show -p.1.1*q.1.2 = -q.1.1*p.1.2;rw[neg_mul,neg_mul];exact congrArg Neg.neg h)⟩
noncomputable instance:Sub (K D):=⟨fun x y=>x + -y⟩
noncomputable instance:Zero (K D):=⟨fr 0 1⟩
noncomputable instance:One (K D):=⟨fr 1 1⟩
theorem fq {a b c d:D} (hb:b≠0) (hd:d≠0):fr a b+fr c d=fr (a*d+c*b) (b*d):=by
 rw[kt hb,kt hd,kt (aE hb hd)];rfl
theorem dZ {a b c d:D} (hb:b≠0) (hd:d≠0):fr a b*fr c d=fr (a*c) (b*d):=by
 rw[kt hb,kt hd,kt (aE hb hd)];rfl
theorem tz {a b:D} (hb:b≠0) : -fr a b=fr (-a) b:=by
 rw[kt hb,kt hb];rfl
theorem wE:(0:K D)=fr 0 1:=rfl
theorem L6:(1:K D)=fr 1 1:=rfl
noncomputable instance:CR (K D) where
 add_assoc x y z:=by
  induction x using K.ind with|_ a b hb
  induction y using K.ind with|_ c d hd
  induction z using K.ind with|_ e f hf
  rw[fq hb hd,fq (aE hb hd) hf,fq hd hf,fq hb (aE hd hf),eC (aE (aE hb hd) hf) (aE hb (aE hd hf))];exact ring [a,b,c,d,e,f]
 add_comm x y:=by
  induction x using K.ind with|_ a b hb
  induction y using K.ind with|_ c d hd
  rw[fq hb hd,fq hd hb,eC (aE hb hd) (aE hd hb)];exact ring [a,b,c,d]
 add_zero x:=by
  induction x using K.ind with|_ a b hb
  rw[wE,fq hb one_ne,eC (aE hb one_ne) hb];exact ring [a,b]
 neg_add x:=by
  induction x using K.ind with|_ a b hb
  rw[tz hb,fq hb hb,wE,eC (aE hb hb) one_ne];exact ring [a,b]
 sub_eq x y:=rfl
 mul_assoc x y z:=by
  induction x using K.ind with|_ a b hb
  induction y using K.ind with|_ c d hd
  induction z using K.ind with|_ e f hf
  rw[dZ hb hd,dZ (aE hb hd) hf,dZ hd hf,dZ hb (aE hd hf),eC (aE (aE hb hd) hf) (aE hb (aE hd hf))];exact ring [a,b,c,d,e,f]
 mul_comm x y:=by
  induction x using K.ind with|_ a b hb
  induction y using K.ind with|_ c d hd
  rw[dZ hb hd,dZ hd hb,eC (aE hb hd) (aE hd hb)];exact ring [a,b,c,d]
 mul_one x:=by
  induction x using K.ind with|_ a b hb
  rw[L6,dZ hb one_ne,eC (aE hb one_ne) hb];exact ring [a,b]
 mul_add x y z:=by
  induction x using K.ind with|_ a b hb
  induction y using K.ind with|_ c d hd
  induction z using K.ind with|_ e f hf
  rw[fq hd hf,dZ hb (aE hd hf),dZ hb hd,dZ hb hf,fq (aE hb hd) (aE hb hf),eC (aE hb (aE hd hf)) (aE (aE hb hd) (aE hb hf))];exact ring [a,b,c,d,e,f]
theorem cd {a b:D} (hb:b≠0):fr a b=0↔a=0:=by
 rw[wE,eC hb one_ne,mul_one,zero_mul]
theorem HV {a b c d:D} (hb:b≠0) (hd:d≠0):fr a b-fr c d=fr (a*d-c*b) (b*d):=by
 rw[sub_eq,tz hd,fq hb hd,sub_eq,neg_mul]
noncomputable def kinv:K D->K D:=Quotient.lift (fun p=>fr p.1.2 p.1.1*(if p.1.1=0 then 0 else 1)) fun p q h=>by
 have h':p.1.1*q.1.2=q.1.1*p.1.2:=h;rcases Classical.em (p.1.1=0)with h1|h1
 ·have h2:q.1.1=0:=by
   rw[h1,zero_mul]at h';exact(zero_of_mul h'.symm).resolve_right p.2
  show fr p.1.2 p.1.1*(if p.1.1=0 then 0 else 1)=fr q.1.2 q.1.1*(if q.1.1=0 then 0 else 1)
  rw[if_pos h1,if_pos h2,mul_zero,mul_zero]
 ·have h2:q.1.1≠0:=by
   intro h2;rw[h2,zero_mul]at h';exact(zero_of_mul h').elim h1 q.2
  show fr p.1.2 p.1.1*(if p.1.1=0 then 0 else 1)=fr q.1.2 q.1.1*(if q.1.1=0 then 0 else 1)
  rw[if_neg h1,if_neg h2,mul_one,mul_one,eC h1 h2,mul_comm,<-h',mul_comm]
theorem CQ {a b:D} (ha:a≠0) (hb:b≠0):kinv (fr a b)=fr b a:=by
 rw[kt hb];show fr b a*(if a=0 then 0 else 1)=_
 rw[if_neg ha,mul_one]
noncomputable instance:Fd (K D) where
 inv:=kinv
 one_ne h:=one_ne (R:=D) (by
  have:=(cd (a:=(1:D)) one_ne).1 h;exact this)
 mul_inv x:=by
  induction x using K.ind with|_ a b hb
  intro h;have ha:a≠0:=fun e=>h ((cd hb).2 e);rw[CQ ha hb,dZ hb ha,L6,eC (aE hb ha) one_ne];exact ring [a,b]
 inv_zero:=by
  have e:kinv (fr (0:D) 1)=fr 1 0*(if(0:D)=0 then 0 else 1):=by rw[kt one_ne];rfl
  exact e.trans (by rw[if_pos rfl,mul_zero])
theorem wI {a b:D} (ha:a≠0) (hb:b≠0):inv (fr a b)=fr b a:=CQ ha hb
noncomputable def em (a:D):K D:=fr a 1
theorem tJ (a b:D):em (a+b)=em a+em b:=by
 unfold em;rw[fq one_ne one_ne,eC one_ne (aE one_ne one_ne)];exact ring [a,b]
theorem oc (a b:D):em (a*b)=em a*em b:=by
 unfold em;rw[dZ one_ne one_ne,eC one_ne (aE one_ne one_ne)];exact ring [a,b]
theorem Bs (a:D):em (-a) = -em a:=by unfold em;rw[tz one_ne]
theorem nm:em (0:D)=0:=rfl
theorem NI:em (1:D)=1:=rfl
theorem wM {a b:D} (h:em a=em b):a=b:=by
 have:=(eC one_ne one_ne).1 h;rwa [mul_one,mul_one]at this
theorem C3 {a:D} (h:a≠0):em a≠0:=fun e=>h (wM (e.trans nm.symm))
theorem Mb {a b:D} (hb:b≠0):fr a b=em a*inv (em b):=by
 unfold em;rw[wI hb one_ne,dZ one_ne hb,eC hb (aE one_ne hb)];exact ring [a,b]
theorem NC {a b:D} {f:K D} (hb:b≠0) (h:f*em b=em a):f=fr a b:=by
 rw[Mb hb,<-h,mul_assoc,mul_inv (C3 hb),mul_one]
theorem vm {a b:D} (hb:b≠0):fr a b*em b=em a:=by
 rw[Mb hb,mul_assoc,cx (C3 hb),mul_one]
section
variable [rh D]
theorem EQ (f:K D):∃ a b,b≠0/\Cop a b/\f=fr a b:=by
 induction f using K.ind with|_ a b hb
 obtain⟨g,⟨x,rfl⟩,⟨y,rfl⟩,h⟩:=rh.ex a b;have hg:g≠0:=by rintro rfl;rw[zero_mul]at hb;exact hb rfl
 have hy:y≠0:=by rintro rfl;rw[mul_zero]at hb;exact hb rfl
 refine⟨x,y,hy,fun d hx hd=>?_,?_⟩
 ·have:=h (g*d) ((Dv.refl g).mul hx) ((Dv.refl g).mul hd);refine Dv.cancel hg ?_;rw[mul_one];exact this
 ·rw[eC hb hy];exact ring [x,y,g]
theorem yw {a b c d:D} (hb:b≠0) (hd:d≠0) (h:Cop a b) (h':Cop c d) (e:fr a b=fr c d):∃ u v,u*v=1/\c=u*a/\d=u*b:=by
 rw[eC hb hd]at e;obtain⟨u,rfl⟩:Dv b d:=h.symm.dvd (b:=a) ⟨c,by rw[e,mul_comm]⟩;obtain⟨v,hv⟩:Dv (b*u) b:=h'.symm.dvd (b:=c) ⟨a,by rw[<-e,mul_comm]⟩;have huv:u*v=1:=bZ hb (by rw[<-mul_assoc,<-hv,mul_one]);refine⟨u,v,huv,qc hb ?_,mul_comm _ _⟩;rw[<-e];exact ring [a,b,u]
end
end
instance:CR Int where
 zero:=0
 one:=1
 add_assoc:=Int.add_assoc
 add_comm:=Int.add_comm
 add_zero:=Int.add_zero
 neg_add:=Int.add_left_neg
 sub_eq _ _:=Int.sub_eq_add_neg
 mul_assoc:=Int.mul_assoc
 mul_comm:=Int.mul_comm
 mul_one:=Int.mul_one
 mul_add:=Int.mul_add
instance:Dom Int where
 one_ne:=by decide
 zero_of_mul _ _ h:=Int.mul_eq_zero.1 h
def cp (f:Nat->Nat):Nat->Nat
 | 0=>0
 | n+1=>cp f n+f n
theorem fJ {f g:Nat->Nat} {n:Nat} (h:∀ i,i<n->f i=g i):cp f n=cp g n:=by
 induction n with
 | zero=>rfl
 | succ n ih=>simp only[cp];rw[ih fun i hi=>h i (by omega),h n (by omega)]
theorem Cl {f g:Nat->Nat} {n:Nat} (h:∀ i,i<n->f i<=g i):cp f n<=cp g n:=by
 induction n with
 | zero=>exact ae _
 | succ n ih=>simp only[cp];exact Nat.add_le_add (ih fun i hi=>h i (by omega)) (h n (by omega))
theorem rX (H n:Nat):cp (fun _=>H) n=n*H:=by
 induction n with
 | zero=>simp[cp]
 | succ n ih=>simp only[cp,ih,Nat.add_mul,Nat.one_mul]
theorem xS (f g:Nat->Nat) (n:Nat):cp (fun i=>f i+g i) n=cp f n+cp g n:=by
 induction n with
 | zero=>rfl
 | succ n ih=>simp only[cp,ih];omega
theorem rW (a:Nat) (f:Nat->Nat) (n:Nat):cp (fun i=>a*f i) n=a*cp f n:=by
 induction n with
 | zero=>rfl
 | succ n ih=>simp only[cp,ih,Nat.mul_add]
theorem Gj {f:Nat->Nat} {m n:Nat} (h:m<=n) (hz:∀ i,m<=i->f i=0):cp f n=cp f m:=by
 induction n with
 | zero=>rw[Nat.le_zero.1 h]
 | succ n ih =>
  rcases Nat.lt_or_ge m (n+1)with h1|h1
  ·simp only[cp];rw[ih (by omega),hz n (by omega),Nat.add_zero]
  ·rw[Nat.le_antisymm h h1]
theorem Gi {f:Nat->Nat} {i n:Nat} (h:i<n):f i<=cp f n:=by
 induction n with
 | zero=>omega
 | succ n ih =>
  simp only[cp];rcases Nat.lt_or_ge i n with h1|h1
  ·have:=ih h1;omega
  ·rw[show i=n from by omega];omega
theorem Av (f:Nat->Nat) (k n:Nat):cp (fun i=>if k<=i then f (i-k)else 0) (k+n)=cp f n:=by
 induction n with
 | zero =>
  rw[Nat.add_zero,fJ (g:=fun _=>0) fun i hi=>by rw[if_neg (by omega)],rX];rfl
 | succ n ih =>
  rw[show k+(n+1)=(k+n)+1 from by omega];simp only[cp];rw[ih,if_pos (by omega),Nat.add_sub_cancel_left]
noncomputable def n1 (A:P Int):Nat:=cp (fun i=>(A.c i).natAbs) (sz A)
theorem fQ {A:P Int} {n:Nat} (h:sz A<=n):n1 A=cp (fun i=>(A.c i).natAbs) n :=
 (Gj h fun i hi=>by rw[au hi];rfl).symm
theorem iO (A:P Int) (i:Nat):(A.c i).natAbs<=n1 A:=by
 rcases Nat.lt_or_ge i (sz A)with h|h
 ·exact Gi (f:=fun i=>(A.c i).natAbs) h
 ·rw[au h];exact Nat.zero_le _
theorem gS:n1 0=0:=by
 rw[fQ (n:=0) (by rw[ap.2 rfl];exact ae _)];rfl
theorem Nl {A:P Int} (h:A≠0):0<n1 A:=by
 have:=iO A (sz A-1);have h2:lc A≠0:=bu h;unfold lc at h2;omega
theorem kU (A B:P Int):n1 (A+B)<=n1 A+n1 B:=by
 have h1:sz A<=max (sz A) (sz B):=by omega
 have h2:sz B<=max (sz A) (sz B):=by omega
 rw[fQ (cT h1 h2),fQ h1,fQ h2,<-xS];exact Cl fun i _=>by rw[bK];exact Int.natAbs_add_le _ _
theorem qa (A:P Int):n1 (-A)=n1 A:=by
 unfold n1;rw[kJ];exact fJ fun i _=>by rw[vu,Int.natAbs_neg]
theorem Ha (A B:P Int):n1 (A-B)<=n1 A+n1 B:=by
 rw[sub_eq];have:=kU A (-B);rw[qa]at this;exact this
theorem ms (a:Int) (A:P Int):n1 (C a*A)=a.natAbs*n1 A:=by
 have h:sz (C a*A)<=sz A:=cm fun i hi=>by rw[bA,au hi,mul_zero]
 rw[fQ h,n1,<-rW];exact fJ fun i _=>by rw[bA,Int.natAbs_mul]
theorem gG (k:Nat) (a:Int) (A:P Int):n1 (mon k a*A)=a.natAbs*n1 A:=by
 have h:sz (mon k a*A)<=k+sz A:=cm fun i hi=>by
  rw[bY,if_pos (by omega),au (by omega),mul_zero]
 rw[fQ h,n1,<-rW];refine Eq.trans (fJ fun i _=>?_) (Av (fun i=>a.natAbs*(A.c i).natAbs) k (sz A));rw[bY];split
 ·rw[Int.natAbs_mul]
 ·rfl
theorem ij (A B:P Int):n1 (A*B)<=n1 A*n1 B:=by
 have key:∀(n:Nat) (A:P Int),sz A<=n->n1 (A*B)<=n1 A*n1 B:=by
  intro n
  induction n with
  | zero =>
   intro A h;have:A=0:=ap.1 (by omega);subst this;rw[zero_mul,gS];exact Nat.zero_le _
  | succ n ih =>
   intro A h
   let A':=A-mon n (A.c n)
   have hA:A=A'+mon n (A.c n):=by
    show A=A-mon n (A.c n)+mon n (A.c n);exact ring [A,mon n (A.c n)]
   have hs:sz A'<=n:=cm fun i hi=>by
    show A.c i-(mon n (A.c n)).c i=0;rw[bJ];split
    ·rename_i e;rw[e];exact sub_self _
    ·rw[au (by omega),sub_zero]
   have e1:n1 A=n1 A'+(A.c n).natAbs:=by
    rw[fQ h,fQ hs];simp only[cp];refine congrArg (· + _) (fJ fun i hi=>?_);show _=(A.c i-(mon n (A.c n)).c i).natAbs;rw[bJ,if_neg (by omega),sub_zero]
   have e2:A*B=A'*B+mon n (A.c n)*B:=by rw[<-add_mul,<-hA]
   rw[e2,e1,Nat.add_mul];refine ac (kU _ _) (Nat.add_le_add (ih A' hs) ?_);rw[gG];exact ae _
 exact key _ A (ae _)
theorem oU {A:P Int} {n H:Nat} (hs:sz A<=n) (h:∀ i,(A.c i).natAbs<=H):n1 A<=n*H:=by
 rw[fQ hs,<-rX];exact Cl fun i _=>h i
theorem y9 {S A:P Int} {H:Nat} (h:∀ i,(S.c i).natAbs<=H) (k:Nat):((S*A).c k).natAbs<=H*n1 A:=by
 have key:∀(n:Nat) (A:P Int),sz A<=n->((S*A).c k).natAbs<=H*n1 A:=by
  intro n
  induction n with
  | zero =>
   intro A hA;have:A=0:=ap.1 (by omega);subst this;rw[mul_zero];exact Nat.zero_le _
  | succ n ih =>
   intro A hA
   let A':=A-mon n (A.c n)
   have hA':A=A'+mon n (A.c n):=by
    show A=A-mon n (A.c n)+mon n (A.c n);exact ring [A,mon n (A.c n)]
   have hs:sz A'<=n:=cm fun i hi=>by
    show A.c i-(mon n (A.c n)).c i=0;rw[bJ];split
    ·rename_i e;rw[e];exact sub_self _
    ·rw[au (by omega),sub_zero]
   have e1:n1 A=n1 A'+(A.c n).natAbs:=by
    rw[fQ hA,fQ hs];simp only[cp];refine congrArg (· + _) (fJ fun i hi=>?_);show _=(A.c i-(mon n (A.c n)).c i).natAbs;rw[bJ,if_neg (by omega),sub_zero]
   have e2:S*A=S*A'+mon n (A.c n)*S:=by rw[mul_comm (mon n (A.c n)),<-mul_add,<-hA']
   rw[e2,e1,bK,Nat.mul_add];refine ac (Int.natAbs_add_le _ _) (Nat.add_le_add (ih A' hs) ?_);rw[bY];split
   ·rw[Int.natAbs_mul,Nat.mul_comm];exact Nat.mul_le_mul_right _ (h _)
   ·exact Nat.zero_le _
 exact key _ A (ae _)
theorem pigeon:∀(b a:Nat) (f:Nat->Nat),(∀ x,x<a->f x<b)->b<a->∃ x y,x<y/\y<a/\f x=f y:=by
 intro b
 induction b with
 | zero=>intro a f h hb;exact absurd (h 0 hb) (by omega)
 | succ b ih =>
  intro a f h hb;rcases Classical.em (∃ x,x<a-1/\f x=f (a-1))with⟨x,hx,e⟩|hn
  ·exact⟨x,a-1,hx,by omega,e⟩
  have hv:=h (a-1) (by omega);obtain⟨x,y,hxy,hy,e⟩:=ih (a-1) (fun x=>if f (a-1)<f x then f x-1 else f x) (fun x hx=>by
   have h1:=h x (by omega);have h2:f x≠f (a-1):=fun e=>hn ⟨x,hx,e⟩;show(if f (a-1)<f x then f x-1 else f x)<b
   split<;>omega) (by omega)
  refine⟨x,y,hxy,by omega,?_⟩;have h1:f x≠f (a-1):=fun e=>hn ⟨x,by omega,e⟩;have h2:f y≠f (a-1):=fun e=>hn ⟨y,hy,e⟩;have e':(if f (a-1)<f x then f x-1 else f x)=(if f (a-1)<f y then f y-1 else f y):=e
  split at e'<;>split at e'<;>omega
def enc (b:Nat) (f:Nat->Nat):Nat->Nat
 | 0=>0
 | n+1=>enc b f n+b ^ n*f n
theorem Br {b:Nat} {f:Nat->Nat} {n:Nat} (h:∀ i,i<n->f i<b):enc b f n<b ^ n:=by
 induction n with
 | zero=>simp[enc]
 | succ n ih =>
  simp only[enc];have h1:=ih fun i hi=>h i (by omega);have h2:b ^ n*(f n+1)<=b ^ n*b:=Nat.mul_le_mul_left _ (h n (by omega));rw[Nat.pow_succ];rw[Nat.mul_add,Nat.mul_one]at h2;omega
theorem KH {b:Nat} {f g:Nat->Nat} {n:Nat} (hf:∀ i,i<n->f i<b) (hg:∀ i,i<n->g i<b) (e:enc b f n=enc b g n):∀ i,i<n->f i=g i:=by
 induction n with
 | zero=>intro i hi;omega
 | succ n ih =>
  simp only[enc]at e;have h1:=Br (n:=n) fun i hi=>hf i (by omega);have h2:=Br (n:=n) fun i hi=>hg i (by omega);have hb:0<b ^ n:=by omega
  have e1:f n=g n:=by
   have a1:(enc b f n+b ^ n*f n)/b ^ n=f n:=by rw[Nat.add_mul_div_left _ _ hb,Nat.div_eq_of_lt h1,Nat.zero_add]
   have a2:(enc b g n+b ^ n*g n)/b ^ n=g n:=by rw[Nat.add_mul_div_left _ _ hb,Nat.div_eq_of_lt h2,Nat.zero_add]
   rw[<-a1,<-a2,e]
  have e2:enc b f n=enc b g n:=by rw[e1]at e;omega
  intro i hi;rcases Nat.lt_or_ge i n with h|h
  ·exact ih (fun i hi=>hf i (by omega)) (fun i hi=>hg i (by omega)) e2 i h
  ·rw[show i=n from by omega];exact e1
theorem C2 (b x:Nat) (n:Nat):enc b (fun i=>x/b ^ i % b) n=x % b ^ n:=by
 induction n with
 | zero=>simp[enc,Nat.mod_one]
 | succ n ih=>simp only[enc];rw[ih,Nat.mod_pow_succ]
theorem GK (k m:Nat) (hk:0<k) (K:Nat) (hK:k=2*K):(2*(K*k ^ m)+1) ^ m<(k ^ m+1) ^ (m+1):=by
 have h1:2*(K*k ^ m)+1<=k*(k ^ m+1):=by
  rw[Nat.mul_add,hK,<-Nat.mul_assoc];omega
 have h2:(2*(K*k ^ m)+1) ^ m<=k ^ m*(k ^ m+1) ^ m:=by
  rw[<-Nat.mul_pow];exact Nat.pow_le_pow_left h1 m
 have h3:k ^ m*(k ^ m+1) ^ m<(k ^ m+1)*(k ^ m+1) ^ m:=Nat.mul_lt_mul_of_pos_right (by omega) (Nat.pow_pos (by omega));rw[Nat.pow_succ,Nat.mul_comm _ (k ^ m+1)];omega
def ofN (f:Nat->Int) (n:Nat):P Int:=⟨fun i=>if i<n then f i else 0,⟨n,fun i hi=>if_neg (by omega)⟩⟩
theorem v6 (f:Nat->Int) (n:Nat):sz (ofN f n)<=n:=cm fun i hi=>if_neg (by omega)
theorem siegel (A B:P Int) (a b lo m:Nat) (hm:m+1=a+b) (hpos:0<n1 A+n1 B) :
  ∃ S T:P Int,(S≠0\/T≠0)/\sz S<=a/\sz T<=b/\(∀ i,(S.c i).natAbs<=(2*(n1 A+n1 B)) ^ m)/\(∀ i,(T.c i).natAbs<=(2*(n1 A+n1 B)) ^ m) /\
   ∀ j,j<m->(S*A+T*B).c (lo+j)=0:=by
 generalize hK:n1 A+n1 B=K at *
 generalize hH:(2*K) ^ m=H
 let S (x:Nat):P Int:=ofN (fun i=>((x/(H+1) ^ i % (H+1):Nat):Int)) a
 let T (x:Nat):P Int:=ofN (fun i=>((x/(H+1) ^ (a+i) % (H+1):Nat):Int)) b
 have hS:∀ x i,((S x).c i).natAbs<=H:=fun x i=>by
  show(if i<a then((x/(H+1) ^ i % (H+1):Nat):Int)else 0).natAbs<=H
  have:=Nat.mod_lt (x/(H+1) ^ i) (show 0<H+1 by omega);split
  ·rw[Int.natAbs_natCast];omega
  ·exact Nat.zero_le _
 have hT:∀ x i,((T x).c i).natAbs<=H:=fun x i=>by
  show(if i<b then((x/(H+1) ^ (a+i) % (H+1):Nat):Int)else 0).natAbs<=H
  have:=Nat.mod_lt (x/(H+1) ^ (a+i)) (show 0<H+1 by omega);split
  ·rw[Int.natAbs_natCast];omega
  ·exact Nat.zero_le _
 have hc:∀ x k,((S x*A+T x*B).c k).natAbs<=K*H:=fun x k=>by
  have h1:=y9 (A:=A) (hS x) k;have h2:=y9 (A:=B) (hT x) k;have h3:=Int.natAbs_add_le ((S x*A).c k) ((T x*B).c k);rw[bK,<-hK,Nat.add_mul,Nat.mul_comm (n1 A),Nat.mul_comm (n1 B)];omega
 let f (x:Nat):Nat:=enc (2*(K*H)+1) (fun j=>((S x*A+T x*B).c (lo+j)+(K*H:Nat)).toNat) m
 have hd:∀ x j,((S x*A+T x*B).c (lo+j)+(K*H:Nat)).toNat<2*(K*H)+1:=fun x j=>by
  have:=hc x (lo+j);omega
 have hlt:(2*(K*H)+1) ^ m<(H+1) ^ (a+b):=by
  rw[<-hm,<-hH];exact GK (2*K) m (by omega) K rfl
 obtain⟨x,y,hxy,hy,e⟩:=pigeon _ _ f (fun x _=>Br fun j _=>hd x j) hlt;have ej:=KH (fun j _=>hd x j) (fun j _=>hd y j) e;refine⟨S x-S y,T x-T y,?_,fP (v6 _ _) (v6 _ _),fP (v6 _ _) (v6 _ _),fun i=>?_,fun i=>?_,fun j hj=>?_⟩
 ·rcases Classical.em (S x-S y=0/\T x-T y=0)with⟨h1,h2⟩|h
  ·exfalso;have h1:=ff h1;have h2:=ff h2;have hdig:∀ i,i<a+b->x/(H+1) ^ i % (H+1)=y/(H+1) ^ i % (H+1):=fun i hi=>by
    rcases Nat.lt_or_ge i a with h|h
    ·have:=congrArg (fun p=>p.c i) h1;have this:(if i<a then((x/(H+1) ^ i % (H+1):Nat):Int)else 0)=(if i<a then((y/(H+1) ^ i % (H+1):Nat):Int)else 0):=this
     rw[if_pos h,if_pos h]at this;exact Int.ofNat.inj this
    ·have:=congrArg (fun p=>p.c (i-a)) h2;have this:(if i-a<b then((x/(H+1) ^ (a+(i-a)) % (H+1):Nat):Int)else 0)=(if i-a<b then((y/(H+1) ^ (a+(i-a)) % (H+1):Nat):Int)else 0):=this
     rw[if_pos (by omega),if_pos (by omega),Nat.add_sub_cancel' h]at this;exact Int.ofNat.inj this
   have hx:x=enc (H+1) (fun i=>x/(H+1) ^ i % (H+1)) (a+b):=by rw[C2,Nat.mod_eq_of_lt (by omega)]
   have hy':y=enc (H+1) (fun i=>y/(H+1) ^ i % (H+1)) (a+b):=by rw[C2,Nat.mod_eq_of_lt hy]
   have:enc (H+1) (fun i=>x/(H+1) ^ i % (H+1)) (a+b)=enc (H+1) (fun i=>y/(H+1) ^ i % (H+1)) (a+b):=by
    have hcg:∀ n,n<=a+b->enc (H+1) (fun i=>x/(H+1) ^ i % (H+1)) n=enc (H+1) (fun i=>y/(H+1) ^ i % (H+1)) n:=by
     intro n
     induction n with
     | zero=>intro _;rfl
     | succ n ih=>intro hn;simp only[enc];rw[ih (by omega),hdig n (by omega)]
    exact hcg _ (ae _)
   omega
  ·rcases Classical.em (S x-S y=0)with h1|h1
   ·exact .inr fun h2=>h ⟨h1,h2⟩
   ·exact .inl h1
 ·show((if i<a then((x/(H+1) ^ i % (H+1):Nat):Int)else 0)-(if i<a then((y/(H+1) ^ i % (H+1):Nat):Int)else 0)).natAbs<=H
  have h1:=Nat.mod_lt (x/(H+1) ^ i) (show 0<H+1 by omega);have h2:=Nat.mod_lt (y/(H+1) ^ i) (show 0<H+1 by omega);split<;>omega
 ·show((if i<b then((x/(H+1) ^ (a+i) % (H+1):Nat):Int)else 0)-(if i<b then((y/(H+1) ^ (a+i) % (H+1):Nat):Int)else 0)).natAbs<=H
  have h1:=Nat.mod_lt (x/(H+1) ^ (a+i)) (show 0<H+1 by omega);have h2:=Nat.mod_lt (y/(H+1) ^ (a+i)) (show 0<H+1 by omega);split<;>omega
 ·have h1:=ej j hj;have h2:=hc x (lo+j);have h3:=hc y (lo+j);have h4:(S x*A+T x*B).c (lo+j)=(S y*A+T y*B).c (lo+j):=by omega
  have h5:(S x-S y)*A+(T x-T y)*B=(S x*A+T x*B)-(S y*A+T y*B):=ring [S x,S y,T x,T y,A,B];rw[h5,iu,h4];exact sub_self _
structure Hom (R S:Type) [CR R] [CR S] where
 f:R->S
 zero:f 0=0
 one:f 1=1
 add:∀ a b,f (a+b)=f a+f b
 mul:∀ a b,f (a*b)=f a*f b
section
variable {R S:Type} [CR R] [CR S] (φ:Hom R S)
theorem wz {a:R} (h:a≠0) : -a≠0:=fun e=>h (by rw[<-neg_neg a,e,f0])
theorem Hom.neg (a:R):φ.f (-a) = -φ.f a:=by
 have h:=φ.add (-a) a;rw[Alg.neg_add,φ.zero]at h;exact eh h.symm
theorem Hom.sub (a b:R):φ.f (a-b)=φ.f a-φ.f b:=by rw[sub_eq,sub_eq,φ.add,φ.neg]
theorem Hom.tri (g:Nat->Nat->R) (n:Nat):φ.f (tri g n)=Alg.tri (fun i j=>φ.f (g i j)) n:=by
 induction n generalizing g with
 | zero=>rfl
 | succ n ih=>simp only[Alg.tri];rw[φ.add,ih]
def Hom.m (p:P R):P S:=⟨fun i=>φ.f (p.c i),by obtain⟨n,h⟩:=p.fin;exact⟨n,fun i hi=>by rw[h i hi,φ.zero]⟩⟩
theorem Hom.m_c (p:P R) (i:Nat):(φ.m p).c i=φ.f (p.c i):=rfl
theorem Hom.m_zero:φ.m 0=0:=P.ext fun _=>φ.zero
theorem Hom.m_C (a:R):φ.m (C a)=C (φ.f a):=P.ext fun i=>by
 cases i with
 | zero=>rfl
 | succ i=>exact φ.zero
theorem Hom.m_one:φ.m 1=1:=by rw[GQ,φ.m_C,φ.one];rfl
theorem Hom.m_add (p q:P R):φ.m (p+q)=φ.m p+φ.m q:=P.ext fun _=>φ.add _ _
theorem Hom.m_neg (p:P R):φ.m (-p) = -φ.m p:=P.ext fun _=>φ.neg _
theorem Hom.m_sub (p q:P R):φ.m (p-q)=φ.m p-φ.m q:=P.ext fun _=>φ.sub _ _
theorem Hom.m_mul (p q:P R):φ.m (p*q)=φ.m p*φ.m q:=P.ext fun i=>by
 rw[φ.m_c,gA,gA,φ.tri];exact dD fun i j _=>φ.mul _ _
theorem Hom.m_mon (n:Nat) (a:R):φ.m (mon n a)=mon n (φ.f a):=P.ext fun i=>by
 rw[φ.m_c,bJ,bJ];split
 ·rfl
 ·exact φ.zero
theorem Hom.m_sz (h:∀ a,φ.f a=0->a=0) (p:P R):sz (φ.m p)=sz p :=
 jK (fun i hi=>by rw[φ.m_c,au hi,φ.zero]) fun h0 e=>jJ h0 (h _ e)
theorem Hom.m_lc (h:∀ a,φ.f a=0->a=0) (p:P R):lc (φ.m p)=φ.f (lc p):=by
 unfold lc;rw[φ.m_sz h];rfl
end
def hQ:Hom Int Rat where
 f:=fun z=>(z:Rat)
 zero:=rfl
 one:=rfl
 add:=Rat.intCast_add
 mul:=Rat.intCast_mul
theorem Bi (a:Int) (h:hQ.f a=0):a=0:=Rat.intCast_eq_zero_iff.1 h
def toQ (A:P Int):P Rat:=hQ.m A
theorem fI (A:P Int):sz (toQ A)=sz A:=hQ.m_sz Bi A
theorem cA:toQ 0=0:=hQ.m_zero
theorem jI (A B:P Int):toQ (A+B)=toQ A+toQ B:=hQ.m_add A B
theorem vX (A B:P Int):toQ (A-B)=toQ A-toQ B:=hQ.m_sub A B
theorem bN (A B:P Int):toQ (A*B)=toQ A*toQ B:=hQ.m_mul A B
theorem oG (A:P Int):toQ (-A) = -toQ A:=hQ.m_neg A
theorem oH (a:Int):toQ (C a)=C (hQ.f a):=hQ.m_C a
theorem m3 (n:Nat) (a:Int):toQ (mon n a)=mon n (hQ.f a):=hQ.m_mon n a
theorem oF:toQ 1=1:=hQ.m_one
theorem Hq (A:P Int):lc (toQ A)=hQ.f (lc A):=hQ.m_lc Bi A
theorem cN {A:P Int} (h:A≠0):toQ A≠0:=fun e=>h (ap.1 (by rw[<-fI,e];exact ap.2 rfl))
theorem qM {z:Int} (h:z≠0):hQ.f z≠0:=fun e=>h (Bi z e)
theorem cB (q:Rat):q*((q.den:Int):Rat)=(q.num:Rat):=by
 have hd:(q.den:Int)≠0:=by have:=q.den_nz;omega
 conv=>lhs;arg 1;rw[<-Rat.num_divInt_den q]
 rw[<-Rat.num_divInt_den ((q.den:Int):Rat),<-Rat.num_divInt_den (q.num:Rat),Rat.num_intCast,Rat.den_intCast,Rat.num_intCast,Rat.den_intCast,Rat.divInt_mul_divInt,Rat.divInt_eq_divInt_iff (by omega) (by decide)];simp
theorem fN (h:Nat):0<2 ^ h:=Nat.pow_pos (by omega)
theorem cq {a b:Nat} (h:a<=b):2 ^ a<=2 ^ b:=Nat.pow_le_pow_right (by omega) h
theorem aN {x y a b:Nat} (hx:x<=2 ^ a) (hy:y<=2 ^ b):x*y<=2 ^ (a+b):=by
 rw[Nat.pow_add];exact Nat.mul_le_mul hx hy
theorem jx {x y a:Nat} (hx:x<=2 ^ a) (hy:y<=2 ^ a):x+y<=2 ^ (a+1):=by
 rw[Nat.pow_succ];omega
def HB (h:Nat) (p:P Rat):Prop:=∃(D:Int) (A:P Int),D≠0/\D.natAbs<=2 ^ h/\n1 A<=2 ^ h/\C (hQ.f D)*p=toQ A
theorem HB.mono {h k:Nat} {p:P Rat} (H:HB h p) (hk:h<=k):HB k p:=by
 obtain⟨D,A,h1,h2,h3,h4⟩:=H;exact⟨D,A,h1,ac h2 (cq hk),ac h3 (cq hk),h4⟩
theorem HB.of {h:Nat} {A:P Int} (H:n1 A<=2 ^ h):HB h (toQ A):=⟨1,A,by decide,fN h,H,by rw[show hQ.f 1=1 from rfl,bU,one_mul]⟩
theorem HB.zero (h:Nat):HB h 0:=by
 have:HB h (toQ 0):=HB.of (by rw[gS];exact Nat.zero_le _);rwa [cA]at this
theorem HB.add {h k:Nat} {p q:P Rat} (H:HB h p) (G:HB k q):HB (h+k+1) (p+q):=by
 obtain⟨D,A,h1,h2,h3,h4⟩:=H;obtain⟨E,B,g1,g2,g3,g4⟩:=G;refine⟨D*E,C E*A+C D*B,Int.mul_ne_zero h1 g1,?_,?_,?_⟩
 ·rw[Int.natAbs_mul];exact ac (aN h2 g2) (cq (by omega))
 ·refine ac (kU _ _) (jx ?_ ?_)
  ·rw[ms,Nat.mul_comm];exact aN h3 g2
  ·rw[ms];exact aN h2 g3
 ·rw[hQ.mul,bf,jI,bN,bN,oH,oH];exact lc2 (C (hQ.f E)) (C (hQ.f D)) h4 g4 (ring [C (hQ.f D),C (hQ.f E),p,q,toQ A,toQ B])
theorem HB.mul {h k:Nat} {p q:P Rat} (H:HB h p) (G:HB k q):HB (h+k) (p*q):=by
 obtain⟨D,A,h1,h2,h3,h4⟩:=H;obtain⟨E,B,g1,g2,g3,g4⟩:=G;refine⟨D*E,A*B,Int.mul_ne_zero h1 g1,?_,?_,?_⟩
 ·rw[Int.natAbs_mul];exact aN h2 g2
 ·exact ac (ij _ _) (aN h3 g3)
 ·rw[hQ.mul,bf,bN];exact lc2 (C (hQ.f E)*q) (toQ A) h4 g4 (ring [C (hQ.f D),C (hQ.f E),p,q,toQ A,toQ B])
theorem HB.neg {h:Nat} {p:P Rat} (H:HB h p):HB h (-p):=by
 obtain⟨D,A,h1,h2,h3,h4⟩:=H;exact⟨D,-A,h1,h2,by rw[qa];exact h3,by rw[mul_neg,h4,oG]⟩
theorem HB.sub {h k:Nat} {p q:P Rat} (H:HB h p) (G:HB k q):HB (h+k+1) (p-q):=by
 rw[sub_eq];exact H.add G.neg
theorem HB.scale {h:Nat} {p:P Rat} (c:Rat) {k:Nat} (H:HB h p) (hn:c.num.natAbs<=2 ^ k) (hd:c.den<=2 ^ k):HB (h+k) (C c*p):=by
 obtain⟨D,A,h1,h2,h3,h4⟩:=H;refine⟨D*c.den,C c.num*A,Int.mul_ne_zero h1 (by have:=c.den_nz;omega),?_,?_,?_⟩
 ·rw[Int.natAbs_mul,Int.natAbs_natCast];exact aN h2 hd
 ·rw[ms,Nat.mul_comm];exact aN h3 hn
 ·have e:hQ.f (c.den:Int)*c=hQ.f c.num:=by
   rw[mul_comm];exact cB c
  rw[hQ.mul,bf,bN,oH,<-e,bf];exact lc1 (C (hQ.f (c.den:Int))*C c) h4 (ring [C (hQ.f D),C (hQ.f (c.den:Int)),C c,p,toQ A])
theorem oa {q:Rat} {D z:Int} (hD:D≠0) (h:(D:Rat)*q=z):q.num.natAbs<=z.natAbs/\q.den<=D.natAbs:=by
 have h1:D*q.num=z*q.den:=by
  have:(D:Rat)*q*((q.den:Int):Rat)=z*((q.den:Int):Rat):=by rw[h]
  rw[Rat.mul_assoc,cB]at this;have h2:((D*q.num:Int):Rat)=((z*q.den:Int):Rat):=by
   rw[Rat.intCast_mul,Rat.intCast_mul];exact this
  exact Rat.intCast_inj.1 h2
 have hc:Nat.Coprime q.num.natAbs q.den:=q.reduced;have h3:D.natAbs*q.num.natAbs=z.natAbs*q.den:=by
  have:=congrArg Int.natAbs h1;rwa [Int.natAbs_mul,Int.natAbs_mul,Int.natAbs_natCast]at this
 have hdp:0<q.den:=q.den_pos;have d1:q.den∣D.natAbs:=hc.symm.dvd_of_dvd_mul_right ⟨z.natAbs,by rw[h3,Nat.mul_comm]⟩;have d2:q.num.natAbs∣z.natAbs:=hc.dvd_of_dvd_mul_right ⟨D.natAbs,by rw[<-h3,Nat.mul_comm]⟩;refine⟨?_,Nat.le_of_dvd (by omega) d1⟩;rcases Nat.eq_zero_or_pos z.natAbs with hz|hz
 ·rw[hz,Nat.zero_mul]at h3;have:=Nat.mul_eq_zero.1 h3;omega
 ·exact Nat.le_of_dvd hz d2
theorem HB.coef {h:Nat} {p:P Rat} (H:HB h p) (i:Nat):(p.c i).num.natAbs<=2 ^ h/\(p.c i).den<=2 ^ h:=by
 obtain⟨D,A,h1,h2,h3,h4⟩:=H;have:=congrArg (fun p=>p.c i) h4;rw[bA]at this;obtain⟨a,b⟩:=oa (z:=A.c i) h1 this;exact⟨ac a (ac (iO A i) h3),ac b h2⟩
noncomputable def mo (p:P Rat):P Rat:=C (inv (lc p))*p
theorem fc:mo 0=0:=mul_zero _
theorem yo {c:Rat} (h:c≠0) (p:P Rat):mo (C c*p)=mo p:=by
 unfold mo;rw[f6,n9,s9,bf];have:C (inv c)*C c=1:=by rw[<-bf,cx h,bU]
 exact lc1 (C (inv (lc p))*p) this (ring [C (inv c),C c,C (inv (lc p)),p])
theorem fh {p:P Rat}:sz (mo p)=sz p:=by
 rcases Classical.em (p=0)with rfl|h
 ·rw[fc]
 ·exact bF (eH (bu h)) p
theorem CL {p:P Rat} (h:p≠0):lc (mo p)=1:=by
 unfold mo;rw[f6,n9,cx (bu h)]
theorem O4 (p:P Rat):mo (mo p)=mo p:=by
 rcases Classical.em (p=0)with rfl|h
 ·rw[fc,fc]
 ·show mo (C (inv (lc p))*p)=_;rw[yo (eH (bu h))]
theorem yn {p:P Rat} (h:lc p=1):mo p=p:=by
 unfold mo;rw[h,CS,bU,one_mul]
theorem it {p:P Rat} (h:p≠0):mo p≠0:=aE (fv (eH (bu h))) h
theorem HB.mo {h:Nat} {p:P Rat} (H:HB h p):HB h (mo p):=by
 rcases Classical.em (p=0)with rfl|hp
 ·rw[fc];exact HB.zero h
 obtain⟨D,A,h1,h2,h3,h4⟩:=H;have hA:A≠0:=by
  rintro rfl;rw[cA]at h4;exact aE (fv (qM h1)) hp h4
 have e:hQ.f (lc A)=hQ.f D*lc p:=by
  rw[<-Hq,<-h4,f6,n9]
 refine⟨lc A,A,bu hA,ac (iO A _) h3,h3,?_⟩;rw[e,<-h4,bf];show C (hQ.f D)*C (lc p)*(C (inv (lc p))*p)=_;have:C (lc p)*C (inv (lc p))=1:=by rw[<-bf,mul_inv (bu hp),bU]
 exact lc1 (C (hQ.f D)*p) this (ring [C (hQ.f D),C (lc p),C (inv (lc p)),p])
section
variable {F:Type} [CR F] [Fd F]
theorem nn (a b:P F) (hb:b≠0):∃ q r:P F,a=q*b+r/\sz r<sz b:=by
 obtain⟨k,q,r,e,hr⟩:=u6 b hb _ a (ae _);have hl:pw (lc b) k≠0:=Cx (bu hb) k;refine⟨C (inv (pw (lc b) k))*q,C (inv (pw (lc b) k))*r,?_,by rw[bF (eH hl)];exact hr⟩;have:C (inv (pw (lc b) k))*C (pw (lc b) k)=1:=by rw[<-bf,cx hl,bU]
 generalize C (inv (pw (lc b) k))=x at *
 generalize C (pw (lc b) k)=y at *
 exact lc2 (-a) x this e (ring [a,x,y,q,r,b])
theorem uV {p q:P F} (h:sz q<sz p):sz (p+q)=sz p :=
 jK (fun i hi=>by rw[bK,au hi,au (by omega),add_zero]) fun h0 e=>by
  rw[bK,au (p:=q) (by omega),add_zero]at e;exact jJ h0 e
theorem qP {q r q' r' b:P F} (e:q*b+r=q'*b+r') (hr:sz r<sz b) (hr':sz r'<sz b):q=q'/\r=r':=by
 have hb:b≠0:=fun h=>by rw[ap.2 h]at hr;omega
 have h1:(q-q')*b=r'-r:=lc1 1 e (ring [q,q',r,r',b]);have h2:q-q'=0:=by
  rcases Classical.em (q-q'=0)with h|h
  ·exact h
  have h3:=cO h hb;have h4:=az h;have h5:sz (r'-r)<=sz b-1:=fP (by omega) (by omega);rw[<-h1,h3]at h5;omega
 refine⟨ff h2,?_⟩;rw[h2,zero_mul]at h1;exact(ff h1.symm).symm
theorem bezout:∀(n:Nat) (a b:P F),sz b<=n->(∃ g s t,g=s*a+t*b/\IsG g a b):=by
 intro n
 induction n with
 | zero =>
  intro a b h;have:b=0:=ap.1 (by omega);subst this;exact⟨a,1,0,ring [a],Dv.refl a,Dv.zero a,fun d h _=>h⟩
 | succ n ih =>
  intro a b h;rcases Classical.em (b=0)with rfl|hb
  ·exact⟨a,1,0,ring [a],Dv.refl a,Dv.zero a,fun d h _=>h⟩
  obtain⟨q,r,e,hr⟩:=nn a b hb;obtain⟨g,s,t,hg,h1,h2,h3⟩:=ih b r (by omega);refine⟨g,t,s-t*q,lc2 1 (-t) hg e (ring [g,s,t,q,r,a,b]),?_,h1,fun d da db=>h3 d db ?_⟩
  ·rw[e];exact(h1.mul_left q).add h2
  ·rw[e]at da;exact Dv.of_add da (db.mul_left q)
theorem BM {a b:P F} (h:Cop a b):∃ s t,s*a+t*b=1:=by
 obtain⟨g,s,t,hg,h1,h2,_⟩:=bezout _ a b (ae _);obtain⟨x,hx⟩:=h g h1 h2;exact⟨x*s,x*t,by rw[hx,hg];exact ring [x,s,t,a,b]⟩
end
structure Row (n d p s t q s' t':P Rat):Prop where
 hp:p=s*n+t*d
 hq:q=s'*n+t'*d
 hu:∃ u,u≠0/\s*t'-s'*t=C u
 hlt:sz q<sz p
 ht:sz t'+sz p=sz n+1
 hn:sz p<=sz n
 hd:sz p<=sz d
def hN (w:Nat):Nat:=w+(w+2)*(2*w+1)
theorem small {n d p s t q s' t':P Rat} (row:Row n d p s t q s' t') {A B:P Int} {w:Nat} (hB:B≠0) (hv:n*toQ B=d*toQ A) (hA1:sz A<=w+1) (hA2:n1 A<=2 ^ w) (hB1:sz B<=w+1) (hB2:n1 B<=2 ^ w) :
  ∃(S T:P Int) (k:Rat),k≠0/\toQ S=C k*s'/\toQ T=C k*t'/\n1 S<=2 ^ hN w/\n1 T<=2 ^ hN w:=by
 obtain⟨hp,hq,⟨u,hu0,hu⟩,hlt,ht,hn,hd⟩:=row;have hp0:p≠0:=fun e=>by rw[ap.2 e]at hlt;omega
 have hn0:n≠0:=fun e=>by rw[ap.2 e]at hn;omega
 have hd0:d≠0:=fun e=>by rw[ap.2 e]at hd;omega
 have hA:A≠0:=by
  rintro rfl;rw[cA,mul_zero]at hv;exact aE hn0 (cN hB) hv
 have hA':=cN hA;have hB':=cN hB;have id1:∀ x y:P Rat,(x*toQ A+y*toQ B)*n=toQ A*(x*n+y*d):=fun x y=>lc1 y hv (ring [x,y,n,d,toQ A,toQ B]);have e1:=id1 s t;rw[<-hp]at e1;generalize hpA:s*toQ A+t*toQ B=pA at *
 have hpA0:pA≠0:=by
  rintro rfl;rw[zero_mul]at e1;exact aE hA' hp0 e1.symm
 have p1:=az hp0;have p2:=az hn0;have p3:=az hd0;have p4:=az hA;have p5:=az hB;have p6:=az hpA0;have z1:sz pA+sz n=sz A+sz p:=by
  have:=congrArg sz e1;rw[cO hpA0 hn0,cO hA' hp0,fI]at this;omega
 have z2:sz B+sz n=sz d+sz A:=by
  have:=congrArg sz hv;rw[cO hn0 hB',cO hd0 hA',fI,fI]at this;omega
 obtain⟨S,T,hST,hS,hT,hSc,hTc,hz⟩:=siegel A B (sz d+1-sz p) (sz n+1-sz p) (sz pA-1) (sz d+sz n+1-2*sz p) (by omega) (by have:=Nl hA;omega);have hR:sz (S*A+T*B)<=sz pA-1:=cm fun i hi=>by
  rcases Nat.lt_or_ge i (sz pA-1+(sz d+sz n+1-2*sz p))with h|h
  ·have:=hz (i-(sz pA-1)) (by omega);rwa [Nat.add_sub_cancel' hi]at this
  ·rw[bK,oV (by omega),oV (by omega),add_zero]
 have eR:toQ (S*A+T*B)*n=toQ A*(toQ S*n+toQ T*d):=by
  rw[jI,bN,bN];exact id1 _ _
 have hRn:sz (toQ S*n+toQ T*d)<sz p:=by
  rcases Classical.em (toQ S*n+toQ T*d=0)with h|h
  ·rw[h,ap.2 rfl];omega
  have h0:toQ (S*A+T*B)≠0:=fun e=>by
   rw[e,zero_mul]at eR;exact aE hA' h eR.symm
  have h1:=az h;have h2:=congrArg sz eR;rw[cO h0 hn0,cO hA' h,fI,fI]at h2;have h3:=az h0;rw[fI]at h3;omega
 have eW:(toQ S*n+toQ T*d)*t'-q*toQ T=(toQ S*t'-s'*toQ T)*n:=by
  rw[hq];exact ring [toQ S,toQ T,n,d,s',t']
 have hW:toQ S*t'-s'*toQ T=0:=by
  rcases Classical.em (toQ S*t'-s'*toQ T=0)with h|h
  ·exact h
  exfalso;have h1:=aM (toQ S*n+toQ T*d) t';have h2:=aM q (toQ T);rw[fI]at h2;have h3:sz ((toQ S*n+toQ T*d)*t'-q*toQ T)<=sz n-1:=fP (by omega) (by omega);rw[eW,cO h hn0]at h3;have:=az h;omega
 have g1:t'*(s*toQ T-t*toQ S)=C u*toQ T:=lc2 (-t) (toQ T) hW hu (ring [t',s,t,s',toQ S,toQ T,C u]);have g2:s'*(s*toQ T-t*toQ S)=C u*toQ S:=lc2 (-s) (toQ S) hW hu (ring [t',s,t,s',toQ S,toQ T,C u]);have ht0:t'≠0:=fun e=>by rw[ap.2 e]at ht;omega
 generalize hG:s*toQ T-t*toQ S=G at *
 have hG0:G≠0:=by
  rintro rfl;rw[mul_zero]at g1 g2;rcases hST with h|h
  ·exact aE (fv hu0) (cN h) g2.symm
  ·exact aE (fv hu0) (cN h) g1.symm
 have hGs:sz G<=1:=by
  have h1:=congrArg sz g1;rw[cO ht0 hG0,bF hu0,fI]at h1;have:=az ht0;omega
 have hGC:=eX hGs;generalize G.c 0=g at hGC;subst hGC;have hg0:g≠0:=by rintro rfl;exact hG0 cu
 have hiu:C (inv u)*C u=1:=by rw[<-bf,cx hu0,bU]
 have hm:sz d+sz n+1-2*sz p<=2*w+1:=by omega
 have hH:(2*(n1 A+n1 B)) ^ (sz d+sz n+1-2*sz p)<=2 ^ ((w+2)*(2*w+1)):=by
  have h1:2*(n1 A+n1 B)<=2 ^ (w+2):=by
   rw[show w+2=w+1+1 from rfl,Nat.pow_succ,Nat.pow_succ];omega
  rw[Nat.pow_mul];exact ac (Nat.pow_le_pow_left h1 _) (Nat.pow_le_pow_right (fN _) hm)
 have hw:w+1<=2 ^ w:=Nat.lt_two_pow_self;refine⟨S,T,inv u*g,aE (eH hu0) hg0,?_,?_,?_,?_⟩
 ·rw[bf];exact lc2 (-toQ S) (-C (inv u)) hiu g2 (ring [toQ S,C (inv u),C u,C g,s'])
 ·rw[bf];exact lc2 (-toQ T) (-C (inv u)) hiu g1 (ring [toQ T,C (inv u),C u,C g,t'])
 ·refine ac (oU hS fun i=>ac (hSc i) hH) (aN (ac ?_ hw) (ae _));omega
 ·refine ac (oU hT fun i=>ac (hTc i) hH) (aN (ac ?_ hw) (ae _));omega
theorem Row.size {n d p s t q s' t':P Rat} (row:Row n d p s t q s' t') {A B:P Int} {w h:Nat} (hB:B≠0) (hv:n*toQ B=d*toQ A) (hA1:sz A<=w+1) (hA2:n1 A<=2 ^ w) (hB1:sz B<=w+1) (hB2:n1 B<=2 ^ w)
  (Hn:HB h n) (Hd:HB h d):HB (2*(hN w+h)+1) (mo q):=by
 obtain⟨S,T,k,hk,e1,e2,h1,h2⟩:=small row hB hv hA1 hA2 hB1 hB2;have:HB (hN w+h+(hN w+h)+1) (toQ S*n+toQ T*d):=((HB.of h1).mul Hn).add ((HB.of h2).mul Hd);have e:toQ S*n+toQ T*d=C k*q:=by rw[e1,e2,row.hq];exact ring [C k,s',t',n,d]
 rw[e]at this;have:=this.mo;rw[yo hk]at this;exact this.mono (by omega)
theorem Row.scale {n d p s t q s' t':P Rat} (row:Row n d p s t q s' t') {a b:Rat} (ha:a≠0) (hb:b≠0):Row n d (C a*p) (C a*s) (C a*t) (C b*q) (C b*s') (C b*t'):=by
 obtain⟨hp,hq,⟨u,hu0,hu⟩,hlt,ht,hn,hd⟩:=row;refine⟨by rw[hp];exact ring [C a,s,n,t,d],by rw[hq];exact ring [C b,s',n,t',d],⟨a*b*u,aE (aE ha hb) hu0,?_⟩,?_,?_,?_,?_⟩
 ·rw[bf,bf,<-hu];exact ring [C a,C b,s,t,s',t']
 ·rw[bF ha,bF hb];exact hlt
 ·rw[bF ha,bF hb];exact ht
 ·rw[bF ha];exact hn
 ·rw[bF ha];exact hd
theorem Row.first {n d Q r:P Rat} {k:Rat} (hk:k≠0) (hd:d≠0) (hle:sz d<=sz n) (e:C k*n=Q*d+r) (hr:sz r<sz d):Row n d d 0 1 r (C k) (-Q):=by
 have hn0:n≠0:=fun h=>by rw[ap.2 h]at hle;have:=az hd;omega
 have h1:sz (Q*d)=sz n:=by
  have:Q*d=C k*n + -r:=lc1 (-1) e (ring [Q,d,C k,n,r]);rw[this,uV (by rw[kJ,bF hk];omega),bF hk]
 have hQ0:Q≠0:=by
  rintro rfl;rw[zero_mul,ap.2 rfl]at h1;have:=az hn0;omega
 refine⟨ring [n,d],lc1 (-1) e (ring [Q,d,C k,n,r]),⟨-k,wz hk,?_⟩,hr,?_,hle,ae _⟩
 ·rw[kC];exact ring [Q,C k]
 ·rw[kJ];rw[cO hQ0 hd]at h1;have:=az hQ0;omega
theorem Row.next {n d p s t q s' t' Q r:P Rat} (row:Row n d p s t q s' t') {k:Rat} (hk:k≠0) (hq0:q≠0) (e:C k*p=Q*q+r) (hr:sz r<sz q):Row n d q s' t' r (C k*s-Q*s') (C k*t-Q*t'):=by
 obtain⟨hp,hq,⟨u,hu0,hu⟩,hlt,ht,hn,hd⟩:=row;have hn0:n≠0:=fun h=>by rw[ap.2 h]at hn;omega
 have hr':r=(C k*s-Q*s')*n+(C k*t-Q*t')*d:=by
  have:r=C k*p-Q*q:=lc1 (-1) e (ring [Q,q,C k,p,r]);rw[this,hp,hq];exact ring [C k,s,n,t,d,Q,s',t']
 have hu':s'*(C k*t-Q*t')-(C k*s-Q*s')*t'=C (-(k*u)):=by
  rw[kC,bf,<-hu];exact ring [C k,s,t,s',t',Q]
 refine⟨hq,hr',⟨-(k*u),wz (aE hk hu0),hu'⟩,hr,?_,by omega,by omega⟩
 ·have h1:q*(C k*t-Q*t')=C (-(k*u))*n+r*t':=by
   rw[<-hu'];generalize C k*t-Q*t'=Y at *
   generalize C k*s-Q*s'=X at *
   rw[hr',hq];exact ring [s',t',X,Y,n,d]
  have hku:(-(k*u))≠0:=wz (aE hk hu0);have h2:=aM r t';have h3:sz (q*(C k*t-Q*t'))=sz n:=by
   rw[h1,uV (by rw[bF hku];have:=az hn0;omega),bF hku]
  have h4:C k*t-Q*t'≠0:=by
   intro h;rw[h,mul_zero,ap.2 rfl]at h3;have:=az hn0;omega
  rw[cO hq0 h4]at h3;have:=az h4;have:=az hq0;omega
theorem Row.last {n d p s t s' t':P Rat} (row:Row n d p s t 0 s' t'):IsG p n d:=by
 obtain⟨hp,hq,⟨u,hu0,hu⟩,hlt,ht,hn,hd⟩:=row;have hiu:C (inv u)*C u=1:=by rw[<-bf,cx hu0,bU]
 have e1:p*t'=C u*n:=by
  have a2:p*t'-0*t=(s*n+t*d)*t'-(s'*n+t'*d)*t:=by rw[<-hp,<-hq]
  rw[<-hu];exact lc1 1 a2 (ring [p,s,n,t,d,s',t'])
 have e2:p*s' = -(C u*d):=by
  have a2:p*s'-0*s=(s*n+t*d)*s'-(s'*n+t'*d)*s:=by rw[<-hp,<-hq]
  rw[<-hu];exact lc1 1 a2 (ring [p,s,n,t,d,s',t'])
 refine⟨⟨C (inv u)*t',?_⟩,⟨-(C (inv u)*s'),?_⟩,fun e h1 h2=>?_⟩
 ·exact lc2 (-n) (-C (inv u)) hiu e1 (ring [n,p,C (inv u),C u,t'])
 ·exact lc2 (-d) (C (inv u)) hiu e2 (ring [d,p,C (inv u),C u,s'])
 ·rw[hp];exact(h1.mul_left s).add (h2.mul_left t)
def bn:Nat->Nat->Nat
 | _,0=>1
 | 0,_+1=>0
 | n+1,k+1=>bn n k+bn n (k+1)
theorem wY:∀{n k:Nat},n<k->bn n k=0
 | 0,k+1,_=>by simp[bn]
 | n+1,k+1,h=>by simp only[bn];rw[wY (by omega),wY (by omega)]
theorem Db:∀ n:Nat,bn n n=1
 | 0=>by simp[bn]
 | n+1=>by simp only[bn];rw[Db n,wY (by omega)]
theorem wX:∀ n k:Nat,(k+1)*bn (n+1) (k+1)=(n+1)*bn n k
 | 0,0=>by simp[bn]
 | 0,k+1=>by simp[bn]
 | n+1,0=>by
  have h:=wX n 0;simp only[bn,Nat.zero_add,Nat.one_mul]at h ⊢;omega
 | n+1,k+1=>by
  have h1:=wX n k;have h2:=wX n (k+1);have e1:bn (n+1+1) (k+1+1)=bn (n+1) (k+1)+bn (n+1) (k+1+1):=by simp only[bn]
  have e2:bn (n+1) (k+1)=bn n k+bn n (k+1):=by simp only[bn]
  rw[e1,Nat.mul_add,h2,Nat.add_mul (k+1) 1,h1,Nat.one_mul];rw[Nat.add_mul (n+1) 1,Nat.one_mul];have e3:(n+1)*bn (n+1) (k+1)=(n+1)*bn n k+(n+1)*bn n (k+1):=by rw[e2,Nat.mul_add]
  omega
theorem kK (f:Nat->Nat):∀ n,cp f (n+1)=f 0+cp (fun i=>f (i+1)) n
 | 0=>by simp[cp]
 | n+1=>by
  have h:=kK f n;show cp f (n+1)+f (n+1)=f 0+(cp (fun i=>f (i+1)) n+f (n+1));omega
theorem binomial (a:Nat):∀ n,(a+1) ^ n=cp (fun k=>bn n k*a ^ k) (n+1)
 | 0=>by simp[cp,bn]
 | n+1=>by
  have ih:=binomial a n;have e1:cp (fun k=>bn (n+1) k*a ^ k) (n+1+1)=1+(cp (fun k=>a*(bn n k*a ^ k)) (n+1)+cp (fun k=>bn n (k+1)*a ^ (k+1)) (n+1)):=by
   rw[kK,<-xS];refine congr (congrArg _ (by simp[bn])) (fJ fun k _=>?_);simp only[bn,Nat.pow_succ];rw[Nat.add_mul,<-Nat.mul_assoc a,Nat.mul_comm a,Nat.mul_assoc,Nat.mul_comm a (a ^ k)]
  have e2:1+cp (fun k=>bn n (k+1)*a ^ (k+1)) (n+1)=cp (fun k=>bn n k*a ^ k) (n+1):=by
   have e3:=kK (fun k=>bn n k*a ^ k) (n+1);have e4:cp (fun k=>bn n k*a ^ k) (n+1+1)=cp (fun k=>bn n k*a ^ k) (n+1)+bn n (n+1)*a ^ (n+1):=rfl;rw[wY (Nat.lt_succ_self n),Nat.zero_mul,Nat.add_zero]at e4;have e5:cp (fun k=>bn n k*a ^ k) (n+1)=bn n 0*a ^ 0+cp (fun i=>bn n (i+1)*a ^ (i+1)) (n+1):=e4.symm.trans e3;rw[e5];simp[bn]
  rw[e1,rW,<-ih,Nat.pow_succ,Nat.mul_add,Nat.mul_one,Nat.mul_comm _ a];rw[<-ih]at e2;omega
theorem Gk {p:Nat} {f:Nat->Nat} {n:Nat} (h:∀ i,i<n->p∣f i):p∣cp f n:=by
 induction n with
 | zero=>exact Nat.dvd_zero _
 | succ n ih=>exact Nat.dvd_add (ih fun i hi=>h i (by omega)) (h n (by omega))
theorem fermat {p:Nat} (h1:1<p) (hp:∀ d,0<d->d<p->Nat.Coprime p d):∀ a:Nat,a ^ p % p=a % p
 | 0=>by rw[Nat.zero_pow (by omega)]
 | a+1=>by
  have ih:=fermat h1 hp a;obtain⟨m,rfl⟩:∃ m,p=m+1:=⟨p-1,by omega⟩;have hd:(m+1)∣cp (fun i=>bn (m+1) (i+1)*a ^ (i+1)) m:=by
   refine Gk fun i hi=>Nat.dvd_mul_right_of_dvd ?_ _;have h2:=wX m i;exact(hp (i+1) (by omega) (by omega)).dvd_of_dvd_mul_left (h2 ▸ Nat.dvd_mul_right _ _)
  have e:(a+1) ^ (m+1)=1+cp (fun i=>bn (m+1) (i+1)*a ^ (i+1)) m+a ^ (m+1):=by
   rw[binomial,kK];show bn (m+1) 0*a ^ 0+(cp (fun i=>bn (m+1) (i+1)*a ^ (i+1)) m+bn (m+1) (m+1)*a ^ (m+1))=_;rw[Db];simp[bn];omega
  obtain⟨c,hc⟩:=hd;rw[e,hc,Nat.add_mod,ih,Nat.add_comm 1,Nat.mul_add_mod,<-Nat.add_mod,Nat.add_comm]
def vb (lo:Nat):Nat->Bool
 | 0=>2147483647 % lo != 0
 | k+1=>vb lo k && vb (lo+2 ^ k) k
theorem n6:∀{k lo:Nat},vb lo k=true->∀ d,lo<=d->d<lo+2 ^ k->2147483647 % d≠0
 | 0,lo,h,d,h1,h2=>by
  obtain rfl:d=lo:=by simp at h2;omega
  simpa [vb]using h
 | k+1,lo,h,d,h1,h2=>by
  simp only[vb,Bool.and_eq_true]at h;rcases Nat.lt_or_ge d (lo+2 ^ k)with h3|h3
  ·exact n6 h.1 d h1 h3
  ·exact n6 h.2 d h3 (by rw[Nat.pow_succ]at h2;omega)
theorem EK:vb 2 16=true:=by decide +kernel
theorem Nk (d:Nat) (h0:0<d) (h1:d<2147483647):Nat.Coprime 2147483647 d:=by
 let g:=Nat.gcd 2147483647 d
 have hg:g∣2147483647:=Nat.gcd_dvd_left _ _;have hgd:g<=d:=Nat.le_of_dvd h0 (Nat.gcd_dvd_right _ _);have hg0:0<g:=Nat.gcd_pos_of_pos_left _ (by omega);rcases Nat.lt_or_ge 1 g with hg1|hg1
 ·exfalso;obtain⟨e,he⟩:=hg;have he0:0<e:=Nat.pos_of_ne_zero fun h=>by rw[h]at he;omega
  have key:∀ x,2<=x->x<65538->2147483647 % x≠0:=fun x h2 h3=>n6 EK x h2 (by omega);rcases Nat.lt_or_ge g 46341 with h2|h2
  ·exact key g hg1 (by omega) (by rw[he];exact Nat.mul_mod_right _ _)
  ·have he1:e<46341:=by
    rcases Nat.lt_or_ge e 46341 with h3|h3
    ·exact h3
    ·have:=Nat.mul_le_mul h2 h3;omega
   have he2:2<=e:=by
    rcases Nat.lt_or_ge e 2 with h3|h3
    ·obtain rfl:e=1:=by omega
     omega
    ·exact h3
   exact key e he2 (by omega) (by rw[he];exact Nat.mul_mod_left _ _)
 ·exact Nat.le_antisymm hg1 hg0
theorem HZ {p:Nat} (h0:0<p) (hp:∀ d,0<d->d<p->Nat.Coprime p d) {a b:Nat} (h:p∣a*b):p∣a\/p∣b:=by
 by_cases ha:a % p=0
 ·exact .inl (Nat.dvd_of_mod_eq_zero ha)
 ·refine .inr ?_;have hc:=hp (a % p) (by omega) (Nat.mod_lt _ h0);refine hc.dvd_of_dvd_mul_left ?_;rw[Nat.dvd_iff_mod_eq_zero]at h ⊢;rw[Nat.mul_mod,Nat.mod_mod,<-Nat.mul_mod];exact h
theorem Bo {m:Nat} (hp:∀ d,0<d->d<m+2->Nat.Coprime (m+2) d) (a:Nat) (ha:a % (m+2)≠0):a ^ m*a % (m+2)=1:=by
 have h:=fermat (by omega) hp a;have e:a ^ (m+2)=a*(a ^ m*a):=by rw[show m+2=m+1+1 from rfl,Nat.pow_succ,Nat.pow_succ,Nat.mul_comm]
 have ha0:0<a:=Nat.pos_of_ne_zero fun h=>ha (by rw[h,Nat.zero_mod]);have hpos:0<a ^ m*a:=Nat.mul_pos (Nat.pow_pos ha0) ha0;have h2:(m+2)∣a*(a ^ m*a-1):=by
  rw[Nat.mul_sub,Nat.mul_one,<-e];exact(Nat.dvd_iff_mod_eq_zero).2 (Nat.sub_mod_eq_zero_of_mod_eq h)
 rcases HZ (by omega) hp h2 with h3|h3
 ·exact absurd (Nat.mod_eq_zero_of_dvd h3) ha
 ·obtain⟨c,hc⟩:=h3;rw[show a ^ m*a=(m+2)*c+1 by omega,Nat.mul_add_mod];exact Nat.mod_eq_of_lt (by omega)
abbrev Zp:Type:=Fin 2147483647
instance:CR Zp where
 toAdd:=inferInstanceAs (Add (Fin 2147483647))
 toMul:=inferInstanceAs (Mul (Fin 2147483647))
 toNeg:=inferInstanceAs (Neg (Fin 2147483647))
 toSub:=inferInstanceAs (Sub (Fin 2147483647))
 toZero:=⟨(0:Fin 2147483647)⟩
 toOne:=⟨(1:Fin 2147483647)⟩
 add_assoc:=Lean.Grind.Semiring.add_assoc (α:=Fin 2147483647)
 add_comm:=Lean.Grind.Semiring.add_comm (α:=Fin 2147483647)
 add_zero:=Lean.Grind.Semiring.add_zero (α:=Fin 2147483647)
 neg_add:=Lean.Grind.AddCommGroup.neg_add_cancel (M:=Fin 2147483647)
 sub_eq:=Lean.Grind.AddCommGroup.sub_eq_add_neg (M:=Fin 2147483647)
 mul_assoc:=Lean.Grind.Semiring.mul_assoc (α:=Fin 2147483647)
 mul_comm:=Lean.Grind.CommSemiring.mul_comm (α:=Fin 2147483647)
 mul_one:=Lean.Grind.Semiring.mul_one (α:=Fin 2147483647)
 mul_add:=Lean.Grind.Semiring.left_distrib (α:=Fin 2147483647)
theorem zZ (a b:Zp):(a+b).val=(a.val+b.val) % 2147483647:=rfl
theorem rJ (a b:Zp):(a*b).val=a.val*b.val % 2147483647:=rfl
theorem kD {a b:Zp} (h:a.val=b.val):a=b:=Fin.ext h
theorem Oq {a:Zp}:a≠0↔a.val≠0:=⟨fun h e=>h (kD e),fun h e=>h (by rw[e];rfl)⟩
theorem LK (a:Zp):∀ n,(pw a n).val=a.val ^ n % 2147483647
 | 0=>rfl
 | n+1=>by
  show(pw a n*a).val=_;rw[rJ,LK a n,Nat.pow_succ]
  conv=>lhs;rw[Nat.mul_mod,Nat.mod_mod,<-Nat.mul_mod]
theorem Ji {a:Zp} (h:a≠0) (m:Nat) (hm:m+2=2147483647):pw a m*a=1:=by
 refine kD ?_;rw[rJ,LK];have h1:a.val % (m+2)≠0:=by
  have:=a.isLt;rw[hm,Nat.mod_eq_of_lt (by omega)];exact Oq.1 h
 have h2:=Bo (m:=m) (by rw[hm];exact Nk) a.val h1;rw[hm]at h2;rw[Nat.mul_mod,Nat.mod_mod,<-Nat.mul_mod];exact h2
theorem zX {a:Zp} (h:a≠0):pw a 2147483645*a=1:=Ji h _ rfl
instance:Fd Zp where
 inv a:=if a=0 then 0 else pw a 2147483645
 mul_inv a h:=by rw[if_neg h,mul_comm];exact zX h
 inv_zero:=if_pos rfl
 one_ne:=by intro h;exact absurd (congrArg Fin.val h) (by decide)
def mp (z:Int):Zp:=⟨(z % 2147483647).toNat,by omega⟩
theorem n7 (z:Int):((mp z).val:Int)=z % 2147483647:=by simp only[mp];omega
theorem LX {z:Int} {a:Zp} (h:(a.val:Int)=z % 2147483647):mp z=a:=kD (by have:=n7 z;omega)
def hp:Hom Int Zp where
 f:=mp
 zero:=rfl
 one:=rfl
 add a b:=LX (by
  have h:((mp a+mp b:Zp).val:Int)=((mp a).val+(mp b).val) % 2147483647:=by rw[zZ];simp
  rw[h,n7,n7,<-Int.add_emod])
 mul a b:=LX (by
  have h:((mp a*mp b:Zp).val:Int)=((mp a).val*(mp b).val) % 2147483647:=by rw[rJ];simp
  rw[h,n7,n7,<-Int.mul_emod])
noncomputable def rq (q:Rat):Zp:=mp q.num*inv (mp q.den)
theorem Nb {q:Rat} {D z:Int} (hq:mp q.den≠0) (h:(D:Rat)*q=z):mp D*rq q=mp z:=by
 have h1:q*((q.den:Int):Rat)=(q.num:Rat):=cB q;have h2:z*(q.den:Int)=D*q.num:=by
  have:((z*(q.den:Int):Int):Rat)=((D*q.num:Int):Rat):=by
   rw[Rat.intCast_mul,Rat.intCast_mul,<-h,<-h1,Rat.mul_assoc]
  exact Rat.intCast_inj.1 this
 have h3:mp z*mp (q.den:Int)=mp D*mp q.num:=by
  have:=congrArg mp h2;rw[show mp (z*(q.den:Int))=mp z*mp (q.den:Int)from hp.mul _ _,show mp (D*q.num)=mp D*mp q.num from hp.mul _ _]at this;exact this
 show mp D*(mp q.num*inv (mp q.den))=mp z;rw[<-mul_assoc,<-h3,mul_assoc,mul_inv hq,mul_one]
instance:rh Int where
 ex a b:=⟨(Int.gcd a b:Int),Int.gcd_dvd_left ..,Int.gcd_dvd_right ..,fun _ h1 h2=>Int.dvd_coe_gcd h1 h2⟩
theorem comden (p:P Rat):∀ n,(∀ i,i<n->mp (p.c i).den≠0)->∃ D:Int,D≠0/\mp D≠0/\∀ i,i<n->∃ z:Int,(D:Rat)*p.c i=z
 | 0,_=>⟨1,by decide,by decide,fun i hi=>by omega⟩
 | n+1,h=>by
  obtain⟨D,h1,h2,h3⟩:=comden p n fun i hi=>h i (by omega);have hd:((p.c n).den:Int)≠0:=by have:=(p.c n).den_nz;omega
  refine⟨D*(p.c n).den,Int.mul_ne_zero h1 hd,?_,fun i hi=>?_⟩
  ·rw[show mp (D*(p.c n).den)=mp D*mp (p.c n).den from hp.mul _ _];exact aE h2 (h n (by omega))
  ·rcases Nat.lt_or_ge i n with h4|h4
   ·obtain⟨z,hz⟩:=h3 i h4;refine⟨z*(p.c n).den,?_⟩;rw[Rat.intCast_mul,Rat.intCast_mul,<-hz];grind
   ·obtain rfl:i=n:=by omega
    refine⟨D*(p.c i).num,?_⟩;rw[Rat.intCast_mul,Rat.intCast_mul,<-cB (p.c i)];grind
theorem clear (p:P Rat) (x:P Zp) (hd:∀ i,i<sz p->mp (p.c i).den≠0) (hx:∀ i,x.c i=rq (p.c i)):∃(D:Int) (A:P Int),D≠0/\mp D≠0/\C (hQ.f D)*p=toQ A/\hp.m A=C (mp D)*x:=by
 obtain⟨D,h1,h2,h3⟩:=comden p (sz p) hd;have hz:∀ i,∃ z:Int,(D:Rat)*p.c i=z:=fun i=>by
  rcases Nat.lt_or_ge i (sz p)with h|h
  ·exact h3 i h
  ·exact⟨0,by rw[au h];exact Rat.mul_zero _⟩
 let z:Nat->Int:=fun i=>Classical.choose (hz i)
 have hz':∀ i,(D:Rat)*p.c i=z i:=fun i=>Classical.choose_spec (hz i);have z0:∀ i,sz p<=i->z i=0:=fun i hi=>by
  have:=hz' i;rw[au hi]at this;exact Rat.intCast_inj.1 (this.symm.trans (Rat.mul_zero _))
 refine⟨D,⟨z,sz p,z0⟩,h1,h2,P.ext fun i=>?_,P.ext fun i=>?_⟩
 ·rw[bA];exact hz' i
 ·rw[bA,hx];have hden:mp (p.c i).den≠0:=by
   rcases Nat.lt_or_ge i (sz p)with h|h
   ·exact hd i h
   ·rw[au h];decide
  exact(Nb hden (hz' i)).symm
theorem Cy (d:P Rat) (h:d≠0):∃(k:Rat) (G:P Int),k≠0/\toQ G=C k*d/\Prm G:=by
 have hd:∃(D:Int) (A:P Int),D≠0/\C (hQ.f D)*d=toQ A:=by
  have:∀ n,∃ D:Int,D≠0/\∀ i,i<n->∃ z:Int,(D:Rat)*d.c i=z:=by
   intro n
   induction n with
   | zero=>exact⟨1,by decide,fun i hi=>by omega⟩
   | succ n ih =>
    obtain⟨D,h1,h3⟩:=ih;have hd:((d.c n).den:Int)≠0:=by have:=(d.c n).den_nz;omega
    refine⟨D*(d.c n).den,Int.mul_ne_zero h1 hd,fun i hi=>?_⟩;rcases Nat.lt_or_ge i n with h4|h4
    ·obtain⟨z,hz⟩:=h3 i h4;exact⟨z*(d.c n).den,by rw[Rat.intCast_mul,Rat.intCast_mul,<-hz];grind⟩
    ·obtain rfl:i=n:=by omega
     exact⟨D*(d.c i).num,by rw[Rat.intCast_mul,Rat.intCast_mul,<-cB (d.c i)];grind⟩
  obtain⟨D,h1,h3⟩:=this (sz d);have hz:∀ i,∃ z:Int,(D:Rat)*d.c i=z:=fun i=>by
   rcases Nat.lt_or_ge i (sz d)with h|h
   ·exact h3 i h
   ·exact⟨0,by rw[au h];exact Rat.mul_zero _⟩
  let z:Nat->Int:=fun i=>Classical.choose (hz i)
  have hz':∀ i,(D:Rat)*d.c i=z i:=fun i=>Classical.choose_spec (hz i);refine⟨D,⟨z,sz d,fun i hi=>?_⟩,h1,P.ext fun i=>?_⟩
  ·have:=hz' i;rw[au hi]at this;exact Rat.intCast_inj.1 (this.symm.trans (Rat.mul_zero _))
  ·rw[bA];exact hz' i
 obtain⟨D,A,h1,h2⟩:=hd;have hA:A≠0:=fun e=>by
  rw[e,cA]at h2;rcases zero_of_mul h2 with h3|h3
  ·exact fv (qM h1) h3
  ·exact h h3
 obtain⟨c,G,h3,h4,h5,_⟩:=kN hA;refine⟨inv (hQ.f c)*hQ.f D,G,aE (eH (qM h3)) (qM h1),?_,h5⟩;rw[bf,mul_assoc,h2,h4,bN,oH,<-mul_assoc,<-bf,cx (qM h3),bU,one_mul]
theorem Cz {G A:P Int} (hG:Prm G) (h:Dv (toQ G) (toQ A)):Dv G A:=by
 by_cases hA:A=0
 ·rw[hA];exact Dv.zero _
 obtain⟨S,hS⟩:=h;have hS0:S≠0:=fun e=>cN hA (by rw[hS,e,mul_zero]);obtain⟨k,T,hk,hT,_⟩:=Cy S hS0;have hkd:((k.den:Int):Rat)*k=k.num:=by rw[Rat.mul_comm];exact cB k
 have hkn:k.num≠0:=fun e=>hk (Rat.num_eq_zero.1 e);refine hG.dvd (c:=k.num) hkn ⟨C (k.den:Int)*T,?_⟩;have:toQ (C k.num*A)=toQ (G*(C (k.den:Int)*T)):=by
  rw[bN,oH,hS,bN,bN,oH,hT,show hQ.f k.num=hQ.f (k.den:Int)*k from hkd.symm,bf];exact ring [C (hQ.f (k.den:Int)),C k,toQ G,S]
 refine ff (Classical.byContradiction fun h=>?_);exact cN h (by rw[vX,this,sub_self])
theorem JZ {a b:P Rat} {x y:P Zp} (ha:a≠0) (hda:∀ i,i<sz a->mp (a.c i).den≠0) (hx:∀ i,x.c i=rq (a.c i)) (hl:x.c (sz a-1)≠0)
  (hdb:∀ i,i<sz b->mp (b.c i).den≠0) (hy:∀ i,y.c i=rq (b.c i)) (hc:∀ g:P Zp,Dv g x->Dv g y->sz g<=1):Cop a b:=by
 intro d hd1 hd2;have hd0:d≠0:=hd1.ne ha;obtain⟨k,G,hk,hG,hGp⟩:=Cy d hd0;obtain⟨D,A,hD,hD',hA,hA'⟩:=clear a x hda hx;obtain⟨E,B,hE,hE',hB,hB'⟩:=clear b y hdb hy;have hGd:Dv (toQ G) d:=⟨C (inv k),by rw[hG,mul_comm (C k),mul_assoc,<-bf,mul_inv hk,bU,mul_one]⟩;obtain⟨S,hS⟩:=Cz hGp (A:=A) (by rw[<-hA];exact(hGd.trans hd1).mul_left _);obtain⟨T,hT⟩:=Cz hGp (A:=B) (by rw[<-hB];exact(hGd.trans hd2).mul_left _);have down:∀{x:P Zp} {c:Zp} {g:P Zp},c≠0->Dv g (C c*x)->Dv g x:=fun{x c g} hc h=>by
  have:=h.mul_left (C (inv c));rwa [<-mul_assoc,<-bf,cx hc,bU,one_mul]at this
 have g1:Dv (hp.m G) x:=down hD' ⟨hp.m S,by rw[<-hA',hS,hp.m_mul]⟩;have g2:Dv (hp.m G) y:=down hE' ⟨hp.m T,by rw[<-hB',hT,hp.m_mul]⟩;have hs:=hc _ g1 g2;have hGs:sz G=sz d:=by rw[<-fI,hG,bF hk]
 have hsA:sz A=sz a:=by rw[<-fI,<-hA,bF (qM hD)]
 have hA0:A≠0:=fun e=>ha (ap.1 (by rw[<-hsA];exact ap.2 e));have hlcA:mp (lc A)≠0:=by
  have h1:=congrArg (fun p:P Zp=>p.c (sz a-1)) hA';simp only[bA]at h1;rw[show lc A=A.c (sz a-1)by rw[lc,hsA]];show(hp.m A).c (sz a-1)≠0;rw[h1];exact aE hD' hl
 have hlcG:mp (lc G)≠0:=by
  intro e;apply hlcA;rw[hS,f6,show mp (lc G*lc S)=mp (lc G)*mp (lc S)from hp.mul _ _,e,zero_mul]
 have hG0:G≠0:=hGp.ne;have hsG:sz G<=sz (hp.m G):=by
  have:=O8 (p:=hp.m G) (i:=sz G-1) hlcG;have:=az hG0;omega
 have h1:sz d<=1:=by omega
 have h2:=az hd0;rw[eX h1];have h3:d.c 0≠0:=by
  have:=bu hd0;rwa [lc,show sz d-1=0 by omega]at this
 exact⟨C (inv (d.c 0)),by rw[<-bf,mul_inv h3];rfl⟩
end Alg
