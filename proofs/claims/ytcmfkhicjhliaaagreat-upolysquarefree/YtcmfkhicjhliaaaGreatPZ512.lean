/- Lemmas, part 13 of 23. No condition. -/
import Derived.Test.YtcmfkhicjhliaaaGreatPZ511
import Init.GrindInstances.Ring.Fin
set_option maxRecDepth 65536
set_option linter.unusedSimpArgs false
set_option linter.unusedVariables false
set_option linter.unusedSectionVars false
namespace Alg
open Classical
structure Hom (R S:Type) [CR R] [CR S] where
 f:R->S
 zero:f 0=0
 one:f 1=1
 add:∀ a b,f (a+b)=f a+f b
 mul:∀ a b,f (a*b)=f a*f b
section
variable {R S:Type} [CR R] [CR S] (φ:Hom R S)
theorem xQ {a:R} (h:a≠0) : -a≠0:=fun e=>h (by rw[<-neg_neg a,e,gS])
theorem Hom.neg (a:R):φ.f (-a) = -φ.f a:=by
 have h:=φ.add (-a) a;rw[Alg.neg_add,φ.zero]at h;exact fA h.symm
theorem Hom.sub (a b:R):φ.f (a-b)=φ.f a-φ.f b:=by rw[sub_eq,sub_eq,φ.add,φ.neg]
theorem Hom.tri (g:Nat->Nat->R) (n:Nat):φ.f (tri g n)=Alg.tri (fun i j=>φ.f (g i j)) n:=by
 induction n generalizing g with
 | zero=>rfl
 | succ n ih=>simp only[Alg.tri];rw[φ.add,ih]
def Hom.m (p:P R):P S:=⟨fun i=>φ.f (p.c i),by obtain⟨n,h⟩:=p.fin;exact⟨n,fun i hi=>by rw[h i hi,φ.zero]⟩⟩
theorem Hom.m_c (p:P R) (i:Nat):(φ.m p).c i=φ.f (p.c i):=rfl
theorem Hom.m_zero:φ.m 0=0:=P.ext fun _=>φ.zero
theorem Hom.m_C (a:R):φ.m (an a)=an (φ.f a):=P.ext fun i=>by
 cases i with
 | zero=>rfl
 | succ i=>exact φ.zero
theorem Hom.m_one:φ.m 1=1:=by rw[Is,φ.m_C,φ.one];rfl
theorem Hom.m_add (p q:P R):φ.m (p+q)=φ.m p+φ.m q:=P.ext fun _=>φ.add _ _
theorem Hom.m_neg (p:P R):φ.m (-p) = -φ.m p:=P.ext fun _=>φ.neg _
theorem Hom.m_sub (p q:P R):φ.m (p-q)=φ.m p-φ.m q:=P.ext fun _=>φ.sub _ _
theorem Hom.m_mul (p q:P R):φ.m (p*q)=φ.m p*φ.m q:=P.ext fun i=>by
 rw[φ.m_c,iq,iq,φ.tri];exact eB fun i j _=>φ.mul _ _
theorem Hom.m_mon (n:Nat) (a:R):φ.m (mon n a)=mon n (φ.f a):=P.ext fun i=>by
 rw[φ.m_c,bY,bY];split
 ·rfl
 ·exact φ.zero
theorem Hom.m_sz (h:∀ a,φ.f a=0->a=0) (p:P R):aa (φ.m p)=aa p :=
 jU (fun i hi=>by rw[φ.m_c,aO hi,φ.zero]) fun h0 e=>kD h0 (h _ e)
theorem Hom.m_lc (h:∀ a,φ.f a=0->a=0) (p:P R):lc (φ.m p)=φ.f (lc p):=by
 unfold lc;rw[φ.m_sz h];rfl
end
def hQ:Hom Int Rat where
 f:=fun z=>(z:Rat)
 zero:=rfl
 one:=rfl
 add:=Rat.intCast_add
 mul:=Rat.intCast_mul
theorem CB (a:Int) (h:hQ.f a=0):a=0:=Rat.intCast_eq_zero_iff.1 h
def toQ (A:P Int):P Rat:=hQ.m A
theorem gr (A:P Int):aa (toQ A)=aa A:=hQ.m_sz CB A
theorem cK:toQ 0=0:=hQ.m_zero
theorem kC (A B:P Int):toQ (A+B)=toQ A+toQ B:=hQ.m_add A B
theorem xu (A B:P Int):toQ (A-B)=toQ A-toQ B:=hQ.m_sub A B
theorem ck (A B:P Int):toQ (A*B)=toQ A*toQ B:=hQ.m_mul A B
theorem pN (A:P Int):toQ (-A) = -toQ A:=hQ.m_neg A
theorem pO (a:Int):toQ (an a)=an (hQ.f a):=hQ.m_C a
theorem og (n:Nat) (a:Int):toQ (mon n a)=mon n (hQ.f a):=hQ.m_mon n a
theorem oe:toQ 1=1:=hQ.m_one
theorem I3 (A:P Int):lc (toQ A)=hQ.f (lc A):=hQ.m_lc CB A
theorem dy {A:P Int} (h:A≠0):toQ A≠0:=fun e=>h (aM.1 (by rw[<-gr,e];exact aM.2 rfl))
theorem sv {z:Int} (h:z≠0):hQ.f z≠0:=fun e=>h (CB z e)
theorem cX (q:Rat):q*((q.den:Int):Rat)=(q.num:Rat):=by
 have hd:(q.den:Int)≠0:=by have:=q.den_nz;omega
 conv=>lhs;arg 1;rw[<-Rat.num_divInt_den q]
 rw[<-Rat.num_divInt_den ((q.den:Int):Rat),<-Rat.num_divInt_den (q.num:Rat),Rat.num_intCast,Rat.den_intCast,Rat.num_intCast,Rat.den_intCast,Rat.divInt_mul_divInt,Rat.divInt_eq_divInt_iff aw aH];simp
theorem gz (h:Nat):0<2 ^ h:=Nat.pow_pos aw
theorem cU {a b:Nat} (h:a<=b):2 ^ a<=2 ^ b:=Nat.pow_le_pow_right aw h
theorem bh {x y a b:Nat} (hx:x<=2 ^ a) (hy:y<=2 ^ b):x*y<=2 ^ (a+b):=by
 rw[Nat.pow_add];exact Nat.mul_le_mul hx hy
theorem kj {x y a:Nat} (hx:x<=2 ^ a) (hy:y<=2 ^ a):x+y<=2 ^ (a+1):=by
 rw[Nat.pow_succ];omega
def am (h:Nat) (p:P Rat):Prop:=∃(D:Int) (A:P Int),D≠0/\D.natAbs<=2 ^ h/\n1 A<=2 ^ h/\an (hQ.f D)*p=toQ A
theorem am.mono {h k:Nat} {p:P Rat} (H:am h p) (hk:h<=k):am k p:=by
 obtain⟨D,A,h1,h2,h3,h4⟩:=H;exact⟨D,A,h1,ax h2 (cU hk),ax h3 (cU hk),h4⟩
theorem am.of {h:Nat} {A:P Int} (H:n1 A<=2 ^ h):am h (toQ A):=⟨1,A,aH,gz h,H,by rw[show hQ.f 1=1 from rfl,bP,one_mul]⟩
theorem am.zero (h:Nat):am h 0:=by
 have:am h (toQ 0):=am.of (by rw[iI];exact Nat.zero_le _);rwa [cK]at this
theorem am.add {h k:Nat} {p q:P Rat} (H:am h p) (G:am k q):am (h+k+1) (p+q):=by
 obtain⟨D,A,h1,h2,h3,h4⟩:=H;obtain⟨E,B,g1,g2,g3,g4⟩:=G;refine⟨D*E,an E*A+an D*B,Int.mul_ne_zero h1 g1,?_,?_,?_⟩
 ·rw[Int.natAbs_mul];exact ax (bh h2 g2) (cU aw)
 ·refine ax (ml _ _) (kj ?_ ?_)
  ·rw[nC,Nat.mul_comm];exact bh h3 g2
  ·rw[nC];exact bh h2 g3
 ·rw[hQ.mul,bC,kC,ck,ck,pO,pO];exact lc2 (an (hQ.f E)) (an (hQ.f D)) h4 g4 (ring [an (hQ.f D),an (hQ.f E),p,q,toQ A,toQ B])
theorem am.mul {h k:Nat} {p q:P Rat} (H:am h p) (G:am k q):am (h+k) (p*q):=by
 obtain⟨D,A,h1,h2,h3,h4⟩:=H;obtain⟨E,B,g1,g2,g3,g4⟩:=G;refine⟨D*E,A*B,Int.mul_ne_zero h1 g1,?_,?_,?_⟩
 ·rw[Int.natAbs_mul];exact bh h2 g2
 ·exact ax (jh _ _) (bh h3 g3)
 ·rw[hQ.mul,bC,ck];exact lc2 (an (hQ.f E)*q) (toQ A) h4 g4 (ring [an (hQ.f D),an (hQ.f E),p,q,toQ A,toQ B])
theorem am.neg {h:Nat} {p:P Rat} (H:am h p):am h (-p):=by
 obtain⟨D,A,h1,h2,h3,h4⟩:=H;exact⟨D,-A,h1,h2,by rw[rt];exact h3,by rw[mul_neg,h4,pN]⟩
theorem am.sub {h k:Nat} {p q:P Rat} (H:am h p) (G:am k q):am (h+k+1) (p-q):=by
 rw[sub_eq];exact H.add G.neg
theorem am.scale {h:Nat} {p:P Rat} (c:Rat) {k:Nat} (H:am h p) (hn:c.num.natAbs<=2 ^ k) (hd:c.den<=2 ^ k):am (h+k) (an c*p):=by
 obtain⟨D,A,h1,h2,h3,h4⟩:=H;refine⟨D*c.den,an c.num*A,Int.mul_ne_zero h1 (by have:=c.den_nz;omega),?_,?_,?_⟩
 ·rw[Int.natAbs_mul,Int.natAbs_natCast];exact bh h2 hd
 ·rw[nC,Nat.mul_comm];exact bh h3 hn
 ·have e:hQ.f (c.den:Int)*c=hQ.f c.num:=by
   rw[mul_comm];exact cX c
  rw[hQ.mul,bC,ck,pO,<-e,bC];exact lc1 (an (hQ.f (c.den:Int))*an c) h4 (ring [an (hQ.f D),an (hQ.f (c.den:Int)),an c,p,toQ A])
theorem pm {q:Rat} {D z:Int} (hD:D≠0) (h:(D:Rat)*q=z):q.num.natAbs<=z.natAbs/\q.den<=D.natAbs:=by
 have h1:D*q.num=z*q.den:=by
  have:(D:Rat)*q*((q.den:Int):Rat)=z*((q.den:Int):Rat):=by rw[h]
  rw[Rat.mul_assoc,cX]at this;have h2:((D*q.num:Int):Rat)=((z*q.den:Int):Rat):=by
   rw[Rat.intCast_mul,Rat.intCast_mul];exact this
  exact Rat.intCast_inj.1 h2
 have hc:Nat.Coprime q.num.natAbs q.den:=q.reduced;have h3:D.natAbs*q.num.natAbs=z.natAbs*q.den:=by
  have:=congrArg Int.natAbs h1;rwa [Int.natAbs_mul,Int.natAbs_mul,Int.natAbs_natCast]at this
 have hdp:0<q.den:=q.den_pos;have d1:q.den∣D.natAbs:=hc.symm.dvd_of_dvd_mul_right ⟨z.natAbs,by rw[h3,Nat.mul_comm]⟩;have d2:q.num.natAbs∣z.natAbs:=hc.dvd_of_dvd_mul_right ⟨D.natAbs,by rw[<-h3,Nat.mul_comm]⟩;refine⟨?_,Nat.le_of_dvd aw d1⟩;rcases Nat.eq_zero_or_pos z.natAbs with hz|hz
 ·rw[hz,Nat.zero_mul]at h3;have:=Nat.mul_eq_zero.1 h3;omega
 ·exact Nat.le_of_dvd hz d2
theorem am.coef {h:Nat} {p:P Rat} (H:am h p) (i:Nat):(p.c i).num.natAbs<=2 ^ h/\(p.c i).den<=2 ^ h:=by
 obtain⟨D,A,h1,h2,h3,h4⟩:=H;have:=congrArg (fun p=>p.c i) h4;rw[bS]at this;obtain⟨a,b⟩:=pm (z:=A.c i) h1 this;exact⟨ax a (ax (jA A i) h3),ax b h2⟩
noncomputable def ag (p:P Rat):P Rat:=an (inv (lc p))*p
theorem fR:ag 0=0:=mul_zero _
theorem zT {c:Rat} (h:c≠0) (p:P Rat):ag (an c*p)=ag p:=by
 unfold ag;rw[gU,mV,uF,bC];have:an (inv c)*an c=1:=by rw[<-bC,cA h,bP]
 exact lc1 (an (inv (lc p))*p) this (ring [an (inv c),an c,an (inv (lc p)),p])
theorem fV {p:P Rat}:aa (ag p)=aa p:=by
 rcases Classical.em (p=0)with rfl|h
 ·rw[fR]
 ·exact bW (fC (bN h)) p
theorem D6 {p:P Rat} (h:p≠0):lc (ag p)=1:=by
 unfold ag;rw[gU,mV,cA (bN h)]
theorem QU (p:P Rat):ag (ag p)=ag p:=by
 rcases Classical.em (p=0)with rfl|h
 ·rw[fR,fR]
 ·show ag (an (inv (lc p))*p)=_;rw[zT (fC (bN h))]
theorem IM {p:P Rat} (h:lc p=1):ag p=p:=by
 unfold ag;rw[h,Ed,bP,one_mul]
theorem jn {p:P Rat} (h:p≠0):ag p≠0:=a6 (d9 (fC (bN h))) h
theorem am.mo {h:Nat} {p:P Rat} (H:am h p):am h (ag p):=by
 rcases Classical.em (p=0)with rfl|hp
 ·rw[fR];exact am.zero h
 obtain⟨D,A,h1,h2,h3,h4⟩:=H;have hA:A≠0:=by
  rintro rfl;rw[cK]at h4;exact a6 (d9 (sv h1)) hp h4
 have e:hQ.f (lc A)=hQ.f D*lc p:=by
  rw[<-I3,<-h4,gU,mV]
 refine⟨lc A,A,bN hA,ax (jA A _) h3,h3,?_⟩;rw[e,<-h4,bC];show an (hQ.f D)*an (lc p)*(an (inv (lc p))*p)=_;have:an (lc p)*an (inv (lc p))=1:=by rw[<-bC,mul_inv (bN hp),bP]
 exact lc1 (an (hQ.f D)*p) this (ring [an (hQ.f D),an (lc p),an (inv (lc p)),p])
section
variable {F:Type} [CR F] [Fd F]
theorem ox (a b:P F) (hb:b≠0):∃ q r:P F,a=q*b+r/\aa r<aa b:=by
 obtain⟨k,q,r,e,hr⟩:=wj b hb _ a (ay _);have hl:pw (lc b) k≠0:=DS (bN hb) k;refine⟨an (inv (pw (lc b) k))*q,an (inv (pw (lc b) k))*r,?_,by rw[bW (fC hl)];exact hr⟩;have:an (inv (pw (lc b) k))*an (pw (lc b) k)=1:=by rw[<-bC,cA hl,bP]
 generalize an (inv (pw (lc b) k))=x at *
 generalize an (pw (lc b) k)=y at *
 exact lc2 (-a) x this e (ring [a,x,y,q,r,b])
theorem vW {p q:P F} (h:aa q<aa p):aa (p+q)=aa p :=
 jU (fun i hi=>by rw[ce,aO hi,aO aw,add_zero]) fun h0 e=>by
  rw[ce,aO (p:=q) aw,add_zero]at e;exact kD h0 e
theorem sB {q r q' r' b:P F} (e:q*b+r=q'*b+r') (hr:aa r<aa b) (hr':aa r'<aa b):q=q'/\r=r':=by
 have hb:b≠0:=fun h=>by rw[aM.2 h]at hr;omega
 have h1:(q-q')*b=r'-r:=lc1 1 e (ring [q,q',r,r',b]);have h2:q-q'=0:=by
  rcases Classical.em (q-q'=0)with h|h
  ·exact h
  have h3:=dz h hb;have h4:=aR h;have h5:aa (r'-r)<=aa b-1:=gB aw aw;rw[<-h1,h3]at h5;omega
 refine⟨fT h2,?_⟩;rw[h2,zero_mul]at h1;exact(fT h1.symm).symm
theorem bezout:∀(n:Nat) (a b:P F),aa b<=n->(∃ g s t,g=s*a+t*b/\IsG g a b):=by
 intro n
 induction n with
 | zero =>
  intro a b h;have:b=0:=aM.1 aw;subst this;exact⟨a,1,0,ring [a],Dv.refl a,Dv.zero a,fun d h _=>h⟩
 | succ n ih =>
  intro a b h;rcases Classical.em (b=0)with rfl|hb
  ·exact⟨a,1,0,ring [a],Dv.refl a,Dv.zero a,fun d h _=>h⟩
  obtain⟨q,r,e,hr⟩:=ox a b hb;obtain⟨g,s,t,hg,h1,h2,h3⟩:=ih b r aw;refine⟨g,t,s-t*q,lc2 1 (-t) hg e (ring [g,s,t,q,r,a,b]),?_,h1,fun d da db=>h3 d db ?_⟩
  ·rw[e];exact(h1.mul_left q).add h2
  ·rw[e]at da;exact Dv.of_add da (db.mul_left q)
theorem C7 {a b:P F} (h:Cop a b):∃ s t,s*a+t*b=1:=by
 obtain⟨g,s,t,hg,h1,h2,_⟩:=bezout _ a b (ay _);obtain⟨x,hx⟩:=h g h1 h2;exact⟨x*s,x*t,by rw[hx,hg];exact ring [x,s,t,a,b]⟩
end
structure Row (n d p s t q s' t':P Rat):Prop where
 hp:p=s*n+t*d
 hq:q=s'*n+t'*d
 hu:∃ u,u≠0/\s*t'-s'*t=an u
 hlt:aa q<aa p
 ht:aa t'+aa p=aa n+1
 hn:aa p<=aa n
 hd:aa p<=aa d
def ah (w:Nat):Nat:=w+(w+2)*(2*w+1)
theorem small {n d p s t q s' t':P Rat} (row:Row n d p s t q s' t') {A B:P Int} {w:Nat} (hB:B≠0) (hv:n*toQ B=d*toQ A) (hA1:aa A<=w+1) (hA2:n1 A<=2 ^ w) (hB1:aa B<=w+1) (hB2:n1 B<=2 ^ w) :
  ∃(S T:P Int) (k:Rat),k≠0/\toQ S=an k*s'/\toQ T=an k*t'/\n1 S<=2 ^ ah w/\n1 T<=2 ^ ah w:=by
 obtain⟨hp,hq,⟨u,hu0,hu⟩,hlt,ht,hn,hd⟩:=row;have hp0:p≠0:=fun e=>by rw[aM.2 e]at hlt;omega
 have hn0:n≠0:=fun e=>by rw[aM.2 e]at hn;omega
 have hd0:d≠0:=fun e=>by rw[aM.2 e]at hd;omega
 have hA:A≠0:=by
  rintro rfl;rw[cK,mul_zero]at hv;exact a6 hn0 (dy hB) hv
 have hA':=dy hA;have hB':=dy hB;have id1:∀ x y:P Rat,(x*toQ A+y*toQ B)*n=toQ A*(x*n+y*d):=fun x y=>lc1 y hv (ring [x,y,n,d,toQ A,toQ B]);have e1:=id1 s t;rw[<-hp]at e1;generalize hpA:s*toQ A+t*toQ B=pA at *
 have hpA0:pA≠0:=by
  rintro rfl;rw[zero_mul]at e1;exact a6 hA' hp0 e1.symm
 have p1:=aR hp0;have p2:=aR hn0;have p3:=aR hd0;have p4:=aR hA;have p5:=aR hB;have p6:=aR hpA0;have z1:aa pA+aa n=aa A+aa p:=by
  have:=congrArg aa e1;rw[dz hpA0 hn0,dz hA' hp0,gr]at this;omega
 have z2:aa B+aa n=aa d+aa A:=by
  have:=congrArg aa hv;rw[dz hn0 hB',dz hd0 hA',gr,gr]at this;omega
 obtain⟨S,T,hST,hS,hT,hSc,hTc,hz⟩:=siegel A B (aa d+1-aa p) (aa n+1-aa p) (aa pA-1) (aa d+aa n+1-2*aa p) aw (by have:=OV hA;omega);have hR:aa (S*A+T*B)<=aa pA-1:=cm fun i hi=>by
  rcases Nat.lt_or_ge i (aa pA-1+(aa d+aa n+1-2*aa p))with h|h
  ·have:=hz (i-(aa pA-1)) aw;rwa [Nat.add_sub_cancel' hi]at this
  ·rw[ce,qa aw,qa aw,add_zero]
 have eR:toQ (S*A+T*B)*n=toQ A*(toQ S*n+toQ T*d):=by
  rw[kC,ck,ck];exact id1 _ _
 have hRn:aa (toQ S*n+toQ T*d)<aa p:=by
  rcases Classical.em (toQ S*n+toQ T*d=0)with h|h
  ·rw[h,aM.2 rfl];omega
  have h0:toQ (S*A+T*B)≠0:=fun e=>by
   rw[e,zero_mul]at eR;exact a6 hA' h eR.symm
  have h1:=aR h;have h2:=congrArg aa eR;rw[dz h0 hn0,dz hA' h,gr,gr]at h2;have h3:=aR h0;rw[gr]at h3;omega
 have eW:(toQ S*n+toQ T*d)*t'-q*toQ T=(toQ S*t'-s'*toQ T)*n:=by
  rw[hq];exact ring [toQ S,toQ T,n,d,s',t']
 have hW:toQ S*t'-s'*toQ T=0:=by
  rcases Classical.em (toQ S*t'-s'*toQ T=0)with h|h
  ·exact h
  exfalso;have h1:=bf (toQ S*n+toQ T*d) t';have h2:=bf q (toQ T);rw[gr]at h2;have h3:aa ((toQ S*n+toQ T*d)*t'-q*toQ T)<=aa n-1:=gB aw aw;rw[eW,dz h hn0]at h3;have:=aR h;omega
 have g1:t'*(s*toQ T-t*toQ S)=an u*toQ T:=lc2 (-t) (toQ T) hW hu (ring [t',s,t,s',toQ S,toQ T,an u]);have g2:s'*(s*toQ T-t*toQ S)=an u*toQ S:=lc2 (-s) (toQ S) hW hu (ring [t',s,t,s',toQ S,toQ T,an u]);have ht0:t'≠0:=fun e=>by rw[aM.2 e]at ht;omega
 generalize hG:s*toQ T-t*toQ S=G at *
 have hG0:G≠0:=by
  rintro rfl;rw[mul_zero]at g1 g2;rcases hST with h|h
  ·exact a6 (d9 hu0) (dy h) g2.symm
  ·exact a6 (d9 hu0) (dy h) g1.symm
 have hGs:aa G<=1:=by
  have h1:=congrArg aa g1;rw[dz ht0 hG0,bW hu0,gr]at h1;have:=aR ht0;omega
 have hGC:=dS hGs;generalize G.c 0=g at hGC;subst hGC;have hg0:g≠0:=by rintro rfl;exact hG0 cC
 have hiu:an (inv u)*an u=1:=by rw[<-bC,cA hu0,bP]
 have hm:aa d+aa n+1-2*aa p<=2*w+1:=aw;have hH:(2*(n1 A+n1 B)) ^ (aa d+aa n+1-2*aa p)<=2 ^ ((w+2)*(2*w+1)):=by
  have h1:2*(n1 A+n1 B)<=2 ^ (w+2):=by
   rw[show w+2=w+1+1 from rfl,Nat.pow_succ,Nat.pow_succ];omega
  rw[Nat.pow_mul];exact ax (Nat.pow_le_pow_left h1 _) (Nat.pow_le_pow_right (gz _) hm)
 have hw:w+1<=2 ^ w:=Nat.lt_two_pow_self;refine⟨S,T,inv u*g,a6 (fC hu0) hg0,?_,?_,?_,?_⟩
 ·rw[bC];exact lc2 (-toQ S) (-an (inv u)) hiu g2 (ring [toQ S,an (inv u),an u,an g,s'])
 ·rw[bC];exact lc2 (-toQ T) (-an (inv u)) hiu g1 (ring [toQ T,an (inv u),an u,an g,t'])
 ·refine ax (p9 hS fun i=>ax (hSc i) hH) (bh (ax ?_ hw) (ay _));omega
 ·refine ax (p9 hT fun i=>ax (hTc i) hH) (bh (ax ?_ hw) (ay _));omega
theorem Row.size {n d p s t q s' t':P Rat} (row:Row n d p s t q s' t') {A B:P Int} {w h:Nat} (hB:B≠0) (hv:n*toQ B=d*toQ A) (hA1:aa A<=w+1) (hA2:n1 A<=2 ^ w) (hB1:aa B<=w+1) (hB2:n1 B<=2 ^ w)
  (Hn:am h n) (Hd:am h d):am (2*(ah w+h)+1) (ag q):=by
 obtain⟨S,T,k,hk,e1,e2,h1,h2⟩:=small row hB hv hA1 hA2 hB1 hB2;have:am (ah w+h+(ah w+h)+1) (toQ S*n+toQ T*d):=((am.of h1).mul Hn).add ((am.of h2).mul Hd);have e:toQ S*n+toQ T*d=an k*q:=by rw[e1,e2,row.hq];exact ring [an k,s',t',n,d]
 rw[e]at this;have:=this.mo;rw[zT hk]at this;exact this.mono aw
theorem Row.scale {n d p s t q s' t':P Rat} (row:Row n d p s t q s' t') {a b:Rat} (ha:a≠0) (hb:b≠0):Row n d (an a*p) (an a*s) (an a*t) (an b*q) (an b*s') (an b*t'):=by
 obtain⟨hp,hq,⟨u,hu0,hu⟩,hlt,ht,hn,hd⟩:=row;refine⟨by rw[hp];exact ring [an a,s,n,t,d],by rw[hq];exact ring [an b,s',n,t',d],⟨a*b*u,a6 (a6 ha hb) hu0,?_⟩,?_,?_,?_,?_⟩
 ·rw[bC,bC,<-hu];exact ring [an a,an b,s,t,s',t']
 ·rw[bW ha,bW hb];exact hlt
 ·rw[bW ha,bW hb];exact ht
 ·rw[bW ha];exact hn
 ·rw[bW ha];exact hd
theorem Row.first {n d Q r:P Rat} {k:Rat} (hk:k≠0) (hd:d≠0) (hle:aa d<=aa n) (e:an k*n=Q*d+r) (hr:aa r<aa d):Row n d d 0 1 r (an k) (-Q):=by
 have hn0:n≠0:=fun h=>by rw[aM.2 h]at hle;have:=aR hd;omega
 have h1:aa (Q*d)=aa n:=by
  have:Q*d=an k*n + -r:=lc1 (-1) e (ring [Q,d,an k,n,r]);rw[this,vW (by rw[kQ,bW hk];omega),bW hk]
 have hQ0:Q≠0:=by
  rintro rfl;rw[zero_mul,aM.2 rfl]at h1;have:=aR hn0;omega
 refine⟨ring [n,d],lc1 (-1) e (ring [Q,d,an k,n,r]),⟨-k,xQ hk,?_⟩,hr,?_,hle,ay _⟩
 ·rw[kM];exact ring [Q,an k]
 ·rw[kQ];rw[dz hQ0 hd]at h1;have:=aR hQ0;omega
theorem Row.next {n d p s t q s' t' Q r:P Rat} (row:Row n d p s t q s' t') {k:Rat} (hk:k≠0) (hq0:q≠0) (e:an k*p=Q*q+r) (hr:aa r<aa q):Row n d q s' t' r (an k*s-Q*s') (an k*t-Q*t'):=by
 obtain⟨hp,hq,⟨u,hu0,hu⟩,hlt,ht,hn,hd⟩:=row;have hn0:n≠0:=fun h=>by rw[aM.2 h]at hn;omega
 have hr':r=(an k*s-Q*s')*n+(an k*t-Q*t')*d:=by
  have:r=an k*p-Q*q:=lc1 (-1) e (ring [Q,q,an k,p,r]);rw[this,hp,hq];exact ring [an k,s,n,t,d,Q,s',t']
 have hu':s'*(an k*t-Q*t')-(an k*s-Q*s')*t'=an (-(k*u)):=by
  rw[kM,bC,<-hu];exact ring [an k,s,t,s',t',Q]
 refine⟨hq,hr',⟨-(k*u),xQ (a6 hk hu0),hu'⟩,hr,?_,aw,aw⟩
 ·have h1:q*(an k*t-Q*t')=an (-(k*u))*n+r*t':=by
   rw[<-hu'];generalize an k*t-Q*t'=Y at *
   generalize an k*s-Q*s'=ak at *
   rw[hr',hq];exact ring [s',t',ak,Y,n,d]
  have hku:(-(k*u))≠0:=xQ (a6 hk hu0);have h2:=bf r t';have h3:aa (q*(an k*t-Q*t'))=aa n:=by
   rw[h1,vW (by rw[bW hku];have:=aR hn0;omega),bW hku]
  have h4:an k*t-Q*t'≠0:=by
   intro h;rw[h,mul_zero,aM.2 rfl]at h3;have:=aR hn0;omega
  rw[dz hq0 h4]at h3;have:=aR h4;have:=aR hq0;omega
theorem Row.last {n d p s t s' t':P Rat} (row:Row n d p s t 0 s' t'):IsG p n d:=by
 obtain⟨hp,hq,⟨u,hu0,hu⟩,hlt,ht,hn,hd⟩:=row;have hiu:an (inv u)*an u=1:=by rw[<-bC,cA hu0,bP]
 have e1:p*t'=an u*n:=by
  have a2:p*t'-0*t=(s*n+t*d)*t'-(s'*n+t'*d)*t:=by rw[<-hp,<-hq]
  rw[<-hu];exact lc1 1 a2 (ring [p,s,n,t,d,s',t'])
 have e2:p*s' = -(an u*d):=by
  have a2:p*s'-0*s=(s*n+t*d)*s'-(s'*n+t'*d)*s:=by rw[<-hp,<-hq]
  rw[<-hu];exact lc1 1 a2 (ring [p,s,n,t,d,s',t'])
 refine⟨⟨an (inv u)*t',?_⟩,⟨-(an (inv u)*s'),?_⟩,fun e h1 h2=>?_⟩
 ·exact lc2 (-n) (-an (inv u)) hiu e1 (ring [n,p,an (inv u),an u,t'])
 ·exact lc2 (-d) (an (inv u)) hiu e2 (ring [d,p,an (inv u),an u,s'])
 ·rw[hp];exact(h1.mul_left s).add (h2.mul_left t)
theorem Row.cop {n d p s t q s' t':P Rat} (row:Row n d p s t q s' t') (h:aa q=1):Cop n d:=by
 intro e h1 h2;have h3:Dv e q:=by rw[row.hq];exact(h1.mul_left s').add (h2.mul_left t')
 have h4:=dS (Nat.le_of_eq h);have h5:q.c 0≠0:=by
  have:=kD (p:=q) aw;rwa [h]at this
 rw[h4]at h3;refine h3.trans ⟨an (inv (q.c 0)),?_⟩;rw[<-bC,mul_inv h5,bP]
def bn:Nat->Nat->Nat
 | _,0=>1
 | 0,_+1=>0
 | n+1,k+1=>bn n k+bn n (k+1)
theorem yk:∀{n k:Nat},n<k->bn n k=0
 | 0,k+1,_=>by simp[bn]
 | n+1,k+1,h=>by simp only[bn];rw[yk aw,yk aw]
theorem EA:∀ n:Nat,bn n n=1
 | 0=>by simp[bn]
 | n+1=>by simp only[bn];rw[EA n,yk aw]
theorem yi:∀ n k:Nat,(k+1)*bn (n+1) (k+1)=(n+1)*bn n k
 | 0,0=>by simp[bn]
 | 0,k+1=>by simp[bn]
 | n+1,0=>by
  have h:=yi n 0;simp only[bn,Nat.zero_add,Nat.one_mul]at h ⊢;omega
 | n+1,k+1=>by
  have h1:=yi n k;have h2:=yi n (k+1);have e1:bn (n+1+1) (k+1+1)=bn (n+1) (k+1)+bn (n+1) (k+1+1):=by simp only[bn]
  have e2:bn (n+1) (k+1)=bn n k+bn n (k+1):=by simp only[bn]
  rw[e1,Nat.mul_add,h2,Nat.add_mul (k+1) 1,h1,Nat.one_mul];rw[Nat.add_mul (n+1) 1,Nat.one_mul];have e3:(n+1)*bn (n+1) (k+1)=(n+1)*bn n k+(n+1)*bn n (k+1):=by rw[e2,Nat.mul_add]
  omega
theorem l6 (f:Nat->Nat):∀ n,cT f (n+1)=f 0+cT (fun i=>f (i+1)) n
 | 0=>by simp[cT]
 | n+1=>by
  have h:=l6 f n;show cT f (n+1)+f (n+1)=f 0+(cT (fun i=>f (i+1)) n+f (n+1));omega
theorem binomial (a:Nat):∀ n,(a+1) ^ n=cT (fun k=>bn n k*a ^ k) (n+1)
 | 0=>by simp[cT,bn]
 | n+1=>by
  have ih:=binomial a n;have e1:cT (fun k=>bn (n+1) k*a ^ k) (n+1+1)=1+(cT (fun k=>a*(bn n k*a ^ k)) (n+1)+cT (fun k=>bn n (k+1)*a ^ (k+1)) (n+1)):=by
   rw[l6,<-zj];refine congr (congrArg _ (by simp[bn])) (gt fun k _=>?_);simp only[bn,Nat.pow_succ];rw[Nat.add_mul,<-Nat.mul_assoc a,Nat.mul_comm a,Nat.mul_assoc,Nat.mul_comm a (a ^ k)]
  have e2:1+cT (fun k=>bn n (k+1)*a ^ (k+1)) (n+1)=cT (fun k=>bn n k*a ^ k) (n+1):=by
   have e3:=l6 (fun k=>bn n k*a ^ k) (n+1);have e4:cT (fun k=>bn n k*a ^ k) (n+1+1)=cT (fun k=>bn n k*a ^ k) (n+1)+bn n (n+1)*a ^ (n+1):=rfl;rw[yk (Nat.lt_succ_self n),Nat.zero_mul,Nat.add_zero]at e4;have e5:cT (fun k=>bn n k*a ^ k) (n+1)=bn n 0*a ^ 0+cT (fun i=>bn n (i+1)*a ^ (i+1)) (n+1):=e4.symm.trans e3;rw[e5];simp[bn]
  rw[e1,tS,<-ih,Nat.pow_succ,Nat.mul_add,Nat.mul_one,Nat.mul_comm _ a];rw[<-ih]at e2;omega
theorem HN {p:Nat} {f:Nat->Nat} {n:Nat} (h:∀ i,i<n->p∣f i):p∣cT f n:=by
 induction n with
 | zero=>exact Nat.dvd_zero _
 | succ n ih=>exact Nat.dvd_add (ih fun i hi=>h i aw) (h n aw)
theorem fermat {p:Nat} (h1:1<p) (hp:∀ d,0<d->d<p->Nat.Coprime p d):∀ a:Nat,a ^ p % p=a % p
 | 0=>by rw[Nat.zero_pow aw]
 | a+1=>by
  have ih:=fermat h1 hp a;obtain⟨m,rfl⟩:∃ m,p=m+1:=⟨p-1,aw⟩;have hd:(m+1)∣cT (fun i=>bn (m+1) (i+1)*a ^ (i+1)) m:=by
   refine HN fun i hi=>Nat.dvd_mul_right_of_dvd ?_ _;have h2:=yi m i;exact(hp (i+1) aw aw).dvd_of_dvd_mul_left (h2 ▸ Nat.dvd_mul_right _ _)
  have e:(a+1) ^ (m+1)=1+cT (fun i=>bn (m+1) (i+1)*a ^ (i+1)) m+a ^ (m+1):=by
   rw[binomial,l6];show bn (m+1) 0*a ^ 0+(cT (fun i=>bn (m+1) (i+1)*a ^ (i+1)) m+bn (m+1) (m+1)*a ^ (m+1))=_;rw[EA];simp[bn];omega
  obtain⟨c,hc⟩:=hd;rw[e,hc,Nat.add_mod,ih,Nat.add_comm 1,Nat.mul_add_mod,<-Nat.add_mod,Nat.add_comm]
def ws (lo:Nat):Nat->Bool
 | 0=>2147483647 % lo != 0
 | k+1=>ws lo k && ws (lo+2 ^ k) k
theorem pd:∀{k lo:Nat},ws lo k=true->∀ d,lo<=d->d<lo+2 ^ k->2147483647 % d≠0
 | 0,lo,h,d,h1,h2=>by
  obtain rfl:d=lo:=by simp at h2;omega
  simpa [ws]using h
 | k+1,lo,h,d,h1,h2=>by
  simp only[ws,Bool.and_eq_true]at h;rcases Nat.lt_or_ge d (lo+2 ^ k)with h3|h3
  ·exact pd h.1 d h1 h3
  ·exact pd h.2 d h3 (by rw[Nat.pow_succ]at h2;omega)
theorem Gc:ws 2 16=true:=aE
theorem OU (d:Nat) (h0:0<d) (h1:d<2147483647):Nat.Coprime 2147483647 d:=by
 let g:=Nat.gcd 2147483647 d
 have hg:g∣2147483647:=Nat.gcd_dvd_left _ _;have hgd:g<=d:=Nat.le_of_dvd h0 (Nat.gcd_dvd_right _ _);have hg0:0<g:=Nat.gcd_pos_of_pos_left _ aw;rcases Nat.lt_or_ge 1 g with hg1|hg1
 ·exfalso;obtain⟨e,he⟩:=hg;have he0:0<e:=Nat.pos_of_ne_zero fun h=>by rw[h]at he;omega
  have key:∀ x,2<=x->x<65538->2147483647 % x≠0:=fun x h2 h3=>pd Gc x h2 aw;rcases Nat.lt_or_ge g 46341 with h2|h2
  ·exact key g hg1 aw (by rw[he];exact Nat.mul_mod_right _ _)
  ·have he1:e<46341:=by
    rcases Nat.lt_or_ge e 46341 with h3|h3
    ·exact h3
    ·have:=Nat.mul_le_mul h2 h3;omega
   have he2:2<=e:=by
    rcases Nat.lt_or_ge e 2 with h3|h3
    ·obtain rfl:e=1:=aw;omega
    ·exact h3
   exact key e he2 aw (by rw[he];exact Nat.mul_mod_left _ _)
 ·exact Nat.le_antisymm hg1 hg0
theorem Jx {p:Nat} (h0:0<p) (hp:∀ d,0<d->d<p->Nat.Coprime p d) {a b:Nat} (h:p∣a*b):p∣a\/p∣b:=by
 by_cases ha:a % p=0
 ·exact .inl (Nat.dvd_of_mod_eq_zero ha)
 ·refine .inr ?_;have hc:=hp (a % p) aw (Nat.mod_lt _ h0);refine hc.dvd_of_dvd_mul_left ?_;rw[Nat.dvd_iff_mod_eq_zero]at h ⊢;rw[Nat.mul_mod,Nat.mod_mod,<-Nat.mul_mod];exact h
theorem CG {m:Nat} (hp:∀ d,0<d->d<m+2->Nat.Coprime (m+2) d) (a:Nat) (ha:a % (m+2)≠0):a ^ m*a % (m+2)=1:=by
 have h:=fermat aw hp a;have e:a ^ (m+2)=a*(a ^ m*a):=by rw[show m+2=m+1+1 from rfl,Nat.pow_succ,Nat.pow_succ,Nat.mul_comm]
 have ha0:0<a:=Nat.pos_of_ne_zero fun h=>ha (by rw[h,Nat.zero_mod]);have hpos:0<a ^ m*a:=Nat.mul_pos (Nat.pow_pos ha0) ha0;have h2:(m+2)∣a*(a ^ m*a-1):=by
  rw[Nat.mul_sub,Nat.mul_one,<-e];exact(Nat.dvd_iff_mod_eq_zero).2 (Nat.sub_mod_eq_zero_of_mod_eq h)
 rcases Jx aw hp h2 with h3|h3
 ·exact absurd (Nat.mod_eq_zero_of_dvd h3) ha
 ·obtain⟨c,hc⟩:=h3;rw[show a ^ m*a=(m+2)*c+1 by omega,Nat.mul_add_mod];exact Nat.mod_eq_of_lt aw
abbrev Zp:Type:=Fin 2147483647
instance:CR Zp where
 toAdd:=inferInstanceAs (Add (Fin 2147483647))
 toMul:=inferInstanceAs (Mul (Fin 2147483647))
 toNeg:=inferInstanceAs (Neg (Fin 2147483647))
 toSub:=inferInstanceAs (Sub (Fin 2147483647))
 toZero:=⟨(0:Fin 2147483647)⟩
 toOne:=⟨(1:Fin 2147483647)⟩
 add_assoc:=Lean.Grind.Semiring.add_assoc (α:=Fin 2147483647)
 add_comm:=Lean.Grind.Semiring.add_comm (α:=Fin 2147483647)
 add_zero:=Lean.Grind.Semiring.add_zero (α:=Fin 2147483647)
 neg_add:=Lean.Grind.AddCommGroup.neg_add_cancel (M:=Fin 2147483647)
 sub_eq:=Lean.Grind.AddCommGroup.sub_eq_add_neg (M:=Fin 2147483647)
 mul_assoc:=Lean.Grind.Semiring.mul_assoc (α:=Fin 2147483647)
 mul_comm:=Lean.Grind.CommSemiring.mul_comm (α:=Fin 2147483647)
 mul_one:=Lean.Grind.Semiring.mul_one (α:=Fin 2147483647)
 mul_add:=Lean.Grind.Semiring.left_distrib (α:=Fin 2147483647)
theorem Bs (a b:Zp):(a+b).val=(a.val+b.val) % 2147483647:=rfl
theorem tz (a b:Zp):(a*b).val=a.val*b.val % 2147483647:=rfl
theorem lV {a b:Zp} (h:a.val=b.val):a=b:=Fin.ext h
theorem P7 {a:Zp}:a≠0↔a.val≠0:=⟨fun h e=>h (lV e),fun h e=>h (by rw[e];rfl)⟩
theorem Nr (a:Zp):∀ n,(pw a n).val=a.val ^ n % 2147483647
 | 0=>rfl
 | n+1=>by
  show(pw a n*a).val=_;rw[tz,Nr a n,Nat.pow_succ]
  conv=>lhs;rw[Nat.mul_mod,Nat.mod_mod,<-Nat.mul_mod]
theorem KT {a:Zp} (h:a≠0) (m:Nat) (hm:m+2=2147483647):pw a m*a=1:=by
 refine lV ?_;rw[tz,Nr];have h1:a.val % (m+2)≠0:=by
  have:=a.isLt;rw[hm,Nat.mod_eq_of_lt aw];exact P7.1 h
 have h2:=CG (m:=m) (by rw[hm];exact OU) a.val h1;rw[hm]at h2;rw[Nat.mul_mod,Nat.mod_mod,<-Nat.mul_mod];exact h2
theorem Bq {a:Zp} (h:a≠0):pw a 2147483645*a=1:=KT h _ rfl
instance:Fd Zp where
 inv a:=if a=0 then 0 else pw a 2147483645
 mul_inv a h:=by rw[if_neg h,mul_comm];exact Bq h
 inv_zero:=if_pos rfl
 one_ne:=by intro h;exact absurd (congrArg Fin.val h) aH
def af (z:Int):Zp:=⟨(z % 2147483647).toNat,aw⟩
theorem pf (z:Int):((af z).val:Int)=z % 2147483647:=by simp only[af];omega
theorem NC {z:Int} {a:Zp} (h:(a.val:Int)=z % 2147483647):af z=a:=lV (by have:=pf z;omega)
def hp:Hom Int Zp where
 f:=af
 zero:=rfl
 one:=rfl
 add a b:=NC (by
  have h:((af a+af b:Zp).val:Int)=((af a).val+(af b).val) % 2147483647:=by rw[Bs];simp
  rw[h,pf,pf,<-Int.add_emod])
 mul a b:=NC (by
  have h:((af a*af b:Zp).val:Int)=((af a).val*(af b).val) % 2147483647:=by rw[tz];simp
  rw[h,pf,pf,<-Int.mul_emod])
noncomputable def rq (q:Rat):Zp:=af q.num*inv (af q.den)
theorem OL {q:Rat} {D z:Int} (hq:af q.den≠0) (h:(D:Rat)*q=z):af D*rq q=af z:=by
 have h1:q*((q.den:Int):Rat)=(q.num:Rat):=cX q;have h2:z*(q.den:Int)=D*q.num:=by
  have:((z*(q.den:Int):Int):Rat)=((D*q.num:Int):Rat):=by
   rw[Rat.intCast_mul,Rat.intCast_mul,<-h,<-h1,Rat.mul_assoc]
  exact Rat.intCast_inj.1 this
 have h3:af z*af (q.den:Int)=af D*af q.num:=by
  have:=congrArg af h2;rw[show af (z*(q.den:Int))=af z*af (q.den:Int)from hp.mul _ _,show af (D*q.num)=af D*af q.num from hp.mul _ _]at this;exact this
 show af D*(af q.num*inv (af q.den))=af z;rw[<-mul_assoc,<-h3,mul_assoc,mul_inv hq,mul_one]
instance:sU Int where
 ex a b:=⟨(Int.gcd a b:Int),Int.gcd_dvd_left ..,Int.gcd_dvd_right ..,fun _ h1 h2=>Int.dvd_coe_gcd h1 h2⟩
theorem comden (p:P Rat):∀ n,(∀ i,i<n->af (p.c i).den≠0)->∃ D:Int,D≠0/\af D≠0/\∀ i,i<n->∃ z:Int,(D:Rat)*p.c i=z
 | 0,_=>⟨1,aH,aH,fun i hi=>by omega⟩
 | n+1,h=>by
  obtain⟨D,h1,h2,h3⟩:=comden p n fun i hi=>h i aw;have hd:((p.c n).den:Int)≠0:=by have:=(p.c n).den_nz;omega
  refine⟨D*(p.c n).den,Int.mul_ne_zero h1 hd,?_,fun i hi=>?_⟩
  ·rw[show af (D*(p.c n).den)=af D*af (p.c n).den from hp.mul _ _];exact a6 h2 (h n aw)
  ·rcases Nat.lt_or_ge i n with h4|h4
   ·obtain⟨z,hz⟩:=h3 i h4;refine⟨z*(p.c n).den,?_⟩;rw[Rat.intCast_mul,Rat.intCast_mul,<-hz];grind
   ·obtain rfl:i=n:=aw;refine⟨D*(p.c i).num,?_⟩;rw[Rat.intCast_mul,Rat.intCast_mul,<-cX (p.c i)];grind
theorem clear (p:P Rat) (x:P Zp) (hd:∀ i,i<aa p->af (p.c i).den≠0) (hx:∀ i,x.c i=rq (p.c i)):∃(D:Int) (A:P Int),D≠0/\af D≠0/\an (hQ.f D)*p=toQ A/\hp.m A=an (af D)*x:=by
 obtain⟨D,h1,h2,h3⟩:=comden p (aa p) hd;have hz:∀ i,∃ z:Int,(D:Rat)*p.c i=z:=fun i=>by
  rcases Nat.lt_or_ge i (aa p)with h|h
  ·exact h3 i h
  ·exact⟨0,by rw[aO h];exact Rat.mul_zero _⟩
 let z:Nat->Int:=fun i=>Classical.choose (hz i)
 have hz':∀ i,(D:Rat)*p.c i=z i:=fun i=>Classical.choose_spec (hz i);have z0:∀ i,aa p<=i->z i=0:=fun i hi=>by
  have:=hz' i;rw[aO hi]at this;exact Rat.intCast_inj.1 (this.symm.trans (Rat.mul_zero _))
 refine⟨D,⟨z,aa p,z0⟩,h1,h2,P.ext fun i=>?_,P.ext fun i=>?_⟩
 ·rw[bS];exact hz' i
 ·rw[bS,hx];have hden:af (p.c i).den≠0:=by
   rcases Nat.lt_or_ge i (aa p)with h|h
   ·exact hd i h
   ·rw[aO h];decide
  exact(OL hden (hz' i)).symm
theorem DT (d:P Rat) (h:d≠0):∃(k:Rat) (G:P Int),k≠0/\toQ G=an k*d/\Prm G:=by
 have hd:∃(D:Int) (A:P Int),D≠0/\an (hQ.f D)*d=toQ A:=by
  have:∀ n,∃ D:Int,D≠0/\∀ i,i<n->∃ z:Int,(D:Rat)*d.c i=z:=by
   intro n
   induction n with
   | zero=>exact⟨1,aH,fun i hi=>by omega⟩
   | succ n ih =>
    obtain⟨D,h1,h3⟩:=ih;have hd:((d.c n).den:Int)≠0:=by have:=(d.c n).den_nz;omega
    refine⟨D*(d.c n).den,Int.mul_ne_zero h1 hd,fun i hi=>?_⟩;rcases Nat.lt_or_ge i n with h4|h4
    ·obtain⟨z,hz⟩:=h3 i h4;exact⟨z*(d.c n).den,by rw[Rat.intCast_mul,Rat.intCast_mul,<-hz];grind⟩
    ·obtain rfl:i=n:=aw;exact⟨D*(d.c i).num,by rw[Rat.intCast_mul,Rat.intCast_mul,<-cX (d.c i)];grind⟩
  obtain⟨D,h1,h3⟩:=this (aa d);have hz:∀ i,∃ z:Int,(D:Rat)*d.c i=z:=fun i=>by
   rcases Nat.lt_or_ge i (aa d)with h|h
   ·exact h3 i h
   ·exact⟨0,by rw[aO h];exact Rat.mul_zero _⟩
  let z:Nat->Int:=fun i=>Classical.choose (hz i)
  have hz':∀ i,(D:Rat)*d.c i=z i:=fun i=>Classical.choose_spec (hz i);refine⟨D,⟨z,aa d,fun i hi=>?_⟩,h1,P.ext fun i=>?_⟩
  ·have:=hz' i;rw[aO hi]at this;exact Rat.intCast_inj.1 (this.symm.trans (Rat.mul_zero _))
  ·rw[bS];exact hz' i
 obtain⟨D,A,h1,h2⟩:=hd;have hA:A≠0:=fun e=>by
  rw[e,cK]at h2;rcases zero_of_mul h2 with h3|h3
  ·exact d9 (sv h1) h3
  ·exact h h3
 obtain⟨c,G,h3,h4,h5,_⟩:=mf hA;refine⟨inv (hQ.f c)*hQ.f D,G,a6 (fC (sv h3)) (sv h1),?_,h5⟩;rw[bC,mul_assoc,h2,h4,ck,pO,<-mul_assoc,<-bC,cA (sv h3),bP,one_mul]
theorem DU {G A:P Int} (hG:Prm G) (h:Dv (toQ G) (toQ A)):Dv G A:=by
 by_cases hA:A=0
 ·rw[hA];exact Dv.zero _
 obtain⟨S,hS⟩:=h;have hS0:S≠0:=fun e=>dy hA (by rw[hS,e,mul_zero]);obtain⟨k,T,hk,hT,_⟩:=DT S hS0;have hkd:((k.den:Int):Rat)*k=k.num:=by rw[Rat.mul_comm];exact cX k
 have hkn:k.num≠0:=fun e=>hk (Rat.num_eq_zero.1 e);refine hG.dvd (c:=k.num) hkn ⟨an (k.den:Int)*T,?_⟩;have:toQ (an k.num*A)=toQ (G*(an (k.den:Int)*T)):=by
  rw[ck,pO,hS,ck,ck,pO,hT,show hQ.f k.num=hQ.f (k.den:Int)*k from hkd.symm,bC];exact ring [an (hQ.f (k.den:Int)),an k,toQ G,S]
 refine fT (Classical.byContradiction fun h=>?_);exact dy h (by rw[xu,this,sub_self])
theorem LD {a b:P Rat} {x y:P Zp} (ha:a≠0) (hda:∀ i,i<aa a->af (a.c i).den≠0) (hx:∀ i,x.c i=rq (a.c i)) (hl:x.c (aa a-1)≠0)
  (hdb:∀ i,i<aa b->af (b.c i).den≠0) (hy:∀ i,y.c i=rq (b.c i)) (hc:∀ g:P Zp,Dv g x->Dv g y->aa g<=1):Cop a b:=by
 intro d hd1 hd2;have hd0:d≠0:=hd1.ne ha;obtain⟨k,G,hk,hG,hGp⟩:=DT d hd0;obtain⟨D,A,hD,hD',hA,hA'⟩:=clear a x hda hx;obtain⟨E,B,hE,hE',hB,hB'⟩:=clear b y hdb hy;have hGd:Dv (toQ G) d:=⟨an (inv k),by rw[hG,mul_comm (an k),mul_assoc,<-bC,mul_inv hk,bP,mul_one]⟩;obtain⟨S,hS⟩:=DU hGp (A:=A) (by rw[<-hA];exact(hGd.trans hd1).mul_left _);obtain⟨T,hT⟩:=DU hGp (A:=B) (by rw[<-hB];exact(hGd.trans hd2).mul_left _);have down:∀{x:P Zp} {c:Zp} {g:P Zp},c≠0->Dv g (an c*x)->Dv g x:=fun{x c g} hc h=>by
  have:=h.mul_left (an (inv c));rwa [<-mul_assoc,<-bC,cA hc,bP,one_mul]at this
 have g1:Dv (hp.m G) x:=down hD' ⟨hp.m S,by rw[<-hA',hS,hp.m_mul]⟩;have g2:Dv (hp.m G) y:=down hE' ⟨hp.m T,by rw[<-hB',hT,hp.m_mul]⟩;have hs:=hc _ g1 g2;have hGs:aa G=aa d:=by rw[<-gr,hG,bW hk]
 have hsA:aa A=aa a:=by rw[<-gr,<-hA,bW (sv hD)]
 have hA0:A≠0:=fun e=>ha (aM.1 (by rw[<-hsA];exact aM.2 e));have hlcA:af (lc A)≠0:=by
  have h1:=congrArg (fun p:P Zp=>p.c (aa a-1)) hA';simp only[bS]at h1;rw[show lc A=A.c (aa a-1)by rw[lc,hsA]];show(hp.m A).c (aa a-1)≠0;rw[h1];exact a6 hD' hl
 have hlcG:af (lc G)≠0:=by
  intro e;apply hlcA;rw[hS,gU,show af (lc G*lc S)=af (lc G)*af (lc S)from hp.mul _ _,e,zero_mul]
 have hG0:G≠0:=hGp.ne;have hsG:aa G<=aa (hp.m G):=by
  have:=QY (p:=hp.m G) (i:=aa G-1) hlcG;have:=aR hG0;omega
 have h1:aa d<=1:=aw;have h2:=aR hd0;rw[dS h1];have h3:d.c 0≠0:=by
  have:=bN hd0;rwa [lc,show aa d-1=0 by omega]at this
 exact⟨an (inv (d.c 0)),by rw[<-bC,mul_inv h3];rfl⟩
end Alg
namespace Go.AM
open Alg
open Go.Proofs
abbrev PQ:=Alg.P Rat
noncomputable def toP (L:List Tm):PQ:=L.foldr (fun t q=>mon t.1.a.toNat t.2+q) 0
def Uv1 (e:Ex):Prop:=0<=e.a/\e.b=0/\e.c=0/\e.d=0
theorem oA (e f:Ex):cp e f = -cp f e:=by unfold cp vN;(repeat' split)<;>omega
theorem jS {e f:Ex} (he:Uv1 e) (hf:Uv1 f):0<cp e f↔f.a<e.a:=by
 obtain⟨_,k2,k3,k4⟩:=he;obtain⟨_,l2,l3,l4⟩:=hf;rw[i7];omega
def Uv (L:List Tm):Prop:=∀ t∈L,Uv1 t.1
structure Cn (L:List Tm):Prop where
 srt:Srt L
 nz:∀ t∈L,t.2≠0
 uv:Uv L
theorem cI:toP []=0:=rfl
theorem bc (t:Tm) (L:List Tm):toP (t::L)=mon t.1.a.toNat t.2+toP L:=rfl
theorem o8 (L M:List Tm):toP (L++M)=toP L+toP M:=by
 induction L with
 | nil=>rw[List.nil_append,cI,zero_add]
 | cons t L ih=>rw[List.cons_append,bc,bc,ih,add_assoc]
theorem HI {L M:List Tm} (h:L.Perm M):toP L=toP M:=by
 induction h with
 | nil=>rfl
 | cons x _ ih=>rw[bc,bc,ih]
 | swap x y l=>rw[bc,bc,bc,bc,gh]
 | trans _ _ h1 h2=>exact h1.trans h2
theorem tM (f:Tm->Bool):∀(L:List Tm),(∀ t∈L,f t=false->t.2=0)->toP (L.filter f)=toP L
 | [],_=>rfl
 | t::L,h=>by
  have ih:=tM f L fun t ht=>h t (by simp[ht]);rw[List.filter_cons];cases hf:f t with
  | true=>simp only[if_true];rw[bc,bc,ih]
  | false =>
   have h0:=h t au hf;simp only[Bool.false_eq_true,if_false];rw[ih,bc,h0,show(0:Rat)=(0:Rat)from rfl];have:mon t.1.a.toNat (0:Rat)=0:=jH _;rw[this,zero_add]
theorem zi (e:Ex) (c:Rat):∀ L,toP (addT L e c)=toP L+mon e.a.toNat c
 | []=>by rw[addT,bc,cI,add_zero,zero_add]
 | x::L=>by
  rw[addT];split
  ·rename_i h;rw[bc,bc,h];have:mon x.1.a.toNat (x.2+c)=mon x.1.a.toNat x.2+mon x.1.a.toNat c:=xS _ _ _;show mon x.1.a.toNat (x.2+c)+toP L=_;rw[this,add_assoc,add_assoc,add_comm (mon x.1.a.toNat c)]
  ·rw[bc,bc,zi e c L,add_assoc]
theorem AL {e:Ex} {c:Rat}:∀{L:List Tm} {t:Tm},t∈addT L e c->t.1=e\/∃ u∈L,u.1=t.1
 | [],t,h=>by simp[addT]at h;exact .inl (by rw[h])
 | x::L,t,h=>by
  rw[addT]at h;split at h
  ·rename_i he;rcases List.mem_cons.1 h with rfl|h
   ·exact .inl rfl
   ·exact .inr ⟨t,by simp[h],rfl⟩
  ·rcases List.mem_cons.1 h with rfl|h
   ·exact .inr ⟨t,au,rfl⟩
   ·rcases AL h with h|⟨u,hu,h⟩
    ·exact .inl h
    ·exact .inr ⟨u,by simp[hu],h⟩
theorem MD {L:List Tm} {e:Ex} {c:Rat} (h:Uv L) (he:Uv1 e):Uv (addT L e c):=fun t ht=>by
 rcases AL ht with h1|⟨u,hu,h1⟩
 ·rw[h1];exact he
 ·rw[<-h1];exact h u hu
theorem tI {e f:Ex} (h:Uv1 e) (h':Uv1 f):Uv1 (e.add f)/\(e.add f).a.toNat=e.a.toNat+f.a.toNat:=by
 obtain⟨h1,h2,h3,h4⟩:=h;obtain⟨k1,k2,k3,k4⟩:=h';unfold Ex.add Uv1;dsimp only;omega
theorem HZ {x:Tm} (hx:Uv1 x.1):∀{b:List Tm} (M:List Tm),Uv b->Uv M->Uv (rowM x b M)/\toP (rowM x b M)=toP M+mon x.1.a.toNat x.2*toP b
 | [],M,_,hM=>⟨hM,by show toP M=_;rw[cI,mul_zero,add_zero]⟩
 | y::b,M,hb,hM=>by
  obtain⟨h1,h2⟩:=tI hx (hb y au);obtain⟨h3,h4⟩:=HZ (b:=b) hx (addT M (x.1.add y.1) (x.2*y.2)) (fun t ht=>hb t (by simp[ht])) (MD hM h1);refine⟨h3,?_⟩;show toP (rowM x b (addT M (x.1.add y.1) (x.2*y.2)))=_;rw[h4,zi,h2,bc,mul_add,show mon (x.1.a.toNat+y.1.a.toNat) (x.2*y.2)=mon x.1.a.toNat x.2*mon y.1.a.toNat y.2 from(dV _ _ _ _).symm,add_assoc]
theorem HP {b:List Tm} (hb:Uv b):∀{a:List Tm} (M:List Tm),Uv a->Uv M->Uv (sumM a b M)/\toP (sumM a b M)=toP M+toP a*toP b
 | [],M,_,hM=>⟨hM,by show toP M=_;rw[cI,zero_mul,add_zero]⟩
 | x::a,M,ha,hM=>by
  obtain⟨h1,h2⟩:=HZ (b:=b) (ha x au) M hb hM;obtain⟨h3,h4⟩:=HP hb (a:=a) (rowM x b M) (fun t ht=>ha t (by simp[ht])) h1;refine⟨h3,?_⟩;show toP (sumM a b (rowM x b M))=_;rw[h4,h2,bc,add_mul,add_assoc]
theorem JK {L:List Tm} (hn:(L.map (·.1)).Nodup) (hu:Uv L):Cn (vM L)/\toP (vM L)=toP L:=by
 have hp:=li (L.filter keep);have hk:∀ t∈L,keep t=decide (t.2≠0):=fun t ht=>by
  obtain⟨h1,h2,h3,h4⟩:=hu t ht;have:dc t.1:=by unfold dc;omega
  simp[keep,this]
 refine⟨⟨tW ((List.Sublist.map _ List.filter_sublist).nodup hn),fun t ht=>?_,fun t ht=>?_⟩,?_⟩
 ·have h:=List.mem_filter.1 (hp.mem_iff.1 ht);have:=h.2;rw[hk t h.1]at this;simpa using this
 ·exact hu t (List.mem_filter.1 (hp.mem_iff.1 ht)).1
 ·rw[vM,HI hp];refine tM _ _ fun t ht h=>?_;rw[hk t ht]at h;simpa using h
theorem dN {x:Tm} {L:List Tm} (h:Cn (x::L)):Cn L:=⟨(List.pairwise_cons.1 h.srt).2,fun t ht=>h.nz t (by simp[ht]),fun t ht=>h.uv t (by simp[ht])⟩
theorem sE {x:Tm} {L:List Tm} (h:Cn (x::L)):∀ t∈L,t.1.a<x.1.a:=fun t ht=>by
 have h1:=(List.pairwise_cons.1 h.srt).1 t ht;rw[i7]at h1;obtain⟨_,k2,k3,k4⟩:=h.uv x au;obtain⟨_,l2,l3,l4⟩:=h.uv t (by simp[ht]);omega
theorem pP:∀{L:List Tm} {n:Nat},(∀ t∈L,t.1.a<n/\0<=t.1.a)->∀ i,n<=i->(toP L).c i=0
 | [],_,_,_,_=>rfl
 | t::L,n,h,i,hi=>by
  rw[bc,ce,pP (fun t ht=>h t (by simp[ht])) i hi,bY,if_neg]
  ·exact add_zero _
  ·have:=h t au;omega
theorem mB {x:Tm} {L:List Tm} (h:Cn (x::L)):aa (toP (x::L))=x.1.a.toNat+1/\(toP (x::L)).c x.1.a.toNat=x.2:=by
 have hx:=h.uv x au;have hc:∀ i,x.1.a.toNat<=i->(toP L).c i=0:=pP fun t ht=>by
  have:=sE h t ht;have:=(dN h).uv t ht;unfold Uv1 at this hx;omega
 have h1:(toP (x::L)).c x.1.a.toNat=x.2:=by
  rw[bc,ce,hc _ (ay _),bY,if_pos rfl];exact add_zero _
 refine⟨jU (fun i hi=>?_) (fun _=>?_),h1⟩
 ·rw[bc,ce,hc _ aw,bY,if_neg aw];exact add_zero _
 ·rw[Nat.add_sub_cancel,h1];exact h.nz x au
theorem Ew:∀{L:List Tm},Cn L->∀ t∈L,(toP L).c t.1.a.toNat=t.2
 | x::L,h,t,ht=>by
  rcases List.mem_cons.1 ht with rfl|ht
  ·exact(mB h).2
  ·have h1:=sE h t ht;have h2:=h.uv x au;have h3:=(dN h).uv t ht;rw[bc,ce,Ew (dN h) t ht,bY,if_neg]
   ·exact zero_add _
   ·unfold Uv1 at h2 h3;omega
theorem Eu:∀{L M:List Tm},Cn L->Cn M->toP L=toP M->L=M
 | [],[],_,_,_=>rfl
 | [],y::M,_,h,e=>by
  have:=(mB h).1;rw[<-e,cI,aM.2 rfl]at this;omega
 | x::L,[],h,_,e=>by
  have:=(mB h).1;rw[e,cI,aM.2 rfl]at this;omega
 | x::L,y::M,h,h',e=>by
  obtain⟨h1,h2⟩:=mB h;obtain⟨k1,k2⟩:=mB h';have hx:=h.uv x au;have hy:=h'.uv y au;unfold Uv1 at hx hy;have ea:x.1=y.1:=by
   have:x.1.a=y.1.a:=by rw[e,k1]at h1;omega
   rcases hx1:x.1 with⟨a,b,c,d⟩;rcases hy1:y.1 with⟨a',b',c',d'⟩;rw[hx1]at hx this;rw[hy1]at hy this;simp only[Ex.mk.injEq]at *
   omega
  have eb:x.2=y.2:=by rw[<-h2,<-k2,e,ea]
  have exy:x=y:=Prod.ext ea eb;subst exy;rw[bc,bc]at e;rw[Eu (dN h) (dN h') (gm e)]
theorem JL:∀(n:Nat) (p:PQ),aa p<=n->∃ L,Cn L/\toP L=p/\L.length<=aa p/\∀ t∈L,t.1.a<aa p
 | 0,p,h=>⟨[],⟨List.Pairwise.nil,au,by intro t ht;simp at ht⟩,(aM.1 aw).symm,au,au⟩
 | n+1,p,h=>by
  by_cases hp:p=0
  ·exact⟨[],⟨List.Pairwise.nil,au,by intro t ht;simp at ht⟩,hp.symm,au,au⟩
  have h0:=aR hp;have hlow:aa (p-mon (aa p-1) (lc p))<=aa p-1:=cm fun i hi=>by
   rw[i9,bY];by_cases e:i=aa p-1
   ·subst e;rw[if_pos rfl];exact sub_self _
   ·rw[if_neg e,aO aw];exact sub_self _
  obtain⟨L,h1,h2,h3,h4⟩:=JL n _ (by omega:aa (p-mon (aa p-1) (lc p))<=n);refine⟨(⟨((aa p-1:Nat):Int),0,0,0⟩,lc p)::L,⟨List.pairwise_cons.2 ⟨fun t ht=>?_,h1.srt⟩,fun t ht=>?_,fun t ht=>?_⟩,?_,by simp only[List.length_cons];omega,fun t ht=>?_⟩
  ·refine(jS ⟨au,rfl,rfl,rfl⟩ (h1.uv t ht)).2 ?_;have:=h4 t ht;show t.1.a<((aa p-1:Nat):Int);omega
  ·rcases List.mem_cons.1 ht with rfl|ht
   ·exact bN hp
   ·exact h1.nz t ht
  ·rcases List.mem_cons.1 ht with rfl|ht
   ·exact⟨au,rfl,rfl,rfl⟩
   ·exact h1.uv t ht
  ·rw[bc,h2];simp only[Int.toNat_natCast];exact ring [mon (aa p-1) (lc p),p]
  ·rcases List.mem_cons.1 ht with rfl|ht
   ·simp only;omega
   ·have:=h4 t ht;omega
noncomputable def U (p:PQ):List Tm:=Classical.choose (JL _ p (ay _))
theorem yr (p:PQ):Cn (U p)/\toP (U p)=p/\(U p).length<=aa p/\∀ t∈U p,t.1.a<aa p:=Classical.choose_spec (JL _ p (ay _))
theorem ky (p:PQ):Cn (U p):=(yr p).1
theorem im (p:PQ):toP (U p)=p:=(yr p).2.1
theorem dF (p:PQ):(U p).length<=aa p:=(yr p).2.2.1
theorem vR {L:List Tm} (h:Cn L) {p:PQ} (e:toP L=p):L=U p:=Eu h (ky p) (by rw[im,e])
theorem cq:U 0=[]:=(vR ⟨List.Pairwise.nil,au,by intro t ht;simp at ht⟩ rfl).symm
theorem nX {p:PQ}:U p=[]↔p=0:=⟨fun h=>by rw[<-im p,h];rfl,fun h=>by rw[h,cq]⟩
theorem nY {p:PQ} {t:Tm} (h:t∈U p):∃ i:Nat,i<aa p/\t=(⟨i,0,0,0⟩,p.c i)/\p.c i≠0:=by
 have h1:=Ew (ky p) t h;rw[im]at h1;have h2:=(yr p).2.2.2 t h;obtain⟨k1,k2,k3,k4⟩:=(ky p).uv t h;have h3:=(ky p).nz t h;refine⟨t.1.a.toNat,aw,?_,by rw[h1];exact h3⟩;rcases t with⟨⟨a,b,c,d⟩,q⟩;simp only at *
 rw[h1];refine Prod.ext ?_ rfl;simp only[Ex.mk.injEq];omega
theorem gy {p:PQ} (h:p≠0):∃ L,U p=(⟨((aa p-1:Nat):Int),0,0,0⟩,lc p)::L:=by
 cases hU:U p with
 | nil=>exact absurd (nX.1 hU) h
 | cons x L =>
  refine⟨L,?_⟩;have hc:=ky p;rw[hU]at hc;obtain⟨h1,h2⟩:=mB hc;rw[<-hU,im]at h1 h2;obtain⟨k1,k2,k3,k4⟩:=hc.uv x au;rcases x with⟨⟨a,b,c,d⟩,q⟩;simp only at *
  congr 1;refine Prod.ext ?_ ?_
  ·simp only[Ex.mk.injEq];omega
  ·show q=lc p;rw[<-h2,lc,h1,Nat.add_sub_cancel]
theorem Rx (p q:PQ):Ge (U p) (U q)=U (p*q):=by
 obtain⟨h1,h2⟩:=HP (ky q).uv (a:=U p) [] (ky p).uv (by intro t ht;simp at ht);obtain⟨h3,h4⟩:=JK (tV (U p) (U q)) h1;exact vR h3 (by rw[h4,h2,im,im,cI,zero_add])
theorem oE (p:PQ) (c:Rat):eC (U p) c=U (p*an c):=by
 by_cases h:c=0
 ·rw[eC,if_pos h,h,show an (0:Rat)=0 from cC,mul_zero,cq]
 ·rw[eC,if_neg h];have hc:=ky p;refine vR (L:=(U p).map fun t=>(t.1,t.2*c)) ⟨(List.pairwise_map (f:=fun t:Tm=>(t.1,t.2*c)) (R:=fun x y:Tm=>0<cp x.1 y.1)).2 hc.srt,fun t ht=>?_,fun t ht=>?_⟩ ?_
  ·obtain⟨u,hu,rfl⟩:=List.mem_map.1 ht;exact a6 (hc.nz u hu) h
  ·obtain⟨u,hu,rfl⟩:=List.mem_map.1 ht;exact hc.uv u hu
  ·have:∀ L:List Tm,toP (L.map fun t=>(t.1,t.2*c))=toP L*an c:=by
    intro L
    induction L with
    | nil=>rw[List.map_nil,cI,zero_mul]
    | cons t L ih =>
     rw[List.map_cons,bc,bc,ih,add_mul];congr 1;rw[<-du,dV,Nat.add_zero]
   rw[this,im]
theorem yo:∀(n:Nat) (a b:List Tm),a.length+b.length<=n->Cn a->Cn b->Cn (gw a b)/\toP (gw a b)=toP a+toP b/\∀ k:Int,(∀ t∈a,t.1.a<k)->(∀ t∈b,t.1.a<k)->∀ t∈gw a b,t.1.a<k
 | _,[],b,_,_,hb=>by rw[hZ];exact⟨hb,by rw[cI,zero_add],fun k _ h=>h⟩
 | _,x::a,[],_,ha,_=>by rw[jM];exact⟨ha,by rw[cI,add_zero],fun k h _=>h⟩
 | 0,x::a,y::b,h,_,_=>by simp at h
 | n+1,x::a,y::b,h,ha,hb=>by
  simp only[List.length_cons]at h;have hx:=ha.uv x au;have hy:=hb.uv y au;have la:=sE ha;have lb:=sE hb;have hcx:(0<cp x.1 y.1↔y.1.a<x.1.a)/\(cp x.1 y.1<0↔x.1.a<y.1.a):=by
   refine⟨jS hx hy,?_⟩;rw[<-jS hy hx,oA x.1 y.1];omega
  have cons:∀(z:Tm) (R:List Tm),Uv1 z.1->z.2≠0->Cn R->(∀ t∈R,t.1.a<z.1.a)->Cn (z::R):=fun z R hz hz0 hR hlt =>
   ⟨List.pairwise_cons.2 ⟨fun t ht=>(jS hz (hR.uv t ht)).2 (hlt t ht),hR.srt⟩,fun t ht=>by
     rcases List.mem_cons.1 ht with rfl|ht
     ·exact hz0
     ·exact hR.nz t ht,fun t ht=>by
     rcases List.mem_cons.1 ht with rfl|ht
     ·exact hz
     ·exact hR.uv t ht⟩
  rw[jN];split
  ·rename_i c1;have c1':=hcx.1.1 c1;obtain⟨i1,i2,i3⟩:=yo n a (y::b) ar (dN ha) hb;refine⟨cons x _ hx (ha.nz x au) i1 (i3 _ la fun t ht=>?_),by rw[bc,i2,bc x a,add_assoc],fun k h1 h2 t ht=>?_⟩
   ·rcases List.mem_cons.1 ht with rfl|ht
    ·exact c1'
    ·have:=lb t ht;omega
   ·rcases List.mem_cons.1 ht with rfl|ht
    ·exact h1 t au
    ·exact i3 k (fun t ht=>h1 t (by simp[ht])) h2 t ht
  ·rename_i c1;split
   ·rename_i c2;have c2':=hcx.2.1 c2;obtain⟨i1,i2,i3⟩:=yo n (x::a) b ar ha (dN hb);refine⟨cons y _ hy (hb.nz y au) i1 (i3 _ (fun t ht=>?_) lb),by rw[bc,i2,bc y b];exact gh _ _ _,fun k h1 h2 t ht=>?_⟩
    ·rcases List.mem_cons.1 ht with rfl|ht
     ·exact c2'
     ·have:=la t ht;omega
    ·rcases List.mem_cons.1 ht with rfl|ht
     ·exact h2 t au
     ·exact i3 k h1 (fun t ht=>h2 t (by simp[ht])) t ht
   ·rename_i c2;have hea:x.1.a=y.1.a:=by
     have h3:¬ y.1.a<x.1.a:=fun h=>c1 (hcx.1.2 h);have h4:¬ x.1.a<y.1.a:=fun h=>c2 (hcx.2.2 h);omega
    obtain⟨i1,i2,i3⟩:=yo n a b aw (dN ha) (dN hb);have hm:mon x.1.a.toNat x.2+mon y.1.a.toNat y.2=mon x.1.a.toNat (x.2+y.2):=by
     rw[<-hea];exact(xS _ _ _).symm
    have hs:toP (x::a)+toP (y::b)=mon x.1.a.toNat (x.2+y.2)+(toP a+toP b):=by
     rw[bc,bc,<-hm];exact ring [mon x.1.a.toNat x.2,mon y.1.a.toNat y.2,toP a,toP b]
    split
    ·rename_i c3;refine⟨i1,?_,fun k h1 h2=>i3 k (fun t ht=>h1 t (by simp[ht])) fun t ht=>h2 t (by simp[ht])⟩;rw[i2,hs,c3,show mon x.1.a.toNat (0:Rat)=0 from jH _,zero_add]
    ·rename_i c3;refine⟨cons (x.1,x.2+y.2) _ hx c3 i1 (i3 _ la fun t ht=>?_),?_,fun k h1 h2 t ht=>?_⟩
     ·have:=lb t ht;simp only;omega
     ·rw[bc,i2,hs]
     ·rcases List.mem_cons.1 ht with rfl|ht
      ·exact h1 x au
      ·exact i3 k (fun t ht=>h1 t (by simp[ht])) (fun t ht=>h2 t (by simp[ht])) t ht
theorem EF (p q:PQ):gw (U p) (U q)=U (p+q):=by
 obtain⟨h1,h2,_⟩:=yo _ (U p) (U q) (ay _) (ky p) (ky q);exact vR h1 (by rw[h2,im,im])
theorem NX (p q:PQ):FI (U p) (U q)=U (p-q):=by
 rw[FI,oE,EF];congr 1;rw[show(-1:Rat) = -(1:Rat)from rfl,show an (-(1:Rat)) = -an (1:Rat)from kM _,show an (1:Rat)=1 from rfl];exact ring [p,q]
noncomputable abbrev iUp (p:PQ):IV:=iM (U p)
theorem rB {z:Int} {h:Nat} (H:z.natAbs<=2 ^ h):(lb z).length<=h/32+1:=by
 refine fI ?_;have h1:(4294967296:Int) ^ (h/32+1)=((2 ^ (32*(h/32+1)):Nat):Int):=by
  rw[show(4294967296:Int)=((2 ^ 32:Nat):Int)from rfl,<-Int.natCast_pow,<-Nat.pow_mul]
 rw[h1];have h2:2 ^ h<2 ^ (32*(h/32+1)):=Nat.pow_lt_pow_right aw aw;omega
theorem ir {q:Rat} {h k:Nat} (h1:q.num.natAbs<=2 ^ h) (h2:q.den<=2 ^ h) (hk:h/32+1<=k):QB k q :=
 ⟨ax (rB h1) hk,ax (rB (z:=(q.den:Int)) (by simpa using h2)) hk⟩
theorem HB.qb {h k:Nat} {p:PQ} (H:am h p) (hk:h/32+1<=k):∀ t∈U p,QB k t.2:=fun t ht=>by
 obtain⟨i,_,rfl,_⟩:=nY ht;exact ir (H.coef i).1 (H.coef i).2 hk
theorem Dd {p:PQ} {n:Int} (h:(aa p:Int)<=n) (hn:0<n):∀ t∈U p,t.1.lt n:=fun t ht=>by
 obtain⟨i,hi,rfl,_⟩:=nY ht;unfold Ex.lt;dsimp only;omega
theorem A8 {p q:PQ} {h k:Nat} (hp:am h p) (hq:am k q) (hh:h<=137438953000) (hk:k<=137438953000) (sp:aa p<=1048576) (sq:aa q<=1048576):Fn Tryz.prog 108 [iUp p,iUp q] [iUp (p+q)]:=by
 have:=yD (U p) (U q) (by have:=dF p;have:=dF q;omega) (HB.qb hp aw) (HB.qb hq aw);rwa [EF]at this
theorem qI {p q:PQ} {h k:Nat} (hp:am h p) (hq:am k q) (hh:h<=137438953000) (hk:k<=137438953000) (sp:aa p<=1048576) (sq:aa q<=1048576):Fn Tryz.prog 113 [iUp p,iUp q] [iUp (p-q)]:=by
 have:=EV (U p) (U q) (by have:=dF p;have:=dF q;omega) (HB.qb hp aw) (HB.qb hq aw);rwa [NX]at this
theorem GR {p:PQ} {c:Rat} {h:Nat} (hp:am h p) (hh:h<=274877906000) (sp:aa p<=1048576) (hc:QB 17179869184 c):Fn Tryz.prog 120 [iUp p,iQ c] [iUp (p*an c)]:=by
 have:=kk (U p) c (by have:=dF p;omega) (HB.qb hp aw) hc;rwa [oE]at this
def Bd (K:Int):List Tm->Nat->Prop
 | [],_=>True
 | t::L,S=>∃ z:Int,(K:Rat)*t.2=z/\z.natAbs<=S/\Bd K L (S-z.natAbs)
theorem Bd.mono {K:Int}:∀{L:List Tm} {S S':Nat},Bd K L S->S<=S'->Bd K L S'
 | [],_,_,_,_=>trivial
 | _::_,_,_,⟨z,h1,h2,h3⟩,h=>⟨z,h1,aw,h3.mono aw⟩
theorem Bd.get {K:Int}:∀{L:List Tm} {S:Nat},Bd K L S->∀ t∈L,∃ z:Int,(K:Rat)*t.2=z/\z.natAbs<=S
 | _::_,_,⟨z,h1,h2,h3⟩,t,ht=>by
  rcases List.mem_cons.1 ht with rfl|ht
  ·exact⟨z,h1,h2⟩
  ·obtain⟨y,k1,k2⟩:=h3.get t ht;exact⟨y,k1,aw⟩
theorem Bd.take {K:Int}:∀{L:List Tm} {S:Nat} (n:Nat),Bd K L S->Bd K (L.take n) S
 | [],_,n,_=>by simp[Bd]
 | _::_,_,0,_=>trivial
 | _::_,_,n+1,⟨z,h1,h2,h3⟩=>⟨z,h1,h2,h3.take n⟩
theorem Bd.addT {K w:Int} {e:Ex} {c:Rat} (hw:(K:Rat)*c=w):∀{L:List Tm} {S:Nat},Bd K L S->Bd K (addT L e c) (S+w.natAbs)
 | [],S,_=>⟨w,hw,aw,trivial⟩
 | x::L,S,⟨z,h1,h2,h3⟩=>by
  rw[AM.addT];split
  ·refine⟨z+w,?_,aw,h3.mono aw⟩;show(K:Rat)*(x.2+c)=_;rw[Rat.mul_add,h1,hw,Rat.intCast_add]
  ·exact⟨z,h1,aw,(h3.addT hw).mono aw⟩
theorem Bd.rowM {D E u:Int} {x:Tm} (hu:(D:Rat)*x.2=u):∀{b M:List Tm} {S SB:Nat},Bd E b SB->Bd (D*E) M S->Bd (D*E) (rowM x b M) (S+u.natAbs*SB)
 | [],M,S,SB,_,hM=>hM.mono aw
 | y::b,M,S,SB,⟨z,h1,h2,h3⟩,hM=>by
  have hw:((D*E:Int):Rat)*(x.2*y.2)=(u*z:Int):=by
   rw[Rat.intCast_mul,Rat.intCast_mul,<-hu,<-h1];grind
  have h4:=Bd.rowM hu h3 (hM.addT (e:=x.1.add y.1) hw);refine Bd.mono h4 ?_;rw[Int.natAbs_mul];have:u.natAbs*SB=u.natAbs*z.natAbs+u.natAbs*(SB-z.natAbs):=by rw[<-Nat.mul_add];congr 1;omega
  omega
theorem Bd.sumM {D E:Int} {b:List Tm} {SB:Nat} (hb:Bd E b SB):∀{a M:List Tm} {S SA:Nat},Bd D a SA->Bd (D*E) M S->Bd (D*E) (sumM a b M) (S+SA*SB)
 | [],M,S,SA,_,hM=>hM.mono aw
 | x::a,M,S,SA,⟨z,h1,h2,h3⟩,hM=>by
  have h4:=Bd.sumM (a:=a) hb h3 (Bd.rowM h1 hb hM);refine Bd.mono (L:=AM.sumM (x::a) b M) h4 ?_;have:SA*SB=z.natAbs*SB+(SA-z.natAbs)*SB:=by rw[<-Nat.add_mul];congr 1;omega
  omega
theorem NU {D:Int} {A:Alg.P Int}:∀{L:List Tm} {n:Nat},Cn L->(∀ t∈L,(D:Rat)*t.2=A.c t.1.a.toNat/\t.1.a<n)->Bd D L (cT (fun i=>(A.c i).natAbs) n)
 | [],_,_,_=>trivial
 | x::L,n,h,hx=>by
  obtain⟨h1,h2⟩:=hx x au;have h0:=h.uv x au;unfold Uv1 at h0;have hlt:x.1.a.toNat<n:=aw;have h3:cT (fun i=>(A.c i).natAbs) (x.1.a.toNat)+(A.c x.1.a.toNat).natAbs<=cT (fun i=>(A.c i).natAbs) n:=by
   have:∀ m,x.1.a.toNat<m->cT (fun i=>(A.c i).natAbs) (x.1.a.toNat)+(A.c x.1.a.toNat).natAbs<=cT (fun i=>(A.c i).natAbs) m:=by
    intro m hm
    induction m with
    | zero=>omega
    | succ m ih =>
     simp only[cT];rcases Nat.lt_or_ge x.1.a.toNat m with h4|h4
     ·have:=ih h4;omega
     ·rw[show x.1.a.toNat=m by omega];exact ay _
   exact this n hlt
  refine⟨A.c x.1.a.toNat,h1,aw,?_⟩;refine Bd.mono (NU (n:=x.1.a.toNat) (dN h) fun t ht=>⟨(hx t (by simp[ht])).1,?_⟩) aw;have:=sE h t ht;omega
theorem HB.bd {h:Nat} {p:PQ} (H:am h p):∃ D:Int,D≠0/\D.natAbs<=2 ^ h/\Bd D (U p) (2 ^ h):=by
 obtain⟨D,A,h1,h2,h3,h4⟩:=H;refine⟨D,h1,h2,?_⟩;have hs:aa A<=aa p:=by
  rw[<-gr,<-h4,bW (sv h1)];exact ay _
 have h5:=NU (D:=D) (A:=A) (L:=U p) (n:=aa p) (ky p) fun t ht=>by
  obtain⟨i,hi,rfl,_⟩:=nY ht;have:=congrArg (fun p:PQ=>p.c i) h4;simp only[bS]at this;exact⟨this,by simp only;omega⟩
 rw[<-ge hs]at h5;exact h5.mono h3
theorem DP {q:Rat} {D z:Int} {h k:Nat} (hD:D≠0) (hDh:D.natAbs<=2 ^ h) (e:(D:Rat)*q=z) (hz:z.natAbs<=2 ^ h) (hk:h/32+1<=k):QB k q:=by
 obtain⟨h1,h2⟩:=pm hD e;exact ir (ax h1 hz) (ax h2 hDh) hk
theorem dx {p q:PQ} {h k:Nat} (hp:am h p) (hq:am k q) (hh:h<=137438953000) (hk:k<=137438953000) (sp:aa p<=1048576) (sq:aa q<=1048576):Fn Tryz.prog 111 [iUp p,iUp q] [iUp (p*q)]:=by
 obtain⟨D,hD,hDh,hb⟩:=HB.bd hp;obtain⟨E,hE,hEh,hb'⟩:=HB.bd hq;have hDE:(D*E).natAbs<=2 ^ (h+k):=by rw[Int.natAbs_mul];exact bh hDh hEh
 have:=yC (U p) (U q) (by have:=dF p;omega) (by have:=dF q;omega) (Dd aw aw) (Dd aw aw) (HB.qb hp aw) (HB.qb hq aw) fun i j hi hj=>by
  obtain⟨u,hu,hu'⟩:=hb.get _ (List.getElem_mem hi);obtain⟨v,hv,hv'⟩:=hb'.get _ (List.getElem_mem hj);refine⟨?_,fun e c hc=>?_⟩
  ·refine DP (D:=D*E) (z:=u*v) (h:=h+k) (Int.mul_ne_zero hD hE) hDE ?_ ?_ aw
   ·rw[Rat.intCast_mul,Rat.intCast_mul,<-hu,<-hv];grind
   ·rw[Int.natAbs_mul];exact bh hu' hv'
  ·have h1:Bd (D*E) (sumM ((U p).take i) (U q) []) (0+2 ^ h*2 ^ k):=Bd.sumM hb' (hb.take i) (M:=[]) trivial;have h2:=Bd.rowM hu (hb'.take j) h1;obtain⟨z,hz,hz'⟩:=h2.get _ hc;refine DP (D:=D*E) (z:=z) (h:=h+k+1) (Int.mul_ne_zero hD hE) (ax hDE (cU aw)) hz ?_ aw;have h3:u.natAbs*2 ^ k<=2 ^ (h+k):=bh hu' (ay _);have h4:2 ^ h*2 ^ k=2 ^ (h+k):=(Nat.pow_add _ _ _).symm;have h5:2 ^ (h+k+1)=2 ^ (h+k)+2 ^ (h+k):=by rw[Nat.pow_succ];omega
   omega
 rwa [Rx]at this
end Go.AM
namespace Alg
open Classical
theorem am.mon {h:Nat} {c:Rat} (e:Nat) (h1:c.num.natAbs<=2 ^ h) (h2:c.den<=2 ^ h):am h (mon e c):=by
 refine⟨c.den,Alg.mon e c.num,by have:=c.den_nz;omega,by simpa using h2,?_,?_⟩
 ·have h3:=iw e c.num 1;have h4:n1 (1:P Int)<=1:=by
   rw[ge (n:=1) (cm fun i hi=>by cases i with|zero=>omega|succ i=>rfl)]
   show 0+Int.natAbs 1<=1;decide
  rw[mul_one]at h3;rw[h3];exact ax (Nat.mul_le_mul_left _ h4) (by simpa using h1)
 ·rw[og,<-du,Alg.dV,Nat.zero_add];congr 1;show((c.den:Int):Rat)*c=c.num;rw[Rat.mul_comm];exact cX c
theorem jJ {x y:Rat} {h k:Nat} (hy:y≠0) (H:x.num.natAbs<=2 ^ h/\x.den<=2 ^ h) (G:y.num.natAbs<=2 ^ k/\y.den<=2 ^ k):(x/y).num.natAbs<=2 ^ (h+k)/\(x/y).den<=2 ^ (h+k):=by
 have hn:y.num≠0:=fun e=>hy (Rat.num_eq_zero.1 e);have hd:(x.den:Int)≠0:=by have:=x.den_nz;omega
 have e:(((x.den:Int)*y.num:Int):Rat)*(x/y)=((x.num*y.den:Int):Rat):=by
  rw[Rat.intCast_mul,Rat.intCast_mul,<-cX x,<-cX y]
  grind
 obtain⟨h1,h2⟩:=pm (Int.mul_ne_zero hd hn) e;rw[Int.natAbs_mul]at h1 h2;exact⟨ax h1 (bh H.1 (by simpa using G.2)),ax h2 (bh (by simpa using H.2) G.1)⟩
theorem am.pstep {h k:Nat} {r q:P Rat} (H:am h r) (G:am k q) (e i j:Nat):am (h+k+1) (an (q.c j)*r-Alg.mon e (r.c i)*q):=by
 obtain⟨D,A,h1,h2,h3,h4⟩:=H;obtain⟨E,B,k1,k2,k3,k4⟩:=G;have hA:∀ i,hQ.f D*r.c i=hQ.f (A.c i):=fun i=>by
  have:=congrArg (fun p:P Rat=>p.c i) h4;simp only[bS]at this;exact this
 have hB:∀ i,hQ.f E*q.c i=hQ.f (B.c i):=fun i=>by
  have:=congrArg (fun p:P Rat=>p.c i) k4;simp only[bS]at this;exact this
 refine⟨D*E,an (B.c j)*A-Alg.mon e (A.c i)*B,Int.mul_ne_zero h1 k1,?_,?_,?_⟩
 ·rw[Int.natAbs_mul];exact ax (bh h2 k2) (cU aw)
 ·refine ax (IK _ _) ?_;rw[nC,iw,show h+k+1=(h+k)+1 from rfl];refine kj ?_ ?_
  ·rw[Nat.add_comm];exact bh (ax (jA _ _) k3) h3
  ·exact bh (ax (jA _ _) h3) k3
 ·rw[xu,ck,ck,pO,og,<-h4,<-k4,<-hA,<-hB,show hQ.f (D*E)=hQ.f D*hQ.f E from hQ.mul _ _,bC,bC,
   show Alg.mon e (hQ.f D*r.c i)=an (hQ.f D)*Alg.mon e (r.c i)by rw[<-du,Alg.dV,Nat.zero_add]]
  exact ring [an (hQ.f D),an (hQ.f E),an (q.c j),r,Alg.mon e (r.c i),q]
theorem am.divstep {h k:Nat} {r q:P Rat} (H:am h r) (G:am k q) (hq:q≠0) (e:Nat):am (h+k+1) (r-q*Alg.mon e (lc r/lc q)):=by
 obtain⟨D,A,h1,h2,h3,h4⟩:=H;obtain⟨E,B,k1,k2,k3,k4⟩:=G;have hA:∀ i,hQ.f D*r.c i=hQ.f (A.c i):=fun i=>by
  have:=congrArg (fun p:P Rat=>p.c i) h4;simp only[bS]at this;exact this
 have hB:∀ i,hQ.f E*q.c i=hQ.f (B.c i):=fun i=>by
  have:=congrArg (fun p:P Rat=>p.c i) k4;simp only[bS]at this;exact this
 have hl:=bN hq;have hb0:B.c (aa q-1)≠0:=fun e=>by
  have:=hB (aa q-1);rw[e,hQ.zero]at this;rcases zero_of_mul this with h5|h5
  ·exact sv k1 h5
  ·exact hl h5
 refine⟨D*B.c (aa q-1),an (B.c (aa q-1))*A-Alg.mon e (A.c (aa r-1))*B,Int.mul_ne_zero h1 hb0,?_,?_,?_⟩
 ·rw[Int.natAbs_mul];exact ax (bh h2 (ax (jA _ _) k3)) (cU aw)
 ·refine ax (IK _ _) ?_;rw[nC,iw,show h+k+1=(h+k)+1 from rfl];refine kj ?_ ?_
  ·rw[Nat.add_comm];exact bh (ax (jA _ _) k3) h3
  ·exact bh (ax (jA _ _) h3) k3
 ·have e1:hQ.f D*hQ.f (B.c (aa q-1))*(lc r/lc q)=hQ.f (A.c (aa r-1))*hQ.f E:=by
   rw[<-hA,<-hB,lc,lc];have hl':q.c (aa q-1)≠(0:Rat):=hl;show(hQ.f D:Rat)*((hQ.f E:Rat)*q.c (aa q-1))*(r.c (aa r-1)/q.c (aa q-1))=(hQ.f D:Rat)*r.c (aa r-1)*(hQ.f E:Rat)
   grind
  rw[xu,ck,ck,pO,og,<-h4,<-k4,show hQ.f (D*B.c (aa q-1))=hQ.f D*hQ.f (B.c (aa q-1))from hQ.mul _ _];have e2:an (hQ.f D*hQ.f (B.c (aa q-1)))*Alg.mon e (lc r/lc q)=Alg.mon e (hQ.f (A.c (aa r-1)))*an (hQ.f E):=by
   rw[<-du,Alg.dV,<-du,Alg.dV,Nat.zero_add,Nat.add_zero];exact congrArg _ e1
  have e3:an (hQ.f D*hQ.f (B.c (aa q-1)))*(q*Alg.mon e (lc r/lc q))=Alg.mon e (hQ.f (A.c (aa r-1)))*(an (hQ.f E)*q):=by
   rw[dE,e2];exact ring [q,Alg.mon e (hQ.f (A.c (aa r-1))),an (hQ.f E)]
  rw[sub_eq,mul_add,mul_neg,e3,bC];exact ring [an (hQ.f D),an (hQ.f (B.c (aa q-1))),r,Alg.mon e (hQ.f (A.c (aa r-1)))*(an (hQ.f E)*q)]
theorem wL {r q:P Rat} (hr:r≠0) (hq:q≠0) (h:aa q<=aa r):aa (r-q*Alg.mon (aa r-aa q) (lc r/lc q))<aa r:=by
 have hr0:=aR hr;have hq0:=aR hq;have:aa (r-q*Alg.mon (aa r-aa q) (lc r/lc q))<=aa r-1:=cm fun i hi=>by
  rw[i9,mul_comm,cu,if_pos aw];by_cases e:i=aa r-1
  ·subst e;rw[show aa r-1-(aa r-aa q)=aa q-1 by omega];have hl:q.c (aa q-1)≠(0:Rat):=bN hq;show r.c (aa r-1)-(lc r/lc q)*q.c (aa q-1)=(0:Rat);rw[lc,lc]
   grind
  ·rw[aO (by omega:aa r<=i),aO (p:=q) aw,mul_zero];exact sub_self _
 omega
end Alg
namespace Go.AM
open Alg
open Go.Proofs
def Ex.sub (e f:Ex):Ex:=⟨e.a-f.a,e.b-f.b,e.c-f.c,e.d-f.d⟩
def Ex.psub (e f:Ex) (i:Nat):Ex:=⟨if 0<i then e.a-f.a else e.a,if 1<i then e.b-f.b else e.b,if 2<i then e.c-f.c else e.c,if 3<i then e.d-f.d else e.d⟩
open Classical in
noncomputable def u4 (p q:PQ):List IV:=if h:Dv q p then[iUp (Classical.choose h),iB true]else[iM [],iB false]
theorem gY {p q s:PQ} (hq:q≠0) (h:p=s*q):u4 p q=[iUp s,iB true]:=by
 have hd:Dv q p:=⟨s,by rw[h,mul_comm]⟩;rw[u4,dif_pos hd];have h1:=Classical.choose_spec hd;have h2:q*s=q*Classical.choose hd:=by rw[<-h1,h,mul_comm]
 rw[cD hq h2]
theorem Av {p q s r:PQ} (h:p=s*q+r) (hr:r≠0) (hs:aa r<aa q):u4 p q=[iM [],iB false]:=by
 have hd:¬ Dv q p:=fun⟨c,hc⟩=>by
  have h1:c*q+0=s*q+r:=by rw[<-h,hc,add_zero,mul_comm]
  have h2:=(sB h1 (by rw[aM.2 rfl];omega) hs).2;exact hr h2.symm
 rw[u4,dif_neg hd]
theorem kV (p:PQ):iUp p=iM (U p):=rfl
theorem C0 {n:Nat} {c:Rat} (hc:c≠0):Cn [(⟨n,0,0,0⟩,c)]:=⟨List.pairwise_singleton _ _,by simpa using hc,by intro t ht;simp at ht;subst ht;exact⟨au,rfl,rfl,rfl⟩⟩
theorem AT (n:Nat) {c:Rat} (hc:c≠0):U (mon n c)=[(⟨n,0,0,0⟩,c)]:=(vR (C0 hc) (by rw[bc,cI,add_zero];simp)).symm
theorem Ev {L:List Tm} {n:Nat} {c:Rat} (hL:Cn L) (hc:c≠0) (h:∀ t∈L,(n:Int)<t.1.a):Cn (L++[(⟨n,0,0,0⟩,c)]):=by
 refine⟨List.pairwise_append.2 ⟨hL.srt,List.pairwise_singleton _ _,fun t ht u hu=>?_⟩,fun t ht=>?_,fun t ht=>?_⟩
 ·simp at hu;subst hu;exact(jS (hL.uv t ht) ⟨au,rfl,rfl,rfl⟩).2 (h t ht)
 ·rcases List.mem_append.1 ht with ht|ht
  ·exact hL.nz t ht
  ·exact(C0 hc).nz t ht
 ·rcases List.mem_append.1 ht with ht|ht
  ·exact hL.uv t ht
  ·exact(C0 (n:=n) hc).uv t ht
theorem tw {p q:PQ} {h k:Nat} (hp:am h p) (hq:am k q) (hq0:q≠0) (hb:h+(aa p+2)*(k+1)+k<=137438953000) (sp:aa p<=524288) (sq:aa q<=524288):Fn Tryz.prog 152 [iUp p,iUp q] (u4 p q):=by
 obtain⟨Q,hQ⟩:=gy hq0;have lQ:(U q).length=Q.length+1:=by rw[hQ];rfl
 have cQ:(U q)[0]?=some (⟨((aa q-1:Nat):Int),0,0,0⟩,lc q):=by rw[hQ];rfl
 have hq1:=aR hq0;have hlq:=bN hq0;refine aJ (fn:=Tryz.f152) ?_;have e1:decide (((U q).length:Int)=0)=false:=by rw[lQ];exact aG aw
 simp -dsimp only[go_sem,e1,az];refine cv 6 6 8 (rs:=[]) rfl au ?_;refine bt [(0,0),(4,8),(12,59)] [(7,7)] [(53,53),(6,6)] (fun n τ β ε=>∃(r s:PQ) (L:List Tm) (j:Nat),n=aa r/\p=s*q+r/\Cn L/\toP L=s/\(∀ t∈L,(aa r:Int)-aa q<t.1.a)/\L.length+aa r<=aa p/\am (h+j*(k+1)) r/\j+aa r<=aa p /\
   τ 0 = .i (iUp r)/\Own 8 (L.map eT) 6 6 τ ε)
  (fun e τ β ε=>(e = .exit 0/\∃(s:PQ) (L:List Tm),p=s*q/\Cn L/\toP L=s/\L.length<=aa p/\Own 8 (L.map eT) 6 6 τ ε) \/
   (e = .ret/\u4 p q=[iM [],iB false]/\τ 4 = .fl []/\τ 5 = .i (.c (.v (.bool false))))) (aa p) ?_ ?_ ?_
 ·exact⟨p,0,[],0,rfl,by rw[zero_mul,zero_add],⟨List.Pairwise.nil,au,by intro t ht;simp at ht⟩,rfl,au,au,by simpa using hp,aw,rfl,Own.mk (g:=1) (mm:=false) aw rfl rfl rfl⟩
 ·rintro n τ β ε π hK hKB hKE ⟨r,s,L,j,hn,he,hL,hLs,hlt,hll,hr,hj,h0,g,mm,hg,h6,hrow⟩;have h6':τ 6 = .sl 6 g L.length:=by rw[h6,az]
  have k1:τ 1 = .i (iUp q):=(hK 1 rfl).trans rfl;by_cases hr0:r=0
  ·have hA:¬ (0:Int)<((U r).length:Int):=by rw[hr0,cq];simp
   simp -dsimp only[go_sem,h0,hA];exact⟨(aA hK),hKB,hKE,s,L,by rw[he,hr0,add_zero],hL,hLs,aw,Own.mk hg h6' au hrow⟩
  ·obtain⟨R,hR⟩:=gy hr0;have lR:(U r).length=R.length+1:=by rw[hR];rfl
   have cR:(U r)[0]?=some (⟨((aa r-1:Nat):Int),0,0,0⟩,lc r):=by rw[hR];rfl
   have hA:(0:Int)<((U r).length:Int):=by rw[lR];omega
   have hr1:=aR hr0;have hsr:aa r<=aa p:=aw;simp -dsimp only[go_sem,h0,hA,Int.reduceToNat,Int.reduceLE,true_and];refine aP cR ?_;simp -dsimp only[go_sem,h0,hA,h6',hrow];refine bt [(8,8),(18,34)] [(7,7)] [] (fun n τ' β' ε'=>∃ i:Nat,n=4-i/\i<=4/\τ' 18 = .i (iN i)/\β' 7=⟨(β 7).gen+1,(Ex.psub ⟨((aa r-1:Nat):Int),0,0,0⟩ ⟨((aa q-1:Nat):Int),0,0,0⟩ i).cs++eQ (lc r)⟩)
    (fun e τ' β' ε'=>e = .exit 2/\β' 7=⟨(β 7).gen+1,(Ex.sub ⟨((aa r-1:Nat):Int),0,0,0⟩ ⟨((aa q-1:Nat):Int),0,0,0⟩).cs++eQ (lc r)⟩) 4 ?_ ?_ ?_
   ·exact⟨0,aw,aw,rfl,rfl⟩
   ·rintro n2 τ2 β2 ε2 π2 hK2 hKB2 hKE2 ⟨i,hn2,hi,h18,b7⟩;have q7:τ2 7 = .bp 7 ((β 7).gen+1) 0:=(hK2 7 rfl).trans rfl;have q1:τ2 1 = .i (iUp q):=(hK2 1 rfl).trans k1;obtain rfl|rfl|rfl|rfl|rfl:i=4\/i=0\/i=1\/i=2\/i=3:=aw
    ·have h18':τ2 18 = .i (iN 4):=h18;simp -dsimp only[go_sem,h18',Int.reduceLT,decide_false];exact⟨(aA hK2),hKB2,hKE2,b7⟩
    ·have h18':τ2 18 = .i (iN 0):=h18;simp -dsimp only[go_sem,h18',Int.reduceLT,decide_true];refine ap 13 [] false true ?_;simp -dsimp only[go_sem,h18',q1,q7,b7,Int.reduceToNat,Int.reduceLE,Int.reduceAdd,true_and,Ex.psub,Nat.not_lt_zero,aC];refine aP cQ ?_;simp -dsimp only[go_sem,h18',q1,q7,b7,Int.reduceToNat,Int.reduceLE,Int.reduceAdd,true_and,Ex.psub,Nat.not_lt_zero,aC]
     repeat(refine And.intro aw ?_)
     refine again (4-1) aw ⟨(aA hK2),(aA hKB2),hKE2,1,rfl,aw,rfl,?_⟩;simp -dsimp only[go_sem,Ex.psub,Nat.not_lt_zero]
    ·have h18':τ2 18 = .i (iN 1):=h18;simp -dsimp only[go_sem,h18',Int.reduceLT,decide_true];refine ap 13 [] false true ?_;simp -dsimp only[go_sem,h18',q1,q7,b7,Int.reduceToNat,Int.reduceLE,Int.reduceAdd,true_and,Ex.psub,Nat.not_lt_zero,aC];refine aP cQ ?_;simp -dsimp only[go_sem,h18',q1,q7,b7,Int.reduceToNat,Int.reduceLE,Int.reduceAdd,true_and,Ex.psub,Nat.not_lt_zero,aC]
     repeat(refine And.intro aw ?_)
     refine again (4-2) aw ⟨(aA hK2),(aA hKB2),hKE2,2,rfl,aw,rfl,?_⟩;simp -dsimp only[go_sem,Ex.psub,Nat.not_lt_zero]
    ·have h18':τ2 18 = .i (iN 2):=h18;simp -dsimp only[go_sem,h18',Int.reduceLT,decide_true];refine ap 13 [] false true ?_;simp -dsimp only[go_sem,h18',q1,q7,b7,Int.reduceToNat,Int.reduceLE,Int.reduceAdd,true_and,Ex.psub,Nat.not_lt_zero,aC];refine aP cQ ?_;simp -dsimp only[go_sem,h18',q1,q7,b7,Int.reduceToNat,Int.reduceLE,Int.reduceAdd,true_and,Ex.psub,Nat.not_lt_zero,aC]
     repeat(refine And.intro aw ?_)
     refine again (4-3) aw ⟨(aA hK2),(aA hKB2),hKE2,3,rfl,aw,rfl,?_⟩;simp -dsimp only[go_sem,Ex.psub,Nat.not_lt_zero]
    ·have h18':τ2 18 = .i (iN 3):=h18;simp -dsimp only[go_sem,h18',Int.reduceLT,decide_true];refine ap 13 [] false true ?_;simp -dsimp only[go_sem,h18',q1,q7,b7,Int.reduceToNat,Int.reduceLE,Int.reduceAdd,true_and,Ex.psub,Nat.not_lt_zero,aC];refine aP cQ ?_;simp -dsimp only[go_sem,h18',q1,q7,b7,Int.reduceToNat,Int.reduceLE,Int.reduceAdd,true_and,Ex.psub,Nat.not_lt_zero,aC]
     repeat(refine And.intro aw ?_)
     refine again (4-4) aw ⟨(aA hK2),(aA hKB2),hKE2,4,rfl,aw,rfl,?_⟩;simp -dsimp only[go_sem,Ex.psub,Nat.not_lt_zero]
   ·rintro e τ2 β2 ε2 π2 hK2 hKB2 hKE2 ⟨rfl,b7⟩;refine⟨_,bA.refl _,?_⟩;have r7:τ2 7 = .bp 7 ((β 7).gen+1) 0:=(hK2 7 rfl).trans rfl;have r1:τ2 1 = .i (iUp q):=(hK2 1 rfl).trans k1;have r0:τ2 0 = .i (iUp r):=(hK2 0 rfl).trans h0;have r6:τ2 6 = .sl 6 g L.length:=(hK2 6 rfl).trans h6';have rr:ε2 6=⟨g,8,L.map eT,mm,true⟩:=(hKE2 6 rfl).trans hrow;have kO:=Kp.step2 hK hK2 (by intro n;simp[inR]<;>omega) (aA hK);have kB:=Kp.step2 hKB hKB2 (by intro n;simp[inR]<;>omega) (aA hKB);have kE:=Kp.step2 hKE hKE2 (by intro n;simp[inR]) hKE;have hjk:j*(k+1)+(k+1)<=(aa p+2)*(k+1):=by rw[<-Nat.succ_mul];exact Nat.mul_le_mul_right _ aw
    have hqr:QB 17179869184 (lc r):=ir (hr.coef _).1 (hr.coef _).2 aw;have hqq:QB 17179869184 (lc q):=ir (hq.coef _).1 (hq.coef _).2 aw;by_cases hc:aa q<=aa r
    ·have hX:Ex.sub ⟨((aa r-1:Nat):Int),0,0,0⟩ ⟨((aa q-1:Nat):Int),0,0,0⟩=⟨((aa r-aa q:Nat):Int),0,0,0⟩:=by
      unfold Ex.sub;simp only[Ex.mk.injEq];omega
     rw[hX]at b7;have eN:decide (dc ⟨((aa r-aa q:Nat):Int),0,0,0⟩)=true:=aF (by unfold dc;dsimp only;omega);simp -dsimp only[go_sem,r7,b7,r1,r0];refine aQ (args':=[iE ⟨((aa r-aa q:Nat):Int),0,0,0⟩]) rfl (mj _) ?_;simp -dsimp only[go_sem,eN];refine bB av 9 11 [] true [.tmp 49] none av av av av aE ?_;simp -dsimp only[go_sem,r7,b7,r1,r0,Int.reduceToNat,Int.reduceLE,aC];refine aP cQ ?_;simp -dsimp only[go_sem,r7,b7,r1,r0,Int.reduceToNat,Int.reduceLE,aC];refine aQ (args':=[iQ (lc r),iQ (lc q)]) rfl (tu _ _ hlq hqr hqq) ?_;simp -dsimp only[go_sem,r7,b7,r1,r0,Int.reduceToNat,Int.reduceLE,aC];have hcc:lc r/lc q≠0:=by
      intro e0;refine bN hr0 ?_;have h9:(lc r:Rat)/lc q*lc q=lc r:=Rat.div_mul_cancel hlq;rw[e0]at h9;rw[<-h9];exact Rat.zero_mul _
     have hmb:am (h+j*(k+1)+k) (mon (aa r-aa q) (lc r/lc q)):=by
      obtain⟨b1,b2⟩:=jJ hlq (hr.coef _) (hq.coef _);exact am.mon _ b1 b2
     have hsm:=nj (aa r-aa q) (a:=lc r/lc q) hcc;have hsp:=bf q (mon (aa r-aa q) (lc r/lc q));simp -dsimp only[go_sem,r6,rr,hg,az]
     repeat(refine And.intro aw ?_)
     simp -dsimp only[go_sem,r7,r1,r0];refine aQ (args':=[iUp q,iUp (mon (aa r-aa q) (lc r/lc q))]) ?_ (dx hq hmb aw aw aw aw) ?_
     ·rw[kV (mon _ _),AT _ hcc];rfl
     simp -dsimp only[go_sem,r0];refine ao (qI hr (hq.mul hmb) aw aw aw aw) rfl ?_;simp -dsimp only[go_sem];have hlow:=wL hr0 hq0 hc;refine be (aa (r-q*mon (aa r-aa q) (lc r/lc q))) 6 53 6 aw rfl rfl aw aH
      ⟨(aA kO),(aA kB),(aA kE),_,s+mon (aa r-aa q) (lc r/lc q),L++[(⟨((aa r-aa q:Nat):Int),0,0,0⟩,lc r/lc q)],j+1,rfl,?_,Ev hL hcc (fun t ht=>by have:=hlt t ht;omega),?_,?_,ar,?_,aw,rfl,?_⟩
     ·rw[he,add_mul];exact ring [s*q,mon (aa r-aa q) (lc r/lc q),q,r]
     ·rw[o8,hLs,bc,cI,add_zero];simp
     ·intro t ht;rcases List.mem_append.1 ht with ht|ht
      ·have:=hlt t ht;omega
      ·simp at ht;subst ht;simp only;omega
     ·have:=hr.divstep hq hq0 (aa r-aa q);exact this.mono (by rw[Nat.succ_mul];omega)
     ·exact Own.mk2 (Nat.succ_pos _) (by simp -dsimp only[go_sem];rfl) (by simp -dsimp only[go_sem];rfl) au (by simp;rfl)
    ·have hX:¬ dc (Ex.sub ⟨((aa r-1:Nat):Int),0,0,0⟩ ⟨((aa q-1:Nat):Int),0,0,0⟩):=by
      unfold Ex.sub dc;dsimp only;omega
     have eN:decide (dc (Ex.sub ⟨((aa r-1:Nat):Int),0,0,0⟩ ⟨((aa q-1:Nat):Int),0,0,0⟩))=false:=aG hX;simp -dsimp only[go_sem,r7,b7,r1,r0];refine aQ (args':=[iE (Ex.sub ⟨((aa r-1:Nat):Int),0,0,0⟩ ⟨((aa q-1:Nat):Int),0,0,0⟩)]) rfl (mj _) ?_;simp -dsimp only[go_sem,eN];exact⟨(aA kO),kB,kE,Av he hr0 aw⟩
 ·rintro e τ β ε π hK hKB hKE h;refine⟨_,bA.refl _,?_⟩;rcases h with⟨rfl,s,L,he,hL,hLs,hll,g,mm,hg,h6,hrow⟩|⟨rfl,h1,h2,h3⟩
  ·rw[az]at h6;simp -dsimp only[go_sem,h6,hrow,hg];rw[gY hq0 he,kV s,<-vR hL hLs]
  ·simp -dsimp only[go_sem,h2,h3];rw[h1];rfl
end Go.AM
namespace Go.AM
open Alg
open Go.Proofs
theorem vv {p q:PQ} {h k:Nat} (hp:am h p) (hq:am k q) (hq0:q≠0) (hb:h+(aa p+2)*(k+1)+k<=137438953000) (sp:aa p<=524288) (sq:aa q<=524288) {s:PQ} (e:p=s*q):Fn Tryz.prog 194 [iUp p,iUp q] [iUp s]:=by
 refine aJ (fn:=Tryz.f194) ?_;simp -dsimp only[go_sem];refine ao (tw hp hq hq0 hb sp sq) rfl ?_;rw[gY hq0 e];simp -dsimp only[go_sem]
theorem U_C {c:Rat} (h:c≠0):U (an c)=[(e0,c)]:=by rw[<-du,AT 0 h];rfl
theorem wX:U 1=[(e0,1)]:=U_C aH
theorem p7:Fn Tryz.prog 190 [] [iUp 1]:=by rw[kV,wX];exact Ce
theorem zR {p:PQ}:p*an (1/lc p)=ag p:=by
 rw[ag,mul_comm];congr 2;show(1:Rat)/lc p=(lc p)⁻¹;rw[Rat.div_def];exact Rat.one_mul _
theorem n6:QB 17179869184 1:=⟨ax (fI (k:=1) aH) aw,ax (fI (k:=1) aH) aw⟩
theorem kp {p:PQ} {h:Nat} (hp:am h p) (hb:h<=137438953000) (sp:aa p<=1048576):Fn Tryz.prog 188 [iUp p] [iUp (ag p)]:=by
 refine aJ (fn:=Tryz.f188) ?_;by_cases hp0:p=0
 ·subst hp0;have e1:decide (((U 0).length:Int)=0)=true:=by rw[cq];rfl
  simp -dsimp only[go_sem,e1];rw[fR,kV,cq];rfl
 ·obtain⟨R,hR⟩:=gy hp0;have lR:(U p).length=R.length+1:=by rw[hR];rfl
  have cR:(U p)[0]?=some (⟨((aa p-1:Nat):Int),0,0,0⟩,lc p):=by rw[hR];rfl
  have e1:decide (((U p).length:Int)=0)=false:=by rw[lR];exact aG aw
  have hqq:QB 17179869184 (lc p):=ir (hp.coef _).1 (hp.coef _).2 aw;have hl:=bN hp0;obtain⟨b1,b2⟩:=jJ (x:=1) (h:=0) hl ⟨aH,aH⟩ (hp.coef (aa p-1));simp -dsimp only[go_sem,e1];refine bB av 8 10 [3] true [.tmp 3] none av av av av aE ?_;simp -dsimp only[go_sem];refine aK (ia 1 aH) ?_;simp -dsimp only[go_sem,Int.reduceToNat,Int.reduceLE,aC];refine aP cR ?_;simp -dsimp only[go_sem,Int.reduceToNat,Int.reduceLE,aC];refine aQ (args':=[iQ 1,iQ (lc p)]) rfl (tu 1 _ hl n6 hqq) ?_;simp -dsimp only[go_sem];refine ao (GR hp aw sp (ir b1 b2 aw)) rfl ?_;simp -dsimp only[go_sem,zR]
end Go.AM
