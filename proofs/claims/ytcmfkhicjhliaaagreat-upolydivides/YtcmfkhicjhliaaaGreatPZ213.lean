/- Lemmas, part 14 of 24: Polynomials in one variable as lists of terms; Polynomials in one variable: sizes, and what the functions yield; Sizes in division; Package mpoly: division; Package mgcd: monic polynomials, constants; Package mgcd: constants; package mpoly: equality; Package mpoly: a polynomial out of its coefficients; Package mpoly: pseudo-division. No condition. -/
import Derived.Test.YtcmfkhicjhliaaaGreatPZ212
set_option maxRecDepth 65536
set_option linter.unusedSimpArgs false
set_option linter.unusedVariables false
set_option linter.unusedSectionVars false
namespace Go.AM
open Alg
open Go.Proofs
abbrev PQ:=Alg.P Rat
noncomputable def toP (L:List Tm):PQ:=L.foldr (fun t q=>mon t.1.a.toNat t.2+q) 0
def Uv1 (e:Ex):Prop:=0<=e.a/\e.b=0/\e.c=0/\e.d=0
theorem nq (e f:Ex):bO e f = -bO f e:=by unfold bO uK;(repeat' split)<;>omega
theorem jg {e f:Ex} (he:Uv1 e) (hf:Uv1 f):0<bO e f↔f.a<e.a:=by
 obtain⟨_,k2,k3,k4⟩:=he;obtain⟨_,l2,l3,l4⟩:=hf;rw[hZ];omega
def Uv (L:List Tm):Prop:=∀ t∈L,Uv1 t.1
structure Cn (L:List Tm):Prop where
 srt:Srt L
 nz:∀ t∈L,t.2≠0
 uv:Uv L
theorem cj:toP []=0:=rfl
theorem aG (t:Tm) (L:List Tm):toP (t::L)=mon t.1.a.toNat t.2+toP L:=rfl
theorem nW (L M:List Tm):toP (L++M)=toP L+toP M:=by
 induction L with
 | nil=>rw[List.nil_append,cj,zero_add]
 | cons t L ih=>rw[List.cons_append,aG,aG,ih,add_assoc]
theorem Gd {L M:List Tm} (h:L.Perm M):toP L=toP M:=by
 induction h with
 | nil=>rfl
 | cons x _ ih=>rw[aG,aG,ih]
 | swap x y l=>rw[aG,aG,aG,aG,fE]
 | trans _ _ h1 h2=>exact h1.trans h2
theorem rT (f:Tm->Bool):∀(L:List Tm),(∀ t∈L,f t=false->t.2=0)->toP (L.filter f)=toP L
 | [],_=>rfl
 | t::L,h=>by
  have ih:=rT f L fun t ht=>h t (by simp[ht]);rw[List.filter_cons];cases hf:f t with
  | true=>simp only[if_true];rw[aG,aG,ih]
  | false =>
   have h0:=h t (by simp) hf;simp only[Bool.false_eq_true,if_false];rw[ih,aG,h0,show(0:Rat)=(0:Rat)from rfl];have:mon t.1.a.toNat (0:Rat)=0:=i5 _;rw[this,zero_add]
theorem xQ (e:Ex) (c:Rat):∀ L,toP (addT L e c)=toP L+mon e.a.toNat c
 | []=>by rw[addT,aG,cj,add_zero,zero_add]
 | x::L=>by
  rw[addT];split
  ·rename_i h;rw[aG,aG,h];have:mon x.1.a.toNat (x.2+c)=mon x.1.a.toNat x.2+mon x.1.a.toNat c:=wA _ _ _;show mon x.1.a.toNat (x.2+c)+toP L=_;rw[this,add_assoc,add_assoc,add_comm (mon x.1.a.toNat c)]
  ·rw[aG,aG,xQ e c L,add_assoc]
theorem zg {e:Ex} {c:Rat}:∀{L:List Tm} {t:Tm},t∈addT L e c->t.1=e\/∃ u∈L,u.1=t.1
 | [],t,h=>by simp[addT]at h;exact .inl (by rw[h])
 | x::L,t,h=>by
  rw[addT]at h;split at h
  ·rename_i he;rcases List.mem_cons.1 h with rfl|h
   ·exact .inl rfl
   ·exact .inr ⟨t,by simp[h],rfl⟩
  ·rcases List.mem_cons.1 h with rfl|h
   ·exact .inr ⟨t,by simp,rfl⟩
   ·rcases zg h with h|⟨u,hu,h⟩
    ·exact .inl h
    ·exact .inr ⟨u,by simp[hu],h⟩
theorem KY {L:List Tm} {e:Ex} {c:Rat} (h:Uv L) (he:Uv1 e):Uv (addT L e c):=fun t ht=>by
 rcases zg ht with h1|⟨u,hu,h1⟩
 ·rw[h1];exact he
 ·rw[<-h1];exact h u hu
theorem rP {e f:Ex} (h:Uv1 e) (h':Uv1 f):Uv1 (e.add f)/\(e.add f).a.toNat=e.a.toNat+f.a.toNat:=by
 obtain⟨h1,h2,h3,h4⟩:=h;obtain⟨k1,k2,k3,k4⟩:=h';unfold Ex.add Uv1;dsimp only;omega
theorem Gw {x:Tm} (hx:Uv1 x.1):∀{b:List Tm} (M:List Tm),Uv b->Uv M->Uv (rowM x b M)/\toP (rowM x b M)=toP M+mon x.1.a.toNat x.2*toP b
 | [],M,_,hM=>⟨hM,by show toP M=_;rw[cj,mul_zero,add_zero]⟩
 | y::b,M,hb,hM=>by
  obtain⟨h1,h2⟩:=rP hx (hb y (by simp));obtain⟨h3,h4⟩:=Gw (b:=b) hx (addT M (x.1.add y.1) (x.2*y.2)) (fun t ht=>hb t (by simp[ht])) (KY hM h1);refine⟨h3,?_⟩;show toP (rowM x b (addT M (x.1.add y.1) (x.2*y.2)))=_;rw[h4,xQ,h2,aG,mul_add,show mon (x.1.a.toNat+y.1.a.toNat) (x.2*y.2)=mon x.1.a.toNat x.2*mon y.1.a.toNat y.2 from(du _ _ _ _).symm,add_assoc]
theorem Gm {b:List Tm} (hb:Uv b):∀{a:List Tm} (M:List Tm),Uv a->Uv M->Uv (sumM a b M)/\toP (sumM a b M)=toP M+toP a*toP b
 | [],M,_,hM=>⟨hM,by show toP M=_;rw[cj,zero_mul,add_zero]⟩
 | x::a,M,ha,hM=>by
  obtain⟨h1,h2⟩:=Gw (b:=b) (ha x (by simp)) M hb hM;obtain⟨h3,h4⟩:=Gm hb (a:=a) (rowM x b M) (fun t ht=>ha t (by simp[ht])) h1;refine⟨h3,?_⟩;show toP (sumM a b (rowM x b M))=_;rw[h4,h2,aG,add_mul,add_assoc]
theorem Ic {L:List Tm} (hn:(L.map (·.1)).Nodup) (hu:Uv L):Cn (uJ L)/\toP (uJ L)=toP L:=by
 have hp:=j9 (L.filter keep);have hk:∀ t∈L,keep t=decide (t.2≠0):=fun t ht=>by
  obtain⟨h1,h2,h3,h4⟩:=hu t ht;have:cr t.1:=by unfold cr;omega
  simp[keep,this]
 refine⟨⟨rZ ((List.Sublist.map _ List.filter_sublist).nodup hn),fun t ht=>?_,fun t ht=>?_⟩,?_⟩
 ·have h:=List.mem_filter.1 (hp.mem_iff.1 ht);have:=h.2;rw[hk t h.1]at this;simpa using this
 ·exact hu t (List.mem_filter.1 (hp.mem_iff.1 ht)).1
 ·rw[uJ,Gd hp];refine rT _ _ fun t ht h=>?_;rw[hk t ht]at h;simpa using h
theorem c8 {x:Tm} {L:List Tm} (h:Cn (x::L)):Cn L:=⟨(List.pairwise_cons.1 h.srt).2,fun t ht=>h.nz t (by simp[ht]),fun t ht=>h.uv t (by simp[ht])⟩
theorem qR {x:Tm} {L:List Tm} (h:Cn (x::L)):∀ t∈L,t.1.a<x.1.a:=fun t ht=>by
 have h1:=(List.pairwise_cons.1 h.srt).1 t ht;rw[hZ]at h1;obtain⟨_,k2,k3,k4⟩:=h.uv x (by simp);obtain⟨_,l2,l3,l4⟩:=h.uv t (by simp[ht]);omega
theorem oI:∀{L:List Tm} {n:Nat},(∀ t∈L,t.1.a<n/\0<=t.1.a)->∀ i,n<=i->(toP L).c i=0
 | [],_,_,_,_=>rfl
 | t::L,n,h,i,hi=>by
  rw[aG,bK,oI (fun t ht=>h t (by simp[ht])) i hi,bJ,if_neg]
  ·exact add_zero _
  ·have:=h t (by simp);omega
theorem lh {x:Tm} {L:List Tm} (h:Cn (x::L)):Alg.sz (toP (x::L))=x.1.a.toNat+1/\(toP (x::L)).c x.1.a.toNat=x.2:=by
 have hx:=h.uv x (by simp);have hc:∀ i,x.1.a.toNat<=i->(toP L).c i=0:=oI fun t ht=>by
  have:=qR h t ht;have:=(c8 h).uv t ht;unfold Uv1 at this hx;omega
 have h1:(toP (x::L)).c x.1.a.toNat=x.2:=by
  rw[aG,bK,hc _ (ae _),bJ,if_pos rfl];exact add_zero _
 refine⟨jK (fun i hi=>?_) (fun _=>?_),h1⟩
 ·rw[aG,bK,hc _ (by omega),bJ,if_neg (by omega)];exact add_zero _
 ·rw[Nat.add_sub_cancel,h1];exact h.nz x (by simp)
theorem C8:∀{L:List Tm},Cn L->∀ t∈L,(toP L).c t.1.a.toNat=t.2
 | x::L,h,t,ht=>by
  rcases List.mem_cons.1 ht with rfl|ht
  ·exact(lh h).2
  ·have h1:=qR h t ht;have h2:=h.uv x (by simp);have h3:=(c8 h).uv t ht;rw[aG,bK,C8 (c8 h) t ht,bJ,if_neg]
   ·exact zero_add _
   ·unfold Uv1 at h2 h3;omega
theorem C6:∀{L M:List Tm},Cn L->Cn M->toP L=toP M->L=M
 | [],[],_,_,_=>rfl
 | [],y::M,_,h,e=>by
  have:=(lh h).1;rw[<-e,cj,ap.2 rfl]at this;omega
 | x::L,[],h,_,e=>by
  have:=(lh h).1;rw[e,cj,ap.2 rfl]at this;omega
 | x::L,y::M,h,h',e=>by
  obtain⟨h1,h2⟩:=lh h;obtain⟨k1,k2⟩:=lh h';have hx:=h.uv x (by simp);have hy:=h'.uv y (by simp);unfold Uv1 at hx hy;have ea:x.1=y.1:=by
   have:x.1.a=y.1.a:=by rw[e,k1]at h1;omega
   rcases hx1:x.1 with⟨a,b,c,d⟩;rcases hy1:y.1 with⟨a',b',c',d'⟩;rw[hx1]at hx this;rw[hy1]at hy this;simp only[Ex.mk.injEq]at *
   omega
  have eb:x.2=y.2:=by rw[<-h2,<-k2,e,ea]
  have exy:x=y:=Prod.ext ea eb;subst exy;rw[aG,aG]at e;rw[C6 (c8 h) (c8 h') (fH e)]
theorem Ie:∀(n:Nat) (p:PQ),Alg.sz p<=n->∃ L,Cn L/\toP L=p/\L.length<=Alg.sz p/\∀ t∈L,t.1.a<Alg.sz p
 | 0,p,h=>⟨[],⟨List.Pairwise.nil,by simp,by intro t ht;simp at ht⟩,(ap.1 (by omega)).symm,by simp,by simp⟩
 | n+1,p,h=>by
  by_cases hp:p=0
  ·exact⟨[],⟨List.Pairwise.nil,by simp,by intro t ht;simp at ht⟩,hp.symm,by simp,by simp⟩
  have h0:=az hp;have hlow:Alg.sz (p-mon (Alg.sz p-1) (lc p))<=Alg.sz p-1:=cm fun i hi=>by
   rw[iu,bJ];by_cases e:i=Alg.sz p-1
   ·subst e;rw[if_pos rfl];exact sub_self _
   ·rw[if_neg e,au (by omega)];exact sub_self _
  obtain⟨L,h1,h2,h3,h4⟩:=Ie n _ (by omega:Alg.sz (p-mon (Alg.sz p-1) (lc p))<=n);refine⟨(⟨((Alg.sz p-1:Nat):Int),0,0,0⟩,lc p)::L,⟨List.pairwise_cons.2 ⟨fun t ht=>?_,h1.srt⟩,fun t ht=>?_,fun t ht=>?_⟩,?_,by simp only[List.length_cons];omega,fun t ht=>?_⟩
  ·refine(jg ⟨by simp,rfl,rfl,rfl⟩ (h1.uv t ht)).2 ?_;have:=h4 t ht;show t.1.a<((Alg.sz p-1:Nat):Int);omega
  ·rcases List.mem_cons.1 ht with rfl|ht
   ·exact bu hp
   ·exact h1.nz t ht
  ·rcases List.mem_cons.1 ht with rfl|ht
   ·exact⟨by simp,rfl,rfl,rfl⟩
   ·exact h1.uv t ht
  ·rw[aG,h2];simp only[Int.toNat_natCast];exact ring [mon (Alg.sz p-1) (lc p),p]
  ·rcases List.mem_cons.1 ht with rfl|ht
   ·simp only;omega
   ·have:=h4 t ht;omega
noncomputable def U (p:PQ):List Tm:=Classical.choose (Ie _ p (ae _))
theorem w9 (p:PQ):Cn (U p)/\toP (U p)=p/\(U p).length<=Alg.sz p/\∀ t∈U p,t.1.a<Alg.sz p:=Classical.choose_spec (Ie _ p (ae _))
theorem il (p:PQ):Cn (U p):=(w9 p).1
theorem gy (p:PQ):toP (U p)=p:=(w9 p).2.1
theorem cJ (p:PQ):(U p).length<=Alg.sz p:=(w9 p).2.2.1
theorem uO {L:List Tm} (h:Cn L) {p:PQ} (e:toP L=p):L=U p:=C6 h (il p) (by rw[gy,e])
theorem bR:U 0=[]:=(uO ⟨List.Pairwise.nil,by simp,by intro t ht;simp at ht⟩ rfl).symm
theorem mN {p:PQ}:U p=[]↔p=0:=⟨fun h=>by rw[<-gy p,h];rfl,fun h=>by rw[h,bR]⟩
theorem mO {p:PQ} {t:Tm} (h:t∈U p):∃ i:Nat,i<Alg.sz p/\t=(⟨i,0,0,0⟩,p.c i)/\p.c i≠0:=by
 have h1:=C8 (il p) t h;rw[gy]at h1;have h2:=(w9 p).2.2.2 t h;obtain⟨k1,k2,k3,k4⟩:=(il p).uv t h;have h3:=(il p).nz t h;refine⟨t.1.a.toNat,by omega,?_,by rw[h1];exact h3⟩;rcases t with⟨⟨a,b,c,d⟩,q⟩;simp only at *
 rw[h1];refine Prod.ext ?_ rfl;simp only[Ex.mk.injEq];omega
theorem fu {p:PQ} (h:p≠0):∃ L,U p=(⟨((Alg.sz p-1:Nat):Int),0,0,0⟩,lc p)::L:=by
 cases hU:U p with
 | nil=>exact absurd (mN.1 hU) h
 | cons x L =>
  refine⟨L,?_⟩;have hc:=il p;rw[hU]at hc;obtain⟨h1,h2⟩:=lh hc;rw[<-hU,gy]at h1 h2;obtain⟨k1,k2,k3,k4⟩:=hc.uv x (by simp);rcases x with⟨⟨a,b,c,d⟩,q⟩;simp only at *
  congr 1;refine Prod.ext ?_ ?_
  ·simp only[Ex.mk.injEq];omega
  ·show q=lc p;rw[<-h2,lc,h1,Nat.add_sub_cancel]
theorem PJ (p q:PQ):EM (U p) (U q)=U (p*q):=by
 obtain⟨h1,h2⟩:=Gm (il q).uv (a:=U p) [] (il p).uv (by intro t ht;simp at ht);obtain⟨h3,h4⟩:=Ic (rY (U p) (U q)) h1;exact uO h3 (by rw[h4,h2,gy,gy,cj,zero_add])
theorem nw (p:PQ) (c:Rat):dE (U p) c=U (p*Alg.C c):=by
 by_cases h:c=0
 ·rw[dE,if_pos h,h,show Alg.C (0:Rat)=0 from cu,mul_zero,bR]
 ·rw[dE,if_neg h];have hc:=il p;refine uO (L:=(U p).map fun t=>(t.1,t.2*c)) ⟨(List.pairwise_map (f:=fun t:Tm=>(t.1,t.2*c)) (R:=fun x y:Tm=>0<bO x.1 y.1)).2 hc.srt,fun t ht=>?_,fun t ht=>?_⟩ ?_
  ·obtain⟨u,hu,rfl⟩:=List.mem_map.1 ht;exact aE (hc.nz u hu) h
  ·obtain⟨u,hu,rfl⟩:=List.mem_map.1 ht;exact hc.uv u hu
  ·have:∀ L:List Tm,toP (L.map fun t=>(t.1,t.2*c))=toP L*Alg.C c:=by
    intro L
    induction L with
    | nil=>rw[List.map_nil,cj,zero_mul]
    | cons t L ih =>
     rw[List.map_cons,aG,aG,ih,add_mul];congr 1;rw[<-cH,du,Nat.add_zero]
   rw[this,gy]
theorem w6:∀(n:Nat) (a b:List Tm),a.length+b.length<=n->Cn a->Cn b->Cn (fM a b)/\toP (fM a b)=toP a+toP b/\∀ k:Int,(∀ t∈a,t.1.a<k)->(∀ t∈b,t.1.a<k)->∀ t∈fM a b,t.1.a<k
 | _,[],b,_,_,hb=>by rw[gj];exact⟨hb,by rw[cj,zero_add],fun k _ h=>h⟩
 | _,x::a,[],_,ha,_=>by rw[jb];exact⟨ha,by rw[cj,add_zero],fun k h _=>h⟩
 | 0,x::a,y::b,h,_,_=>by simp at h
 | n+1,x::a,y::b,h,ha,hb=>by
  simp only[List.length_cons]at h;have hx:=ha.uv x (by simp);have hy:=hb.uv y (by simp);have la:=qR ha;have lb:=qR hb;have hcx:(0<bO x.1 y.1↔y.1.a<x.1.a)/\(bO x.1 y.1<0↔x.1.a<y.1.a):=by
   refine⟨jg hx hy,?_⟩;rw[<-jg hy hx,nq x.1 y.1];omega
  have cons:∀(z:Tm) (R:List Tm),Uv1 z.1->z.2≠0->Cn R->(∀ t∈R,t.1.a<z.1.a)->Cn (z::R):=fun z R hz hz0 hR hlt =>
   ⟨List.pairwise_cons.2 ⟨fun t ht=>(jg hz (hR.uv t ht)).2 (hlt t ht),hR.srt⟩,fun t ht=>by
     rcases List.mem_cons.1 ht with rfl|ht
     ·exact hz0
     ·exact hR.nz t ht,fun t ht=>by
     rcases List.mem_cons.1 ht with rfl|ht
     ·exact hz
     ·exact hR.uv t ht⟩
  rw[jc];split
  ·rename_i c1;have c1':=hcx.1.1 c1;obtain⟨i1,i2,i3⟩:=w6 n a (y::b) (by simp;omega) (c8 ha) hb;refine⟨cons x _ hx (ha.nz x (by simp)) i1 (i3 _ la fun t ht=>?_),by rw[aG,i2,aG x a,add_assoc],fun k h1 h2 t ht=>?_⟩
   ·rcases List.mem_cons.1 ht with rfl|ht
    ·exact c1'
    ·have:=lb t ht;omega
   ·rcases List.mem_cons.1 ht with rfl|ht
    ·exact h1 t (by simp)
    ·exact i3 k (fun t ht=>h1 t (by simp[ht])) h2 t ht
  ·rename_i c1;split
   ·rename_i c2;have c2':=hcx.2.1 c2;obtain⟨i1,i2,i3⟩:=w6 n (x::a) b (by simp;omega) ha (c8 hb);refine⟨cons y _ hy (hb.nz y (by simp)) i1 (i3 _ (fun t ht=>?_) lb),by rw[aG,i2,aG y b];exact fE _ _ _,fun k h1 h2 t ht=>?_⟩
    ·rcases List.mem_cons.1 ht with rfl|ht
     ·exact c2'
     ·have:=la t ht;omega
    ·rcases List.mem_cons.1 ht with rfl|ht
     ·exact h2 t (by simp)
     ·exact i3 k h1 (fun t ht=>h2 t (by simp[ht])) t ht
   ·rename_i c2;have hea:x.1.a=y.1.a:=by
     have h3:¬ y.1.a<x.1.a:=fun h=>c1 (hcx.1.2 h);have h4:¬ x.1.a<y.1.a:=fun h=>c2 (hcx.2.2 h);omega
    obtain⟨i1,i2,i3⟩:=w6 n a b (by omega) (c8 ha) (c8 hb);have hm:mon x.1.a.toNat x.2+mon y.1.a.toNat y.2=mon x.1.a.toNat (x.2+y.2):=by
     rw[<-hea];exact(wA _ _ _).symm
    have hs:toP (x::a)+toP (y::b)=mon x.1.a.toNat (x.2+y.2)+(toP a+toP b):=by
     rw[aG,aG,<-hm];exact ring [mon x.1.a.toNat x.2,mon y.1.a.toNat y.2,toP a,toP b]
    split
    ·rename_i c3;refine⟨i1,?_,fun k h1 h2=>i3 k (fun t ht=>h1 t (by simp[ht])) fun t ht=>h2 t (by simp[ht])⟩;rw[i2,hs,c3,show mon x.1.a.toNat (0:Rat)=0 from i5 _,zero_add]
    ·rename_i c3;refine⟨cons (x.1,x.2+y.2) _ hx c3 i1 (i3 _ la fun t ht=>?_),?_,fun k h1 h2 t ht=>?_⟩
     ·have:=lb t ht;simp only;omega
     ·rw[aG,i2,hs]
     ·rcases List.mem_cons.1 ht with rfl|ht
      ·exact h1 x (by simp)
      ·exact i3 k (fun t ht=>h1 t (by simp[ht])) (fun t ht=>h2 t (by simp[ht])) t ht
theorem Dg (p q:PQ):fM (U p) (U q)=U (p+q):=by
 obtain⟨h1,h2,_⟩:=w6 _ (U p) (U q) (ae _) (il p) (il q);exact uO h1 (by rw[h2,gy,gy])
theorem Mm (p q:PQ):Eg (U p) (U q)=U (p-q):=by
 rw[Eg,nw,Dg];congr 1;rw[show(-1:Rat) = -(1:Rat)from rfl,show Alg.C (-(1:Rat)) = -Alg.C (1:Rat)from kC _,show Alg.C (1:Rat)=1 from rfl];exact ring [p,q]
noncomputable abbrev iUp (p:PQ):IV:=iM (U p)
theorem qe {z:Int} {h:Nat} (H:z.natAbs<=2 ^ h):(lb z).length<=h/32+1:=by
 refine eG ?_;have h1:(4294967296:Int) ^ (h/32+1)=((2 ^ (32*(h/32+1)):Nat):Int):=by
  rw[show(4294967296:Int)=((2 ^ 32:Nat):Int)from rfl,<-Int.natCast_pow,<-Nat.pow_mul]
 rw[h1];have h2:2 ^ h<2 ^ (32*(h/32+1)):=Nat.pow_lt_pow_right (by omega) (by omega);omega
theorem gB {q:Rat} {h k:Nat} (h1:q.num.natAbs<=2 ^ h) (h2:q.den<=2 ^ h) (hk:h/32+1<=k):QB k q :=
 ⟨ac (qe h1) hk,ac (qe (z:=(q.den:Int)) (by simpa using h2)) hk⟩
theorem HB.qb {h k:Nat} {p:PQ} (H:Alg.HB h p) (hk:h/32+1<=k):∀ t∈U p,QB k t.2:=fun t ht=>by
 obtain⟨i,_,rfl,_⟩:=mO ht;exact gB (H.coef i).1 (H.coef i).2 hk
theorem BS {p:PQ} {n:Int} (h:(Alg.sz p:Int)<=n) (hn:0<n):∀ t∈U p,t.1.lt n:=fun t ht=>by
 obtain⟨i,hi,rfl,_⟩:=mO ht;unfold Ex.lt;dsimp only;omega
theorem zI {p q:PQ} {h k:Nat} (hp:Alg.HB h p) (hq:Alg.HB k q) (hh:h<=137438953000) (hk:k<=137438953000) (sp:Alg.sz p<=1048576) (sq:Alg.sz q<=1048576):Fn Tryz.prog 108 [iUp p,iUp q] [iUp (p+q)]:=by
 have:=xf (U p) (U q) (by have:=cJ p;have:=cJ q;omega) (HB.qb hp (by omega)) (HB.qb hq (by omega));rwa [Dg]at this
theorem pB {p q:PQ} {h k:Nat} (hp:Alg.HB h p) (hq:Alg.HB k q) (hh:h<=137438953000) (hk:k<=137438953000) (sp:Alg.sz p<=1048576) (sq:Alg.sz q<=1048576):Fn Tryz.prog 113 [iUp p,iUp q] [iUp (p-q)]:=by
 have:=Dt (U p) (U q) (by have:=cJ p;have:=cJ q;omega) (HB.qb hp (by omega)) (HB.qb hq (by omega));rwa [Mm]at this
theorem Fp {p:PQ} {c:Rat} {h:Nat} (hp:Alg.HB h p) (hh:h<=274877906000) (sp:Alg.sz p<=1048576) (hc:QB 17179869184 c):Fn Tryz.prog 120 [iUp p,iQ c] [iUp (p*Alg.C c)]:=by
 have:=jy (U p) c (by have:=cJ p;omega) (HB.qb hp (by omega)) hc;rwa [nw]at this
def Bd (K:Int):List Tm->Nat->Prop
 | [],_=>True
 | t::L,S=>∃ z:Int,(K:Rat)*t.2=z/\z.natAbs<=S/\Bd K L (S-z.natAbs)
theorem Bd.mono {K:Int}:∀{L:List Tm} {S S':Nat},Bd K L S->S<=S'->Bd K L S'
 | [],_,_,_,_=>trivial
 | _::_,_,_,⟨z,h1,h2,h3⟩,h=>⟨z,h1,by omega,h3.mono (by omega)⟩
theorem Bd.get {K:Int}:∀{L:List Tm} {S:Nat},Bd K L S->∀ t∈L,∃ z:Int,(K:Rat)*t.2=z/\z.natAbs<=S
 | _::_,_,⟨z,h1,h2,h3⟩,t,ht=>by
  rcases List.mem_cons.1 ht with rfl|ht
  ·exact⟨z,h1,h2⟩
  ·obtain⟨y,k1,k2⟩:=h3.get t ht;exact⟨y,k1,by omega⟩
theorem Bd.take {K:Int}:∀{L:List Tm} {S:Nat} (n:Nat),Bd K L S->Bd K (L.take n) S
 | [],_,n,_=>by simp[Bd]
 | _::_,_,0,_=>trivial
 | _::_,_,n+1,⟨z,h1,h2,h3⟩=>⟨z,h1,h2,h3.take n⟩
theorem Bd.addT {K w:Int} {e:Ex} {c:Rat} (hw:(K:Rat)*c=w):∀{L:List Tm} {S:Nat},Bd K L S->Bd K (addT L e c) (S+w.natAbs)
 | [],S,_=>⟨w,hw,by omega,trivial⟩
 | x::L,S,⟨z,h1,h2,h3⟩=>by
  rw[AM.addT];split
  ·refine⟨z+w,?_,by omega,h3.mono (by omega)⟩;show(K:Rat)*(x.2+c)=_;rw[Rat.mul_add,h1,hw,Rat.intCast_add]
  ·exact⟨z,h1,by omega,(h3.addT hw).mono (by omega)⟩
theorem Bd.rowM {D E u:Int} {x:Tm} (hu:(D:Rat)*x.2=u):∀{b M:List Tm} {S SB:Nat},Bd E b SB->Bd (D*E) M S->Bd (D*E) (rowM x b M) (S+u.natAbs*SB)
 | [],M,S,SB,_,hM=>hM.mono (by omega)
 | y::b,M,S,SB,⟨z,h1,h2,h3⟩,hM=>by
  have hw:((D*E:Int):Rat)*(x.2*y.2)=(u*z:Int):=by
   rw[Rat.intCast_mul,Rat.intCast_mul,<-hu,<-h1];grind
  have h4:=Bd.rowM hu h3 (hM.addT (e:=x.1.add y.1) hw);refine Bd.mono h4 ?_;rw[Int.natAbs_mul];have:u.natAbs*SB=u.natAbs*z.natAbs+u.natAbs*(SB-z.natAbs):=by rw[<-Nat.mul_add];congr 1;omega
  omega
theorem Bd.sumM {D E:Int} {b:List Tm} {SB:Nat} (hb:Bd E b SB):∀{a M:List Tm} {S SA:Nat},Bd D a SA->Bd (D*E) M S->Bd (D*E) (sumM a b M) (S+SA*SB)
 | [],M,S,SA,_,hM=>hM.mono (by omega)
 | x::a,M,S,SA,⟨z,h1,h2,h3⟩,hM=>by
  have h4:=Bd.sumM (a:=a) hb h3 (Bd.rowM h1 hb hM);refine Bd.mono (L:=AM.sumM (x::a) b M) h4 ?_;have:SA*SB=z.natAbs*SB+(SA-z.natAbs)*SB:=by rw[<-Nat.add_mul];congr 1;omega
  omega
theorem Mj {D:Int} {A:Alg.P Int}:∀{L:List Tm} {n:Nat},Cn L->(∀ t∈L,(D:Rat)*t.2=A.c t.1.a.toNat/\t.1.a<n)->Bd D L (cp (fun i=>(A.c i).natAbs) n)
 | [],_,_,_=>trivial
 | x::L,n,h,hx=>by
  obtain⟨h1,h2⟩:=hx x (by simp);have h0:=h.uv x (by simp);unfold Uv1 at h0;have hlt:x.1.a.toNat<n:=by omega
  have h3:cp (fun i=>(A.c i).natAbs) (x.1.a.toNat)+(A.c x.1.a.toNat).natAbs<=cp (fun i=>(A.c i).natAbs) n:=by
   have:∀ m,x.1.a.toNat<m->cp (fun i=>(A.c i).natAbs) (x.1.a.toNat)+(A.c x.1.a.toNat).natAbs<=cp (fun i=>(A.c i).natAbs) m:=by
    intro m hm
    induction m with
    | zero=>omega
    | succ m ih =>
     simp only[cp];rcases Nat.lt_or_ge x.1.a.toNat m with h4|h4
     ·have:=ih h4;omega
     ·rw[show x.1.a.toNat=m by omega];exact ae _
   exact this n hlt
  refine⟨A.c x.1.a.toNat,h1,by omega,?_⟩;refine Bd.mono (Mj (n:=x.1.a.toNat) (c8 h) fun t ht=>⟨(hx t (by simp[ht])).1,?_⟩) (by omega);have:=qR h t ht;omega
theorem HB.bd {h:Nat} {p:PQ} (H:Alg.HB h p):∃ D:Int,D≠0/\D.natAbs<=2 ^ h/\Bd D (U p) (2 ^ h):=by
 obtain⟨D,A,h1,h2,h3,h4⟩:=H;refine⟨D,h1,h2,?_⟩;have hs:Alg.sz A<=Alg.sz p:=by
  rw[<-fI,<-h4,bF (qM h1)];exact ae _
 have h5:=Mj (D:=D) (A:=A) (L:=U p) (n:=Alg.sz p) (il p) fun t ht=>by
  obtain⟨i,hi,rfl,_⟩:=mO ht;have:=congrArg (fun p:PQ=>p.c i) h4;simp only[bA]at this;exact⟨this,by simp only;omega⟩
 rw[<-fQ hs]at h5;exact h5.mono h3
theorem Cu {q:Rat} {D z:Int} {h k:Nat} (hD:D≠0) (hDh:D.natAbs<=2 ^ h) (e:(D:Rat)*q=z) (hz:z.natAbs<=2 ^ h) (hk:h/32+1<=k):QB k q:=by
 obtain⟨h1,h2⟩:=oa hD e;exact gB (ac h1 hz) (ac h2 hDh) hk
theorem cK {p q:PQ} {h k:Nat} (hp:Alg.HB h p) (hq:Alg.HB k q) (hh:h<=137438953000) (hk:k<=137438953000) (sp:Alg.sz p<=1048576) (sq:Alg.sz q<=1048576):Fn Tryz.prog 111 [iUp p,iUp q] [iUp (p*q)]:=by
 obtain⟨D,hD,hDh,hb⟩:=HB.bd hp;obtain⟨E,hE,hEh,hb'⟩:=HB.bd hq;have hDE:(D*E).natAbs<=2 ^ (h+k):=by rw[Int.natAbs_mul];exact aN hDh hEh
 have:=xe (U p) (U q) (by have:=cJ p;omega) (by have:=cJ q;omega) (BS (by omega) (by omega)) (BS (by omega) (by omega)) (HB.qb hp (by omega)) (HB.qb hq (by omega)) fun i j hi hj=>by
  obtain⟨u,hu,hu'⟩:=hb.get _ (List.getElem_mem hi);obtain⟨v,hv,hv'⟩:=hb'.get _ (List.getElem_mem hj);refine⟨?_,fun e c hc=>?_⟩
  ·refine Cu (D:=D*E) (z:=u*v) (h:=h+k) (Int.mul_ne_zero hD hE) hDE ?_ ?_ (by omega)
   ·rw[Rat.intCast_mul,Rat.intCast_mul,<-hu,<-hv];grind
   ·rw[Int.natAbs_mul];exact aN hu' hv'
  ·have h1:Bd (D*E) (sumM ((U p).take i) (U q) []) (0+2 ^ h*2 ^ k):=Bd.sumM hb' (hb.take i) (M:=[]) trivial;have h2:=Bd.rowM hu (hb'.take j) h1;obtain⟨z,hz,hz'⟩:=h2.get _ hc;refine Cu (D:=D*E) (z:=z) (h:=h+k+1) (Int.mul_ne_zero hD hE) (ac hDE (cq (by omega))) hz ?_ (by omega);have h3:u.natAbs*2 ^ k<=2 ^ (h+k):=aN hu' (ae _);have h4:2 ^ h*2 ^ k=2 ^ (h+k):=(Nat.pow_add _ _ _).symm;have h5:2 ^ (h+k+1)=2 ^ (h+k)+2 ^ (h+k):=by rw[Nat.pow_succ];omega
   omega
 rwa [PJ]at this
end Go.AM
namespace Alg
open Classical
theorem HB.mon {h:Nat} {c:Rat} (e:Nat) (h1:c.num.natAbs<=2 ^ h) (h2:c.den<=2 ^ h):HB h (mon e c):=by
 refine⟨c.den,Alg.mon e c.num,by have:=c.den_nz;omega,by simpa using h2,?_,?_⟩
 ·have h3:=gG e c.num 1;have h4:n1 (1:P Int)<=1:=by
   rw[fQ (n:=1) (cm fun i hi=>by cases i with|zero=>omega|succ i=>rfl)]
   show 0+Int.natAbs 1<=1;decide
  rw[mul_one]at h3;rw[h3];exact ac (Nat.mul_le_mul_left _ h4) (by simpa using h1)
 ·rw[m3,<-cH,Alg.du,Nat.zero_add];congr 1;show((c.den:Int):Rat)*c=c.num;rw[Rat.mul_comm];exact cB c
theorem i7 {x y:Rat} {h k:Nat} (hy:y≠0) (H:x.num.natAbs<=2 ^ h/\x.den<=2 ^ h) (G:y.num.natAbs<=2 ^ k/\y.den<=2 ^ k):(x/y).num.natAbs<=2 ^ (h+k)/\(x/y).den<=2 ^ (h+k):=by
 have hn:y.num≠0:=fun e=>hy (Rat.num_eq_zero.1 e);have hd:(x.den:Int)≠0:=by have:=x.den_nz;omega
 have e:(((x.den:Int)*y.num:Int):Rat)*(x/y)=((x.num*y.den:Int):Rat):=by
  rw[Rat.intCast_mul,Rat.intCast_mul,<-cB x,<-cB y]
  grind
 obtain⟨h1,h2⟩:=oa (Int.mul_ne_zero hd hn) e;rw[Int.natAbs_mul]at h1 h2;exact⟨ac h1 (aN H.1 (by simpa using G.2)),ac h2 (aN (by simpa using H.2) G.1)⟩
theorem HB.pstep {h k:Nat} {r q:P Rat} (H:HB h r) (G:HB k q) (e i j:Nat):HB (h+k+1) (C (q.c j)*r-Alg.mon e (r.c i)*q):=by
 obtain⟨D,A,h1,h2,h3,h4⟩:=H;obtain⟨E,B,k1,k2,k3,k4⟩:=G;have hA:∀ i,hQ.f D*r.c i=hQ.f (A.c i):=fun i=>by
  have:=congrArg (fun p:P Rat=>p.c i) h4;simp only[bA]at this;exact this
 have hB:∀ i,hQ.f E*q.c i=hQ.f (B.c i):=fun i=>by
  have:=congrArg (fun p:P Rat=>p.c i) k4;simp only[bA]at this;exact this
 refine⟨D*E,C (B.c j)*A-Alg.mon e (A.c i)*B,Int.mul_ne_zero h1 k1,?_,?_,?_⟩
 ·rw[Int.natAbs_mul];exact ac (aN h2 k2) (cq (by omega))
 ·refine ac (Ha _ _) ?_;rw[ms,gG,show h+k+1=(h+k)+1 from rfl];refine jx ?_ ?_
  ·rw[Nat.add_comm];exact aN (ac (iO _ _) k3) h3
  ·exact aN (ac (iO _ _) h3) k3
 ·rw[vX,bN,bN,oH,m3,<-h4,<-k4,<-hA,<-hB,show hQ.f (D*E)=hQ.f D*hQ.f E from hQ.mul _ _,bf,bf,
   show Alg.mon e (hQ.f D*r.c i)=C (hQ.f D)*Alg.mon e (r.c i)by rw[<-cH,Alg.du,Nat.zero_add]]
  exact ring [C (hQ.f D),C (hQ.f E),C (q.c j),r,Alg.mon e (r.c i),q]
theorem HB.divstep {h k:Nat} {r q:P Rat} (H:HB h r) (G:HB k q) (hq:q≠0) (e:Nat):HB (h+k+1) (r-q*Alg.mon e (lc r/lc q)):=by
 obtain⟨D,A,h1,h2,h3,h4⟩:=H;obtain⟨E,B,k1,k2,k3,k4⟩:=G;have hA:∀ i,hQ.f D*r.c i=hQ.f (A.c i):=fun i=>by
  have:=congrArg (fun p:P Rat=>p.c i) h4;simp only[bA]at this;exact this
 have hB:∀ i,hQ.f E*q.c i=hQ.f (B.c i):=fun i=>by
  have:=congrArg (fun p:P Rat=>p.c i) k4;simp only[bA]at this;exact this
 have hl:=bu hq;have hb0:B.c (sz q-1)≠0:=fun e=>by
  have:=hB (sz q-1);rw[e,hQ.zero]at this;rcases zero_of_mul this with h5|h5
  ·exact qM k1 h5
  ·exact hl h5
 refine⟨D*B.c (sz q-1),C (B.c (sz q-1))*A-Alg.mon e (A.c (sz r-1))*B,Int.mul_ne_zero h1 hb0,?_,?_,?_⟩
 ·rw[Int.natAbs_mul];exact ac (aN h2 (ac (iO _ _) k3)) (cq (by omega))
 ·refine ac (Ha _ _) ?_;rw[ms,gG,show h+k+1=(h+k)+1 from rfl];refine jx ?_ ?_
  ·rw[Nat.add_comm];exact aN (ac (iO _ _) k3) h3
  ·exact aN (ac (iO _ _) h3) k3
 ·have e1:hQ.f D*hQ.f (B.c (sz q-1))*(lc r/lc q)=hQ.f (A.c (sz r-1))*hQ.f E:=by
   rw[<-hA,<-hB,lc,lc];have hl':q.c (sz q-1)≠(0:Rat):=hl;show(hQ.f D:Rat)*((hQ.f E:Rat)*q.c (sz q-1))*(r.c (sz r-1)/q.c (sz q-1))=(hQ.f D:Rat)*r.c (sz r-1)*(hQ.f E:Rat)
   grind
  rw[vX,bN,bN,oH,m3,<-h4,<-k4,show hQ.f (D*B.c (sz q-1))=hQ.f D*hQ.f (B.c (sz q-1))from hQ.mul _ _];have e2:C (hQ.f D*hQ.f (B.c (sz q-1)))*Alg.mon e (lc r/lc q)=Alg.mon e (hQ.f (A.c (sz r-1)))*C (hQ.f E):=by
   rw[<-cH,Alg.du,<-cH,Alg.du,Nat.zero_add,Nat.add_zero];exact congrArg _ e1
  have e3:C (hQ.f D*hQ.f (B.c (sz q-1)))*(q*Alg.mon e (lc r/lc q))=Alg.mon e (hQ.f (A.c (sz r-1)))*(C (hQ.f E)*q):=by
   rw[cS,e2];exact ring [q,Alg.mon e (hQ.f (A.c (sz r-1))),C (hQ.f E)]
  rw[sub_eq,mul_add,mul_neg,e3,bf];exact ring [C (hQ.f D),C (hQ.f (B.c (sz q-1))),r,Alg.mon e (hQ.f (A.c (sz r-1)))*(C (hQ.f E)*q)]
theorem vp {r q:P Rat} (hr:r≠0) (hq:q≠0) (h:sz q<=sz r):sz (r-q*Alg.mon (sz r-sz q) (lc r/lc q))<sz r:=by
 have hr0:=az hr;have hq0:=az hq;have:sz (r-q*Alg.mon (sz r-sz q) (lc r/lc q))<=sz r-1:=cm fun i hi=>by
  rw[iu,mul_comm,bY,if_pos (by omega)];by_cases e:i=sz r-1
  ·subst e;rw[show sz r-1-(sz r-sz q)=sz q-1 by omega];have hl:q.c (sz q-1)≠(0:Rat):=bu hq;show r.c (sz r-1)-(lc r/lc q)*q.c (sz q-1)=(0:Rat);rw[lc,lc]
   grind
  ·rw[au (by omega:sz r<=i),au (p:=q) (by omega),mul_zero];exact sub_self _
 omega
end Alg
namespace Go.AM
open Alg
open Go.Proofs
def Ex.sub (e f:Ex):Ex:=⟨e.a-f.a,e.b-f.b,e.c-f.c,e.d-f.d⟩
def Ex.psub (e f:Ex) (i:Nat):Ex:=⟨if 0<i then e.a-f.a else e.a,if 1<i then e.b-f.b else e.b,if 2<i then e.c-f.c else e.c,if 3<i then e.d-f.d else e.d⟩
open Classical in
noncomputable def tO (p q:PQ):List IV:=if h:Dv q p then[iUp (Classical.choose h),iB true]else[iM [],iB false]
theorem ge {p q s:PQ} (hq:q≠0) (h:p=s*q):tO p q=[iUp s,iB true]:=by
 have hd:Dv q p:=⟨s,by rw[h,mul_comm]⟩;rw[tO,dif_pos hd];have h1:=Classical.choose_spec hd;have h2:q*s=q*Classical.choose hd:=by rw[<-h1,h,mul_comm]
 rw[bZ hq h2]
theorem yX {p q s r:PQ} (h:p=s*q+r) (hr:r≠0) (hs:Alg.sz r<Alg.sz q):tO p q=[iM [],iB false]:=by
 have hd:¬ Dv q p:=fun⟨c,hc⟩=>by
  have h1:c*q+0=s*q+r:=by rw[<-h,hc,add_zero,mul_comm]
  have h2:=(qP h1 (by rw[ap.2 rfl];omega) hs).2;exact hr h2.symm
 rw[tO,dif_neg hd]
theorem jZ (p:PQ):iUp p=iM (U p):=rfl
theorem BG {n:Nat} {c:Rat} (hc:c≠0):Cn [(⟨n,0,0,0⟩,c)]:=⟨List.pairwise_singleton _ _,by simpa using hc,by intro t ht;simp at ht;subst ht;exact⟨by simp,rfl,rfl,rfl⟩⟩
theorem zt (n:Nat) {c:Rat} (hc:c≠0):U (mon n c)=[(⟨n,0,0,0⟩,c)]:=(uO (BG hc) (by rw[aG,cj,add_zero];simp)).symm
theorem C7 {L:List Tm} {n:Nat} {c:Rat} (hL:Cn L) (hc:c≠0) (h:∀ t∈L,(n:Int)<t.1.a):Cn (L++[(⟨n,0,0,0⟩,c)]):=by
 refine⟨List.pairwise_append.2 ⟨hL.srt,List.pairwise_singleton _ _,fun t ht u hu=>?_⟩,fun t ht=>?_,fun t ht=>?_⟩
 ·simp at hu;subst hu;exact(jg (hL.uv t ht) ⟨by simp,rfl,rfl,rfl⟩).2 (h t ht)
 ·rcases List.mem_append.1 ht with ht|ht
  ·exact hL.nz t ht
  ·exact(BG hc).nz t ht
 ·rcases List.mem_append.1 ht with ht|ht
  ·exact hL.uv t ht
  ·exact(BG (n:=n) hc).uv t ht
theorem rI {p q:PQ} {h k:Nat} (hp:Alg.HB h p) (hq:Alg.HB k q) (hq0:q≠0) (hb:h+(Alg.sz p+2)*(k+1)+k<=137438953000) (sp:Alg.sz p<=524288) (sq:Alg.sz q<=524288):Fn Tryz.prog 152 [iUp p,iUp q] (tO p q):=by
 obtain⟨Q,hQ⟩:=fu hq0;have lQ:(U q).length=Q.length+1:=by rw[hQ];rfl
 have cQ:(U q)[0]?=some (⟨((Alg.sz q-1:Nat):Int),0,0,0⟩,lc q):=by rw[hQ];rfl
 have hq1:=az hq0;have hlq:=bu hq0;refine ak (fn:=Tryz.f152) (by rfl) rfl rfl rfl (by rfl) ?_;have e1:decide (((U q).length:Int)=0)=false:=by rw[lQ];exact aj (by omega)
 simp -dsimp -implicitDefEqProofs only[go_sem,e1,af];refine bL 6 6 8 (rs:=[]) rfl (by simp) ?_;refine aS [(0,0),(4,8),(12,59)] [(7,7)] [(53,53),(6,6)] (fun n τ β ε=>∃(r s:PQ) (L:List Tm) (j:Nat),n=Alg.sz r/\p=s*q+r/\Cn L/\toP L=s/\(∀ t∈L,(Alg.sz r:Int)-Alg.sz q<t.1.a)/\L.length+Alg.sz r<=Alg.sz p/\Alg.HB (h+j*(k+1)) r/\j+Alg.sz r<=Alg.sz p /\
   τ 0 = .i (iUp r)/\Own 8 (L.map eT) 6 6 τ ε)
  (fun e τ β ε=>(e = .exit 0/\∃(s:PQ) (L:List Tm),p=s*q/\Cn L/\toP L=s/\L.length<=Alg.sz p/\Own 8 (L.map eT) 6 6 τ ε) \/
   (e = .ret/\tO p q=[iM [],iB false]/\τ 4 = .fl []/\τ 5 = .i (.c (.v (.bool false))))) (Alg.sz p) ?_ ?_ ?_
 ·exact⟨p,0,[],0,rfl,by rw[zero_mul,zero_add],⟨List.Pairwise.nil,by simp,by intro t ht;simp at ht⟩,rfl,by simp,by simp,by simpa using hp,by omega,rfl,Own.mk (g:=1) (mm:=false) (by omega) rfl rfl rfl⟩
 ·rintro n τ β ε π hK hKB hKE ⟨r,s,L,j,hn,he,hL,hLs,hlt,hll,hr,hj,h0,g,mm,hg,h6,hrow⟩;have h6':τ 6 = .sl 6 g L.length:=by rw[h6,af]
  have k1:τ 1 = .i (iUp q):=(hK 1 rfl).trans rfl;by_cases hr0:r=0
  ·have hA:¬ (0:Int)<((U r).length:Int):=by rw[hr0,bR];simp
   simp -dsimp -implicitDefEqProofs only[go_sem,h0,hA];exact⟨(by(repeat apply am rfl);exact hK),hKB,hKE,s,L,by rw[he,hr0,add_zero],hL,hLs,by omega,Own.mk hg h6' (by simp) hrow⟩
  ·obtain⟨R,hR⟩:=fu hr0;have lR:(U r).length=R.length+1:=by rw[hR];rfl
   have cR:(U r)[0]?=some (⟨((Alg.sz r-1:Nat):Int),0,0,0⟩,lc r):=by rw[hR];rfl
   have hA:(0:Int)<((U r).length:Int):=by rw[lR];omega
   have hr1:=az hr0;have hsr:Alg.sz r<=Alg.sz p:=by omega
   simp -dsimp -implicitDefEqProofs only[go_sem,h0,hA,Int.reduceToNat,Int.reduceLE,true_and];refine av cR ?_;simp -dsimp -implicitDefEqProofs only[go_sem,h0,hA,h6',hrow];refine aS [(8,8),(18,34)] [(7,7)] [] (fun n τ' β' ε'=>∃ i:Nat,n=4-i/\i<=4/\τ' 18 = .i (iN i)/\β' 7=⟨(β 7).gen+1,(Ex.psub ⟨((Alg.sz r-1:Nat):Int),0,0,0⟩ ⟨((Alg.sz q-1:Nat):Int),0,0,0⟩ i).cs++eQ (lc r)⟩)
    (fun e τ' β' ε'=>e = .exit 2/\β' 7=⟨(β 7).gen+1,(Ex.sub ⟨((Alg.sz r-1:Nat):Int),0,0,0⟩ ⟨((Alg.sz q-1:Nat):Int),0,0,0⟩).cs++eQ (lc r)⟩) 4 ?_ ?_ ?_
   ·exact⟨0,by omega,by omega,rfl,rfl⟩
   ·rintro n2 τ2 β2 ε2 π2 hK2 hKB2 hKE2 ⟨i,hn2,hi,h18,b7⟩;have q7:τ2 7 = .bp 7 ((β 7).gen+1) 0:=(hK2 7 rfl).trans rfl;have q1:τ2 1 = .i (iUp q):=(hK2 1 rfl).trans k1;obtain rfl|rfl|rfl|rfl|rfl:i=4\/i=0\/i=1\/i=2\/i=3:=by omega
    ·have h18':τ2 18 = .i (iN 4):=h18;simp -dsimp -implicitDefEqProofs only[go_sem,h18',Int.reduceLT,decide_false];exact⟨(by(repeat apply am rfl);exact hK2),hKB2,hKE2,b7⟩
    ·have h18':τ2 18 = .i (iN 0):=h18;simp -dsimp -implicitDefEqProofs only[go_sem,h18',Int.reduceLT,decide_true];refine ao (by rfl) 13 [] false true (by rfl) (by rfl) (by decide +kernel) ?_;simp -dsimp -implicitDefEqProofs only[go_sem,h18',q1,q7,b7,Int.reduceToNat,Int.reduceLE,Int.reduceAdd,true_and,Ex.psub,Nat.not_lt_zero,ag];refine av cQ ?_;simp -dsimp -implicitDefEqProofs only[go_sem,h18',q1,q7,b7,Int.reduceToNat,Int.reduceLE,Int.reduceAdd,true_and,Ex.psub,Nat.not_lt_zero,ag]
     repeat(refine And.intro (by omega) ?_)
     refine again (4-1) (by omega) ⟨(by(repeat apply am rfl);exact hK2),(by(repeat apply am rfl);exact hKB2),hKE2,1,rfl,by omega,rfl,?_⟩
     simp -dsimp -implicitDefEqProofs only[go_sem,Ex.psub,Nat.not_lt_zero]
    ·have h18':τ2 18 = .i (iN 1):=h18;simp -dsimp -implicitDefEqProofs only[go_sem,h18',Int.reduceLT,decide_true];refine ao (by rfl) 13 [] false true (by rfl) (by rfl) (by decide +kernel) ?_;simp -dsimp -implicitDefEqProofs only[go_sem,h18',q1,q7,b7,Int.reduceToNat,Int.reduceLE,Int.reduceAdd,true_and,Ex.psub,Nat.not_lt_zero,ag];refine av cQ ?_;simp -dsimp -implicitDefEqProofs only[go_sem,h18',q1,q7,b7,Int.reduceToNat,Int.reduceLE,Int.reduceAdd,true_and,Ex.psub,Nat.not_lt_zero,ag]
     repeat(refine And.intro (by omega) ?_)
     refine again (4-2) (by omega) ⟨(by(repeat apply am rfl);exact hK2),(by(repeat apply am rfl);exact hKB2),hKE2,2,rfl,by omega,rfl,?_⟩
     simp -dsimp -implicitDefEqProofs only[go_sem,Ex.psub,Nat.not_lt_zero]
    ·have h18':τ2 18 = .i (iN 2):=h18;simp -dsimp -implicitDefEqProofs only[go_sem,h18',Int.reduceLT,decide_true];refine ao (by rfl) 13 [] false true (by rfl) (by rfl) (by decide +kernel) ?_;simp -dsimp -implicitDefEqProofs only[go_sem,h18',q1,q7,b7,Int.reduceToNat,Int.reduceLE,Int.reduceAdd,true_and,Ex.psub,Nat.not_lt_zero,ag];refine av cQ ?_;simp -dsimp -implicitDefEqProofs only[go_sem,h18',q1,q7,b7,Int.reduceToNat,Int.reduceLE,Int.reduceAdd,true_and,Ex.psub,Nat.not_lt_zero,ag]
     repeat(refine And.intro (by omega) ?_)
     refine again (4-3) (by omega) ⟨(by(repeat apply am rfl);exact hK2),(by(repeat apply am rfl);exact hKB2),hKE2,3,rfl,by omega,rfl,?_⟩
     simp -dsimp -implicitDefEqProofs only[go_sem,Ex.psub,Nat.not_lt_zero]
    ·have h18':τ2 18 = .i (iN 3):=h18;simp -dsimp -implicitDefEqProofs only[go_sem,h18',Int.reduceLT,decide_true];refine ao (by rfl) 13 [] false true (by rfl) (by rfl) (by decide +kernel) ?_;simp -dsimp -implicitDefEqProofs only[go_sem,h18',q1,q7,b7,Int.reduceToNat,Int.reduceLE,Int.reduceAdd,true_and,Ex.psub,Nat.not_lt_zero,ag];refine av cQ ?_;simp -dsimp -implicitDefEqProofs only[go_sem,h18',q1,q7,b7,Int.reduceToNat,Int.reduceLE,Int.reduceAdd,true_and,Ex.psub,Nat.not_lt_zero,ag]
     repeat(refine And.intro (by omega) ?_)
     refine again (4-4) (by omega) ⟨(by(repeat apply am rfl);exact hK2),(by(repeat apply am rfl);exact hKB2),hKE2,4,rfl,by omega,rfl,?_⟩
     simp -dsimp -implicitDefEqProofs only[go_sem,Ex.psub,Nat.not_lt_zero]
   ·rintro e τ2 β2 ε2 π2 hK2 hKB2 hKE2 ⟨rfl,b7⟩;refine⟨_,aY.refl _,?_⟩;have r7:τ2 7 = .bp 7 ((β 7).gen+1) 0:=(hK2 7 rfl).trans rfl;have r1:τ2 1 = .i (iUp q):=(hK2 1 rfl).trans k1;have r0:τ2 0 = .i (iUp r):=(hK2 0 rfl).trans h0;have r6:τ2 6 = .sl 6 g L.length:=(hK2 6 rfl).trans h6';have rr:ε2 6=⟨g,8,L.map eT,mm,true⟩:=(hKE2 6 rfl).trans hrow;have kO:=Kp.step2 hK hK2 (by intro n;simp[inR]<;>omega) (by(repeat apply am rfl);exact hK)
    have kB:=Kp.step2 hKB hKB2 (by intro n;simp[inR]<;>omega) (by(repeat apply am rfl);exact hKB)
    have kE:=Kp.step2 hKE hKE2 (by intro n;simp[inR]) hKE;have hjk:j*(k+1)+(k+1)<=(Alg.sz p+2)*(k+1):=by rw[<-Nat.succ_mul];exact Nat.mul_le_mul_right _ (by omega)
    have hqr:QB 17179869184 (lc r):=gB (hr.coef _).1 (hr.coef _).2 (by omega);have hqq:QB 17179869184 (lc q):=gB (hq.coef _).1 (hq.coef _).2 (by omega);by_cases hc:Alg.sz q<=Alg.sz r
    ·have hX:Ex.sub ⟨((Alg.sz r-1:Nat):Int),0,0,0⟩ ⟨((Alg.sz q-1:Nat):Int),0,0,0⟩=⟨((Alg.sz r-Alg.sz q:Nat):Int),0,0,0⟩:=by
      unfold Ex.sub;simp only[Ex.mk.injEq];omega
     rw[hX]at b7;have eN:decide (cr ⟨((Alg.sz r-Alg.sz q:Nat):Int),0,0,0⟩)=true:=ai (by unfold cr;dsimp only;omega);simp -dsimp -implicitDefEqProofs only[go_sem,r7,b7,r1,r0];refine ar (args':=[iE ⟨((Alg.sz r-Alg.sz q:Nat):Int),0,0,0⟩]) rfl (kT _) ?_;simp -dsimp -implicitDefEqProofs only[go_sem,eN];refine aZ (by rfl) 9 11 [] true [.tmp 49] none (by rfl) (by rfl) (by rfl) (by rfl) (by decide +kernel) ?_;simp -dsimp -implicitDefEqProofs only[go_sem,r7,b7,r1,r0,Int.reduceToNat,Int.reduceLE,ag];refine av cQ ?_;simp -dsimp -implicitDefEqProofs only[go_sem,r7,b7,r1,r0,Int.reduceToNat,Int.reduceLE,ag];refine ar (args':=[iQ (lc r),iQ (lc q)]) rfl (rG _ _ hlq hqr hqq) ?_;simp -dsimp -implicitDefEqProofs only[go_sem,r7,b7,r1,r0,Int.reduceToNat,Int.reduceLE,ag];have hcc:lc r/lc q≠0:=by
      intro e0;refine bu hr0 ?_;have h9:(lc r:Rat)/lc q*lc q=lc r:=Rat.div_mul_cancel hlq;rw[e0]at h9;rw[<-h9];exact Rat.zero_mul _
     have hmb:Alg.HB (h+j*(k+1)+k) (mon (Alg.sz r-Alg.sz q) (lc r/lc q)):=by
      obtain⟨b1,b2⟩:=i7 hlq (hr.coef _) (hq.coef _);exact Alg.HB.mon _ b1 b2
     have hsm:=lZ (Alg.sz r-Alg.sz q) (a:=lc r/lc q) hcc;have hsp:=aM q (mon (Alg.sz r-Alg.sz q) (lc r/lc q));simp -dsimp -implicitDefEqProofs only[go_sem,r6,rr,hg,af]
     repeat(refine And.intro (by omega) ?_)
     simp -dsimp -implicitDefEqProofs only[go_sem,r7,r1,r0];refine ar (args':=[iUp q,iUp (mon (Alg.sz r-Alg.sz q) (lc r/lc q))]) ?_ (cK hq hmb (by omega) (by omega) (by omega) (by omega)) ?_
     ·rw[jZ (mon _ _),zt _ hcc];rfl
     simp -dsimp -implicitDefEqProofs only[go_sem,r0];refine aa (pB hr (hq.mul hmb) (by omega) (by omega) (by omega) (by omega)) rfl ?_;simp -dsimp -implicitDefEqProofs only[go_sem];have hlow:=vp hr0 hq0 hc;refine aH (Alg.sz (r-q*mon (Alg.sz r-Alg.sz q) (lc r/lc q))) 6 53 6 (by omega) rfl rfl (by omega) (by decide)
      ⟨(by(repeat apply am rfl);exact kO),(by(repeat apply am rfl);exact kB),(by(repeat apply am rfl);exact kE),_,s+mon (Alg.sz r-Alg.sz q) (lc r/lc q),L++[(⟨((Alg.sz r-Alg.sz q:Nat):Int),0,0,0⟩,lc r/lc q)],j+1,rfl,?_,C7 hL hcc (fun t ht=>by have:=hlt t ht;omega),?_,?_,by simp;omega,?_,by omega,rfl,?_⟩
     ·rw[he,add_mul];exact ring [s*q,mon (Alg.sz r-Alg.sz q) (lc r/lc q),q,r]
     ·rw[nW,hLs,aG,cj,add_zero];simp
     ·intro t ht;rcases List.mem_append.1 ht with ht|ht
      ·have:=hlt t ht;omega
      ·simp at ht;subst ht;simp only;omega
     ·have:=hr.divstep hq hq0 (Alg.sz r-Alg.sz q);exact this.mono (by rw[Nat.succ_mul];omega)
     ·exact Own.mk2 (Nat.succ_pos _) (by simp -dsimp -implicitDefEqProofs only[go_sem];rfl) (by simp -dsimp -implicitDefEqProofs only[go_sem];rfl) (by simp) (by simp;rfl)
    ·have hX:¬ cr (Ex.sub ⟨((Alg.sz r-1:Nat):Int),0,0,0⟩ ⟨((Alg.sz q-1:Nat):Int),0,0,0⟩):=by
      unfold Ex.sub cr;dsimp only;omega
     have eN:decide (cr (Ex.sub ⟨((Alg.sz r-1:Nat):Int),0,0,0⟩ ⟨((Alg.sz q-1:Nat):Int),0,0,0⟩))=false:=aj hX;simp -dsimp -implicitDefEqProofs only[go_sem,r7,b7,r1,r0];refine ar (args':=[iE (Ex.sub ⟨((Alg.sz r-1:Nat):Int),0,0,0⟩ ⟨((Alg.sz q-1:Nat):Int),0,0,0⟩)]) rfl (kT _) ?_;simp -dsimp -implicitDefEqProofs only[go_sem,eN];exact⟨(by(repeat apply am rfl);exact kO),kB,kE,yX he hr0 (by omega)⟩
 ·rintro e τ β ε π hK hKB hKE h;refine⟨_,aY.refl _,?_⟩;rcases h with⟨rfl,s,L,he,hL,hLs,hll,g,mm,hg,h6,hrow⟩|⟨rfl,h1,h2,h3⟩
  ·rw[af]at h6;simp -dsimp -implicitDefEqProofs only[go_sem,h6,hrow,hg];rw[ge hq0 he,jZ s,<-uO hL hLs]
  ·simp -dsimp -implicitDefEqProofs only[go_sem,h2,h3];rw[h1];rfl
end Go.AM
namespace Go.AM
open Alg
open Go.Proofs
theorem ur {p q:PQ} {h k:Nat} (hp:Alg.HB h p) (hq:Alg.HB k q) (hq0:q≠0) (hb:h+(Alg.sz p+2)*(k+1)+k<=137438953000) (sp:Alg.sz p<=524288) (sq:Alg.sz q<=524288) {s:PQ} (e:p=s*q):Fn Tryz.prog 194 [iUp p,iUp q] [iUp s]:=by
 refine ak (fn:=Tryz.f194) (by rfl) rfl rfl rfl (by rfl) ?_;simp -dsimp -implicitDefEqProofs only[go_sem];refine aa (rI hp hq hq0 hb sp sq) rfl ?_;rw[ge hq0 e];simp -dsimp -implicitDefEqProofs only[go_sem]
theorem U_C {c:Rat} (h:c≠0):U (Alg.C c)=[(e0,c)]:=by rw[<-cH,zt 0 h];rfl
theorem vy:U 1=[(e0,1)]:=U_C (by decide)
theorem oR:Fn Tryz.prog 190 [] [iUp 1]:=by rw[jZ,vy];exact AW
theorem yl {p:PQ}:p*Alg.C (1/lc p)=Alg.mo p:=by
 rw[Alg.mo,mul_comm];congr 2;show(1:Rat)/lc p=(lc p)⁻¹;rw[Rat.div_def];exact Rat.one_mul _
theorem mS:QB 17179869184 1:=⟨ac (eG (k:=1) (by decide)) (by omega),ac (eG (k:=1) (by decide)) (by omega)⟩
theorem jA {p:PQ} {h:Nat} (hp:Alg.HB h p) (hb:h<=137438953000) (sp:Alg.sz p<=1048576):Fn Tryz.prog 188 [iUp p] [iUp (Alg.mo p)]:=by
 refine ak (fn:=Tryz.f188) (by rfl) rfl rfl rfl (by rfl) ?_;by_cases hp0:p=0
 ·subst hp0;have e1:decide (((U 0).length:Int)=0)=true:=by rw[bR];rfl
  simp -dsimp -implicitDefEqProofs only[go_sem,e1];rw[fc,jZ,bR];rfl
 ·obtain⟨R,hR⟩:=fu hp0;have lR:(U p).length=R.length+1:=by rw[hR];rfl
  have cR:(U p)[0]?=some (⟨((Alg.sz p-1:Nat):Int),0,0,0⟩,lc p):=by rw[hR];rfl
  have e1:decide (((U p).length:Int)=0)=false:=by rw[lR];exact aj (by omega)
  have hqq:QB 17179869184 (lc p):=gB (hp.coef _).1 (hp.coef _).2 (by omega);have hl:=bu hp0;obtain⟨b1,b2⟩:=i7 (x:=1) (h:=0) hl ⟨by decide,by decide⟩ (hp.coef (Alg.sz p-1));simp -dsimp -implicitDefEqProofs only[go_sem,e1];refine aZ (by rfl) 8 10 [3] true [.tmp 3] none (by rfl) (by rfl) (by rfl) (by rfl) (by decide +kernel) ?_;simp -dsimp -implicitDefEqProofs only[go_sem];refine an (gk 1 (by decide)) ?_;simp -dsimp -implicitDefEqProofs only[go_sem,Int.reduceToNat,Int.reduceLE,ag];refine av cR ?_;simp -dsimp -implicitDefEqProofs only[go_sem,Int.reduceToNat,Int.reduceLE,ag];refine ar (args':=[iQ 1,iQ (lc p)]) rfl (rG 1 _ hl mS hqq) ?_;simp -dsimp -implicitDefEqProofs only[go_sem];refine aa (Fp hp (by omega) sp (gB b1 b2 (by omega))) rfl ?_;simp -dsimp -implicitDefEqProofs only[go_sem,yl]
theorem JT:Tryz.prog.eqGuardType Tryz.prog.depth 100=false:=by decide +kernel
theorem KF (x y:Operand) (e f:Ex):dz Tryz.prog (do eqGuard .eql 100 x y (.agg #[.int .i64 e.a,.int .i64 e.b,.int .i64 e.c,.int .i64 e.d]) (.agg #[.int .i64 f.a,.int .i64 f.b,.int .i64 f.c,.int .i64 f.d]);binOp .eql 100 (.agg #[.int .i64 e.a,.int .i64 e.b,.int .i64 e.c,.int .i64 e.d]) (.agg #[.int .i64 f.a,.int .i64 f.b,.int .i64 f.c,.int .i64 f.d])) (.bool (decide (e=f))):=by
 intro w;have h:=mt.eq e f w;simp only[Ex.v]at h;simp[eqGuard,binOp,JT,h]
theorem rN {x y:Operand} {e f:Ex} {K:Value->Prop} (h:K (.bool (decide (e=f)))) :
  d7 Tryz.prog .eql 100 x y (.agg #[.int .i64 e.a,.int .i64 e.b,.int .i64 e.c,.int .i64 e.d]) (.agg #[.int .i64 f.a,.int .i64 f.b,.int .i64 f.c,.int .i64 f.d]) K:=⟨_,KF x y e f,rfl,h⟩
def yF (a:List Tm):Bool:=match a with|[t]=>decide (t.1=e0)|_=>false
theorem mG (a:List Tm):Fn Tryz.prog 189 [iM a] [iB (yF a)]:=by
 refine ak (fn:=Tryz.f189) (by rfl) rfl rfl rfl (by rfl) ?_;by_cases hl:a.length=1
 ·obtain⟨t,rfl⟩:=List.length_eq_one_iff.1 hl;have e1:decide (((1:Nat):Int)=1)=true:=rfl;have ct:([t]:List Tm)[0]?=some t:=rfl;simp -dsimp -implicitDefEqProofs only[go_sem,e1,af,Int.reduceToNat,Int.reduceLE,true_and,List.drop_zero];refine av ct ?_;simp -dsimp -implicitDefEqProofs only[go_sem,e1,af,Int.reduceToNat,Int.reduceLE,true_and,List.drop_zero];refine rN (e:=t.1) (f:=e0) ?_;rfl
 ·have e1:decide ((a.length:Int)=1)=false:=aj (by omega);simp -dsimp -implicitDefEqProofs only[go_sem,e1,af];refine congrArg (fun b=>some [iB b]) ?_
  match a,hl with
  | [],_=>rfl
  | _::_::_,_=>rfl
  | [_],h=>simp at h
theorem Fe {a b:Rat}:ef (a.num*b.den) (b.num*a.den)=0↔a=b:=by
 have h:ef (a.num*b.den) (b.num*a.den)=0↔a.num*b.den=b.num*a.den:=by unfold ef;split<;>(try split)<;>omega
 rw[h];constructor
 ·intro h;have ha:((a.den:Int):Rat)≠0:=by have:=a.den_nz;intro e;have:=Rat.intCast_eq_zero_iff.1 e;omega
  have hb:((b.den:Int):Rat)≠0:=by have:=b.den_nz;intro e;have:=Rat.intCast_eq_zero_iff.1 e;omega
  have h1:=cB a;have h2:=cB b;have h3:((a.num*b.den:Int):Rat)=((b.num*a.den:Int):Rat):=by rw[h]
  rw[Rat.intCast_mul,Rat.intCast_mul,<-h1,<-h2]at h3
  grind
 ·rintro rfl;rfl
theorem E6 (x y:Tm) (hx:QB 17179869184 x.2) (hy:QB 17179869184 y.2):Fn Tryz.prog 176 [.g (eT x),.g (eT y)] [iB (decide (x=y))]:=by
 refine ak (fn:=Tryz.f176) (by rfl) rfl rfl rfl (by rfl) ?_;simp -dsimp -implicitDefEqProofs only[go_sem,Int.reduceToNat,Int.reduceLE,ag];refine rN (e:=x.1) (f:=y.1) ?_;by_cases h:x.1=y.1
 ·simp -dsimp -implicitDefEqProofs only[go_sem,h,Int.reduceToNat,Int.reduceLE,ag];refine aa (Lm x.2 y.2 hx hy) rfl ?_;have e1:decide (ef (x.2.num*y.2.den) (y.2.num*x.2.den)=0)=decide (x=y):=by
   rw[decide_eq_decide,Fe];exact⟨fun e=>Prod.ext h e,fun e=>by rw[e]⟩
  simp -dsimp -implicitDefEqProofs only[go_sem,e1]
 ·simp -dsimp -implicitDefEqProofs only[go_sem,h];have:¬ x=y:=fun e=>h (by rw[e]);rw[aj this]
theorem xn (a b:List Tm) (hl:a.length<=1099511627776) (hx:∀ t∈a,QB 17179869184 t.2) (hy:∀ t∈b,QB 17179869184 t.2):Fn Tryz.prog 175 [iM a,iM b,.c (.v (.func (.func 176) #[] #[]))] [iB (decide (a=b))]:=by
 refine ak (fn:=Tryz.f175) (by rfl) rfl rfl rfl (by rfl) ?_;by_cases hab:a.length=b.length
 ·have e1:decide ((a.length:Int)=(b.length:Int))=true:=ai (by omega);simp -dsimp -implicitDefEqProofs only[go_sem,e1,af];refine aJ [(6,9),(17,31)] [(8,9)] [] (fun n τ β ε=>∃ i:Nat,n=a.length-i/\i<=a.length/\a.take i=b.take i/\τ 17 = .i (iN i))
   (fun e τ β ε=>(e = .exit 0/\a=b)\/(e = .ret/\¬ a=b/\τ 6 = .i (.c (.v (.bool false))))) a.length ?_ ?_ ?_
  ·exact⟨0,by omega,by omega,rfl,rfl⟩
  ·rintro n τ β ε π hK hKB hKE ⟨i,hn,hi,he,h17⟩;have k15:τ 15 = .i (iM a):=(hK 15 rfl).trans rfl;have k16:τ 16 = .i (iN a.length):=by rw[hK 16 (by decide)];simp -dsimp -implicitDefEqProofs only[go_sem,af]
   have k1:τ 1 = .i (iM b):=(hK 1 rfl).trans rfl;have k2:τ 2 = .i (.c (.v (.func (.func 176) #[] #[]))):=(hK 2 rfl).trans rfl;by_cases hlt:i<a.length
   ·have hA:(i:Int)<(a.length:Int):=by omega
    have hlb:i<b.length:=by omega
    have ga:a[i]?=some a[i]:=by simp[hlt]
    have gb:b[i]?=some b[i]:=by simp[hlb]
    simp -dsimp -implicitDefEqProofs only[go_sem,h17,k16,k15,hA];refine av ga ?_;simp -dsimp -implicitDefEqProofs only[go_sem,h17,k16,k15,hA,k1];refine av gb ?_;simp -dsimp -implicitDefEqProofs only[go_sem,h17,k16,k15,hA,k1,k2];refine ar (args':=[.g (eT a[i]),.g (eT b[i])]) rfl (E6 a[i] b[i] (hx _ (List.getElem_mem _)) (hy _ (List.getElem_mem _))) ?_;by_cases hc:a[i]=b[i]
    ·simp -dsimp -implicitDefEqProofs only[go_sem,hc,h17]
     repeat(refine And.intro (by omega) ?_)
     refine again (a.length-(i+1)) (by omega) ⟨(by(repeat apply am rfl);exact hK),(by(repeat apply am rfl);exact hKB),hKE,i+1,rfl,by omega,?_,rfl⟩
     rw[ab hlt,ab hlb,he,hc]
    ·simp -dsimp -implicitDefEqProofs only[go_sem,hc];exact⟨(by(repeat apply am rfl);exact hK),hKB,hKE,fun e=>hc (by simp[e])⟩
   ·have hA:¬ (i:Int)<(a.length:Int):=by omega
    obtain rfl:i=a.length:=by omega
    simp -dsimp -implicitDefEqProofs only[go_sem,h17,k16,hA];have:a=b:=by rw[List.take_length,List.take_of_length_le (by omega)]at he;exact he
    exact⟨(by(repeat apply am rfl);exact hK),hKB,hKE,this⟩
  ·rintro e τ β ε π hK hKB hKE h;rcases h with⟨rfl,h⟩|⟨rfl,h,h6⟩
   ·simp -dsimp -implicitDefEqProofs only[go_sem,h]
   ·simp -dsimp -implicitDefEqProofs only[go_sem,h,h6]
 ·have e1:decide ((a.length:Int)=(b.length:Int))=false:=aj (by omega);simp -dsimp -implicitDefEqProofs only[go_sem,e1,af];have:¬ a=b:=fun e=>hab (by rw[e]);rw[aj this]
theorem zQ (a b:List Tm) (hl:a.length<=1099511627776) (hx:∀ t∈a,QB 17179869184 t.2) (hy:∀ t∈b,QB 17179869184 t.2):Fn Tryz.prog 138 [iM a,iM b] [iB (decide (a=b))]:=by
 refine ak (fn:=Tryz.f138) (by rfl) rfl rfl rfl (by rfl) ?_;simp -dsimp -implicitDefEqProofs only[go_sem];refine an (xn a b hl hx hy) ?_;simp -dsimp -implicitDefEqProofs only[go_sem]
noncomputable def dh (f:Nat->Rat):Nat->List Tm
 | 0=>[]
 | i+1=>if f i=0 then dh f i else dh f i++[(⟨i,0,0,0⟩,f i)]
theorem mB (f:Nat->Rat):∀ i,∀ t∈dh f i,∃ j:Nat,j<i/\t=(⟨j,0,0,0⟩,f j)
 | 0,t,h=>by simp[dh]at h
 | i+1,t,h=>by
  simp only[dh]at h;split at h
  ·obtain⟨j,hj,e⟩:=mB f i t h;exact⟨j,by omega,e⟩
  ·rcases List.mem_append.1 h with h|h
   ·obtain⟨j,hj,e⟩:=mB f i t h;exact⟨j,by omega,e⟩
   ·simp at h;exact⟨i,by omega,h⟩
theorem zf:∀{M:List Tm} {e:Ex} {c:Rat},(∀ t∈M,t.1≠e)->addT M e c=M++[(e,c)]
 | [],_,_,_=>rfl
 | x::M,e,c,h=>by
  rw[addT,if_neg (fun h2=>h x (by simp) h2.symm),zf fun t ht=>h t (by simp[ht])];rfl
theorem vk (f:Nat->Rat) (i:Nat):addT (dh f i) ⟨i,0,0,0⟩ (f i)=dh f i++[(⟨i,0,0,0⟩,f i)]:=zf fun t ht e=>by
 obtain⟨j,hj,rfl⟩:=mB f i t ht;simp only[Ex.mk.injEq]at e;omega
theorem HU (f:Nat->Rat) (i:Nat):Uv (dh f i):=fun t ht=>by
 obtain⟨j,_,rfl⟩:=mB f i t ht;exact⟨by simp,rfl,rfl,rfl⟩
theorem jQ (f:Nat->Rat):∀ i,((dh f i).map (·.1)).Nodup
 | 0=>by simp[dh]
 | i+1=>by
  simp only[dh];split
  ·exact jQ f i
  ·rw[<-vk];exact tZ (jQ f i) _ _
theorem vl (f:Nat->Rat):∀ i,(dh f i).length<=i
 | 0=>by simp[dh]
 | i+1=>by
  have:=vl f i;simp only[dh];split
  ·omega
  ·simp;omega
theorem CV (f:Nat->Rat):∀ i j,(toP (dh f i)).c j=if j<i then f j else 0
 | 0,j=>rfl
 | i+1,j=>by
  have ih:=CV f i j;simp only[dh];split
  ·rename_i h;rw[ih];by_cases e:j=i
   ·subst e;rw[if_neg (by omega),if_pos (by omega),h]
   ·by_cases h2:j<i
    ·rw[if_pos h2,if_pos (by omega)]
    ·rw[if_neg h2,if_neg (by omega)]
  ·rw[nW,bK,ih,aG,cj,add_zero,bJ];simp only[Int.toNat_natCast];by_cases e:j=i
   ·subst e;rw[if_neg (by omega),if_pos rfl,if_pos (by omega)];exact zero_add _
   ·rw[if_neg e];by_cases h2:j<i
    ·rw[if_pos h2,if_pos (by omega)];exact add_zero _
    ·rw[if_neg h2,if_neg (by omega)];exact add_zero _
theorem BF (r:PQ) {n:Nat} (h:Alg.sz r<=n):uJ (dh r.c n)=U r:=by
 obtain⟨h1,h2⟩:=Ic (jQ r.c n) (HU r.c n);refine uO h1 (h2.trans (Alg.P.ext fun j=>?_));rw[CV];split
 ·rfl
 ·exact(au (by omega)).symm
def bS (f:Nat->List Tm) (n:Nat):List (List C):=(List.range n).map fun i=>[cM (f i)]
theorem I4 (r:PQ) (n:Nat) (h:Alg.sz r<=n) (hn:n<=1048576) (hq:∀ i,QB 8589934592 (r.c i)):Fn Tryz.prog 229 [.c (.lst (bS (fun i=>U (Alg.C (r.c i))) n)),iN 0] [iUp r]:=by
 have hlen:(bS (fun i=>U (Alg.C (r.c i))) n).length=n:=by simp[bS]
 refine ak (fn:=Tryz.f229) (by rfl) rfl rfl rfl (by rfl) ?_;simp -dsimp -implicitDefEqProofs only[go_sem];refine qG (d:=10) (by intro t h;simp only[go_sem]at h<;>exact absurd h (by simp)) ?_;simp -dsimp -implicitDefEqProofs only[go_sem,hlen];refine kX [(6,7),(9,9),(13,39)] [(9,9)] [] (fun m τ β ε π=>∃ i:Nat,m=n-i/\i<=n/\τ 13 = .i (iN i)/\qr 10 (dh r.c i) π)
  (fun e τ β ε π=>e = .exit 0/\qr 10 (dh r.c n) π) n ?_ ?_ ?_
 ·exact⟨0,by omega,by omega,rfl,CE _ _ (by simp[mz])⟩
 ·rintro m τ β ε π hK hKB hKE ⟨i,hm,hi,h13,hM⟩;have k11:τ 11 = .i (.c (.lst (bS (fun i=>U (Alg.C (r.c i))) n))):=(hK 11 rfl).trans rfl;have k12:τ 12 = .i (iN n):=(hK 12 rfl).trans rfl;have k5:τ 5 = .mp 10 1:=(hK 5 rfl).trans rfl;have k1:τ 1 = .i (iN 0):=(hK 1 rfl).trans rfl;by_cases hlt:i<n
  ·have hA:(i:Int)<(n:Int):=by omega
   have hg:(bS (fun i=>U (Alg.C (r.c i))) n)[i]?=some [cM (U (Alg.C (r.c i)))]:=by rw[bS,List.getElem?_map,List.getElem?_range hlt];rfl
   simp -dsimp -implicitDefEqProofs only[go_sem,h13,k12,k11,hA];refine⟨_,hg,?_⟩;simp -dsimp -implicitDefEqProofs only[go_sem,k1,k5,af];by_cases hc:r.c i=0
   ·have hU:U (Alg.C (r.c i))=[]:=by rw[hc,show Alg.C (0:Rat)=0 from cu,bR]
    have hS:dh r.c (i+1)=dh r.c i:=by simp only[dh];rw[if_pos hc]
    rw[hU];refine kX [(9,9),(20,38)] [(9,9)] [] (fun m τ' β' ε' π'=>m=0/\τ' 20 = .i (iN 0)/\π'=π)
     (fun e τ' β' ε' π'=>e = .exit 2/\π'=π) 0 ?_ ?_ ?_
    ·exact⟨rfl,rfl,rfl⟩
    ·rintro m2 τ2 β2 ε2 π2 hK2 hKB2 hKE2 ⟨hm2,h20,rfl⟩;have q19:τ2 19 = .i (iN 0):=by rw[hK2 19 (by decide)];simp -dsimp -implicitDefEqProofs only[go_sem,hU];rfl
     simp -dsimp -implicitDefEqProofs only[go_sem,h20,q19,Int.reduceLT,decide_false];exact⟨(by(repeat apply am rfl);exact hK2),hKB2,hKE2⟩
    ·rintro e τ2 β2 ε2 π2 hK2 hKB2 hKE2 ⟨rfl,rfl⟩;refine⟨_,aY.refl _,?_⟩;have q13:τ2 13 = .i (iN i):=(hK2 13 rfl).trans h13;have kO:=Kp.step2 hK hK2 (by intro n;simp[inR]<;>omega) (by(repeat apply am rfl);exact hK)
     have kB:=Kp.step2 hKB hKB2 (by intro n;simp[inR]) hKB;have kE:=Kp.step2 hKE hKE2 (by intro n;simp[inR]) hKE;simp -dsimp -implicitDefEqProofs only[go_sem,q13]
     repeat(refine And.intro (by omega) ?_)
     exact jw (n-(i+1)) (by omega) ⟨(by(repeat apply am rfl);exact kO),kB,kE,i+1,rfl,by omega,rfl,by rw[hS];exact hM⟩
   ·have hU:U (Alg.C (r.c i))=[(e0,r.c i)]:=U_C hc;have hS:addT (dh r.c i) ⟨(i:Int),0,0,0⟩ (r.c i)=dh r.c (i+1):=by rw[vk];simp only[dh];rw[if_neg hc]
    have hnew:∀ q,((⟨(i:Int),0,0,0⟩:Ex),q)∈dh r.c i->QB 8589934592 q:=fun q hm=>by
     obtain⟨j,_,e⟩:=mB _ _ _ hm;obtain⟨-,e2⟩:=Prod.mk.inj e;rw[e2];exact hq j
    have ct:([(e0,r.c i)]:List Tm)[0]?=some (e0,r.c i):=rfl;rw[hU];refine kX [(9,9),(20,38)] [(9,9)] [] (fun m τ' β' ε' π'=>∃ j:Nat,m=1-j/\j<=1/\τ' 20 = .i (iN j)/\qr 10 (if j=0 then dh r.c i else dh r.c (i+1)) π')
     (fun e τ' β' ε' π'=>e = .exit 2/\qr 10 (dh r.c (i+1)) π') 1 ?_ ?_ ?_
    ·exact⟨0,rfl,by omega,rfl,hM⟩
    ·rintro m2 τ2 β2 ε2 π2 hK2 hKB2 hKE2 ⟨j,hm2,hj,h20,hM2⟩;have q19:τ2 19 = .i (iN 1):=by rw[hK2 19 (by decide)];simp -dsimp -implicitDefEqProofs only[go_sem,hU];rfl
     have q18:τ2 18 = .i (iM [(e0,r.c i)]):=(hK2 18 rfl).trans rfl;have q6:τ2 6 = .i (iN i):=(hK2 6 rfl).trans rfl;have q1:τ2 1 = .i (iN 0):=(hK2 1 rfl).trans k1;have q5:τ2 5 = .mp 10 1:=(hK2 5 rfl).trans k5;obtain rfl|rfl:j=1\/j=0:=by omega
     ·have h20':τ2 20 = .i (iN 1):=h20;simp -dsimp -implicitDefEqProofs only[go_sem,h20',q19,Int.reduceLT,decide_false];exact⟨(by(repeat apply am rfl);exact hK2),hKB2,hKE2,hM2⟩
     ·have h20':τ2 20 = .i (iN 0):=h20;simp -dsimp -implicitDefEqProofs only[go_sem,h20',q19,q18,q1,q6,Int.reduceLT,decide_true,Int.reduceToNat,Int.reduceLE,true_and];refine av ct ?_;simp -dsimp -implicitDefEqProofs only[go_sem,h20',q19,q18,q1,q5,q6,Int.reduceLT,decide_true,Int.reduceToNat,Int.reduceLE,true_and,List.drop_zero,e0,Int.zero_add]
      repeat(refine And.intro (by omega) ?_)
      have hM3:qr 10 (dh r.c i) π2:=hM2;refine lj (t:=10) (g:=1) (args:=[iE ⟨(i:Int),0,0,0⟩,iQ (r.c i)]) rfl rfl rfl rfl (by simp -dsimp -implicitDefEqProofs only[go_sem,hM3.1]) (by omega) (by simp -dsimp -implicitDefEqProofs only[go_sem,hM3.2.1]) (by simp -dsimp -implicitDefEqProofs only[go_sem];exact hM3.2.2.2) rfl (by simp -dsimp -implicitDefEqProofs only[go_sem,hM3.2.2.1];exact vd _ _ _ hnew (hq i)) ?_;simp -dsimp -implicitDefEqProofs only[go_sem,h20',hS]
      repeat(refine And.intro (by omega) ?_)
      refine jw (1-1) (by omega) ⟨(by(repeat apply am rfl);exact hK2),(by(repeat apply am rfl);exact hKB2),hKE2,1,rfl,by omega,rfl,?_⟩
      simp -dsimp -implicitDefEqProofs only[go_sem];exact hM3.put
    ·rintro e τ2 β2 ε2 π2 hK2 hKB2 hKE2 ⟨rfl,hM2⟩;refine⟨_,aY.refl _,?_⟩;have q13:τ2 13 = .i (iN i):=(hK2 13 rfl).trans h13;have kO:=Kp.step2 hK hK2 (by intro n;simp[inR]<;>omega) (by(repeat apply am rfl);exact hK)
     have kB:=Kp.step2 hKB hKB2 (by intro n;simp[inR]) hKB;have kE:=Kp.step2 hKE hKE2 (by intro n;simp[inR]) hKE;simp -dsimp -implicitDefEqProofs only[go_sem,q13]
     repeat(refine And.intro (by omega) ?_)
     exact jw (n-(i+1)) (by omega) ⟨(by(repeat apply am rfl);exact kO),kB,kE,i+1,rfl,by omega,rfl,hM2⟩
  ·have hA:¬ (i:Int)<(n:Int):=by omega
   obtain rfl:i=n:=by omega
   simp -dsimp -implicitDefEqProofs only[go_sem,h13,k12,hA];exact⟨(by(repeat apply am rfl);exact hK),hKB,hKE,hM⟩
 ·rintro e τ β ε π hK hKB hKE ⟨rfl,hM⟩;refine⟨_,aY.refl _,?_⟩;have k5:τ 5 = .mp 10 1:=(hK 5 rfl).trans rfl;simp -dsimp -implicitDefEqProofs only[go_sem,k5];refine lj (t:=10) (g:=1) (args:=[]) rfl rfl rfl rfl (by simp -dsimp -implicitDefEqProofs only[go_sem,hM.1]) (by omega) (by simp -dsimp -implicitDefEqProofs only[go_sem,hM.2.1]) (by simp -dsimp -implicitDefEqProofs only[go_sem];exact hM.2.2.2) rfl (by simp -dsimp -implicitDefEqProofs only[go_sem,hM.2.2.1];exact tV _ (jQ _ _) (by have:=vl r.c n;omega)) ?_;simp -dsimp -implicitDefEqProofs only[go_sem,BF r h]
noncomputable def pst (q:PQ) (t:Nat) (r:PQ):PQ:=Alg.C (lc q)*r-mon (t+1-Alg.sz q) (r.c t)*q
noncomputable def psr (q:PQ):Nat->PQ->PQ
 | 0,r=>r
 | t+1,r=>if Alg.sz q<=t+1 then psr q t (pst q t r)else r
theorem AF {q r:PQ} (hq:q≠0) {t:Nat} (hr:Alg.sz r<=t+1) (ht:Alg.sz q<=t+1):Alg.sz (pst q t r)<=t:=cm fun i hi=>by
 have hq0:=az hq;rw[pst,iu,bA,bY,if_pos (by omega)];by_cases e:i=t
 ·subst e;rw[show i-(i+1-Alg.sz q)=Alg.sz q-1 by omega,mul_comm];exact sub_self _
 ·rw[au (by omega:Alg.sz r<=i),au (p:=q) (by omega),mul_zero,mul_zero];exact sub_self _
theorem mj {q:PQ} (hq:q≠0) {k:Nat} (hb:Alg.HB k q):∀(t:Nat) (r:PQ) (h:Nat),Alg.sz r<=t->Alg.HB h r ->
  Alg.sz (psr q t r)<=max (Alg.sz q-1) (min t (Alg.sz r))/\(Alg.sz q<=t->Alg.sz (psr q t r)<Alg.sz q)/\(t<Alg.sz q->psr q t r=r)/\Alg.HB (h+t*(k+1)) (psr q t r)/\∃(c:Rat) (S:PQ),c≠0/\Alg.C c*r=S*q+psr q t r
 | 0,r,h,hs,hr=>by
  have:=az hq;refine⟨?_,by omega,fun _=>rfl,by simpa [psr]using hr,1,0,by decide,?_⟩
  ·simp only[psr];omega
  ·show(1:PQ)*r=_;rw[one_mul,zero_mul,zero_add];rfl
 | t+1,r,h,hs,hr=>by
  have hq0:=az hq;simp only[psr];split
  ·rename_i ht;have hlow:=AF hq hs ht;have hb':Alg.HB (h+k+1) (pst q t r):=hr.pstep hb _ _ _;obtain⟨h1,h2,h3,h4,c,S,h5,h6⟩:=mj hq hb t (pst q t r) (h+k+1) hlow hb';have hlt:Alg.sz (psr q t (pst q t r))<Alg.sz q:=by
    rcases Nat.lt_or_ge t (Alg.sz q)with h7|h7
    ·rw[h3 h7];omega
    ·exact h2 h7
   refine⟨by omega,fun _=>hlt,fun h7=>by omega,h4.mono (by rw[Nat.succ_mul];omega),c*lc q,S+Alg.C c*mon (t+1-Alg.sz q) (r.c t),aE (R:=Rat) h5 (bu hq),?_⟩;have e:Alg.C c*(Alg.C (lc q)*r-mon (t+1-Alg.sz q) (r.c t)*q)=S*q+psr q t (pst q t r):=h6;rw[show Alg.C (c*lc q)=Alg.C c*Alg.C (lc q)from bf _ _];exact lc1 1 e (ring [Alg.C c,Alg.C (lc q),r,S,q,mon (t+1-Alg.sz q) (r.c t),psr q t (pst q t r)])
  ·rename_i ht;refine⟨by omega,fun h7=>by omega,fun _=>rfl,hr.mono (by omega),1,0,by decide,?_⟩;show(1:PQ)*r=_;rw[one_mul,zero_mul,zero_add]
theorem lL {h:Nat} {p:PQ} (H:Alg.HB h p) (i:Nat):Alg.HB h (Alg.C (p.c i)):=by
 rw[<-cH];exact Alg.HB.mon 0 (H.coef i).1 (H.coef i).2
theorem gQ (c:Rat):Alg.sz (Alg.C c)<=1:=cm fun i hi=>by cases i with|zero=>omega|succ i=>rfl
theorem vr:∀{L:List Tm} (k:Nat),Cn L->ci L 0 k=if(toP L).c k=0 then[]else[(e0,(toP L).c k)]
 | [],k,_=>by rw[cj,show(0:PQ).c k=(0:Rat)from rfl,if_pos rfl];rfl
 | x::L,k,h=>by
  have ih:=vr (L:=L) k (c8 h);have hx:=h.uv x (by simp);obtain⟨x1,x2,x3,x4⟩:=hx;have hat:x.1.at 0=x.1.a:=rfl;by_cases e:x.1.a.toNat=k
  ·have h1:=(lh h).2;rw[e]at h1;have h0:(toP L).c k=0:=oI (n:=k) (fun t ht=>by
    have:=qR h t ht;have:=((c8 h).uv t ht).1;omega) k (ae _)
   rw[h0,if_pos rfl]at ih;have hx0:x.2≠0:=h.nz x (by simp);rw[h1,if_neg hx0];unfold ci at ih ⊢;rw[List.filter_cons,if_pos (by rw[hat];exact ai (by omega)),List.map_cons,ih];congr 1;refine Prod.ext ?_ rfl;show x.1.to 0 0=e0;unfold Ex.to e0;simp only[Ex.mk.injEq];exact⟨trivial,x2,x3,x4⟩
  ·have h1:(toP (x::L)).c k=(toP L).c k:=by
    rw[aG,bK,bJ,if_neg (fun h=>e h.symm)];exact zero_add _
   rw[h1,<-ih];unfold ci;rw[List.filter_cons,if_neg (by rw[hat];simp;omega)]
theorem y6 (p:PQ) (k:Nat):ci (U p) 0 k=U (Alg.C (p.c k)):=by
 rw[vr k (il p),gy];split
 ·rename_i h;rw[h,show Alg.C (0:Rat)=0 from cu,bR]
 ·rename_i h;rw[U_C h]
theorem qi (p:PQ):fK (U p) 0=(Alg.sz p:Int)-1:=by
 by_cases hp:p=0
 ·rw[hp,bR,ap.2 rfl];rfl
 ·have h0:=az hp;obtain⟨R,hR⟩:=fu hp;have h1:fK (U p) 0<=(Alg.sz p:Int)-1:=wT (fun t ht=>by
   obtain⟨i,hi,rfl,_⟩:=mO ht;show(i:Int)<=_;omega) (by omega)
  have h2:=rC (U p) 0 (⟨((Alg.sz p-1:Nat):Int),0,0,0⟩,lc p) (by rw[hR];simp);have h3:((Alg.sz p-1:Nat):Int)<=fK (U p) 0:=h2;omega
theorem rD (p:PQ) (hp:p≠0) (v:Nat) (hv:1<=v):fK (U p) v=0:=by
 have hz:∀ t∈U p,t.1.at v=0:=fun t ht=>by
  obtain⟨i,hi,rfl,_⟩:=mO ht
  match v,hv with
  | 1,_=>rfl
  | 2,_=>rfl
  | v+3,_=>rfl
 obtain⟨R,hR⟩:=fu hp;have h1:fK (U p) v<=0:=wT (fun t ht=>by rw[hz t ht];exact Int.le_refl _) (by omega);have h2:=rC (U p) v (⟨((Alg.sz p-1:Nat):Int),0,0,0⟩,lc p) (by rw[hR];simp);rw[hz _ (by rw[hR];simp)]at h2;omega
theorem gv (p:PQ) (sp:Alg.sz p<=1048576):Fn Tryz.prog 123 [iUp p,iN 0] [iN ((Alg.sz p:Int)-1)]:=by
 have:=xo (U p) 0 (by omega) (by have:=cJ p;omega);rwa [qi]at this
theorem ox (p:PQ) (hp:p≠0) (sp:Alg.sz p<=1048576):FnM Tryz.prog 89 [iUp p,iN 0] 1 (bS (fun i=>U (Alg.C (p.c i))) (Alg.sz p)):=by
 have h0:=az hp;have:=vK (U p) 0 (by omega) (by have:=cJ p;omega) (fun t ht=>by
  obtain⟨i,hi,rfl,_⟩:=mO ht;show 0<=(i:Int)/\(i:Int)<_;omega) (by
  have h1:∀ L:List Tm,Cn L->(L.map (·.1.at 0)).Nodup:=by
   intro L
   induction L with
   | nil=>intro _;simp
   | cons x L ih =>
    intro h;simp only[List.map_cons,List.nodup_cons];refine⟨fun hm=>?_,ih (c8 h)⟩;obtain⟨t,ht,e⟩:=List.mem_map.1 hm;have:=qR h t ht;have e':t.1.a=x.1.a:=e;omega
  exact h1 _ (il p)) (fun e=>hp (mN.1 e))
 have e:(ph (U p) 0).map (fun L=>[cM L])=bS (fun i=>U (Alg.C (p.c i))) (Alg.sz p):=by
  unfold ph bS;rw[List.map_map,qi,show((Alg.sz p:Int)-1+1).toNat=Alg.sz p by omega];refine List.map_congr_left fun i _=>?_;show[cM (ci (U p) 0 i)]=_;rw[y6]
 rwa [e]at this
theorem LT (q r:PQ) (t i:Nat):(pst q t r).c i=lc q*r.c i-(if t+1-Alg.sz q<=i then r.c t*q.c (i-(t+1-Alg.sz q))else 0):=by
 rw[pst,iu,bA,bY]
theorem uY {q r:PQ} {t i:Nat} {rows:List (List C)} {L:List Tm} (hi:i<t) (hr:∀ j,j<t->rows[j]?=some [cM (U (Alg.C (if j<i then(pst q t r).c j else r.c j)))]) (hL:L=U (Alg.C ((pst q t r).c i))) :
  ∀ j,j<t->(rows.set i [cM L])[j]?=some [cM (U (Alg.C (if j<i+1 then(pst q t r).c j else r.c j)))]:=fun j hj=>by
 rw[List.getElem?_set];have hl:i<rows.length:=(List.getElem?_eq_some_iff.1 (hr i hi)).1;by_cases e:i=j
 ·subst e;rw[if_pos rfl,if_pos hl,if_pos (by omega),hL]
 ·rw[if_neg e,hr j hj];by_cases h:j<i
  ·rw[if_pos h,if_pos (by omega)]
  ·rw[if_neg h,if_neg (by omega)]
theorem Ok (a b c d:Rat):Alg.C a*Alg.C b-Alg.C c*Alg.C d=Alg.C (b*a-c*d):=by
 rw[<-bf,<-bf,<-Mu];congr 1;show a*b-c*d=b*a-c*d;rw[Rat.mul_comm a]
theorem up {p q:PQ} {h k:Nat} (hp:Alg.HB h p) (hq:Alg.HB k q) (hp0:p≠0) (hq0:q≠0) (hb:h+(Alg.sz p+2)*(k+1)+k<=68719476000) (sp:Alg.sz p<=524288) (sq:Alg.sz q<=524288):Fn Tryz.prog 216 [iUp p,iUp q,iN 0] [iUp (psr q (Alg.sz p) p),iN 0]:=by
 obtain⟨Q,hQ⟩:=fu hq0;have lQ:(U q).length=Q.length+1:=by rw[hQ];rfl
 have e1:decide (((U q).length:Int)=0)=false:=by rw[lQ];exact aj (by omega)
 have hq1:=az hq0;have hlen:∀(f:Nat->List Tm) (n:Nat),(bS f n).length=n:=fun f n=>by simp[bS]
 have hemp:(bS (fun i=>U (Alg.C (q.c i))) (Alg.sz q)).isEmpty=false:=by cases hc:bS (fun i=>U (Alg.C (q.c i))) (Alg.sz q)with|nil=>(have:=congrArg List.length hc;rw[hlen]at this;simp at this;omega)|cons _ _=>rfl
 have hemp':(bS (fun i=>U (Alg.C (p.c i))) (Alg.sz p)).isEmpty=false:=by cases hc:bS (fun i=>U (Alg.C (p.c i))) (Alg.sz p)with|nil=>(have:=congrArg List.length hc;rw[hlen]at this;simp at this;have:=az hp0;omega)|cons _ _=>rfl
 refine ak (fn:=Tryz.f216) (by rfl) rfl rfl rfl (by rfl) ?_;simp -dsimp -implicitDefEqProofs only[go_sem,e1,af];refine bQ (ox q hq0 (by omega)) ?_;simp -dsimp -implicitDefEqProofs only[go_sem,hlen]
 repeat(refine And.intro (by omega) ?_)
 refine bQ (ox p hp0 (by omega)) ?_;simp -dsimp -implicitDefEqProofs only[go_sem,hlen,hemp,hemp'];have hdiv:∀ j,j<Alg.sz q->(bS (fun i=>U (Alg.C (q.c i))) (Alg.sz q))[j]?=some [cM (U (Alg.C (q.c j)))]:=fun j hj=>by rw[bS,List.getElem?_map,List.getElem?_range hj];rfl
 refine aS [(10,13),(26,80)] [] [(25,25)] (fun n τ β ε=>∃(t:Nat) (r:PQ) (j:Nat) (rows:List (List C)),n=t/\Alg.sz r<=t/\psr q t r=psr q (Alg.sz p) p/\t<=Alg.sz p/\j+t<=Alg.sz p/\Alg.HB (h+j*(k+1)) r /\
   τ 10 = .sl 25 1 t/\ε 25=⟨1,1,rows,true,true⟩/\∀ j,j<t->rows[j]?=some [cM (U (Alg.C (r.c j)))])
  (fun e τ β ε=>e = .exit 0/\∃(t:Nat) (rows:List (List C)),Alg.sz (psr q (Alg.sz p) p)<=t/\t<=Alg.sz p/\τ 10 = .sl 25 1 t/\ε 25=⟨1,1,rows,true,true⟩/\∀ j,j<t->rows[j]?=some [cM (U (Alg.C ((psr q (Alg.sz p) p).c j)))]) (Alg.sz p) ?_ ?_ ?_
 ·exact⟨Alg.sz p,p,0,_,rfl,ae _,rfl,ae _,by omega,by simpa using hp,rfl,rfl,fun j hj=>by rw[bS,List.getElem?_map,List.getElem?_range hj];rfl⟩
 ·rintro n τ β ε π hK hKB hKE ⟨t,r,j,rows,hn,hs,hps,htp,hjt,hr,h10,h25,hrows⟩;have k9:τ 9 = .i (iN ((Alg.sz q:Int)-1)):=(hK 9 rfl).trans rfl;have k8:τ 8 = .sl 19 1 (Alg.sz q):=(hK 8 rfl).trans rfl;have e19:ε 19=⟨1,1,bS (fun i=>U (Alg.C (q.c i))) (Alg.sz q),true,true⟩:=(hKE 19 rfl).trans rfl;by_cases hlt:Alg.sz q<=t
  ·obtain⟨t',rfl⟩:∃ t',t=t'+1:=⟨t-1,by omega⟩;have hA:((Alg.sz q:Int)-1)<((t'+1:Nat):Int):=by omega
   have ei:((t'+1:Nat):Int)-1=(t':Int):=by omega
   simp -dsimp -implicitDefEqProofs only[go_sem,h10,k9,hA,h25,ei]
   repeat(refine And.intro (by omega) ?_)
   refine⟨_,hrows t' (by omega),?_⟩;simp -dsimp -implicitDefEqProofs only[go_sem,h10,k9,h25,ei,k8]
   repeat(refine And.intro (by omega) ?_)
   refine aS [(12,13),(43,80)] [] [(25,25)] (fun n τ' β' ε'=>∃(i:Nat) (rows':List (List C)),n=t'-i/\i<=t'/\τ' 43 = .i (iN i)/\ε' 25=⟨1,1,rows',true,true⟩/\∀ j,j<t'->rows'[j]?=some [cM (U (Alg.C (if j<i then(pst q t' r).c j else r.c j)))])
    (fun e τ' β' ε'=>e = .exit 2/\∃(rows':List (List C)),ε' 25=⟨1,1,rows',true,true⟩/\∀ j,j<t'->rows'[j]?=some [cM (U (Alg.C ((pst q t' r).c j)))]) t' ?_ ?_ ?_
   ·exact⟨0,rows,by omega,by omega,rfl,h25,fun j hj=>by rw[if_neg (by omega)];exact hrows j (by omega)⟩
   ·rintro n2 τ2 β2 ε2 π2 hK2 hKB2 hKE2 ⟨i,rows',hn2,hi,h43,h25',hrows'⟩;have q42:τ2 42 = .i (iN t'):=by rw[hK2 42 (by decide)];simp -dsimp -implicitDefEqProofs only[go_sem,ei,Int.toNat_natCast]
    have q10:τ2 10 = .sl 25 1 t':=by rw[hK2 10 (by decide)];simp -dsimp -implicitDefEqProofs only[go_sem,ei,Int.toNat_natCast]
    have q8:τ2 8 = .sl 19 1 (Alg.sz q):=(hK2 8 rfl).trans k8;have q9:τ2 9 = .i (iN ((Alg.sz q:Int)-1)):=(hK2 9 rfl).trans k9;have q11:τ2 11 = .i (iUp (Alg.C (r.c t'))):=(hK2 11 rfl).trans rfl;have f19:ε2 19=⟨1,1,bS (fun i=>U (Alg.C (q.c i))) (Alg.sz q),true,true⟩:=(hKE2 19 rfl).trans e19;by_cases hlt2:i<t'
    ·have hA2:(i:Int)<(t':Int):=by omega
     have hri:=hrows' i hlt2;rw[if_neg (by omega)]at hri;have en:((Alg.sz q:Int)-1)=((Alg.sz q-1:Nat):Int):=by omega
     rw[en]at q9;simp -dsimp -implicitDefEqProofs only[go_sem,h43,q42,hA2];refine ao (by rfl) 12 [] false true (by rfl) (by rfl) (by decide +kernel) ?_;simp -dsimp -implicitDefEqProofs only[go_sem,h43,q10,q8,q9,h25',f19,hri]
     repeat(refine And.intro (by omega) ?_)
     have hjk:j*(k+1)<=(Alg.sz p+2)*(k+1):=Nat.mul_le_mul_right _ (by omega);have hlen':i<rows'.length:=(List.getElem?_eq_some_iff.1 hri).1;have c1:=gQ (r.c i);have c2:=gQ (lc q);have c3:=gQ (r.c t');refine⟨_,hri,?_⟩;simp -dsimp -implicitDefEqProofs only[go_sem];refine⟨by omega,_,hdiv _ (by omega),?_⟩;simp -dsimp -implicitDefEqProofs only[go_sem];refine ar (args':=[iUp (Alg.C (r.c i)),iUp (Alg.C (lc q))]) rfl (cK (lL hr i) (lL hq _) (by omega) (by omega) (by omega) (by omega)) ?_;simp -dsimp -implicitDefEqProofs only[go_sem,q10,h25']
     repeat(refine And.intro (by omega) ?_)
     refine⟨_,hri,?_⟩;simp -dsimp -implicitDefEqProofs only[go_sem,q10,q9,h25',h43]
     repeat(refine And.intro (by omega) ?_)
     have hset:(rows'.set i [cM (U (Alg.C (r.c i)*Alg.C (lc q)))])[i]?=some [cM (U (Alg.C (r.c i)*Alg.C (lc q)))]:=by rw[List.getElem?_set_self hlen']
     refine aO (fun hk=>?_) (fun hk=>?_)
     ·have ek:(i:Int)-((t':Int)-((Alg.sz q-1:Nat):Int))=((i-(t'+1-Alg.sz q):Nat):Int):=by omega
      have hkq:i-(t'+1-Alg.sz q)<Alg.sz q:=by omega
      have c4:=gQ (q.c (i-(t'+1-Alg.sz q)));have c5:=aM (Alg.C (r.c i)) (Alg.C (lc q));have c6:=aM (Alg.C (r.c t')) (Alg.C (q.c (i-(t'+1-Alg.sz q))));simp -dsimp -implicitDefEqProofs only[go_sem,ek];refine ao (by rfl) 14 [] false true (by rfl) (by rfl) (by decide +kernel) ?_;simp -dsimp -implicitDefEqProofs only[go_sem,q10,q11,q8,h25',f19]
      repeat(refine And.intro (by omega) ?_)
      refine⟨_,hset,?_⟩;simp -dsimp -implicitDefEqProofs only[go_sem];refine⟨hkq,_,hdiv _ hkq,?_⟩;simp -dsimp -implicitDefEqProofs only[go_sem];refine ar (args':=[iUp (Alg.C (r.c t')),iUp (Alg.C (q.c (i-(t'+1-Alg.sz q))))]) rfl (cK (lL hr t') (lL hq _) (by omega) (by omega) (by omega) (by omega)) ?_;simp -dsimp -implicitDefEqProofs only[go_sem];refine ar (args':=[iUp (Alg.C (r.c i)*Alg.C (lc q)),iUp (Alg.C (r.c t')*Alg.C (q.c (i-(t'+1-Alg.sz q))))]) rfl (pB ((lL hr i).mul (lL hq _)) ((lL hr t').mul (lL hq _)) (by omega) (by omega) (by omega) (by omega)) ?_;simp -dsimp -implicitDefEqProofs only[go_sem,q10,h25',h43]
      repeat(refine And.intro (by omega) ?_)
      refine⟨_,hset,?_⟩;simp -dsimp -implicitDefEqProofs only[go_sem,h43]
      repeat(refine And.intro (by omega) ?_)
      refine again (t'-(i+1)) (by omega) ⟨(by(repeat apply am rfl);exact hK2),hKB2,(by(repeat apply am rfl);exact hKE2),i+1,(rows'.set i [cM (U (Alg.C (r.c i)*Alg.C (lc q)))]).set i [cM (U (Alg.C (r.c i)*Alg.C (lc q)-Alg.C (r.c t')*Alg.C (q.c (i-(t'+1-Alg.sz q)))))],rfl,by omega,rfl,?_,?_⟩
      ·simp -dsimp -implicitDefEqProofs only[go_sem]
      ·rw[List.set_set];exact uY hlt2 hrows' (by rw[Ok,LT,if_pos (by omega)])
     ·simp -dsimp -implicitDefEqProofs only[go_sem,h43]
      repeat(refine And.intro (by omega) ?_)
      refine again (t'-(i+1)) (by omega) ⟨(by(repeat apply am rfl);exact hK2),hKB2,(by(repeat apply am rfl);exact hKE2),i+1,rows'.set i [cM (U (Alg.C (r.c i)*Alg.C (lc q)))],rfl,by omega,rfl,?_,?_⟩
      ·simp -dsimp -implicitDefEqProofs only[go_sem]
      ·exact uY hlt2 hrows' (by
        rw[LT,if_neg (by omega),<-bf];congr 2;show r.c i*lc q=lc q*r.c i-0;rw[Rat.mul_comm];exact(sub_zero (R:=Rat) _).symm)
    ·have hA2:¬ (i:Int)<(t':Int):=by omega
     obtain rfl:i=t':=by omega
     simp -dsimp -implicitDefEqProofs only[go_sem,h43,q42,hA2];exact⟨(by(repeat apply am rfl);exact hK2),hKB2,hKE2,rows',h25',fun j hj=>by have:=hrows' j hj;rwa [if_pos hj]at this⟩
   ·rintro e τ2 β2 ε2 π2 hK2 hKB2 hKE2 ⟨rfl,rows',h25',hrows'⟩;refine⟨_,aY.refl _,?_⟩;have kO:=Kp.step2 hK hK2 (by intro n;simp[inR]<;>omega) (by(repeat apply am rfl);exact hK)
    have kB:=Kp.step2 hKB hKB2 (by intro n;simp[inR]) hKB;have kE:=Kp.step2 hKE hKE2 (by intro n;simp[inR]) hKE;have q10:τ2 10 = .sl 25 1 t':=by rw[hK2 10 (by decide)];simp -dsimp -implicitDefEqProofs only[go_sem,ei,Int.toNat_natCast]
    have hps':psr q t' (pst q t' r)=psr q (Alg.sz p) p:=by rw[<-hps];simp only[psr];rw[if_pos hlt]
    have hpsz:Alg.sz (pst q t' r)<=t':=AF hq0 hs hlt;simp -dsimp -implicitDefEqProofs only[go_sem];exact again t' (by omega) ⟨(by(repeat apply am rfl);exact kO),kB,kE,t',pst q t' r,j+1,rows',rfl,hpsz,hps',by omega,by omega,(hr.pstep hq _ _ _).mono (by rw[Nat.succ_mul];omega),q10,h25',hrows'⟩
  ·have hA:¬ ((Alg.sz q:Int)-1)<(t:Int):=by omega
   have hpr:psr q t r=r:=by
    cases t with
    | zero=>rfl
    | succ t=>simp only[psr];rw[if_neg hlt]
   simp -dsimp -implicitDefEqProofs only[go_sem,h10,k9,hA,h25];rw[hpr]at hps;exact⟨(by(repeat apply am rfl);exact hK),hKB,hKE,t,rows,by rw[<-hps];exact hs,htp,rfl,rfl,by rw[<-hps];exact hrows⟩
 ·rintro e τ β ε π hK hKB hKE ⟨rfl,t,rows,ht,htp,h10,h25,hrows⟩;refine⟨_,aY.refl _,?_⟩;have k2:τ 2 = .i (iN 0):=(hK 2 rfl).trans rfl;have hspec:=mj hq0 hq (Alg.sz p) p h (ae _) hp;have hQ:=hspec.2.2.2.1;have hjk:Alg.sz p*(k+1)<=(Alg.sz p+2)*(k+1):=Nat.mul_le_mul_right _ (by omega);have hrt:rows.take t=bS (fun i=>U (Alg.C ((psr q (Alg.sz p) p).c i))) t:=by
   refine List.ext_getElem? fun j=>?_;rw[List.getElem?_take,bS,List.getElem?_map];split
   ·rename_i hj;rw[hrows j hj,List.getElem?_range hj];rfl
   ·rename_i hj;rw[List.getElem?_eq_none (by simp;omega)];rfl
  simp -dsimp -implicitDefEqProofs only[go_sem,h10,h25,k2,hrt];refine an (I4 (psr q (Alg.sz p) p) t ht (by omega) (fun i=>gB (hQ.coef i).1 (hQ.coef i).2 (by omega))) ?_;simp -dsimp -implicitDefEqProofs only[go_sem]
end Go.AM
