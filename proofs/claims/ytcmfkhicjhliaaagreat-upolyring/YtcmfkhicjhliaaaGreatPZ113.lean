/- Lemmas, part 14 of 24: Polynomials in one variable as lists of terms; Polynomials in one variable: sizes, and what the functions yield; Sizes in division; Package mpoly: division; Package mgcd: monic polynomials, constants; Package mgcd: constants; package mpoly: equality; Package mpoly: a polynomial out of its coefficients. No condition. -/
import Derived.Test.YtcmfkhicjhliaaaGreatPZ112
set_option maxRecDepth 65536
set_option linter.unusedSimpArgs false
set_option linter.unusedVariables false
set_option linter.unusedSectionVars false
namespace Go.AM
open Alg
open Go.Proofs
abbrev PQ:=Alg.P Rat
noncomputable def toP (L:List Tm):PQ:=L.foldr (fun t q=>mon t.1.a.toNat t.2+q) 0
def Uv1 (e:Ex):Prop:=0<=e.a/\e.b=0/\e.c=0/\e.d=0
theorem ng (e f:Ex):bP e f = -bP f e:=by unfold bP uB;(repeat' split)<;>omega
theorem jb {e f:Ex} (he:Uv1 e) (hf:Uv1 f):0<bP e f↔f.a<e.a:=by
 obtain⟨_,k2,k3,k4⟩:=he;obtain⟨_,l2,l3,l4⟩:=hf;rw[gW];omega
def Uv (L:List Tm):Prop:=∀ t∈L,Uv1 t.1
structure Cn (L:List Tm):Prop where
 srt:Srt L
 nz:∀ t∈L,t.2≠0
 uv:Uv L
theorem ce:toP []=0:=rfl
theorem aG (t:Tm) (L:List Tm):toP (t::L)=mon t.1.a.toNat t.2+toP L:=rfl
theorem nQ (L M:List Tm):toP (L++M)=toP L+toP M:=by
 induction L with
 | nil=>rw[List.nil_append,ce,zero_add]
 | cons t L ih=>rw[List.cons_append,aG,aG,ih,add_assoc]
theorem F0 {L M:List Tm} (h:L.Perm M):toP L=toP M:=by
 induction h with
 | nil=>rfl
 | cons x _ ih=>rw[aG,aG,ih]
 | swap x y l=>rw[aG,aG,aG,aG,fv]
 | trans _ _ h1 h2=>exact h1.trans h2
theorem rP (f:Tm->Bool):∀(L:List Tm),(∀ t∈L,f t=false->t.2=0)->toP (L.filter f)=toP L
 | [],_=>rfl
 | t::L,h=>by
  have ih:=rP f L fun t ht=>h t (by simp[ht]);rw[List.filter_cons];cases hf:f t with
  | true=>simp only[if_true];rw[aG,aG,ih]
  | false =>
   have h0:=h t (by simp) hf;simp only[Bool.false_eq_true,if_false];rw[ih,aG,h0,show(0:Rat)=(0:Rat)from rfl];have:mon t.1.a.toNat (0:Rat)=0:=iR _;rw[this,zero_add]
theorem xJ (e:Ex) (c:Rat):∀ L,toP (addT L e c)=toP L+mon e.a.toNat c
 | []=>by rw[addT,aG,ce,add_zero,zero_add]
 | x::L=>by
  rw[addT];split
  ·rename_i h;rw[aG,aG,h];have:mon x.1.a.toNat (x.2+c)=mon x.1.a.toNat x.2+mon x.1.a.toNat c:=wn _ _ _;show mon x.1.a.toNat (x.2+c)+toP L=_;rw[this,add_assoc,add_assoc,add_comm (mon x.1.a.toNat c)]
  ·rw[aG,aG,xJ e c L,add_assoc]
theorem zb {e:Ex} {c:Rat}:∀{L:List Tm} {t:Tm},t∈addT L e c->t.1=e\/∃ u∈L,u.1=t.1
 | [],t,h=>by simp[addT]at h;exact .inl (by rw[h])
 | x::L,t,h=>by
  rw[addT]at h;split at h
  ·rename_i he;rcases List.mem_cons.1 h with rfl|h
   ·exact .inl rfl
   ·exact .inr ⟨t,by simp[h],rfl⟩
  ·rcases List.mem_cons.1 h with rfl|h
   ·exact .inr ⟨t,by simp,rfl⟩
   ·rcases zb h with h|⟨u,hu,h⟩
    ·exact .inl h
    ·exact .inr ⟨u,by simp[hu],h⟩
theorem KO {L:List Tm} {e:Ex} {c:Rat} (h:Uv L) (he:Uv1 e):Uv (addT L e c):=fun t ht=>by
 rcases zb ht with h1|⟨u,hu,h1⟩
 ·rw[h1];exact he
 ·rw[<-h1];exact h u hu
theorem rM {e f:Ex} (h:Uv1 e) (h':Uv1 f):Uv1 (e.add f)/\(e.add f).a.toNat=e.a.toNat+f.a.toNat:=by
 obtain⟨h1,h2,h3,h4⟩:=h;obtain⟨k1,k2,k3,k4⟩:=h';unfold Ex.add Uv1;dsimp only;omega
theorem Gl {x:Tm} (hx:Uv1 x.1):∀{b:List Tm} (M:List Tm),Uv b->Uv M->Uv (rowM x b M)/\toP (rowM x b M)=toP M+mon x.1.a.toNat x.2*toP b
 | [],M,_,hM=>⟨hM,by show toP M=_;rw[ce,mul_zero,add_zero]⟩
 | y::b,M,hb,hM=>by
  obtain⟨h1,h2⟩:=rM hx (hb y (by simp));obtain⟨h3,h4⟩:=Gl (b:=b) hx (addT M (x.1.add y.1) (x.2*y.2)) (fun t ht=>hb t (by simp[ht])) (KO hM h1);refine⟨h3,?_⟩;show toP (rowM x b (addT M (x.1.add y.1) (x.2*y.2)))=_;rw[h4,xJ,h2,aG,mul_add,show mon (x.1.a.toNat+y.1.a.toNat) (x.2*y.2)=mon x.1.a.toNat x.2*mon y.1.a.toNat y.2 from(dx _ _ _ _).symm,add_assoc]
theorem Gb {b:List Tm} (hb:Uv b):∀{a:List Tm} (M:List Tm),Uv a->Uv M->Uv (sumM a b M)/\toP (sumM a b M)=toP M+toP a*toP b
 | [],M,_,hM=>⟨hM,by show toP M=_;rw[ce,zero_mul,add_zero]⟩
 | x::a,M,ha,hM=>by
  obtain⟨h1,h2⟩:=Gl (b:=b) (ha x (by simp)) M hb hM;obtain⟨h3,h4⟩:=Gb hb (a:=a) (rowM x b M) (fun t ht=>ha t (by simp[ht])) h1;refine⟨h3,?_⟩;show toP (sumM a b (rowM x b M))=_;rw[h4,h2,aG,add_mul,add_assoc]
theorem H4 {L:List Tm} (hn:(L.map (·.1)).Nodup) (hu:Uv L):Cn (uA L)/\toP (uA L)=toP L:=by
 have hp:=j4 (L.filter keep);have hk:∀ t∈L,keep t=decide (t.2≠0):=fun t ht=>by
  obtain⟨h1,h2,h3,h4⟩:=hu t ht;have:cy t.1:=by unfold cy;omega
  simp[keep,this]
 refine⟨⟨rU ((List.Sublist.map _ List.filter_sublist).nodup hn),fun t ht=>?_,fun t ht=>?_⟩,?_⟩
 ·have h:=List.mem_filter.1 (hp.mem_iff.1 ht);have:=h.2;rw[hk t h.1]at this;simpa using this
 ·exact hu t (List.mem_filter.1 (hp.mem_iff.1 ht)).1
 ·rw[uA,F0 hp];refine rP _ _ fun t ht h=>?_;rw[hk t ht]at h;simpa using h
theorem cZ {x:Tm} {L:List Tm} (h:Cn (x::L)):Cn L:=⟨(List.pairwise_cons.1 h.srt).2,fun t ht=>h.nz t (by simp[ht]),fun t ht=>h.uv t (by simp[ht])⟩
theorem qN {x:Tm} {L:List Tm} (h:Cn (x::L)):∀ t∈L,t.1.a<x.1.a:=fun t ht=>by
 have h1:=(List.pairwise_cons.1 h.srt).1 t ht;rw[gW]at h1;obtain⟨_,k2,k3,k4⟩:=h.uv x (by simp);obtain⟨_,l2,l3,l4⟩:=h.uv t (by simp[ht]);omega
theorem oA:∀{L:List Tm} {n:Nat},(∀ t∈L,t.1.a<n/\0<=t.1.a)->∀ i,n<=i->(toP L).c i=0
 | [],_,_,_,_=>rfl
 | t::L,n,h,i,hi=>by
  rw[aG,bM,oA (fun t ht=>h t (by simp[ht])) i hi,bJ,if_neg]
  ·exact add_zero _
  ·have:=h t (by simp);omega
theorem kZ {x:Tm} {L:List Tm} (h:Cn (x::L)):Alg.sz (toP (x::L))=x.1.a.toNat+1/\(toP (x::L)).c x.1.a.toNat=x.2:=by
 have hx:=h.uv x (by simp);have hc:∀ i,x.1.a.toNat<=i->(toP L).c i=0:=oA fun t ht=>by
  have:=qN h t ht;have:=(cZ h).uv t ht;unfold Uv1 at this hx;omega
 have h1:(toP (x::L)).c x.1.a.toNat=x.2:=by
  rw[aG,bM,hc _ (ae _),bJ,if_pos rfl];exact add_zero _
 refine⟨jE (fun i hi=>?_) (fun _=>?_),h1⟩
 ·rw[aG,bM,hc _ (by omega),bJ,if_neg (by omega)];exact add_zero _
 ·rw[Nat.add_sub_cancel,h1];exact h.nz x (by simp)
theorem CX:∀{L:List Tm},Cn L->∀ t∈L,(toP L).c t.1.a.toNat=t.2
 | x::L,h,t,ht=>by
  rcases List.mem_cons.1 ht with rfl|ht
  ·exact(kZ h).2
  ·have h1:=qN h t ht;have h2:=h.uv x (by simp);have h3:=(cZ h).uv t ht;rw[aG,bM,CX (cZ h) t ht,bJ,if_neg]
   ·exact zero_add _
   ·unfold Uv1 at h2 h3;omega
theorem CU:∀{L M:List Tm},Cn L->Cn M->toP L=toP M->L=M
 | [],[],_,_,_=>rfl
 | [],y::M,_,h,e=>by
  have:=(kZ h).1;rw[<-e,ce,ap.2 rfl]at this;omega
 | x::L,[],h,_,e=>by
  have:=(kZ h).1;rw[e,ce,ap.2 rfl]at this;omega
 | x::L,y::M,h,h',e=>by
  obtain⟨h1,h2⟩:=kZ h;obtain⟨k1,k2⟩:=kZ h';have hx:=h.uv x (by simp);have hy:=h'.uv y (by simp);unfold Uv1 at hx hy;have ea:x.1=y.1:=by
   have:x.1.a=y.1.a:=by rw[e,k1]at h1;omega
   rcases hx1:x.1 with⟨a,b,c,d⟩;rcases hy1:y.1 with⟨a',b',c',d'⟩;rw[hx1]at hx this;rw[hy1]at hy this;simp only[Ex.mk.injEq]at *
   omega
  have eb:x.2=y.2:=by rw[<-h2,<-k2,e,ea]
  have exy:x=y:=Prod.ext ea eb;subst exy;rw[aG,aG]at e;rw[CU (cZ h) (cZ h') (fC e)]
theorem H5:∀(n:Nat) (p:PQ),Alg.sz p<=n->∃ L,Cn L/\toP L=p/\L.length<=Alg.sz p/\∀ t∈L,t.1.a<Alg.sz p
 | 0,p,h=>⟨[],⟨List.Pairwise.nil,by simp,by intro t ht;simp at ht⟩,(ap.1 (by omega)).symm,by simp,by simp⟩
 | n+1,p,h=>by
  by_cases hp:p=0
  ·exact⟨[],⟨List.Pairwise.nil,by simp,by intro t ht;simp at ht⟩,hp.symm,by simp,by simp⟩
  have h0:=aA hp;have hlow:Alg.sz (p-mon (Alg.sz p-1) (lc p))<=Alg.sz p-1:=cF fun i hi=>by
   rw[il,bJ];by_cases e:i=Alg.sz p-1
   ·subst e;rw[if_pos rfl];exact sub_self _
   ·rw[if_neg e,au (by omega)];exact sub_self _
  obtain⟨L,h1,h2,h3,h4⟩:=H5 n _ (by omega:Alg.sz (p-mon (Alg.sz p-1) (lc p))<=n);refine⟨(⟨((Alg.sz p-1:Nat):Int),0,0,0⟩,lc p)::L,⟨List.pairwise_cons.2 ⟨fun t ht=>?_,h1.srt⟩,fun t ht=>?_,fun t ht=>?_⟩,?_,by simp only[List.length_cons];omega,fun t ht=>?_⟩
  ·refine(jb ⟨by simp,rfl,rfl,rfl⟩ (h1.uv t ht)).2 ?_;have:=h4 t ht;show t.1.a<((Alg.sz p-1:Nat):Int);omega
  ·rcases List.mem_cons.1 ht with rfl|ht
   ·exact bB hp
   ·exact h1.nz t ht
  ·rcases List.mem_cons.1 ht with rfl|ht
   ·exact⟨by simp,rfl,rfl,rfl⟩
   ·exact h1.uv t ht
  ·rw[aG,h2];simp only[Int.toNat_natCast];exact ring [mon (Alg.sz p-1) (lc p),p]
  ·rcases List.mem_cons.1 ht with rfl|ht
   ·simp only;omega
   ·have:=h4 t ht;omega
noncomputable def U (p:PQ):List Tm:=Classical.choose (H5 _ p (ae _))
theorem wY (p:PQ):Cn (U p)/\toP (U p)=p/\(U p).length<=Alg.sz p/\∀ t∈U p,t.1.a<Alg.sz p:=Classical.choose_spec (H5 _ p (ae _))
theorem jB (p:PQ):Cn (U p):=(wY p).1
theorem gt (p:PQ):toP (U p)=p:=(wY p).2.1
theorem cO (p:PQ):(U p).length<=Alg.sz p:=(wY p).2.2.1
theorem uF {L:List Tm} (h:Cn L) {p:PQ} (e:toP L=p):L=U p:=CU h (jB p) (by rw[gt,e])
theorem bQ:U 0=[]:=(uF ⟨List.Pairwise.nil,by simp,by intro t ht;simp at ht⟩ rfl).symm
theorem mF {p:PQ}:U p=[]↔p=0:=⟨fun h=>by rw[<-gt p,h];rfl,fun h=>by rw[h,bQ]⟩
theorem mG {p:PQ} {t:Tm} (h:t∈U p):∃ i:Nat,i<Alg.sz p/\t=(⟨i,0,0,0⟩,p.c i)/\p.c i≠0:=by
 have h1:=CX (jB p) t h;rw[gt]at h1;have h2:=(wY p).2.2.2 t h;obtain⟨k1,k2,k3,k4⟩:=(jB p).uv t h;have h3:=(jB p).nz t h;refine⟨t.1.a.toNat,by omega,?_,by rw[h1];exact h3⟩;rcases t with⟨⟨a,b,c,d⟩,q⟩;simp only at *
 rw[h1];refine Prod.ext ?_ rfl;simp only[Ex.mk.injEq];omega
theorem fJ {p:PQ} (h:p≠0):∃ L,U p=(⟨((Alg.sz p-1:Nat):Int),0,0,0⟩,lc p)::L:=by
 cases hU:U p with
 | nil=>exact absurd (mF.1 hU) h
 | cons x L =>
  refine⟨L,?_⟩;have hc:=jB p;rw[hU]at hc;obtain⟨h1,h2⟩:=kZ hc;rw[<-hU,gt]at h1 h2;obtain⟨k1,k2,k3,k4⟩:=hc.uv x (by simp);rcases x with⟨⟨a,b,c,d⟩,q⟩;simp only at *
  congr 1;refine Prod.ext ?_ ?_
  ·simp only[Ex.mk.injEq];omega
  ·show q=lc p;rw[<-h2,lc,h1,Nat.add_sub_cancel]
theorem Po (p q:PQ):EA (U p) (U q)=U (p*q):=by
 obtain⟨h1,h2⟩:=Gb (jB q).uv (a:=U p) [] (jB p).uv (by intro t ht;simp at ht);obtain⟨h3,h4⟩:=H4 (rT (U p) (U q)) h1;exact uF h3 (by rw[h4,h2,gt,gt,ce,zero_add])
theorem nl (p:PQ) (c:Rat):dE (U p) c=U (p*Alg.C c):=by
 by_cases h:c=0
 ·rw[dE,if_pos h,h,show Alg.C (0:Rat)=0 from co,mul_zero,bQ]
 ·rw[dE,if_neg h];have hc:=jB p;refine uF (L:=(U p).map fun t=>(t.1,t.2*c)) ⟨(List.pairwise_map (f:=fun t:Tm=>(t.1,t.2*c)) (R:=fun x y:Tm=>0<bP x.1 y.1)).2 hc.srt,fun t ht=>?_,fun t ht=>?_⟩ ?_
  ·obtain⟨u,hu,rfl⟩:=List.mem_map.1 ht;exact aD (hc.nz u hu) h
  ·obtain⟨u,hu,rfl⟩:=List.mem_map.1 ht;exact hc.uv u hu
  ·have:∀ L:List Tm,toP (L.map fun t=>(t.1,t.2*c))=toP L*Alg.C c:=by
    intro L
    induction L with
    | nil=>rw[List.map_nil,ce,zero_mul]
    | cons t L ih =>
     rw[List.map_cons,aG,aG,ih,add_mul];congr 1;rw[<-cT,dx,Nat.add_zero]
   rw[this,gt]
theorem wV:∀(n:Nat) (a b:List Tm),a.length+b.length<=n->Cn a->Cn b->Cn (fI a b)/\toP (fI a b)=toP a+toP b/\∀ k:Int,(∀ t∈a,t.1.a<k)->(∀ t∈b,t.1.a<k)->∀ t∈fI a b,t.1.a<k
 | _,[],b,_,_,hb=>by rw[ge];exact⟨hb,by rw[ce,zero_add],fun k _ h=>h⟩
 | _,x::a,[],_,ha,_=>by rw[i5];exact⟨ha,by rw[ce,add_zero],fun k h _=>h⟩
 | 0,x::a,y::b,h,_,_=>by simp at h
 | n+1,x::a,y::b,h,ha,hb=>by
  simp only[List.length_cons]at h;have hx:=ha.uv x (by simp);have hy:=hb.uv y (by simp);have la:=qN ha;have lb:=qN hb;have hcx:(0<bP x.1 y.1↔y.1.a<x.1.a)/\(bP x.1 y.1<0↔x.1.a<y.1.a):=by
   refine⟨jb hx hy,?_⟩;rw[<-jb hy hx,ng x.1 y.1];omega
  have cons:∀(z:Tm) (R:List Tm),Uv1 z.1->z.2≠0->Cn R->(∀ t∈R,t.1.a<z.1.a)->Cn (z::R):=fun z R hz hz0 hR hlt =>
   ⟨List.pairwise_cons.2 ⟨fun t ht=>(jb hz (hR.uv t ht)).2 (hlt t ht),hR.srt⟩,fun t ht=>by
     rcases List.mem_cons.1 ht with rfl|ht
     ·exact hz0
     ·exact hR.nz t ht,fun t ht=>by
     rcases List.mem_cons.1 ht with rfl|ht
     ·exact hz
     ·exact hR.uv t ht⟩
  rw[i6];split
  ·rename_i c1;have c1':=hcx.1.1 c1;obtain⟨i1,i2,i3⟩:=wV n a (y::b) (by simp;omega) (cZ ha) hb;refine⟨cons x _ hx (ha.nz x (by simp)) i1 (i3 _ la fun t ht=>?_),by rw[aG,i2,aG x a,add_assoc],fun k h1 h2 t ht=>?_⟩
   ·rcases List.mem_cons.1 ht with rfl|ht
    ·exact c1'
    ·have:=lb t ht;omega
   ·rcases List.mem_cons.1 ht with rfl|ht
    ·exact h1 t (by simp)
    ·exact i3 k (fun t ht=>h1 t (by simp[ht])) h2 t ht
  ·rename_i c1;split
   ·rename_i c2;have c2':=hcx.2.1 c2;obtain⟨i1,i2,i3⟩:=wV n (x::a) b (by simp;omega) ha (cZ hb);refine⟨cons y _ hy (hb.nz y (by simp)) i1 (i3 _ (fun t ht=>?_) lb),by rw[aG,i2,aG y b];exact fv _ _ _,fun k h1 h2 t ht=>?_⟩
    ·rcases List.mem_cons.1 ht with rfl|ht
     ·exact c2'
     ·have:=la t ht;omega
    ·rcases List.mem_cons.1 ht with rfl|ht
     ·exact h2 t (by simp)
     ·exact i3 k h1 (fun t ht=>h2 t (by simp[ht])) t ht
   ·rename_i c2;have hea:x.1.a=y.1.a:=by
     have h3:¬ y.1.a<x.1.a:=fun h=>c1 (hcx.1.2 h);have h4:¬ x.1.a<y.1.a:=fun h=>c2 (hcx.2.2 h);omega
    obtain⟨i1,i2,i3⟩:=wV n a b (by omega) (cZ ha) (cZ hb);have hm:mon x.1.a.toNat x.2+mon y.1.a.toNat y.2=mon x.1.a.toNat (x.2+y.2):=by
     rw[<-hea];exact(wn _ _ _).symm
    have hs:toP (x::a)+toP (y::b)=mon x.1.a.toNat (x.2+y.2)+(toP a+toP b):=by
     rw[aG,aG,<-hm];exact ring [mon x.1.a.toNat x.2,mon y.1.a.toNat y.2,toP a,toP b]
    split
    ·rename_i c3;refine⟨i1,?_,fun k h1 h2=>i3 k (fun t ht=>h1 t (by simp[ht])) fun t ht=>h2 t (by simp[ht])⟩;rw[i2,hs,c3,show mon x.1.a.toNat (0:Rat)=0 from iR _,zero_add]
    ·rename_i c3;refine⟨cons (x.1,x.2+y.2) _ hx c3 i1 (i3 _ la fun t ht=>?_),?_,fun k h1 h2 t ht=>?_⟩
     ·have:=lb t ht;simp only;omega
     ·rw[aG,i2,hs]
     ·rcases List.mem_cons.1 ht with rfl|ht
      ·exact h1 x (by simp)
      ·exact i3 k (fun t ht=>h1 t (by simp[ht])) (fun t ht=>h2 t (by simp[ht])) t ht
theorem C5 (p q:PQ):fI (U p) (U q)=U (p+q):=by
 obtain⟨h1,h2,_⟩:=wV _ (U p) (U q) (ae _) (jB p) (jB q);exact uF h1 (by rw[h2,gt,gt])
theorem Ma (p q:PQ):D4 (U p) (U q)=U (p-q):=by
 rw[D4,nl,C5];congr 1;rw[show(-1:Rat) = -(1:Rat)from rfl,show Alg.C (-(1:Rat)) = -Alg.C (1:Rat)from kw _,show Alg.C (1:Rat)=1 from rfl];exact ring [p,q]
end Go.AM
namespace Go.AM
open Alg
open Go.Proofs
noncomputable abbrev iUp (p:PQ):IV:=iM (U p)
theorem p9 {z:Int} {h:Nat} (H:z.natAbs<=2 ^ h):(lb z).length<=h/32+1:=by
 refine eF ?_;have h1:(4294967296:Int) ^ (h/32+1)=((2 ^ (32*(h/32+1)):Nat):Int):=by
  rw[show(4294967296:Int)=((2 ^ 32:Nat):Int)from rfl,<-Int.natCast_pow,<-Nat.pow_mul]
 rw[h1];have h2:2 ^ h<2 ^ (32*(h/32+1)):=Nat.pow_lt_pow_right (by omega) (by omega);omega
theorem gw {q:Rat} {h k:Nat} (h1:q.num.natAbs<=2 ^ h) (h2:q.den<=2 ^ h) (hk:h/32+1<=k):QB k q :=
 ⟨ac (p9 h1) hk,ac (p9 (z:=(q.den:Int)) (by simpa using h2)) hk⟩
theorem HB.qb {h k:Nat} {p:PQ} (H:Alg.HB h p) (hk:h/32+1<=k):∀ t∈U p,QB k t.2:=fun t ht=>by
 obtain⟨i,_,rfl,_⟩:=mG ht;exact gw (H.coef i).1 (H.coef i).2 hk
theorem BO {p:PQ} {n:Int} (h:(Alg.sz p:Int)<=n) (hn:0<n):∀ t∈U p,t.1.lt n:=fun t ht=>by
 obtain⟨i,hi,rfl,_⟩:=mG ht;unfold Ex.lt;dsimp only;omega
theorem zF {p q:PQ} {h k:Nat} (hp:Alg.HB h p) (hq:Alg.HB k q) (hh:h<=137438953000) (hk:k<=137438953000) (sp:Alg.sz p<=1048576) (sq:Alg.sz q<=1048576):Fn Tryz.prog 108 [iUp p,iUp q] [iUp (p+q)]:=by
 have:=w8 (U p) (U q) (by have:=cO p;have:=cO q;omega) (HB.qb hp (by omega)) (HB.qb hq (by omega));rwa [C5]at this
theorem pu {p q:PQ} {h k:Nat} (hp:Alg.HB h p) (hq:Alg.HB k q) (hh:h<=137438953000) (hk:k<=137438953000) (sp:Alg.sz p<=1048576) (sq:Alg.sz q<=1048576):Fn Tryz.prog 113 [iUp p,iUp q] [iUp (p-q)]:=by
 have:=Dh (U p) (U q) (by have:=cO p;have:=cO q;omega) (HB.qb hp (by omega)) (HB.qb hq (by omega));rwa [Ma]at this
theorem Fb {p:PQ} {c:Rat} {h:Nat} (hp:Alg.HB h p) (hh:h<=274877906000) (sp:Alg.sz p<=1048576) (hc:QB 17179869184 c):Fn Tryz.prog 120 [iUp p,iQ c] [iUp (p*Alg.C c)]:=by
 have:=jt (U p) c (by have:=cO p;omega) (HB.qb hp (by omega)) hc;rwa [nl]at this
def Bd (K:Int):List Tm->Nat->Prop
 | [],_=>True
 | t::L,S=>∃ z:Int,(K:Rat)*t.2=z/\z.natAbs<=S/\Bd K L (S-z.natAbs)
theorem Bd.mono {K:Int}:∀{L:List Tm} {S S':Nat},Bd K L S->S<=S'->Bd K L S'
 | [],_,_,_,_=>trivial
 | _::_,_,_,⟨z,h1,h2,h3⟩,h=>⟨z,h1,by omega,h3.mono (by omega)⟩
theorem Bd.get {K:Int}:∀{L:List Tm} {S:Nat},Bd K L S->∀ t∈L,∃ z:Int,(K:Rat)*t.2=z/\z.natAbs<=S
 | _::_,_,⟨z,h1,h2,h3⟩,t,ht=>by
  rcases List.mem_cons.1 ht with rfl|ht
  ·exact⟨z,h1,h2⟩
  ·obtain⟨y,k1,k2⟩:=h3.get t ht;exact⟨y,k1,by omega⟩
theorem Bd.take {K:Int}:∀{L:List Tm} {S:Nat} (n:Nat),Bd K L S->Bd K (L.take n) S
 | [],_,n,_=>by simp[Bd]
 | _::_,_,0,_=>trivial
 | _::_,_,n+1,⟨z,h1,h2,h3⟩=>⟨z,h1,h2,h3.take n⟩
theorem Bd.addT {K w:Int} {e:Ex} {c:Rat} (hw:(K:Rat)*c=w):∀{L:List Tm} {S:Nat},Bd K L S->Bd K (addT L e c) (S+w.natAbs)
 | [],S,_=>⟨w,hw,by omega,trivial⟩
 | x::L,S,⟨z,h1,h2,h3⟩=>by
  rw[AM.addT];split
  ·refine⟨z+w,?_,by omega,h3.mono (by omega)⟩;show(K:Rat)*(x.2+c)=_;rw[Rat.mul_add,h1,hw,Rat.intCast_add]
  ·exact⟨z,h1,by omega,(h3.addT hw).mono (by omega)⟩
theorem Bd.rowM {D E u:Int} {x:Tm} (hu:(D:Rat)*x.2=u):∀{b M:List Tm} {S SB:Nat},Bd E b SB->Bd (D*E) M S->Bd (D*E) (rowM x b M) (S+u.natAbs*SB)
 | [],M,S,SB,_,hM=>hM.mono (by omega)
 | y::b,M,S,SB,⟨z,h1,h2,h3⟩,hM=>by
  have hw:((D*E:Int):Rat)*(x.2*y.2)=(u*z:Int):=by
   rw[Rat.intCast_mul,Rat.intCast_mul,<-hu,<-h1];grind
  have h4:=Bd.rowM hu h3 (hM.addT (e:=x.1.add y.1) hw);refine Bd.mono h4 ?_;rw[Int.natAbs_mul];have:u.natAbs*SB=u.natAbs*z.natAbs+u.natAbs*(SB-z.natAbs):=by rw[<-Nat.mul_add];congr 1;omega
  omega
theorem Bd.sumM {D E:Int} {b:List Tm} {SB:Nat} (hb:Bd E b SB):∀{a M:List Tm} {S SA:Nat},Bd D a SA->Bd (D*E) M S->Bd (D*E) (sumM a b M) (S+SA*SB)
 | [],M,S,SA,_,hM=>hM.mono (by omega)
 | x::a,M,S,SA,⟨z,h1,h2,h3⟩,hM=>by
  have h4:=Bd.sumM (a:=a) hb h3 (Bd.rowM h1 hb hM);refine Bd.mono (L:=AM.sumM (x::a) b M) h4 ?_;have:SA*SB=z.natAbs*SB+(SA-z.natAbs)*SB:=by rw[<-Nat.add_mul];congr 1;omega
  omega
theorem L7 {D:Int} {A:Alg.P Int}:∀{L:List Tm} {n:Nat},Cn L->(∀ t∈L,(D:Rat)*t.2=A.c t.1.a.toNat/\t.1.a<n)->Bd D L (cm (fun i=>(A.c i).natAbs) n)
 | [],_,_,_=>trivial
 | x::L,n,h,hx=>by
  obtain⟨h1,h2⟩:=hx x (by simp);have h0:=h.uv x (by simp);unfold Uv1 at h0;have hlt:x.1.a.toNat<n:=by omega
  have h3:cm (fun i=>(A.c i).natAbs) (x.1.a.toNat)+(A.c x.1.a.toNat).natAbs<=cm (fun i=>(A.c i).natAbs) n:=by
   have:∀ m,x.1.a.toNat<m->cm (fun i=>(A.c i).natAbs) (x.1.a.toNat)+(A.c x.1.a.toNat).natAbs<=cm (fun i=>(A.c i).natAbs) m:=by
    intro m hm
    induction m with
    | zero=>omega
    | succ m ih =>
     simp only[cm];rcases Nat.lt_or_ge x.1.a.toNat m with h4|h4
     ·have:=ih h4;omega
     ·rw[show x.1.a.toNat=m by omega];exact ae _
   exact this n hlt
  refine⟨A.c x.1.a.toNat,h1,by omega,?_⟩;refine Bd.mono (L7 (n:=x.1.a.toNat) (cZ h) fun t ht=>⟨(hx t (by simp[ht])).1,?_⟩) (by omega);have:=qN h t ht;omega
theorem HB.bd {h:Nat} {p:PQ} (H:Alg.HB h p):∃ D:Int,D≠0/\D.natAbs<=2 ^ h/\Bd D (U p) (2 ^ h):=by
 obtain⟨D,A,h1,h2,h3,h4⟩:=H;refine⟨D,h1,h2,?_⟩;have hs:Alg.sz A<=Alg.sz p:=by
  rw[<-fE,<-h4,bD (qI h1)];exact ae _
 have h5:=L7 (D:=D) (A:=A) (L:=U p) (n:=Alg.sz p) (jB p) fun t ht=>by
  obtain⟨i,hi,rfl,_⟩:=mG ht;have:=congrArg (fun p:PQ=>p.c i) h4;simp only[bu]at this;exact⟨this,by simp only;omega⟩
 rw[<-fN hs]at h5;exact h5.mono h3
theorem Ck {q:Rat} {D z:Int} {h k:Nat} (hD:D≠0) (hDh:D.natAbs<=2 ^ h) (e:(D:Rat)*q=z) (hz:z.natAbs<=2 ^ h) (hk:h/32+1<=k):QB k q:=by
 obtain⟨h1,h2⟩:=nZ hD e;exact gw (ac h1 hz) (ac h2 hDh) hk
theorem cI {p q:PQ} {h k:Nat} (hp:Alg.HB h p) (hq:Alg.HB k q) (hh:h<=137438953000) (hk:k<=137438953000) (sp:Alg.sz p<=1048576) (sq:Alg.sz q<=1048576):Fn Tryz.prog 111 [iUp p,iUp q] [iUp (p*q)]:=by
 obtain⟨D,hD,hDh,hb⟩:=HB.bd hp;obtain⟨E,hE,hEh,hb'⟩:=HB.bd hq;have hDE:(D*E).natAbs<=2 ^ (h+k):=by rw[Int.natAbs_mul];exact aN hDh hEh
 have:=w7 (U p) (U q) (by have:=cO p;omega) (by have:=cO q;omega) (BO (by omega) (by omega)) (BO (by omega) (by omega)) (HB.qb hp (by omega)) (HB.qb hq (by omega)) fun i j hi hj=>by
  obtain⟨u,hu,hu'⟩:=hb.get _ (List.getElem_mem hi);obtain⟨v,hv,hv'⟩:=hb'.get _ (List.getElem_mem hj);refine⟨?_,fun e c hc=>?_⟩
  ·refine Ck (D:=D*E) (z:=u*v) (h:=h+k) (Int.mul_ne_zero hD hE) hDE ?_ ?_ (by omega)
   ·rw[Rat.intCast_mul,Rat.intCast_mul,<-hu,<-hv];grind
   ·rw[Int.natAbs_mul];exact aN hu' hv'
  ·have h1:Bd (D*E) (sumM ((U p).take i) (U q) []) (0+2 ^ h*2 ^ k):=Bd.sumM hb' (hb.take i) (M:=[]) trivial;have h2:=Bd.rowM hu (hb'.take j) h1;obtain⟨z,hz,hz'⟩:=h2.get _ hc;refine Ck (D:=D*E) (z:=z) (h:=h+k+1) (Int.mul_ne_zero hD hE) (ac hDE (cn (by omega))) hz ?_ (by omega);have h3:u.natAbs*2 ^ k<=2 ^ (h+k):=aN hu' (ae _);have h4:2 ^ h*2 ^ k=2 ^ (h+k):=(Nat.pow_add _ _ _).symm;have h5:2 ^ (h+k+1)=2 ^ (h+k)+2 ^ (h+k):=by rw[Nat.pow_succ];omega
   omega
 rwa [Po]at this
end Go.AM
namespace Alg
open Classical
theorem HB.mon {h:Nat} {c:Rat} (e:Nat) (h1:c.num.natAbs<=2 ^ h) (h2:c.den<=2 ^ h):HB h (mon e c):=by
 refine⟨c.den,Alg.mon e c.num,by have:=c.den_nz;omega,by simpa using h2,?_,?_⟩
 ·have h3:=gA e c.num 1;have h4:n1 (1:P Int)<=1:=by
   rw[fN (n:=1) (cF fun i hi=>by cases i with|zero=>omega|succ i=>rfl)]
   show 0+Int.natAbs 1<=1;decide
  rw[mul_one]at h3;rw[h3];exact ac (Nat.mul_le_mul_left _ h4) (by simpa using h1)
 ·rw[mT,<-cT,Alg.dx,Nat.zero_add];congr 1;show((c.den:Int):Rat)*c=c.num;rw[Rat.mul_comm];exact cv c
theorem iV {x y:Rat} {h k:Nat} (hy:y≠0) (H:x.num.natAbs<=2 ^ h/\x.den<=2 ^ h) (G:y.num.natAbs<=2 ^ k/\y.den<=2 ^ k):(x/y).num.natAbs<=2 ^ (h+k)/\(x/y).den<=2 ^ (h+k):=by
 have hn:y.num≠0:=fun e=>hy (Rat.num_eq_zero.1 e);have hd:(x.den:Int)≠0:=by have:=x.den_nz;omega
 have e:(((x.den:Int)*y.num:Int):Rat)*(x/y)=((x.num*y.den:Int):Rat):=by
  rw[Rat.intCast_mul,Rat.intCast_mul,<-cv x,<-cv y]
  grind
 obtain⟨h1,h2⟩:=nZ (Int.mul_ne_zero hd hn) e;rw[Int.natAbs_mul]at h1 h2;exact⟨ac h1 (aN H.1 (by simpa using G.2)),ac h2 (aN (by simpa using H.2) G.1)⟩
theorem HB.pstep {h k:Nat} {r q:P Rat} (H:HB h r) (G:HB k q) (e i j:Nat):HB (h+k+1) (C (q.c j)*r-Alg.mon e (r.c i)*q):=by
 obtain⟨D,A,h1,h2,h3,h4⟩:=H;obtain⟨E,B,k1,k2,k3,k4⟩:=G;have hA:∀ i,hQ.f D*r.c i=hQ.f (A.c i):=fun i=>by
  have:=congrArg (fun p:P Rat=>p.c i) h4;simp only[bu]at this;exact this
 have hB:∀ i,hQ.f E*q.c i=hQ.f (B.c i):=fun i=>by
  have:=congrArg (fun p:P Rat=>p.c i) k4;simp only[bu]at this;exact this
 refine⟨D*E,C (B.c j)*A-Alg.mon e (A.c i)*B,Int.mul_ne_zero h1 k1,?_,?_,?_⟩
 ·rw[Int.natAbs_mul];exact ac (aN h2 k2) (cn (by omega))
 ·refine ac (GY _ _) ?_;rw[mg,gA,show h+k+1=(h+k)+1 from rfl];refine js ?_ ?_
  ·rw[Nat.add_comm];exact aN (ac (iC _ _) k3) h3
  ·exact aN (ac (iC _ _) h3) k3
 ·rw[vM,bL,bL,oz,mT,<-h4,<-k4,<-hA,<-hB,show hQ.f (D*E)=hQ.f D*hQ.f E from hQ.mul _ _,bf,bf,
   show Alg.mon e (hQ.f D*r.c i)=C (hQ.f D)*Alg.mon e (r.c i)by rw[<-cT,Alg.dx,Nat.zero_add]]
  exact ring [C (hQ.f D),C (hQ.f E),C (q.c j),r,Alg.mon e (r.c i),q]
theorem HB.divstep {h k:Nat} {r q:P Rat} (H:HB h r) (G:HB k q) (hq:q≠0) (e:Nat):HB (h+k+1) (r-q*Alg.mon e (lc r/lc q)):=by
 obtain⟨D,A,h1,h2,h3,h4⟩:=H;obtain⟨E,B,k1,k2,k3,k4⟩:=G;have hA:∀ i,hQ.f D*r.c i=hQ.f (A.c i):=fun i=>by
  have:=congrArg (fun p:P Rat=>p.c i) h4;simp only[bu]at this;exact this
 have hB:∀ i,hQ.f E*q.c i=hQ.f (B.c i):=fun i=>by
  have:=congrArg (fun p:P Rat=>p.c i) k4;simp only[bu]at this;exact this
 have hl:=bB hq;have hb0:B.c (sz q-1)≠0:=fun e=>by
  have:=hB (sz q-1);rw[e,hQ.zero]at this;rcases zero_of_mul this with h5|h5
  ·exact qI k1 h5
  ·exact hl h5
 refine⟨D*B.c (sz q-1),C (B.c (sz q-1))*A-Alg.mon e (A.c (sz r-1))*B,Int.mul_ne_zero h1 hb0,?_,?_,?_⟩
 ·rw[Int.natAbs_mul];exact ac (aN h2 (ac (iC _ _) k3)) (cn (by omega))
 ·refine ac (GY _ _) ?_;rw[mg,gA,show h+k+1=(h+k)+1 from rfl];refine js ?_ ?_
  ·rw[Nat.add_comm];exact aN (ac (iC _ _) k3) h3
  ·exact aN (ac (iC _ _) h3) k3
 ·have e1:hQ.f D*hQ.f (B.c (sz q-1))*(lc r/lc q)=hQ.f (A.c (sz r-1))*hQ.f E:=by
   rw[<-hA,<-hB,lc,lc];have hl':q.c (sz q-1)≠(0:Rat):=hl;show(hQ.f D:Rat)*((hQ.f E:Rat)*q.c (sz q-1))*(r.c (sz r-1)/q.c (sz q-1))=(hQ.f D:Rat)*r.c (sz r-1)*(hQ.f E:Rat)
   grind
  rw[vM,bL,bL,oz,mT,<-h4,<-k4,show hQ.f (D*B.c (sz q-1))=hQ.f D*hQ.f (B.c (sz q-1))from hQ.mul _ _];have e2:C (hQ.f D*hQ.f (B.c (sz q-1)))*Alg.mon e (lc r/lc q)=Alg.mon e (hQ.f (A.c (sz r-1)))*C (hQ.f E):=by
   rw[<-cT,Alg.dx,<-cT,Alg.dx,Nat.zero_add,Nat.add_zero];exact congrArg _ e1
  have e3:C (hQ.f D*hQ.f (B.c (sz q-1)))*(q*Alg.mon e (lc r/lc q))=Alg.mon e (hQ.f (A.c (sz r-1)))*(C (hQ.f E)*q):=by
   rw[cN,e2];exact ring [q,Alg.mon e (hQ.f (A.c (sz r-1))),C (hQ.f E)]
  rw[sub_eq,mul_add,mul_neg,e3,bf];exact ring [C (hQ.f D),C (hQ.f (B.c (sz q-1))),r,Alg.mon e (hQ.f (A.c (sz r-1)))*(C (hQ.f E)*q)]
theorem vf {r q:P Rat} (hr:r≠0) (hq:q≠0) (h:sz q<=sz r):sz (r-q*Alg.mon (sz r-sz q) (lc r/lc q))<sz r:=by
 have hr0:=aA hr;have hq0:=aA hq;have:sz (r-q*Alg.mon (sz r-sz q) (lc r/lc q))<=sz r-1:=cF fun i hi=>by
  rw[il,mul_comm,cB,if_pos (by omega)];by_cases e:i=sz r-1
  ·subst e;rw[show sz r-1-(sz r-sz q)=sz q-1 by omega];have hl:q.c (sz q-1)≠(0:Rat):=bB hq;show r.c (sz r-1)-(lc r/lc q)*q.c (sz q-1)=(0:Rat);rw[lc,lc]
   grind
  ·rw[au (by omega:sz r<=i),au (p:=q) (by omega),mul_zero];exact sub_self _
 omega
end Alg
namespace Go.AM
open Alg
open Go.Proofs
def Ex.sub (e f:Ex):Ex:=⟨e.a-f.a,e.b-f.b,e.c-f.c,e.d-f.d⟩
def Ex.psub (e f:Ex) (i:Nat):Ex:=⟨if 0<i then e.a-f.a else e.a,if 1<i then e.b-f.b else e.b,if 2<i then e.c-f.c else e.c,if 3<i then e.d-f.d else e.d⟩
open Classical in
noncomputable def tG (p q:PQ):List IV:=if h:Dv q p then[iUp (Classical.choose h),iB true]else[iM [],iB false]
theorem fZ {p q s:PQ} (hq:q≠0) (h:p=s*q):tG p q=[iUp s,iB true]:=by
 have hd:Dv q p:=⟨s,by rw[h,mul_comm]⟩;rw[tG,dif_pos hd];have h1:=Classical.choose_spec hd;have h2:q*s=q*Classical.choose hd:=by rw[<-h1,h,mul_comm]
 rw[bX hq h2]
theorem yR {p q s r:PQ} (h:p=s*q+r) (hr:r≠0) (hs:Alg.sz r<Alg.sz q):tG p q=[iM [],iB false]:=by
 have hd:¬ Dv q p:=fun⟨c,hc⟩=>by
  have h1:c*q+0=s*q+r:=by rw[<-h,hc,add_zero,mul_comm]
  have h2:=(qL h1 (by rw[ap.2 rfl];omega) hs).2;exact hr h2.symm
 rw[tG,dif_neg hd]
theorem jU (p:PQ):iUp p=iM (U p):=rfl
theorem BC {n:Nat} {c:Rat} (hc:c≠0):Cn [(⟨n,0,0,0⟩,c)]:=⟨List.pairwise_singleton _ _,by simpa using hc,by intro t ht;simp at ht;subst ht;exact⟨by simp,rfl,rfl,rfl⟩⟩
theorem zi (n:Nat) {c:Rat} (hc:c≠0):U (mon n c)=[(⟨n,0,0,0⟩,c)]:=(uF (BC hc) (by rw[aG,ce,add_zero];simp)).symm
theorem CV {L:List Tm} {n:Nat} {c:Rat} (hL:Cn L) (hc:c≠0) (h:∀ t∈L,(n:Int)<t.1.a):Cn (L++[(⟨n,0,0,0⟩,c)]):=by
 refine⟨List.pairwise_append.2 ⟨hL.srt,List.pairwise_singleton _ _,fun t ht u hu=>?_⟩,fun t ht=>?_,fun t ht=>?_⟩
 ·simp at hu;subst hu;exact(jb (hL.uv t ht) ⟨by simp,rfl,rfl,rfl⟩).2 (h t ht)
 ·rcases List.mem_append.1 ht with ht|ht
  ·exact hL.nz t ht
  ·exact(BC hc).nz t ht
 ·rcases List.mem_append.1 ht with ht|ht
  ·exact hL.uv t ht
  ·exact(BC (n:=n) hc).uv t ht
theorem rF {p q:PQ} {h k:Nat} (hp:Alg.HB h p) (hq:Alg.HB k q) (hq0:q≠0) (hb:h+(Alg.sz p+2)*(k+1)+k<=137438953000) (sp:Alg.sz p<=524288) (sq:Alg.sz q<=524288):Fn Tryz.prog 152 [iUp p,iUp q] (tG p q):=by
 obtain⟨Q,hQ⟩:=fJ hq0;have lQ:(U q).length=Q.length+1:=by rw[hQ];rfl
 have cQ:(U q)[0]?=some (⟨((Alg.sz q-1:Nat):Int),0,0,0⟩,lc q):=by rw[hQ];rfl
 have hq1:=aA hq0;have hlq:=bB hq0;refine ao kd (fn:=Tryz.f152) (by rfl) rfl rfl rfl (by rfl) (by simp) (by rfl) ?_;have e1:decide (((U q).length:Int)=0)=false:=by rw[lQ];exact aj (by omega)
 simp -dsimp -implicitDefEqProofs only[go_sem,e1,af];refine cC 6 6 8 (rs:=[]) rfl (by simp) ?_;refine aX [(0,0),(4,8),(12,59)] [(7,7)] [(53,53),(6,6)] (fun n τ β ε=>∃(r s:PQ) (L:List Tm) (j:Nat),n=Alg.sz r/\p=s*q+r/\Cn L/\toP L=s/\(∀ t∈L,(Alg.sz r:Int)-Alg.sz q<t.1.a)/\L.length+Alg.sz r<=Alg.sz p/\Alg.HB (h+j*(k+1)) r/\j+Alg.sz r<=Alg.sz p /\
   τ 0 = .i (iUp r)/\Own 8 (L.map eT) 6 6 τ ε)
  (fun e τ β ε=>(e = .exit 0/\∃(s:PQ) (L:List Tm),p=s*q/\Cn L/\toP L=s/\L.length<=Alg.sz p/\Own 8 (L.map eT) 6 6 τ ε) \/
   (e = .ret/\tG p q=[iM [],iB false]/\τ 4 = .fl []/\τ 5 = .i (.c (.v (.bool false))))) (Alg.sz p) ?_ ?_ ?_
 ·exact⟨p,0,[],0,rfl,by rw[zero_mul,zero_add],⟨List.Pairwise.nil,by simp,by intro t ht;simp at ht⟩,rfl,by simp,by simp,by simpa using hp,by omega,rfl,Own.mk (g:=1) (mm:=false) (by omega) rfl rfl rfl⟩
 ·rintro n τ β ε π hK hKB hKE ⟨r,s,L,j,hn,he,hL,hLs,hlt,hll,hr,hj,h0,g,mm,hg,h6,hrow⟩;have h6':τ 6 = .sl 6 g L.length:=by rw[h6,af]
  have k1:τ 1 = .i (iUp q):=(hK 1 rfl).trans rfl;by_cases hr0:r=0
  ·have hA:¬ (0:Int)<((U r).length:Int):=by rw[hr0,bQ];simp
   simp -dsimp -implicitDefEqProofs only[go_sem,h0,hA];exact⟨(by(repeat apply ak rfl);exact hK),(by(repeat apply ak rfl);exact hKB),(by(repeat apply ak rfl);exact hKE),s,L,by rw[he,hr0,add_zero],hL,hLs,by omega,Own.mk hg h6' (by simp) hrow⟩
  ·obtain⟨R,hR⟩:=fJ hr0;have lR:(U r).length=R.length+1:=by rw[hR];rfl
   have cR:(U r)[0]?=some (⟨((Alg.sz r-1:Nat):Int),0,0,0⟩,lc r):=by rw[hR];rfl
   have hA:(0:Int)<((U r).length:Int):=by rw[lR];omega
   have hr1:=aA hr0;have hsr:Alg.sz r<=Alg.sz p:=by omega
   simp -dsimp -implicitDefEqProofs only[go_sem,h0,hA,Int.reduceToNat,Int.reduceLE,true_and];refine av cR ?_;simp -dsimp -implicitDefEqProofs only[go_sem,h0,hA,h6',hrow];refine aX [(8,8),(18,34)] [(7,7)] [] (fun n τ' β' ε'=>∃ i:Nat,n=4-i/\i<=4/\τ' 18 = .i (iN i)/\β' 7=⟨(β 7).gen+1,(Ex.psub ⟨((Alg.sz r-1:Nat):Int),0,0,0⟩ ⟨((Alg.sz q-1:Nat):Int),0,0,0⟩ i).cs++eQ (lc r)⟩)
    (fun e τ' β' ε'=>e = .exit 2/\β' 7=⟨(β 7).gen+1,(Ex.sub ⟨((Alg.sz r-1:Nat):Int),0,0,0⟩ ⟨((Alg.sz q-1:Nat):Int),0,0,0⟩).cs++eQ (lc r)⟩) 4 ?_ ?_ ?_
   ·exact⟨0,by omega,by omega,rfl,rfl⟩
   ·rintro n2 τ2 β2 ε2 π2 hK2 hKB2 hKE2 ⟨i,hn2,hi,h18,b7⟩;have q7:τ2 7 = .bp 7 ((β 7).gen+1) 0:=(hK2 7 rfl).trans rfl;have q1:τ2 1 = .i (iUp q):=(hK2 1 rfl).trans k1;obtain rfl|rfl|rfl|rfl|rfl:i=4\/i=0\/i=1\/i=2\/i=3:=by omega
    ·have h18':τ2 18 = .i (iN 4):=h18;simp -dsimp -implicitDefEqProofs only[go_sem,h18',Int.reduceLT,decide_false];exact⟨(by(repeat apply ak rfl);exact hK2),(by(repeat apply ak rfl);exact hKB2),(by(repeat apply ak rfl);exact hKE2),b7⟩
    ·have h18':τ2 18 = .i (iN 0):=h18;simp -dsimp -implicitDefEqProofs only[go_sem,h18',Int.reduceLT,decide_true];refine an (by rfl) 13 [] false true (by rfl) (by rfl) (by decide +kernel) ?_;simp -dsimp -implicitDefEqProofs only[go_sem,h18',q1,q7,b7,Int.reduceToNat,Int.reduceLE,Int.reduceAdd,true_and,Ex.psub,Nat.not_lt_zero,ag];refine av cQ ?_;simp -dsimp -implicitDefEqProofs only[go_sem,h18',q1,q7,b7,Int.reduceToNat,Int.reduceLE,Int.reduceAdd,true_and,Ex.psub,Nat.not_lt_zero,ag]
     repeat(refine And.intro (by omega) ?_)
     refine again (4-1) (by omega) ⟨(by(repeat apply ak rfl);exact hK2),(by(repeat apply ak rfl);exact hKB2),(by(repeat apply ak rfl);exact hKE2),1,rfl,by omega,rfl,?_⟩
     simp -dsimp -implicitDefEqProofs only[go_sem,Ex.psub,Nat.not_lt_zero]
    ·have h18':τ2 18 = .i (iN 1):=h18;simp -dsimp -implicitDefEqProofs only[go_sem,h18',Int.reduceLT,decide_true];refine an (by rfl) 13 [] false true (by rfl) (by rfl) (by decide +kernel) ?_;simp -dsimp -implicitDefEqProofs only[go_sem,h18',q1,q7,b7,Int.reduceToNat,Int.reduceLE,Int.reduceAdd,true_and,Ex.psub,Nat.not_lt_zero,ag];refine av cQ ?_;simp -dsimp -implicitDefEqProofs only[go_sem,h18',q1,q7,b7,Int.reduceToNat,Int.reduceLE,Int.reduceAdd,true_and,Ex.psub,Nat.not_lt_zero,ag]
     repeat(refine And.intro (by omega) ?_)
     refine again (4-2) (by omega) ⟨(by(repeat apply ak rfl);exact hK2),(by(repeat apply ak rfl);exact hKB2),(by(repeat apply ak rfl);exact hKE2),2,rfl,by omega,rfl,?_⟩
     simp -dsimp -implicitDefEqProofs only[go_sem,Ex.psub,Nat.not_lt_zero]
    ·have h18':τ2 18 = .i (iN 2):=h18;simp -dsimp -implicitDefEqProofs only[go_sem,h18',Int.reduceLT,decide_true];refine an (by rfl) 13 [] false true (by rfl) (by rfl) (by decide +kernel) ?_;simp -dsimp -implicitDefEqProofs only[go_sem,h18',q1,q7,b7,Int.reduceToNat,Int.reduceLE,Int.reduceAdd,true_and,Ex.psub,Nat.not_lt_zero,ag];refine av cQ ?_;simp -dsimp -implicitDefEqProofs only[go_sem,h18',q1,q7,b7,Int.reduceToNat,Int.reduceLE,Int.reduceAdd,true_and,Ex.psub,Nat.not_lt_zero,ag]
     repeat(refine And.intro (by omega) ?_)
     refine again (4-3) (by omega) ⟨(by(repeat apply ak rfl);exact hK2),(by(repeat apply ak rfl);exact hKB2),(by(repeat apply ak rfl);exact hKE2),3,rfl,by omega,rfl,?_⟩
     simp -dsimp -implicitDefEqProofs only[go_sem,Ex.psub,Nat.not_lt_zero]
    ·have h18':τ2 18 = .i (iN 3):=h18;simp -dsimp -implicitDefEqProofs only[go_sem,h18',Int.reduceLT,decide_true];refine an (by rfl) 13 [] false true (by rfl) (by rfl) (by decide +kernel) ?_;simp -dsimp -implicitDefEqProofs only[go_sem,h18',q1,q7,b7,Int.reduceToNat,Int.reduceLE,Int.reduceAdd,true_and,Ex.psub,Nat.not_lt_zero,ag];refine av cQ ?_;simp -dsimp -implicitDefEqProofs only[go_sem,h18',q1,q7,b7,Int.reduceToNat,Int.reduceLE,Int.reduceAdd,true_and,Ex.psub,Nat.not_lt_zero,ag]
     repeat(refine And.intro (by omega) ?_)
     refine again (4-4) (by omega) ⟨(by(repeat apply ak rfl);exact hK2),(by(repeat apply ak rfl);exact hKB2),(by(repeat apply ak rfl);exact hKE2),4,rfl,by omega,rfl,?_⟩
     simp -dsimp -implicitDefEqProofs only[go_sem,Ex.psub,Nat.not_lt_zero]
   ·rintro e τ2 β2 ε2 π2 hK2 hKB2 hKE2 ⟨rfl,b7⟩;refine⟨_,aY.refl _,?_⟩;have r7:τ2 7 = .bp 7 ((β 7).gen+1) 0:=(hK2 7 rfl).trans rfl;have r1:τ2 1 = .i (iUp q):=(hK2 1 rfl).trans k1;have r0:τ2 0 = .i (iUp r):=(hK2 0 rfl).trans h0;have r6:τ2 6 = .sl 6 g L.length:=(hK2 6 rfl).trans h6';have rr:ε2 6=⟨g,8,L.map eT,mm,true⟩:=(hKE2 6 rfl).trans hrow;have kO:=Kp.step2 hK hK2 (by intro n;simp[inR]<;>omega) (by(repeat apply ak rfl);exact hK)
    have kB:=Kp.step2 hKB hKB2 (by intro n;simp[inR]<;>omega) (by(repeat apply ak rfl);exact hKB)
    have kE:=Kp.step2 hKE hKE2 (by intro n;simp[inR]) (by(repeat apply ak rfl);exact hKE)
    have hjk:j*(k+1)+(k+1)<=(Alg.sz p+2)*(k+1):=by rw[<-Nat.succ_mul];exact Nat.mul_le_mul_right _ (by omega)
    have hqr:QB 17179869184 (lc r):=gw (hr.coef _).1 (hr.coef _).2 (by omega);have hqq:QB 17179869184 (lc q):=gw (hq.coef _).1 (hq.coef _).2 (by omega);by_cases hc:Alg.sz q<=Alg.sz r
    ·have hX:Ex.sub ⟨((Alg.sz r-1:Nat):Int),0,0,0⟩ ⟨((Alg.sz q-1:Nat):Int),0,0,0⟩=⟨((Alg.sz r-Alg.sz q:Nat):Int),0,0,0⟩:=by
      unfold Ex.sub;simp only[Ex.mk.injEq];omega
     rw[hX]at b7;have eN:decide (cy ⟨((Alg.sz r-Alg.sz q:Nat):Int),0,0,0⟩)=true:=ai (by unfold cy;dsimp only;omega);simp -dsimp -implicitDefEqProofs only[go_sem,r7,b7,r1,r0];refine ar (args':=[iE ⟨((Alg.sz r-Alg.sz q:Nat):Int),0,0,0⟩]) rfl (kM _) ?_;simp -dsimp -implicitDefEqProofs only[go_sem,eN];refine aZ (by rfl) 9 11 [] true [.tmp 49] none (by rfl) (by rfl) (by rfl) (by rfl) (by decide +kernel) ?_;simp -dsimp -implicitDefEqProofs only[go_sem,r7,b7,r1,r0,Int.reduceToNat,Int.reduceLE,ag];refine av cQ ?_;simp -dsimp -implicitDefEqProofs only[go_sem,r7,b7,r1,r0,Int.reduceToNat,Int.reduceLE,ag];refine ar (args':=[iQ (lc r),iQ (lc q)]) rfl (rD _ _ hlq hqr hqq) ?_;simp -dsimp -implicitDefEqProofs only[go_sem,r7,b7,r1,r0,Int.reduceToNat,Int.reduceLE,ag];have hcc:lc r/lc q≠0:=by
      intro e0;refine bB hr0 ?_;have h9:(lc r:Rat)/lc q*lc q=lc r:=Rat.div_mul_cancel hlq;rw[e0]at h9;rw[<-h9];exact Rat.zero_mul _
     have hmb:Alg.HB (h+j*(k+1)+k) (mon (Alg.sz r-Alg.sz q) (lc r/lc q)):=by
      obtain⟨b1,b2⟩:=iV hlq (hr.coef _) (hq.coef _);exact Alg.HB.mon _ b1 b2
     have hsm:=lS (Alg.sz r-Alg.sz q) (a:=lc r/lc q) hcc;have hsp:=aM q (mon (Alg.sz r-Alg.sz q) (lc r/lc q));simp -dsimp -implicitDefEqProofs only[go_sem,r6,rr,hg,af]
     repeat(refine And.intro (by omega) ?_)
     simp -dsimp -implicitDefEqProofs only[go_sem,r7,r1,r0];refine ar (args':=[iUp q,iUp (mon (Alg.sz r-Alg.sz q) (lc r/lc q))]) ?_ (cI hq hmb (by omega) (by omega) (by omega) (by omega)) ?_
     ·rw[jU (mon _ _),zi _ hcc];rfl
     simp -dsimp -implicitDefEqProofs only[go_sem,r0];refine aa (pu hr (hq.mul hmb) (by omega) (by omega) (by omega) (by omega)) rfl ?_;simp -dsimp -implicitDefEqProofs only[go_sem];have hlow:=vf hr0 hq0 hc;refine aJ (Alg.sz (r-q*mon (Alg.sz r-Alg.sz q) (lc r/lc q))) 6 53 6 (by omega) rfl rfl (by omega) (by decide)
      ⟨(by(repeat apply ak rfl);exact kO),(by(repeat apply ak rfl);exact kB),(by(repeat apply ak rfl);exact kE),_,s+mon (Alg.sz r-Alg.sz q) (lc r/lc q),L++[(⟨((Alg.sz r-Alg.sz q:Nat):Int),0,0,0⟩,lc r/lc q)],j+1,rfl,?_,CV hL hcc (fun t ht=>by have:=hlt t ht;omega),?_,?_,by simp;omega,?_,by omega,rfl,?_⟩
     ·rw[he,add_mul];exact ring [s*q,mon (Alg.sz r-Alg.sz q) (lc r/lc q),q,r]
     ·rw[nQ,hLs,aG,ce,add_zero];simp
     ·intro t ht;rcases List.mem_append.1 ht with ht|ht
      ·have:=hlt t ht;omega
      ·simp at ht;subst ht;simp only;omega
     ·have:=hr.divstep hq hq0 (Alg.sz r-Alg.sz q);exact this.mono (by rw[Nat.succ_mul];omega)
     ·exact Own.mk2 (Nat.succ_pos _) (by simp -dsimp -implicitDefEqProofs only[go_sem];rfl) (by simp -dsimp -implicitDefEqProofs only[go_sem];rfl) (by simp) (by simp;rfl)
    ·have hX:¬ cy (Ex.sub ⟨((Alg.sz r-1:Nat):Int),0,0,0⟩ ⟨((Alg.sz q-1:Nat):Int),0,0,0⟩):=by
      unfold Ex.sub cy;dsimp only;omega
     have eN:decide (cy (Ex.sub ⟨((Alg.sz r-1:Nat):Int),0,0,0⟩ ⟨((Alg.sz q-1:Nat):Int),0,0,0⟩))=false:=aj hX;simp -dsimp -implicitDefEqProofs only[go_sem,r7,b7,r1,r0];refine ar (args':=[iE (Ex.sub ⟨((Alg.sz r-1:Nat):Int),0,0,0⟩ ⟨((Alg.sz q-1:Nat):Int),0,0,0⟩)]) rfl (kM _) ?_;simp -dsimp -implicitDefEqProofs only[go_sem,eN];exact⟨(by(repeat apply ak rfl);exact kO),(by(repeat apply ak rfl);exact kB),(by(repeat apply ak rfl);exact kE),yR he hr0 (by omega)⟩
 ·rintro e τ β ε π hK hKB hKE h;refine⟨_,aY.refl _,?_⟩;rcases h with⟨rfl,s,L,he,hL,hLs,hll,g,mm,hg,h6,hrow⟩|⟨rfl,h1,h2,h3⟩
  ·rw[af]at h6;simp -dsimp -implicitDefEqProofs only[go_sem,h6,hrow,hg];rw[fZ hq0 he,jU s,<-uF hL hLs]
  ·simp -dsimp -implicitDefEqProofs only[go_sem,h2,h3];rw[h1];rfl
end Go.AM
namespace Go.AM
open Alg
open Go.Proofs
theorem ug {p q:PQ} {h k:Nat} (hp:Alg.HB h p) (hq:Alg.HB k q) (hq0:q≠0) (hb:h+(Alg.sz p+2)*(k+1)+k<=137438953000) (sp:Alg.sz p<=524288) (sq:Alg.sz q<=524288) {s:PQ} (e:p=s*q):Fn Tryz.prog 194 [iUp p,iUp q] [iUp s]:=by
 refine ao kd (fn:=Tryz.f194) (by rfl) rfl rfl rfl (by rfl) (by simp) (by rfl) ?_;simp -dsimp -implicitDefEqProofs only[go_sem];refine aa (rF hp hq hq0 hb sp sq) rfl ?_;rw[fZ hq0 e];simp -dsimp -implicitDefEqProofs only[go_sem]
theorem U_C {c:Rat} (h:c≠0):U (Alg.C c)=[(e0,c)]:=by rw[<-cT,zi 0 h];rfl
theorem vn:U 1=[(e0,1)]:=U_C (by decide)
theorem oK:Fn Tryz.prog 190 [] [iUp 1]:=by rw[jU,vn];exact AR
theorem yf {p:PQ}:p*Alg.C (1/lc p)=Alg.mo p:=by
 rw[Alg.mo,mul_comm];congr 2;show(1:Rat)/lc p=(lc p)⁻¹;rw[Rat.div_def];exact Rat.one_mul _
theorem mJ:QB 17179869184 1:=⟨ac (eF (k:=1) (by decide)) (by omega),ac (eF (k:=1) (by decide)) (by omega)⟩
theorem jw {p:PQ} {h:Nat} (hp:Alg.HB h p) (hb:h<=137438953000) (sp:Alg.sz p<=1048576):Fn Tryz.prog 188 [iUp p] [iUp (Alg.mo p)]:=by
 refine ao kd (fn:=Tryz.f188) (by rfl) rfl rfl rfl (by rfl) (by simp) (by rfl) ?_;by_cases hp0:p=0
 ·subst hp0;have e1:decide (((U 0).length:Int)=0)=true:=by rw[bQ];rfl
  simp -dsimp -implicitDefEqProofs only[go_sem,e1];rw[eY,jU,bQ];rfl
 ·obtain⟨R,hR⟩:=fJ hp0;have lR:(U p).length=R.length+1:=by rw[hR];rfl
  have cR:(U p)[0]?=some (⟨((Alg.sz p-1:Nat):Int),0,0,0⟩,lc p):=by rw[hR];rfl
  have e1:decide (((U p).length:Int)=0)=false:=by rw[lR];exact aj (by omega)
  have hqq:QB 17179869184 (lc p):=gw (hp.coef _).1 (hp.coef _).2 (by omega);have hl:=bB hp0;obtain⟨b1,b2⟩:=iV (x:=1) (h:=0) hl ⟨by decide,by decide⟩ (hp.coef (Alg.sz p-1));simp -dsimp -implicitDefEqProofs only[go_sem,e1];refine aZ (by rfl) 8 10 [3] true [.tmp 3] none (by rfl) (by rfl) (by rfl) (by rfl) (by decide +kernel) ?_;simp -dsimp -implicitDefEqProofs only[go_sem];refine am (gg 1 (by decide)) ?_;simp -dsimp -implicitDefEqProofs only[go_sem,Int.reduceToNat,Int.reduceLE,ag];refine av cR ?_;simp -dsimp -implicitDefEqProofs only[go_sem,Int.reduceToNat,Int.reduceLE,ag];refine ar (args':=[iQ 1,iQ (lc p)]) rfl (rD 1 _ hl mJ hqq) ?_;simp -dsimp -implicitDefEqProofs only[go_sem];refine aa (Fb hp (by omega) sp (gw b1 b2 (by omega))) rfl ?_;simp -dsimp -implicitDefEqProofs only[go_sem,yf]
end Go.AM
namespace Go.AM
open Alg
open Go.Proofs
theorem JL:Tryz.prog.eqGuardType Tryz.prog.depth 100=false:=by decide +kernel
theorem Ky (x y:Operand) (e f:Ex):dz Tryz.prog (do eqGuard .eql 100 x y (.agg #[.int .i64 e.a,.int .i64 e.b,.int .i64 e.c,.int .i64 e.d]) (.agg #[.int .i64 f.a,.int .i64 f.b,.int .i64 f.c,.int .i64 f.d]);binOp .eql 100 (.agg #[.int .i64 e.a,.int .i64 e.b,.int .i64 e.c,.int .i64 e.d]) (.agg #[.int .i64 f.a,.int .i64 f.b,.int .i64 f.c,.int .i64 f.d])) (.bool (decide (e=f))):=by
 intro w;have h:=mt.eq e f w;simp only[Ex.v]at h;simp[eqGuard,binOp,JL,h]
theorem rK {x y:Operand} {e f:Ex} {K:Value->Prop} (h:K (.bool (decide (e=f)))) :
  d7 Tryz.prog .eql 100 x y (.agg #[.int .i64 e.a,.int .i64 e.b,.int .i64 e.c,.int .i64 e.d]) (.agg #[.int .i64 f.a,.int .i64 f.b,.int .i64 f.c,.int .i64 f.d]) K:=⟨_,Ky x y e f,rfl,h⟩
def yz (a:List Tm):Bool:=match a with|[t]=>decide (t.1=e0)|_=>false
theorem mz (a:List Tm):Fn Tryz.prog 189 [iM a] [iB (yz a)]:=by
 refine ao kd (fn:=Tryz.f189) (by rfl) rfl rfl rfl (by rfl) (by simp) (by rfl) ?_;by_cases hl:a.length=1
 ·obtain⟨t,rfl⟩:=List.length_eq_one_iff.1 hl;have e1:decide (((1:Nat):Int)=1)=true:=rfl;have ct:([t]:List Tm)[0]?=some t:=rfl;simp -dsimp -implicitDefEqProofs only[go_sem,e1,af,Int.reduceToNat,Int.reduceLE,true_and,List.drop_zero];refine av ct ?_;simp -dsimp -implicitDefEqProofs only[go_sem,e1,af,Int.reduceToNat,Int.reduceLE,true_and,List.drop_zero];refine rK (e:=t.1) (f:=e0) ?_;rfl
 ·have e1:decide ((a.length:Int)=1)=false:=aj (by omega);simp -dsimp -implicitDefEqProofs only[go_sem,e1,af];refine congrArg (fun b=>some [iB b]) ?_
  match a,hl with
  | [],_=>rfl
  | _::_::_,_=>rfl
  | [_],h=>simp at h
theorem E1 {a b:Rat}:ef (a.num*b.den) (b.num*a.den)=0↔a=b:=by
 have h:ef (a.num*b.den) (b.num*a.den)=0↔a.num*b.den=b.num*a.den:=by unfold ef;split<;>(try split)<;>omega
 rw[h];constructor
 ·intro h;have ha:((a.den:Int):Rat)≠0:=by have:=a.den_nz;intro e;have:=Rat.intCast_eq_zero_iff.1 e;omega
  have hb:((b.den:Int):Rat)≠0:=by have:=b.den_nz;intro e;have:=Rat.intCast_eq_zero_iff.1 e;omega
  have h1:=cv a;have h2:=cv b;have h3:((a.num*b.den:Int):Rat)=((b.num*a.den:Int):Rat):=by rw[h]
  rw[Rat.intCast_mul,Rat.intCast_mul,<-h1,<-h2]at h3
  grind
 ·rintro rfl;rfl
theorem EU (x y:Tm) (hx:QB 17179869184 x.2) (hy:QB 17179869184 y.2):Fn Tryz.prog 176 [.g (eT x),.g (eT y)] [iB (decide (x=y))]:=by
 refine ao kd (fn:=Tryz.f176) (by rfl) rfl rfl rfl (by rfl) (by simp) (by rfl) ?_;simp -dsimp -implicitDefEqProofs only[go_sem,Int.reduceToNat,Int.reduceLE,ag];refine rK (e:=x.1) (f:=y.1) ?_;by_cases h:x.1=y.1
 ·simp -dsimp -implicitDefEqProofs only[go_sem,h,Int.reduceToNat,Int.reduceLE,ag];refine aa (Lc x.2 y.2 hx hy) rfl ?_;have e1:decide (ef (x.2.num*y.2.den) (y.2.num*x.2.den)=0)=decide (x=y):=by
   rw[decide_eq_decide,E1];exact⟨fun e=>Prod.ext h e,fun e=>by rw[e]⟩
  simp -dsimp -implicitDefEqProofs only[go_sem,e1]
 ·simp -dsimp -implicitDefEqProofs only[go_sem,h];have:¬ x=y:=fun e=>h (by rw[e]);rw[aj this]
theorem xh (a b:List Tm) (hl:a.length<=1099511627776) (hx:∀ t∈a,QB 17179869184 t.2) (hy:∀ t∈b,QB 17179869184 t.2):Fn Tryz.prog 175 [iM a,iM b,.c (.v (.func (.func 176) #[] #[]))] [iB (decide (a=b))]:=by
 refine ao kd (fn:=Tryz.f175) (by rfl) rfl rfl rfl (by rfl) (by simp) (by rfl) ?_;by_cases hab:a.length=b.length
 ·have e1:decide ((a.length:Int)=(b.length:Int))=true:=ai (by omega);simp -dsimp -implicitDefEqProofs only[go_sem,e1,af];refine aH [(6,9),(17,31)] [(8,9)] [] (fun n τ β ε=>∃ i:Nat,n=a.length-i/\i<=a.length/\a.take i=b.take i/\τ 17 = .i (iN i))
   (fun e τ β ε=>(e = .exit 0/\a=b)\/(e = .ret/\¬ a=b/\τ 6 = .i (.c (.v (.bool false))))) a.length ?_ ?_ ?_
  ·exact⟨0,by omega,by omega,rfl,rfl⟩
  ·rintro n τ β ε π hK hKB hKE ⟨i,hn,hi,he,h17⟩;have k15:τ 15 = .i (iM a):=(hK 15 rfl).trans rfl;have k16:τ 16 = .i (iN a.length):=by rw[hK 16 (by decide)];simp -dsimp -implicitDefEqProofs only[go_sem,af]
   have k1:τ 1 = .i (iM b):=(hK 1 rfl).trans rfl;have k2:τ 2 = .i (.c (.v (.func (.func 176) #[] #[]))):=(hK 2 rfl).trans rfl;by_cases hlt:i<a.length
   ·have hA:(i:Int)<(a.length:Int):=by omega
    have hlb:i<b.length:=by omega
    have ga:a[i]?=some a[i]:=by simp[hlt]
    have gb:b[i]?=some b[i]:=by simp[hlb]
    simp -dsimp -implicitDefEqProofs only[go_sem,h17,k16,k15,hA];refine av ga ?_;simp -dsimp -implicitDefEqProofs only[go_sem,h17,k16,k15,hA,k1];refine av gb ?_;simp -dsimp -implicitDefEqProofs only[go_sem,h17,k16,k15,hA,k1,k2];refine ar (args':=[.g (eT a[i]),.g (eT b[i])]) rfl (EU a[i] b[i] (hx _ (List.getElem_mem _)) (hy _ (List.getElem_mem _))) ?_;by_cases hc:a[i]=b[i]
    ·simp -dsimp -implicitDefEqProofs only[go_sem,hc,h17]
     repeat(refine And.intro (by omega) ?_)
     refine again (a.length-(i+1)) (by omega) ⟨(by(repeat apply ak rfl);exact hK),(by(repeat apply ak rfl);exact hKB),(by(repeat apply ak rfl);exact hKE),i+1,rfl,by omega,?_,rfl⟩
     rw[ab hlt,ab hlb,he,hc]
    ·simp -dsimp -implicitDefEqProofs only[go_sem,hc];exact⟨(by(repeat apply ak rfl);exact hK),(by(repeat apply ak rfl);exact hKB),(by(repeat apply ak rfl);exact hKE),fun e=>hc (by simp[e])⟩
   ·have hA:¬ (i:Int)<(a.length:Int):=by omega
    obtain rfl:i=a.length:=by omega
    simp -dsimp -implicitDefEqProofs only[go_sem,h17,k16,hA];have:a=b:=by rw[List.take_length,List.take_of_length_le (by omega)]at he;exact he
    exact⟨(by(repeat apply ak rfl);exact hK),(by(repeat apply ak rfl);exact hKB),(by(repeat apply ak rfl);exact hKE),this⟩
  ·rintro e τ β ε π hK hKB hKE h;rcases h with⟨rfl,h⟩|⟨rfl,h,h6⟩
   ·simp -dsimp -implicitDefEqProofs only[go_sem,h]
   ·simp -dsimp -implicitDefEqProofs only[go_sem,h,h6]
 ·have e1:decide ((a.length:Int)=(b.length:Int))=false:=aj (by omega);simp -dsimp -implicitDefEqProofs only[go_sem,e1,af];have:¬ a=b:=fun e=>hab (by rw[e]);rw[aj this]
theorem zL (a b:List Tm) (hl:a.length<=1099511627776) (hx:∀ t∈a,QB 17179869184 t.2) (hy:∀ t∈b,QB 17179869184 t.2):Fn Tryz.prog 138 [iM a,iM b] [iB (decide (a=b))]:=by
 refine ao kd (fn:=Tryz.f138) (by rfl) rfl rfl rfl (by rfl) (by simp) (by rfl) ?_;simp -dsimp -implicitDefEqProofs only[go_sem];refine am (xh a b hl hx hy) ?_;simp -dsimp -implicitDefEqProofs only[go_sem]
end Go.AM
namespace Go.AM
open Alg
open Go.Proofs
noncomputable def c8 (f:Nat->Rat):Nat->List Tm
 | 0=>[]
 | i+1=>if f i=0 then c8 f i else c8 f i++[(⟨i,0,0,0⟩,f i)]
theorem ms (f:Nat->Rat):∀ i,∀ t∈c8 f i,∃ j:Nat,j<i/\t=(⟨j,0,0,0⟩,f j)
 | 0,t,h=>by simp[c8]at h
 | i+1,t,h=>by
  simp only[c8]at h;split at h
  ·obtain⟨j,hj,e⟩:=ms f i t h;exact⟨j,by omega,e⟩
  ·rcases List.mem_append.1 h with h|h
   ·obtain⟨j,hj,e⟩:=ms f i t h;exact⟨j,by omega,e⟩
   ·simp at h;exact⟨i,by omega,h⟩
theorem za:∀{M:List Tm} {e:Ex} {c:Rat},(∀ t∈M,t.1≠e)->addT M e c=M++[(e,c)]
 | [],_,_,_=>rfl
 | x::M,e,c,h=>by
  rw[addT,if_neg (fun h2=>h x (by simp) h2.symm),za fun t ht=>h t (by simp[ht])];rfl
theorem va (f:Nat->Rat) (i:Nat):addT (c8 f i) ⟨i,0,0,0⟩ (f i)=c8 f i++[(⟨i,0,0,0⟩,f i)]:=za fun t ht e=>by
 obtain⟨j,hj,rfl⟩:=ms f i t ht;simp only[Ex.mk.injEq]at e;omega
theorem HM (f:Nat->Rat) (i:Nat):Uv (c8 f i):=fun t ht=>by
 obtain⟨j,_,rfl⟩:=ms f i t ht;exact⟨by simp,rfl,rfl,rfl⟩
theorem jI (f:Nat->Rat):∀ i,((c8 f i).map (·.1)).Nodup
 | 0=>by simp[c8]
 | i+1=>by
  simp only[c8];split
  ·exact jI f i
  ·rw[<-va];exact tQ (jI f i) _ _
theorem vb (f:Nat->Rat):∀ i,(c8 f i).length<=i
 | 0=>by simp[c8]
 | i+1=>by
  have:=vb f i;simp only[c8];split
  ·omega
  ·simp;omega
theorem CI (f:Nat->Rat):∀ i j,(toP (c8 f i)).c j=if j<i then f j else 0
 | 0,j=>rfl
 | i+1,j=>by
  have ih:=CI f i j;simp only[c8];split
  ·rename_i h;rw[ih];by_cases e:j=i
   ·subst e;rw[if_neg (by omega),if_pos (by omega),h]
   ·by_cases h2:j<i
    ·rw[if_pos h2,if_pos (by omega)]
    ·rw[if_neg h2,if_neg (by omega)]
  ·rw[nQ,bM,ih,aG,ce,add_zero,bJ];simp only[Int.toNat_natCast];by_cases e:j=i
   ·subst e;rw[if_neg (by omega),if_pos rfl,if_pos (by omega)];exact zero_add _
   ·rw[if_neg e];by_cases h2:j<i
    ·rw[if_pos h2,if_pos (by omega)];exact add_zero _
    ·rw[if_neg h2,if_neg (by omega)];exact add_zero _
theorem BB (r:PQ) {n:Nat} (h:Alg.sz r<=n):uA (c8 r.c n)=U r:=by
 obtain⟨h1,h2⟩:=H4 (jI r.c n) (HM r.c n);refine uF h1 (h2.trans (Alg.P.ext fun j=>?_));rw[CI];split
 ·rfl
 ·exact(au (by omega)).symm
def bR (f:Nat->List Tm) (n:Nat):List (List C):=(List.range n).map fun i=>[cM (f i)]
theorem IW (r:PQ) (n:Nat) (h:Alg.sz r<=n) (hn:n<=1048576) (hq:∀ i,QB 8589934592 (r.c i)):Fn Tryz.prog 229 [.c (.lst (bR (fun i=>U (Alg.C (r.c i))) n)),iN 0] [iUp r]:=by
 have hlen:(bR (fun i=>U (Alg.C (r.c i))) n).length=n:=by simp[bR]
 refine ao kd (fn:=Tryz.f229) (by rfl) rfl rfl rfl (by rfl) (by simp) (by rfl) ?_;simp -dsimp -implicitDefEqProofs only[go_sem];refine qD (d:=10) (by intro t h;simp only[go_sem]at h<;>exact absurd h (by simp)) ?_;simp -dsimp -implicitDefEqProofs only[go_sem,hlen];refine kT [(6,7),(9,9),(13,39)] [(9,9)] [] (fun m τ β ε π=>∃ i:Nat,m=n-i/\i<=n/\τ 13 = .i (iN i)/\qn 10 (c8 r.c i) π)
  (fun e τ β ε π=>e = .exit 0/\qn 10 (c8 r.c n) π) n ?_ ?_ ?_
 ·exact⟨0,by omega,by omega,rfl,Cv _ _ (by simp[mq])⟩
 ·rintro m τ β ε π hK hKB hKE ⟨i,hm,hi,h13,hM⟩;have k11:τ 11 = .i (.c (.lst (bR (fun i=>U (Alg.C (r.c i))) n))):=(hK 11 rfl).trans rfl;have k12:τ 12 = .i (iN n):=(hK 12 rfl).trans rfl;have k5:τ 5 = .mp 10 1:=(hK 5 rfl).trans rfl;have k1:τ 1 = .i (iN 0):=(hK 1 rfl).trans rfl;by_cases hlt:i<n
  ·have hA:(i:Int)<(n:Int):=by omega
   have hg:(bR (fun i=>U (Alg.C (r.c i))) n)[i]?=some [cM (U (Alg.C (r.c i)))]:=by rw[bR,List.getElem?_map,List.getElem?_range hlt];rfl
   simp -dsimp -implicitDefEqProofs only[go_sem,h13,k12,k11,hA];refine⟨_,hg,?_⟩;simp -dsimp -implicitDefEqProofs only[go_sem,k1,k5,af];by_cases hc:r.c i=0
   ·have hU:U (Alg.C (r.c i))=[]:=by rw[hc,show Alg.C (0:Rat)=0 from co,bQ]
    have hS:c8 r.c (i+1)=c8 r.c i:=by simp only[c8];rw[if_pos hc]
    rw[hU];refine kT [(9,9),(20,38)] [(9,9)] [] (fun m τ' β' ε' π'=>m=0/\τ' 20 = .i (iN 0)/\π'=π)
     (fun e τ' β' ε' π'=>e = .exit 2/\π'=π) 0 ?_ ?_ ?_
    ·exact⟨rfl,rfl,rfl⟩
    ·rintro m2 τ2 β2 ε2 π2 hK2 hKB2 hKE2 ⟨hm2,h20,rfl⟩;have q19:τ2 19 = .i (iN 0):=by rw[hK2 19 (by decide)];simp -dsimp -implicitDefEqProofs only[go_sem,hU];rfl
     simp -dsimp -implicitDefEqProofs only[go_sem,h20,q19,Int.reduceLT,decide_false];exact⟨(by(repeat apply ak rfl);exact hK2),(by(repeat apply ak rfl);exact hKB2),(by(repeat apply ak rfl);exact hKE2)⟩
    ·rintro e τ2 β2 ε2 π2 hK2 hKB2 hKE2 ⟨rfl,rfl⟩;refine⟨_,aY.refl _,?_⟩;have q13:τ2 13 = .i (iN i):=(hK2 13 rfl).trans h13;have kO:=Kp.step2 hK hK2 (by intro n;simp[inR]<;>omega) (by(repeat apply ak rfl);exact hK)
     have kB:=Kp.step2 hKB hKB2 (by intro n;simp[inR]) (by(repeat apply ak rfl);exact hKB)
     have kE:=Kp.step2 hKE hKE2 (by intro n;simp[inR]) hKE;simp -dsimp -implicitDefEqProofs only[go_sem,q13]
     repeat(refine And.intro (by omega) ?_)
     exact jr (n-(i+1)) (by omega) ⟨(by(repeat apply ak rfl);exact kO),(by(repeat apply ak rfl);exact kB),(by(repeat apply ak rfl);exact kE),i+1,rfl,by omega,rfl,by rw[hS];exact hM⟩
   ·have hU:U (Alg.C (r.c i))=[(e0,r.c i)]:=U_C hc;have hS:addT (c8 r.c i) ⟨(i:Int),0,0,0⟩ (r.c i)=c8 r.c (i+1):=by rw[va];simp only[c8];rw[if_neg hc]
    have hnew:∀ q,((⟨(i:Int),0,0,0⟩:Ex),q)∈c8 r.c i->QB 8589934592 q:=fun q hm=>by
     obtain⟨j,_,e⟩:=ms _ _ _ hm;obtain⟨-,e2⟩:=Prod.mk.inj e;rw[e2];exact hq j
    have ct:([(e0,r.c i)]:List Tm)[0]?=some (e0,r.c i):=rfl;rw[hU];refine kT [(9,9),(20,38)] [(9,9)] [] (fun m τ' β' ε' π'=>∃ j:Nat,m=1-j/\j<=1/\τ' 20 = .i (iN j)/\qn 10 (if j=0 then c8 r.c i else c8 r.c (i+1)) π')
     (fun e τ' β' ε' π'=>e = .exit 2/\qn 10 (c8 r.c (i+1)) π') 1 ?_ ?_ ?_
    ·exact⟨0,rfl,by omega,rfl,hM⟩
    ·rintro m2 τ2 β2 ε2 π2 hK2 hKB2 hKE2 ⟨j,hm2,hj,h20,hM2⟩;have q19:τ2 19 = .i (iN 1):=by rw[hK2 19 (by decide)];simp -dsimp -implicitDefEqProofs only[go_sem,hU];rfl
     have q18:τ2 18 = .i (iM [(e0,r.c i)]):=(hK2 18 rfl).trans rfl;have q6:τ2 6 = .i (iN i):=(hK2 6 rfl).trans rfl;have q1:τ2 1 = .i (iN 0):=(hK2 1 rfl).trans k1;have q5:τ2 5 = .mp 10 1:=(hK2 5 rfl).trans k5;obtain rfl|rfl:j=1\/j=0:=by omega
     ·have h20':τ2 20 = .i (iN 1):=h20;simp -dsimp -implicitDefEqProofs only[go_sem,h20',q19,Int.reduceLT,decide_false];exact⟨(by(repeat apply ak rfl);exact hK2),(by(repeat apply ak rfl);exact hKB2),(by(repeat apply ak rfl);exact hKE2),hM2⟩
     ·have h20':τ2 20 = .i (iN 0):=h20;simp -dsimp -implicitDefEqProofs only[go_sem,h20',q19,q18,q1,q6,Int.reduceLT,decide_true,Int.reduceToNat,Int.reduceLE,true_and];refine av ct ?_;simp -dsimp -implicitDefEqProofs only[go_sem,h20',q19,q18,q1,q5,q6,Int.reduceLT,decide_true,Int.reduceToNat,Int.reduceLE,true_and,List.drop_zero,e0,Int.zero_add]
      repeat(refine And.intro (by omega) ?_)
      have hM3:qn 10 (c8 r.c i) π2:=hM2;refine ld (t:=10) (g:=1) (args:=[iE ⟨(i:Int),0,0,0⟩,iQ (r.c i)]) rfl rfl rfl rfl (by simp -dsimp -implicitDefEqProofs only[go_sem,hM3.1]) (by omega) (by simp -dsimp -implicitDefEqProofs only[go_sem,hM3.2.1]) (by simp -dsimp -implicitDefEqProofs only[go_sem];exact hM3.2.2.2) rfl (by simp -dsimp -implicitDefEqProofs only[go_sem,hM3.2.2.1];exact uZ _ _ _ hnew (hq i)) ?_;simp -dsimp -implicitDefEqProofs only[go_sem,h20',hS]
      repeat(refine And.intro (by omega) ?_)
      refine jr (1-1) (by omega) ⟨(by(repeat apply ak rfl);exact hK2),(by(repeat apply ak rfl);exact hKB2),(by(repeat apply ak rfl);exact hKE2),1,rfl,by omega,rfl,?_⟩
      simp -dsimp -implicitDefEqProofs only[go_sem];exact hM3.put
    ·rintro e τ2 β2 ε2 π2 hK2 hKB2 hKE2 ⟨rfl,hM2⟩;refine⟨_,aY.refl _,?_⟩;have q13:τ2 13 = .i (iN i):=(hK2 13 rfl).trans h13;have kO:=Kp.step2 hK hK2 (by intro n;simp[inR]<;>omega) (by(repeat apply ak rfl);exact hK)
     have kB:=Kp.step2 hKB hKB2 (by intro n;simp[inR]) (by(repeat apply ak rfl);exact hKB)
     have kE:=Kp.step2 hKE hKE2 (by intro n;simp[inR]) hKE;simp -dsimp -implicitDefEqProofs only[go_sem,q13]
     repeat(refine And.intro (by omega) ?_)
     exact jr (n-(i+1)) (by omega) ⟨(by(repeat apply ak rfl);exact kO),(by(repeat apply ak rfl);exact kB),(by(repeat apply ak rfl);exact kE),i+1,rfl,by omega,rfl,hM2⟩
  ·have hA:¬ (i:Int)<(n:Int):=by omega
   obtain rfl:i=n:=by omega
   simp -dsimp -implicitDefEqProofs only[go_sem,h13,k12,hA];exact⟨(by(repeat apply ak rfl);exact hK),(by(repeat apply ak rfl);exact hKB),(by(repeat apply ak rfl);exact hKE),hM⟩
 ·rintro e τ β ε π hK hKB hKE ⟨rfl,hM⟩;refine⟨_,aY.refl _,?_⟩;have k5:τ 5 = .mp 10 1:=(hK 5 rfl).trans rfl;simp -dsimp -implicitDefEqProofs only[go_sem,k5];refine ld (t:=10) (g:=1) (args:=[]) rfl rfl rfl rfl (by simp -dsimp -implicitDefEqProofs only[go_sem,hM.1]) (by omega) (by simp -dsimp -implicitDefEqProofs only[go_sem,hM.2.1]) (by simp -dsimp -implicitDefEqProofs only[go_sem];exact hM.2.2.2) rfl (by simp -dsimp -implicitDefEqProofs only[go_sem,hM.2.2.1];exact tM _ (jI _ _) (by have:=vb r.c n;omega)) ?_;simp -dsimp -implicitDefEqProofs only[go_sem,BB r h]
end Go.AM
