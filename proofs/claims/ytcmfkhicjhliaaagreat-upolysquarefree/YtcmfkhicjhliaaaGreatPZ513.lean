/- Lemmas, part 14 of 23. No condition. -/
import Derived.Test.YtcmfkhicjhliaaaGreatPZ512
set_option maxRecDepth 65536
set_option linter.unusedSimpArgs false
set_option linter.unusedVariables false
set_option linter.unusedSectionVars false
namespace Go.AM
open Alg
open Go.Proofs
theorem Lx:Tryz.prog.eqGuardType Tryz.prog.depth 100=false:=aE
theorem Ml (x y:Operand) (e f:Ex):ez Tryz.prog (do eqGuard .eql 100 x y (.agg #[.int .i64 e.a,.int .i64 e.b,.int .i64 e.c,.int .i64 e.d]) (.agg #[.int .i64 f.a,.int .i64 f.b,.int .i64 f.c,.int .i64 f.d]);binOp .eql 100 (.agg #[.int .i64 e.a,.int .i64 e.b,.int .i64 e.c,.int .i64 e.d]) (.agg #[.int .i64 f.a,.int .i64 f.b,.int .i64 f.c,.int .i64 f.d])) (.bool (decide (e=f))):=by
 intro w;have h:=mt.eq e f w;simp only[Ex.v]at h;simp[eqGuard,binOp,Lx,h]
theorem tG {x y:Operand} {e f:Ex} {K:Value->Prop} (h:K (.bool (decide (e=f)))) :
  fp Tryz.prog .eql 100 x y (.agg #[.int .i64 e.a,.int .i64 e.b,.int .i64 e.c,.int .i64 e.d]) (.agg #[.int .i64 f.a,.int .i64 f.b,.int .i64 f.c,.int .i64 f.d]) K:=⟨_,Ml x y e f,rfl,h⟩
def Ad (a:List Tm):Bool:=match a with|[t]=>decide (t.1=e0)|_=>false
theorem nS (a:List Tm):Fn Tryz.prog 189 [iM a] [iB (Ad a)]:=by
 refine aJ (fn:=Tryz.f189) ?_;by_cases hl:a.length=1
 ·obtain⟨t,rfl⟩:=List.length_eq_one_iff.1 hl;have e1:decide (((1:Nat):Int)=1)=true:=rfl;have ct:([t]:List Tm)[0]?=some t:=rfl;simp -dsimp only[go_sem,e1,az,Int.reduceToNat,Int.reduceLE,true_and,List.drop_zero];refine aP ct ?_;simp -dsimp only[go_sem,e1,az,Int.reduceToNat,Int.reduceLE,true_and,List.drop_zero];refine tG (e:=t.1) (f:=e0) ?_;rfl
 ·have e1:decide ((a.length:Int)=1)=false:=aG aw;simp -dsimp only[go_sem,e1,az];refine congrArg (fun b=>some [iB b]) ?_
  match a,hl with
  | [],_=>rfl
  | _::_::_,_=>rfl
  | [_],h=>simp at h
theorem GH {a b:Rat}:fv (a.num*b.den) (b.num*a.den)=0↔a=b:=by
 have h:fv (a.num*b.den) (b.num*a.den)=0↔a.num*b.den=b.num*a.den:=by unfold fv;split<;>(try split)<;>omega
 rw[h];constructor
 ·intro h;have ha:((a.den:Int):Rat)≠0:=by have:=a.den_nz;intro e;have:=Rat.intCast_eq_zero_iff.1 e;omega
  have hb:((b.den:Int):Rat)≠0:=by have:=b.den_nz;intro e;have:=Rat.intCast_eq_zero_iff.1 e;omega
  have h1:=cX a;have h2:=cX b;have h3:((a.num*b.den:Int):Rat)=((b.num*a.den:Int):Rat):=by rw[h]
  rw[Rat.intCast_mul,Rat.intCast_mul,<-h1,<-h2]at h3
  grind
 ·rintro rfl;rfl
theorem GA (x y:Tm) (hx:QB 17179869184 x.2) (hy:QB 17179869184 y.2):Fn Tryz.prog 176 [.g (eT x),.g (eT y)] [iB (decide (x=y))]:=by
 refine aJ (fn:=Tryz.f176) ?_;simp -dsimp only[go_sem,Int.reduceToNat,Int.reduceLE,aC];refine tG (e:=x.1) (f:=y.1) ?_;by_cases h:x.1=y.1
 ·simp -dsimp only[go_sem,h,Int.reduceToNat,Int.reduceLE,aC];refine ao (M3 x.2 y.2 hx hy) rfl ?_;have e1:decide (fv (x.2.num*y.2.den) (y.2.num*x.2.den)=0)=decide (x=y):=by
   rw[decide_eq_decide,GH];exact⟨fun e=>Prod.ext h e,fun e=>by rw[e]⟩
  simp -dsimp only[go_sem,e1]
 ·simp -dsimp only[go_sem,h];have:¬ x=y:=fun e=>h (by rw[e]);rw[aG this]
theorem yO (a b:List Tm) (hl:a.length<=1099511627776) (hx:∀ t∈a,QB 17179869184 t.2) (hy:∀ t∈b,QB 17179869184 t.2):Fn Tryz.prog 175 [iM a,iM b,.c (.v (.func (.func 176) #[] #[]))] [iB (decide (a=b))]:=by
 refine aJ (fn:=Tryz.f175) ?_;by_cases hab:a.length=b.length
 ·have e1:decide ((a.length:Int)=(b.length:Int))=true:=aF aw;simp -dsimp only[go_sem,e1,az];refine a8 [(6,9),(17,31)] [(8,9)] [] (fun n τ β ε=>∃ i:Nat,n=a.length-i/\i<=a.length/\a.take i=b.take i/\τ 17 = .i (iN i))
   (fun e τ β ε=>(e = .exit 0/\a=b)\/(e = .ret/\¬ a=b/\τ 6 = .i (.c (.v (.bool false))))) a.length ?_ ?_ ?_
  ·exact⟨0,aw,aw,rfl,rfl⟩
  ·rintro n τ β ε π hK hKB hKE ⟨i,hn,hi,he,h17⟩;have k15:τ 15 = .i (iM a):=(hK 15 rfl).trans rfl;have k16:τ 16 = .i (iN a.length):=by rw[hK 16 aH];simp -dsimp only[go_sem,az]
   have k1:τ 1 = .i (iM b):=(hK 1 rfl).trans rfl;have k2:τ 2 = .i (.c (.v (.func (.func 176) #[] #[]))):=(hK 2 rfl).trans rfl;by_cases hlt:i<a.length
   ·have hA:(i:Int)<(a.length:Int):=aw;have hlb:i<b.length:=aw;have ga:a[i]?=some a[i]:=by simp[hlt]
    have gb:b[i]?=some b[i]:=by simp[hlb]
    simp -dsimp only[go_sem,h17,k16,k15,hA];refine aP ga ?_;simp -dsimp only[go_sem,h17,k16,k15,hA,k1];refine aP gb ?_;simp -dsimp only[go_sem,h17,k16,k15,hA,k1,k2];refine aQ (args':=[.g (eT a[i]),.g (eT b[i])]) rfl (GA a[i] b[i] (hx _ (List.getElem_mem _)) (hy _ (List.getElem_mem _))) ?_;by_cases hc:a[i]=b[i]
    ·simp -dsimp only[go_sem,hc,h17]
     repeat(refine And.intro aw ?_)
     refine again (a.length-(i+1)) aw ⟨(aA hK),(aA hKB),hKE,i+1,rfl,aw,?_,rfl⟩;rw[aq hlt,aq hlb,he,hc]
    ·simp -dsimp only[go_sem,hc];exact⟨(aA hK),hKB,hKE,fun e=>hc (by simp[e])⟩
   ·have hA:¬ (i:Int)<(a.length:Int):=aw;obtain rfl:i=a.length:=aw;simp -dsimp only[go_sem,h17,k16,hA];have:a=b:=by rw[List.take_length,List.take_of_length_le aw]at he;exact he
    exact⟨(aA hK),hKB,hKE,this⟩
  ·rintro e τ β ε π hK hKB hKE h;rcases h with⟨rfl,h⟩|⟨rfl,h,h6⟩
   ·simp -dsimp only[go_sem,h]
   ·simp -dsimp only[go_sem,h,h6]
 ·have e1:decide ((a.length:Int)=(b.length:Int))=false:=aG aw;simp -dsimp only[go_sem,e1,az];have:¬ a=b:=fun e=>hab (by rw[e]);rw[aG this]
theorem Bi (a b:List Tm) (hl:a.length<=1099511627776) (hx:∀ t∈a,QB 17179869184 t.2) (hy:∀ t∈b,QB 17179869184 t.2):Fn Tryz.prog 138 [iM a,iM b] [iB (decide (a=b))]:=by
 refine aJ (fn:=Tryz.f138) ?_;simp -dsimp only[go_sem];refine aK (yO a b hl hx hy) ?_;simp -dsimp only[go_sem]
noncomputable def dP (f:Nat->Rat):Nat->List Tm
 | 0=>[]
 | i+1=>if f i=0 then dP f i else dP f i++[(⟨i,0,0,0⟩,f i)]
theorem nL (f:Nat->Rat):∀ i,∀ t∈dP f i,∃ j:Nat,j<i/\t=(⟨j,0,0,0⟩,f j)
 | 0,t,h=>by simp[dP]at h
 | i+1,t,h=>by
  simp only[dP]at h;split at h
  ·obtain⟨j,hj,e⟩:=nL f i t h;exact⟨j,aw,e⟩
  ·rcases List.mem_append.1 h with h|h
   ·obtain⟨j,hj,e⟩:=nL f i t h;exact⟨j,aw,e⟩
   ·simp at h;exact⟨i,aw,h⟩
theorem AK:∀{M:List Tm} {e:Ex} {c:Rat},(∀ t∈M,t.1≠e)->addT M e c=M++[(e,c)]
 | [],_,_,_=>rfl
 | x::M,e,c,h=>by
  rw[addT,if_neg (fun h2=>h x au h2.symm),AK fun t ht=>h t (by simp[ht])];rfl
theorem wE (f:Nat->Rat) (i:Nat):addT (dP f i) ⟨i,0,0,0⟩ (f i)=dP f i++[(⟨i,0,0,0⟩,f i)]:=AK fun t ht e=>by
 obtain⟨j,hj,rfl⟩:=nL f i t ht;simp only[Ex.mk.injEq]at e;omega
theorem Js (f:Nat->Rat) (i:Nat):Uv (dP f i):=fun t ht=>by
 obtain⟨j,_,rfl⟩:=nL f i t ht;exact⟨au,rfl,rfl,rfl⟩
theorem kI (f:Nat->Rat):∀ i,((dP f i).map (·.1)).Nodup
 | 0=>by simp[dP]
 | i+1=>by
  simp only[dP];split
  ·exact kI f i
  ·rw[<-wE];exact ve (kI f i) _ _
theorem wH (f:Nat->Rat):∀ i,(dP f i).length<=i
 | 0=>by simp[dP]
 | i+1=>by
  have:=wH f i;simp only[dP];split
  ·omega
  ·simp;omega
theorem Ej (f:Nat->Rat):∀ i j,(toP (dP f i)).c j=if j<i then f j else 0
 | 0,j=>rfl
 | i+1,j=>by
  have ih:=Ej f i j;simp only[dP];split
  ·rename_i h;rw[ih];by_cases e:j=i
   ·subst e;rw[if_neg aw,if_pos aw,h]
   ·by_cases h2:j<i
    ·rw[if_pos h2,if_pos aw]
    ·rw[if_neg h2,if_neg aw]
  ·rw[o8,ce,ih,bc,cI,add_zero,bY];simp only[Int.toNat_natCast];by_cases e:j=i
   ·subst e;rw[if_neg aw,if_pos rfl,if_pos aw];exact zero_add _
   ·rw[if_neg e];by_cases h2:j<i
    ·rw[if_pos h2,if_pos aw];exact add_zero _
    ·rw[if_neg h2,if_neg aw];exact add_zero _
theorem CZ (r:PQ) {n:Nat} (h:aa r<=n):vM (dP r.c n)=U r:=by
 obtain⟨h1,h2⟩:=JK (kI r.c n) (Js r.c n);refine vR h1 (h2.trans (Alg.P.ext fun j=>?_));rw[Ej];split
 ·rfl
 ·exact(aO aw).symm
def cr (f:Nat->List Tm) (n:Nat):List (List C):=(List.range n).map fun i=>[cM (f i)]
theorem KD (r:PQ) (n:Nat) (h:aa r<=n) (hn:n<=1048576) (hq:∀ i,QB 8589934592 (r.c i)):Fn Tryz.prog 229 [.c (.lst (cr (fun i=>U (an (r.c i))) n)),iN 0] [iUp r]:=by
 have hlen:(cr (fun i=>U (an (r.c i))) n).length=n:=by simp[cr]
 refine aJ (fn:=Tryz.f229) ?_;simp -dsimp only[go_sem];refine si (d:=10) (by intro t h;simp only[go_sem]at h<;>exact absurd h au) ?_;simp -dsimp only[go_sem,hlen];refine mu [(6,7),(9,9),(13,39)] [(9,9)] [] (fun m τ β ε π=>∃ i:Nat,m=n-i/\i<=n/\τ 13 = .i (iN i)/\rP 10 (dP r.c i) π)
  (fun e τ β ε π=>e = .exit 0/\rP 10 (dP r.c n) π) n ?_ ?_ ?_
 ·exact⟨0,aw,aw,rfl,D0 _ _ (by simp[nJ])⟩
 ·rintro m τ β ε π hK hKB hKE ⟨i,hm,hi,h13,hM⟩;have k11:τ 11 = .i (.c (.lst (cr (fun i=>U (an (r.c i))) n))):=(hK 11 rfl).trans rfl;have k12:τ 12 = .i (iN n):=(hK 12 rfl).trans rfl;have k5:τ 5 = .mp 10 1:=(hK 5 rfl).trans rfl;have k1:τ 1 = .i (iN 0):=(hK 1 rfl).trans rfl;by_cases hlt:i<n
  ·have hA:(i:Int)<(n:Int):=aw;have hg:(cr (fun i=>U (an (r.c i))) n)[i]?=some [cM (U (an (r.c i)))]:=by rw[cr,List.getElem?_map,List.getElem?_range hlt];rfl
   simp -dsimp only[go_sem,h13,k12,k11,hA];refine⟨_,hg,?_⟩;simp -dsimp only[go_sem,k1,k5,az];by_cases hc:r.c i=0
   ·have hU:U (an (r.c i))=[]:=by rw[hc,show an (0:Rat)=0 from cC,cq]
    have hS:dP r.c (i+1)=dP r.c i:=by simp only[dP];rw[if_pos hc]
    rw[hU];refine mu [(9,9),(20,38)] [(9,9)] [] (fun m τ' β' ε' π'=>m=0/\τ' 20 = .i (iN 0)/\π'=π)
     (fun e τ' β' ε' π'=>e = .exit 2/\π'=π) 0 ?_ ?_ ?_
    ·exact⟨rfl,rfl,rfl⟩
    ·rintro m2 τ2 β2 ε2 π2 hK2 hKB2 hKE2 ⟨hm2,h20,rfl⟩;have q19:τ2 19 = .i (iN 0):=by rw[hK2 19 aH];simp -dsimp only[go_sem,hU];rfl
     simp -dsimp only[go_sem,h20,q19,Int.reduceLT,decide_false];exact⟨(aA hK2),hKB2,hKE2⟩
    ·rintro e τ2 β2 ε2 π2 hK2 hKB2 hKE2 ⟨rfl,rfl⟩;refine⟨_,bA.refl _,?_⟩;have q13:τ2 13 = .i (iN i):=(hK2 13 rfl).trans h13;have kO:=Kp.step2 hK hK2 (by intro n;simp[inR]<;>omega) (aA hK);have kB:=Kp.step2 hKB hKB2 (by intro n;simp[inR]) hKB;have kE:=Kp.step2 hKE hKE2 (by intro n;simp[inR]) hKE;simp -dsimp only[go_sem,q13]
     repeat(refine And.intro aw ?_)
     exact ki (n-(i+1)) aw ⟨(aA kO),kB,kE,i+1,rfl,aw,rfl,by rw[hS];exact hM⟩
   ·have hU:U (an (r.c i))=[(e0,r.c i)]:=U_C hc;have hS:addT (dP r.c i) ⟨(i:Int),0,0,0⟩ (r.c i)=dP r.c (i+1):=by rw[wE];simp only[dP];rw[if_neg hc]
    have hnew:∀ q,((⟨(i:Int),0,0,0⟩:Ex),q)∈dP r.c i->QB 8589934592 q:=fun q hm=>by
     obtain⟨j,_,e⟩:=nL _ _ _ hm;obtain⟨-,e2⟩:=Prod.mk.inj e;rw[e2];exact hq j
    have ct:([(e0,r.c i)]:List Tm)[0]?=some (e0,r.c i):=rfl;rw[hU];refine mu [(9,9),(20,38)] [(9,9)] [] (fun m τ' β' ε' π'=>∃ j:Nat,m=1-j/\j<=1/\τ' 20 = .i (iN j)/\rP 10 (if j=0 then dP r.c i else dP r.c (i+1)) π')
     (fun e τ' β' ε' π'=>e = .exit 2/\rP 10 (dP r.c (i+1)) π') 1 ?_ ?_ ?_
    ·exact⟨0,rfl,aw,rfl,hM⟩
    ·rintro m2 τ2 β2 ε2 π2 hK2 hKB2 hKE2 ⟨j,hm2,hj,h20,hM2⟩;have q19:τ2 19 = .i (iN 1):=by rw[hK2 19 aH];simp -dsimp only[go_sem,hU];rfl
     have q18:τ2 18 = .i (iM [(e0,r.c i)]):=(hK2 18 rfl).trans rfl;have q6:τ2 6 = .i (iN i):=(hK2 6 rfl).trans rfl;have q1:τ2 1 = .i (iN 0):=(hK2 1 rfl).trans k1;have q5:τ2 5 = .mp 10 1:=(hK2 5 rfl).trans k5;obtain rfl|rfl:j=1\/j=0:=aw
     ·have h20':τ2 20 = .i (iN 1):=h20;simp -dsimp only[go_sem,h20',q19,Int.reduceLT,decide_false];exact⟨(aA hK2),hKB2,hKE2,hM2⟩
     ·have h20':τ2 20 = .i (iN 0):=h20;simp -dsimp only[go_sem,h20',q19,q18,q1,q6,Int.reduceLT,decide_true,Int.reduceToNat,Int.reduceLE,true_and];refine aP ct ?_;simp -dsimp only[go_sem,h20',q19,q18,q1,q5,q6,Int.reduceLT,decide_true,Int.reduceToNat,Int.reduceLE,true_and,List.drop_zero,e0,Int.zero_add]
      repeat(refine And.intro aw ?_)
      have hM3:rP 10 (dP r.c i) π2:=hM2;refine mD (t:=10) (g:=1) (args:=[iE ⟨(i:Int),0,0,0⟩,iQ (r.c i)]) rfl rfl rfl rfl (by simp -dsimp only[go_sem,hM3.1]) aw (by simp -dsimp only[go_sem,hM3.2.1]) (by simp -dsimp only[go_sem];exact hM3.2.2.2) rfl (by simp -dsimp only[go_sem,hM3.2.2.1];exact wt _ _ _ hnew (hq i)) ?_;simp -dsimp only[go_sem,h20',hS]
      repeat(refine And.intro aw ?_)
      refine ki (1-1) aw ⟨(aA hK2),(aA hKB2),hKE2,1,rfl,aw,rfl,?_⟩;simp -dsimp only[go_sem];exact hM3.put
    ·rintro e τ2 β2 ε2 π2 hK2 hKB2 hKE2 ⟨rfl,hM2⟩;refine⟨_,bA.refl _,?_⟩;have q13:τ2 13 = .i (iN i):=(hK2 13 rfl).trans h13;have kO:=Kp.step2 hK hK2 (by intro n;simp[inR]<;>omega) (aA hK);have kB:=Kp.step2 hKB hKB2 (by intro n;simp[inR]) hKB;have kE:=Kp.step2 hKE hKE2 (by intro n;simp[inR]) hKE;simp -dsimp only[go_sem,q13]
     repeat(refine And.intro aw ?_)
     exact ki (n-(i+1)) aw ⟨(aA kO),kB,kE,i+1,rfl,aw,rfl,hM2⟩
  ·have hA:¬ (i:Int)<(n:Int):=aw;obtain rfl:i=n:=aw;simp -dsimp only[go_sem,h13,k12,hA];exact⟨(aA hK),hKB,hKE,hM⟩
 ·rintro e τ β ε π hK hKB hKE ⟨rfl,hM⟩;refine⟨_,bA.refl _,?_⟩;have k5:τ 5 = .mp 10 1:=(hK 5 rfl).trans rfl;simp -dsimp only[go_sem,k5];refine mD (t:=10) (g:=1) (args:=[]) rfl rfl rfl rfl (by simp -dsimp only[go_sem,hM.1]) aw (by simp -dsimp only[go_sem,hM.2.1]) (by simp -dsimp only[go_sem];exact hM.2.2.2) rfl (by simp -dsimp only[go_sem,hM.2.2.1];exact va _ (kI _ _) (by have:=wH r.c n;omega)) ?_;simp -dsimp only[go_sem,CZ r h]
noncomputable def pst (q:PQ) (t:Nat) (r:PQ):PQ:=an (lc q)*r-mon (t+1-aa q) (r.c t)*q
noncomputable def psr (q:PQ):Nat->PQ->PQ
 | 0,r=>r
 | t+1,r=>if aa q<=t+1 then psr q t (pst q t r)else r
theorem B0 {q r:PQ} (hq:q≠0) {t:Nat} (hr:aa r<=t+1) (ht:aa q<=t+1):aa (pst q t r)<=t:=cm fun i hi=>by
 have hq0:=aR hq;rw[pst,i9,bS,cu,if_pos aw];by_cases e:i=t
 ·subst e;rw[show i-(i+1-aa q)=aa q-1 by omega,mul_comm];exact sub_self _
 ·rw[aO (by omega:aa r<=i),aO (p:=q) aw,mul_zero,mul_zero];exact sub_self _
theorem nx {q:PQ} (hq:q≠0) {k:Nat} (hb:am k q):∀(t:Nat) (r:PQ) (h:Nat),aa r<=t->am h r ->
  aa (psr q t r)<=max (aa q-1) (min t (aa r))/\(aa q<=t->aa (psr q t r)<aa q)/\(t<aa q->psr q t r=r)/\am (h+t*(k+1)) (psr q t r)/\∃(c:Rat) (S:PQ),c≠0/\an c*r=S*q+psr q t r
 | 0,r,h,hs,hr=>by
  have:=aR hq;refine⟨?_,aw,fun _=>rfl,by simpa [psr]using hr,1,0,aH,?_⟩
  ·simp only[psr];omega
  ·show(1:PQ)*r=_;rw[one_mul,zero_mul,zero_add];rfl
 | t+1,r,h,hs,hr=>by
  have hq0:=aR hq;simp only[psr];split
  ·rename_i ht;have hlow:=B0 hq hs ht;have hb':am (h+k+1) (pst q t r):=hr.pstep hb _ _ _;obtain⟨h1,h2,h3,h4,c,S,h5,h6⟩:=nx hq hb t (pst q t r) (h+k+1) hlow hb';have hlt:aa (psr q t (pst q t r))<aa q:=by
    rcases Nat.lt_or_ge t (aa q)with h7|h7
    ·rw[h3 h7];omega
    ·exact h2 h7
   refine⟨aw,fun _=>hlt,fun h7=>by omega,h4.mono (by rw[Nat.succ_mul];omega),c*lc q,S+an c*mon (t+1-aa q) (r.c t),a6 (R:=Rat) h5 (bN hq),?_⟩;have e:an c*(an (lc q)*r-mon (t+1-aa q) (r.c t)*q)=S*q+psr q t (pst q t r):=h6;rw[show an (c*lc q)=an c*an (lc q)from bC _ _];exact lc1 1 e (ring [an c,an (lc q),r,S,q,mon (t+1-aa q) (r.c t),psr q t (pst q t r)])
  ·rename_i ht;refine⟨aw,fun h7=>by omega,fun _=>rfl,hr.mono aw,1,0,aH,?_⟩;show(1:PQ)*r=_;rw[one_mul,zero_mul,zero_add]
theorem mX {h:Nat} {p:PQ} (H:am h p) (i:Nat):am h (an (p.c i)):=by
 rw[<-du];exact am.mon 0 (H.coef i).1 (H.coef i).2
theorem iH (c:Rat):aa (an c)<=1:=cm fun i hi=>by cases i with|zero=>omega|succ i=>rfl
theorem wN:∀{L:List Tm} (k:Nat),Cn L->cH L 0 k=if(toP L).c k=0 then[]else[(e0,(toP L).c k)]
 | [],k,_=>by rw[cI,show(0:PQ).c k=(0:Rat)from rfl,if_pos rfl];rfl
 | x::L,k,h=>by
  have ih:=wN (L:=L) k (dN h);have hx:=h.uv x au;obtain⟨x1,x2,x3,x4⟩:=hx;have hat:x.1.at 0=x.1.a:=rfl;by_cases e:x.1.a.toNat=k
  ·have h1:=(mB h).2;rw[e]at h1;have h0:(toP L).c k=0:=pP (n:=k) (fun t ht=>by
    have:=sE h t ht;have:=((dN h).uv t ht).1;omega) k (ay _)
   rw[h0,if_pos rfl]at ih;have hx0:x.2≠0:=h.nz x au;rw[h1,if_neg hx0];unfold cH at ih ⊢;rw[List.filter_cons,if_pos (by rw[hat];exact aF aw),List.map_cons,ih];congr 1;refine Prod.ext ?_ rfl;show x.1.to 0 0=e0;unfold Ex.to e0;simp only[Ex.mk.injEq];exact⟨trivial,x2,x3,x4⟩
  ·have h1:(toP (x::L)).c k=(toP L).c k:=by
    rw[bc,ce,bY,if_neg (fun h=>e h.symm)];exact zero_add _
   rw[h1,<-ih];unfold cH;rw[List.filter_cons,if_neg (by rw[hat];simp;omega)]
theorem AB (p:PQ) (k:Nat):cH (U p) 0 k=U (an (p.c k)):=by
 rw[wN k (ky p),im];split
 ·rename_i h;rw[h,show an (0:Rat)=0 from cC,cq]
 ·rename_i h;rw[U_C h]
theorem rG (p:PQ):gu (U p) 0=(aa p:Int)-1:=by
 by_cases hp:p=0
 ·rw[hp,cq,aM.2 rfl];rfl
 ·have h0:=aR hp;obtain⟨R,hR⟩:=gy hp;have h1:gu (U p) 0<=(aa p:Int)-1:=ye (fun t ht=>by
   obtain⟨i,hi,rfl,_⟩:=nY ht;show(i:Int)<=_;omega) aw
  have h2:=tc (U p) 0 (⟨((aa p-1:Nat):Int),0,0,0⟩,lc p) (by rw[hR];simp);have h3:((aa p-1:Nat):Int)<=gu (U p) 0:=h2;omega
theorem tg (p:PQ) (hp:p≠0) (v:Nat) (hv:1<=v):gu (U p) v=0:=by
 have hz:∀ t∈U p,t.1.at v=0:=fun t ht=>by
  obtain⟨i,hi,rfl,_⟩:=nY ht
  match v,hv with
  | 1,_=>rfl
  | 2,_=>rfl
  | v+3,_=>rfl
 obtain⟨R,hR⟩:=gy hp;have h1:gu (U p) v<=0:=ye (fun t ht=>by rw[hz t ht];exact Int.le_refl _) aw;have h2:=tc (U p) v (⟨((aa p-1:Nat):Int),0,0,0⟩,lc p) (by rw[hR];simp);rw[hz _ (by rw[hR];simp)]at h2;omega
theorem ik (p:PQ) (sp:aa p<=1048576):Fn Tryz.prog 123 [iUp p,iN 0] [iN ((aa p:Int)-1)]:=by
 have:=yP (U p) 0 aw (by have:=dF p;omega);rwa [rG]at this
theorem pE (p:PQ) (hp:p≠0) (sp:aa p<=1048576):FnM Tryz.prog 89 [iUp p,iN 0] 1 (cr (fun i=>U (an (p.c i))) (aa p)):=by
 have h0:=aR hp;have:=xe (U p) 0 aw (by have:=dF p;omega) (fun t ht=>by
  obtain⟨i,hi,rfl,_⟩:=nY ht;show 0<=(i:Int)/\(i:Int)<_;omega) (by
  have h1:∀ L:List Tm,Cn L->(L.map (·.1.at 0)).Nodup:=by
   intro L
   induction L with
   | nil=>intro _;simp
   | cons x L ih =>
    intro h;simp only[List.map_cons,List.nodup_cons];refine⟨fun hm=>?_,ih (dN h)⟩;obtain⟨t,ht,e⟩:=List.mem_map.1 hm;have:=sE h t ht;have e':t.1.a=x.1.a:=e;omega
  exact h1 _ (ky p)) (fun e=>hp (nX.1 e))
 have e:(qq (U p) 0).map (fun L=>[cM L])=cr (fun i=>U (an (p.c i))) (aa p):=by
  unfold qq cr;rw[List.map_map,rG,show((aa p:Int)-1+1).toNat=aa p by omega];refine List.map_congr_left fun i _=>?_;show[cM (cH (U p) 0 i)]=_;rw[AB]
 rwa [e]at this
theorem Nz (q r:PQ) (t i:Nat):(pst q t r).c i=lc q*r.c i-(if t+1-aa q<=i then r.c t*q.c (i-(t+1-aa q))else 0):=by
 rw[pst,i9,bS,cu]
theorem vZ {q r:PQ} {t i:Nat} {rows:List (List C)} {L:List Tm} (hi:i<t) (hr:∀ j,j<t->rows[j]?=some [cM (U (an (if j<i then(pst q t r).c j else r.c j)))]) (hL:L=U (an ((pst q t r).c i))) :
  ∀ j,j<t->(rows.set i [cM L])[j]?=some [cM (U (an (if j<i+1 then(pst q t r).c j else r.c j)))]:=fun j hj=>by
 rw[List.getElem?_set];have hl:i<rows.length:=(List.getElem?_eq_some_iff.1 (hr i hi)).1;by_cases e:i=j
 ·subst e;rw[if_pos rfl,if_pos hl,if_pos aw,hL]
 ·rw[if_neg e,hr j hj];by_cases h:j<i
  ·rw[if_pos h,if_pos aw]
  ·rw[if_neg h,if_neg aw]
theorem P2 (a b c d:Rat):an a*an b-an c*an d=an (b*a-c*d):=by
 rw[<-bC,<-bC,<-N0];congr 1;show a*b-c*d=b*a-c*d;rw[Rat.mul_comm a]
theorem vt {p q:PQ} {h k:Nat} (hp:am h p) (hq:am k q) (hp0:p≠0) (hq0:q≠0) (hb:h+(aa p+2)*(k+1)+k<=68719476000) (sp:aa p<=524288) (sq:aa q<=524288):Fn Tryz.prog 216 [iUp p,iUp q,iN 0] [iUp (psr q (aa p) p),iN 0]:=by
 obtain⟨Q,hQ⟩:=gy hq0;have lQ:(U q).length=Q.length+1:=by rw[hQ];rfl
 have e1:decide (((U q).length:Int)=0)=false:=by rw[lQ];exact aG aw
 have hq1:=aR hq0;have hlen:∀(f:Nat->List Tm) (n:Nat),(cr f n).length=n:=fun f n=>by simp[cr]
 have hemp:(cr (fun i=>U (an (q.c i))) (aa q)).isEmpty=false:=by cases hc:cr (fun i=>U (an (q.c i))) (aa q)with|nil=>(have:=congrArg List.length hc;rw[hlen]at this;simp at this;omega)|cons _ _=>rfl
 have hemp':(cr (fun i=>U (an (p.c i))) (aa p)).isEmpty=false:=by cases hc:cr (fun i=>U (an (p.c i))) (aa p)with|nil=>(have:=congrArg List.length hc;rw[hlen]at this;simp at this;have:=aR hp0;omega)|cons _ _=>rfl
 refine aJ (fn:=Tryz.f216) ?_;simp -dsimp only[go_sem,e1,az];refine co (pE q hq0 aw) ?_;simp -dsimp only[go_sem,hlen]
 repeat(refine And.intro aw ?_)
 refine co (pE p hp0 aw) ?_;simp -dsimp only[go_sem,hlen,hemp,hemp'];have hdiv:∀ j,j<aa q->(cr (fun i=>U (an (q.c i))) (aa q))[j]?=some [cM (U (an (q.c j)))]:=fun j hj=>by rw[cr,List.getElem?_map,List.getElem?_range hj];rfl
 refine bt [(10,13),(26,80)] [] [(25,25)] (fun n τ β ε=>∃(t:Nat) (r:PQ) (j:Nat) (rows:List (List C)),n=t/\aa r<=t/\psr q t r=psr q (aa p) p/\t<=aa p/\j+t<=aa p/\am (h+j*(k+1)) r /\
   τ 10 = .sl 25 1 t/\ε 25=⟨1,1,rows,true,true⟩/\∀ j,j<t->rows[j]?=some [cM (U (an (r.c j)))])
  (fun e τ β ε=>e = .exit 0/\∃(t:Nat) (rows:List (List C)),aa (psr q (aa p) p)<=t/\t<=aa p/\τ 10 = .sl 25 1 t/\ε 25=⟨1,1,rows,true,true⟩/\∀ j,j<t->rows[j]?=some [cM (U (an ((psr q (aa p) p).c j)))]) (aa p) ?_ ?_ ?_
 ·exact⟨aa p,p,0,_,rfl,ay _,rfl,ay _,aw,by simpa using hp,rfl,rfl,fun j hj=>by rw[cr,List.getElem?_map,List.getElem?_range hj];rfl⟩
 ·rintro n τ β ε π hK hKB hKE ⟨t,r,j,rows,hn,hs,hps,htp,hjt,hr,h10,h25,hrows⟩;have k9:τ 9 = .i (iN ((aa q:Int)-1)):=(hK 9 rfl).trans rfl;have k8:τ 8 = .sl 19 1 (aa q):=(hK 8 rfl).trans rfl;have e19:ε 19=⟨1,1,cr (fun i=>U (an (q.c i))) (aa q),true,true⟩:=(hKE 19 rfl).trans rfl;by_cases hlt:aa q<=t
  ·obtain⟨t',rfl⟩:∃ t',t=t'+1:=⟨t-1,aw⟩;have hA:((aa q:Int)-1)<((t'+1:Nat):Int):=aw;have ei:((t'+1:Nat):Int)-1=(t':Int):=aw;simp -dsimp only[go_sem,h10,k9,hA,h25,ei]
   repeat(refine And.intro aw ?_)
   refine⟨_,hrows t' aw,?_⟩;simp -dsimp only[go_sem,h10,k9,h25,ei,k8]
   repeat(refine And.intro aw ?_)
   refine bt [(12,13),(43,80)] [] [(25,25)] (fun n τ' β' ε'=>∃(i:Nat) (rows':List (List C)),n=t'-i/\i<=t'/\τ' 43 = .i (iN i)/\ε' 25=⟨1,1,rows',true,true⟩/\∀ j,j<t'->rows'[j]?=some [cM (U (an (if j<i then(pst q t' r).c j else r.c j)))])
    (fun e τ' β' ε'=>e = .exit 2/\∃(rows':List (List C)),ε' 25=⟨1,1,rows',true,true⟩/\∀ j,j<t'->rows'[j]?=some [cM (U (an ((pst q t' r).c j)))]) t' ?_ ?_ ?_
   ·exact⟨0,rows,aw,aw,rfl,h25,fun j hj=>by rw[if_neg aw];exact hrows j aw⟩
   ·rintro n2 τ2 β2 ε2 π2 hK2 hKB2 hKE2 ⟨i,rows',hn2,hi,h43,h25',hrows'⟩;have q42:τ2 42 = .i (iN t'):=by rw[hK2 42 aH];simp -dsimp only[go_sem,ei,Int.toNat_natCast]
    have q10:τ2 10 = .sl 25 1 t':=by rw[hK2 10 aH];simp -dsimp only[go_sem,ei,Int.toNat_natCast]
    have q8:τ2 8 = .sl 19 1 (aa q):=(hK2 8 rfl).trans k8;have q9:τ2 9 = .i (iN ((aa q:Int)-1)):=(hK2 9 rfl).trans k9;have q11:τ2 11 = .i (iUp (an (r.c t'))):=(hK2 11 rfl).trans rfl;have f19:ε2 19=⟨1,1,cr (fun i=>U (an (q.c i))) (aa q),true,true⟩:=(hKE2 19 rfl).trans e19;by_cases hlt2:i<t'
    ·have hA2:(i:Int)<(t':Int):=aw;have hri:=hrows' i hlt2;rw[if_neg aw]at hri;have en:((aa q:Int)-1)=((aa q-1:Nat):Int):=aw;rw[en]at q9;simp -dsimp only[go_sem,h43,q42,hA2];refine ap 12 [] false true ?_;simp -dsimp only[go_sem,h43,q10,q8,q9,h25',f19,hri]
     repeat(refine And.intro aw ?_)
     have hjk:j*(k+1)<=(aa p+2)*(k+1):=Nat.mul_le_mul_right _ aw;have hlen':i<rows'.length:=(List.getElem?_eq_some_iff.1 hri).1;have c1:=iH (r.c i);have c2:=iH (lc q);have c3:=iH (r.c t');refine⟨_,hri,?_⟩;simp -dsimp only[go_sem];refine⟨aw,_,hdiv _ aw,?_⟩;simp -dsimp only[go_sem];refine aQ (args':=[iUp (an (r.c i)),iUp (an (lc q))]) rfl (dx (mX hr i) (mX hq _) aw aw aw aw) ?_;simp -dsimp only[go_sem,q10,h25']
     repeat(refine And.intro aw ?_)
     refine⟨_,hri,?_⟩;simp -dsimp only[go_sem,q10,q9,h25',h43]
     repeat(refine And.intro aw ?_)
     have hset:(rows'.set i [cM (U (an (r.c i)*an (lc q)))])[i]?=some [cM (U (an (r.c i)*an (lc q)))]:=by rw[List.getElem?_set_self hlen']
     refine bi (fun hk=>?_) (fun hk=>?_)
     ·have ek:(i:Int)-((t':Int)-((aa q-1:Nat):Int))=((i-(t'+1-aa q):Nat):Int):=aw;have hkq:i-(t'+1-aa q)<aa q:=aw;have c4:=iH (q.c (i-(t'+1-aa q)));have c5:=bf (an (r.c i)) (an (lc q));have c6:=bf (an (r.c t')) (an (q.c (i-(t'+1-aa q))));simp -dsimp only[go_sem,ek];refine ap 14 [] false true ?_;simp -dsimp only[go_sem,q10,q11,q8,h25',f19]
      repeat(refine And.intro aw ?_)
      refine⟨_,hset,?_⟩;simp -dsimp only[go_sem];refine⟨hkq,_,hdiv _ hkq,?_⟩;simp -dsimp only[go_sem];refine aQ (args':=[iUp (an (r.c t')),iUp (an (q.c (i-(t'+1-aa q))))]) rfl (dx (mX hr t') (mX hq _) aw aw aw aw) ?_;simp -dsimp only[go_sem];refine aQ (args':=[iUp (an (r.c i)*an (lc q)),iUp (an (r.c t')*an (q.c (i-(t'+1-aa q))))]) rfl (qI ((mX hr i).mul (mX hq _)) ((mX hr t').mul (mX hq _)) aw aw aw aw) ?_;simp -dsimp only[go_sem,q10,h25',h43]
      repeat(refine And.intro aw ?_)
      refine⟨_,hset,?_⟩;simp -dsimp only[go_sem,h43]
      repeat(refine And.intro aw ?_)
      refine again (t'-(i+1)) aw ⟨(aA hK2),hKB2,(aA hKE2),i+1,(rows'.set i [cM (U (an (r.c i)*an (lc q)))]).set i [cM (U (an (r.c i)*an (lc q)-an (r.c t')*an (q.c (i-(t'+1-aa q)))))],rfl,aw,rfl,?_,?_⟩
      ·simp -dsimp only[go_sem]
      ·rw[List.set_set];exact vZ hlt2 hrows' (by rw[P2,Nz,if_pos aw])
     ·simp -dsimp only[go_sem,h43]
      repeat(refine And.intro aw ?_)
      refine again (t'-(i+1)) aw ⟨(aA hK2),hKB2,(aA hKE2),i+1,rows'.set i [cM (U (an (r.c i)*an (lc q)))],rfl,aw,rfl,?_,?_⟩
      ·simp -dsimp only[go_sem]
      ·exact vZ hlt2 hrows' (by
        rw[Nz,if_neg aw,<-bC];congr 2;show r.c i*lc q=lc q*r.c i-0;rw[Rat.mul_comm];exact(sub_zero (R:=Rat) _).symm)
    ·have hA2:¬ (i:Int)<(t':Int):=aw;obtain rfl:i=t':=aw;simp -dsimp only[go_sem,h43,q42,hA2];exact⟨(aA hK2),hKB2,hKE2,rows',h25',fun j hj=>by have:=hrows' j hj;rwa [if_pos hj]at this⟩
   ·rintro e τ2 β2 ε2 π2 hK2 hKB2 hKE2 ⟨rfl,rows',h25',hrows'⟩;refine⟨_,bA.refl _,?_⟩;have kO:=Kp.step2 hK hK2 (by intro n;simp[inR]<;>omega) (aA hK);have kB:=Kp.step2 hKB hKB2 (by intro n;simp[inR]) hKB;have kE:=Kp.step2 hKE hKE2 (by intro n;simp[inR]) hKE;have q10:τ2 10 = .sl 25 1 t':=by rw[hK2 10 aH];simp -dsimp only[go_sem,ei,Int.toNat_natCast]
    have hps':psr q t' (pst q t' r)=psr q (aa p) p:=by rw[<-hps];simp only[psr];rw[if_pos hlt]
    have hpsz:aa (pst q t' r)<=t':=B0 hq0 hs hlt;simp -dsimp only[go_sem];exact again t' aw ⟨(aA kO),kB,kE,t',pst q t' r,j+1,rows',rfl,hpsz,hps',aw,aw,(hr.pstep hq _ _ _).mono (by rw[Nat.succ_mul];omega),q10,h25',hrows'⟩
  ·have hA:¬ ((aa q:Int)-1)<(t:Int):=aw;have hpr:psr q t r=r:=by
    cases t with
    | zero=>rfl
    | succ t=>simp only[psr];rw[if_neg hlt]
   simp -dsimp only[go_sem,h10,k9,hA,h25];rw[hpr]at hps;exact⟨(aA hK),hKB,hKE,t,rows,by rw[<-hps];exact hs,htp,rfl,rfl,by rw[<-hps];exact hrows⟩
 ·rintro e τ β ε π hK hKB hKE ⟨rfl,t,rows,ht,htp,h10,h25,hrows⟩;refine⟨_,bA.refl _,?_⟩;have k2:τ 2 = .i (iN 0):=(hK 2 rfl).trans rfl;have hspec:=nx hq0 hq (aa p) p h (ay _) hp;have hQ:=hspec.2.2.2.1;have hjk:aa p*(k+1)<=(aa p+2)*(k+1):=Nat.mul_le_mul_right _ aw;have hrt:rows.take t=cr (fun i=>U (an ((psr q (aa p) p).c i))) t:=by
   refine List.ext_getElem? fun j=>?_;rw[List.getElem?_take,cr,List.getElem?_map];split
   ·rename_i hj;rw[hrows j hj,List.getElem?_range hj];rfl
   ·rename_i hj;rw[List.getElem?_eq_none ar];rfl
  simp -dsimp only[go_sem,h10,h25,k2,hrt];refine aK (KD (psr q (aa p) p) t ht aw (fun i=>ir (hQ.coef i).1 (hQ.coef i).2 aw)) ?_;simp -dsimp only[go_sem]
end Go.AM
namespace Go.AM
open Alg
open Go.Proofs
open Classical
theorem LZ (p:PQ):Ad (U p)=decide (aa p=1):=by
 by_cases h:aa p=1
 ·have hp:p=an (p.c 0):=dS aw;have h0:p.c 0≠0:=fun e=>by
   rw[e,show an (0:Rat)=0 from cC]at hp;rw[hp,aM.2 rfl]at h;omega
  rw[hp,U_C h0,<-hp,aF h];rfl
 ·rw[aG h];by_cases hp:p=0
  ·rw[hp,cq];rfl
  ·obtain⟨R,hR⟩:=gy hp;have:=aR hp;rw[hR];cases R with
   | nil =>
    show decide _=false;refine aG fun e=>?_;have:=congrArg Ex.a e;simp only[e0]at this;omega
   | cons _ _=>rfl
theorem gZ (p:PQ):Fn Tryz.prog 189 [iUp p] [iB (decide (aa p=1))]:=by
 have:=nS (U p);rwa [LZ]at this
noncomputable def lI (p q:PQ):PQ:=if p=0 then ag q else if q=0 then ag p else 1
theorem yJ {p q:PQ} {h k:Nat} (hp:am h p) (hq:am k q) (hb:h<=137438953000) (hb':k<=137438953000) (sp:aa p<=1048576) (sq:aa q<=1048576) (hc:p=0\/q=0\/aa p=1\/aa q=1):Fn Tryz.prog 151 [iUp p,iUp q] [iUp (lI p q)]:=by
 have hz:∀ x:PQ,decide (((U x).length:Int)=0)=decide (x=0):=fun x=>by
  rw[decide_eq_decide];constructor
  ·intro h;exact nX.1 (List.eq_nil_of_length_eq_zero aw)
  ·rintro rfl;rw[cq];rfl
 refine aJ (fn:=Tryz.f151) ?_;by_cases hp0:p=0
 ·have e1:=hz p;rw[aF hp0]at e1;simp -dsimp only[go_sem,e1,az];refine ao (kp hq hb' sq) rfl ?_;simp -dsimp only[go_sem];rw[lI,if_pos hp0]
 ·have e1:=hz p;rw[aG hp0]at e1;by_cases hq0:q=0
  ·have e2:=hz q;rw[aF hq0]at e2;simp -dsimp only[go_sem,e1,e2,az];refine ao (kp hp hb sp) rfl ?_;simp -dsimp only[go_sem];rw[lI,if_neg hp0,if_pos hq0]
  ·have e2:=hz q;rw[aG hq0]at e2;simp -dsimp only[go_sem,e1,e2,az];refine ao (gZ p) rfl ?_;by_cases h1:aa p=1
   ·have e3:decide (aa p=1)=true:=aF h1;simp -dsimp only[go_sem,e3];refine aK p7 ?_;simp -dsimp only[go_sem];rw[lI,if_neg hp0,if_neg hq0]
   ·have e3:decide (aa p=1)=false:=aG h1;have e4:decide (aa q=1)=true:=aF (by rcases hc with h|h|h|h<;>first|exact absurd h hp0|exact absurd h hq0|exact absurd h h1|exact h)
    simp -dsimp only[go_sem,e3];refine ao (gZ q) rfl ?_;simp -dsimp only[go_sem,e4];refine aK p7 ?_;simp -dsimp only[go_sem];rw[lI,if_neg hp0,if_neg hq0]
theorem uO (a c:Rat):lI (an a) (an c)=if a=0/\c=0 then 0 else 1:=by
 have mo1:∀ x:Rat,x≠0->ag (an x)=1:=fun x hx=>by
  rw[ag,mV,<-bC,cA hx];rfl
 have cz:∀ x:Rat,an x=0↔x=0:=fun x=>⟨fun h=>Classical.byContradiction fun hx=>d9 hx h,fun h=>by rw[h];exact cC⟩;rw[lI];by_cases ha:a=0
 ·rw[if_pos ((cz a).2 ha)];by_cases hc:c=0
  ·rw[if_pos ⟨ha,hc⟩,(cz c).2 hc,fR]
  ·rw[if_neg (fun h=>hc h.2),mo1 c hc]
 ·rw[if_neg (fun h=>ha ((cz a).1 h)),if_neg (c:=a=0/\c=0) (fun h=>ha h.1),mo1 a ha,ite_self]
theorem OG (c:Rat):an c=0\/aa (an c)=1:=by
 by_cases h:c=0
 ·exact .inl (by rw[h];exact cC)
 ·exact .inr (jf h)
theorem PE (f:Nat->Rat) (n:Nat) (hn:n<=1048576) {h:Nat} (hf:∀ i,am h (an (f i))) (hb:h<=137438953000) (hne:∃ i,i<n/\f i≠0):Fn Tryz.prog 214 [.c (.lst (cr (fun i=>U (an (f i))) n))] [iUp 1]:=by
 have hlen:(cr (fun i=>U (an (f i))) n).length=n:=by simp[cr]
 have hrow:∀ j,j<n->(cr (fun i=>U (an (f i))) n)[j]?=some [cM (U (an (f j)))]:=fun j hj=>by rw[cr,List.getElem?_map,List.getElem?_range hj];rfl
 have hm0:iM []=iUp 0:=by rw[kV,cq]
 refine aJ (fn:=Tryz.f214) ?_;simp -dsimp only[go_sem,hlen];refine a8 [(3,3),(5,5),(8,17)] [] [] (fun m τ β ε=>∃ i:Nat,m=n-i/\i<=n/\(∀ j,j<i->f j=0)/\τ 8 = .i (iN i)/\(τ 3 = .i (iUp 0)\/τ 3 = .fl []))
  (fun e τ β ε=>e = .exit 0/\τ 3 = .i (iUp 1)) n ?_ ?_ ?_
 ·exact⟨0,aw,aw,fun j hj=>by omega,rfl,.inr rfl⟩
 ·rintro m τ β ε π hK hKB hKE ⟨i,hm,hi,hz,h8,h3⟩;have k6:τ 6 = .i (.c (.lst (cr (fun i=>U (an (f i))) n))):=(hK 6 rfl).trans rfl;have k7:τ 7 = .i (iN n):=(hK 7 rfl).trans rfl;have hlt:i<n:=by
   obtain⟨j,hj,hf⟩:=hne;rcases Nat.lt_or_ge j i with h|h
   ·exact absurd (hz j h) hf
   ·omega
  have hA:(i:Int)<(n:Int):=aw;have cz:(an (0:Rat))=(0:PQ):=cC;have hg:=uO 0 (f i);rw[cz]at hg;have call:Fn Tryz.prog 151 [iUp 0,iUp (an (f i))] [iUp (if f i=0 then 0 else 1)]:=by
   have:=yJ (p:=0) (q:=an (f i)) (am.zero h) (hf i) hb hb (by rw[aM.2 rfl];omega) (by have:=iH (f i);omega) (.inl rfl);rw[hg]at this;simpa using this
  have con:=gZ (if f i=0 then(0:PQ)else 1)
  have sz1:aa (1:PQ)=1:=jf (R:=Rat) aH;by_cases hfi:f i=0
  ·rw[if_pos hfi,aM.2 rfl]at con;rw[if_pos hfi]at call;have hz':∀ j,j<i+1->f j=0:=fun j hj=>by
    by_cases e:j=i
    ·rw[e];exact hfi
    ·exact hz j aw
   simp -dsimp only[go_sem,h8,k7,k6,hA];refine⟨_,hrow i hlt,?_⟩;rcases h3 with h3|h3<;>simp -dsimp only[go_sem,h3]
   ·refine aK call ?_;simp -dsimp only[go_sem];refine aK con ?_;simp -dsimp only[go_sem,h8]
    repeat(refine And.intro aw ?_)
    exact again (n-(i+1)) aw ⟨(aA hK),hKB,hKE,i+1,rfl,aw,hz',rfl,.inl rfl⟩
   ·refine aQ (args':=[iUp 0,iUp (an (f i))]) ?_ call ?_
    ·rw[<-hm0];rfl
    simp -dsimp only[go_sem];refine aK con ?_;simp -dsimp only[go_sem,h8]
    repeat(refine And.intro aw ?_)
    exact again (n-(i+1)) aw ⟨(aA hK),hKB,hKE,i+1,rfl,aw,hz',rfl,.inl rfl⟩
  ·rw[if_neg hfi,sz1]at con;rw[if_neg hfi]at call;simp -dsimp only[go_sem,h8,k7,k6,hA];refine⟨_,hrow i hlt,?_⟩;rcases h3 with h3|h3<;>simp -dsimp only[go_sem,h3]
   ·refine aK call ?_;simp -dsimp only[go_sem];refine aK con ?_;simp -dsimp only[go_sem];exact⟨(aA hK),hKB,hKE⟩
   ·refine aQ (args':=[iUp 0,iUp (an (f i))]) ?_ call ?_
    ·rw[<-hm0];rfl
    simp -dsimp only[go_sem];refine aK con ?_;simp -dsimp only[go_sem];exact⟨(aA hK),hKB,hKE⟩
 ·rintro e τ β ε π hK hKB hKE ⟨rfl,h3⟩;simp -dsimp only[go_sem,h3]
theorem n9 {p:PQ} {h:Nat} (hp:am h p) (hb:h<=137438953000) (hp0:p≠0) (sp:aa p<=1048576):Fn Tryz.prog 192 [iUp p,iN 0] [iUp 1]:=by
 refine aJ (fn:=Tryz.f192) ?_;simp -dsimp only[go_sem];refine co (pE p hp0 sp) ?_;simp -dsimp only[go_sem];have h0:=aR hp0;have hlen:(cr (fun i=>U (an (p.c i))) (aa p)).length=aa p:=by simp[cr]
 rw[List.take_of_length_le aw];refine aK (PE p.c (aa p) sp (mX hp) hb ⟨aa p-1,aw,bN hp0⟩) ?_;simp -dsimp only[go_sem]
theorem oU {p:PQ} {h:Nat} (hp:am h p) (hb:h+2*aa p+2<=137438953000) (sp:aa p<=524288):Fn Tryz.prog 217 [iUp p,iN 0] [iUp p]:=by
 have hz:decide (((U p).length:Int)=0)=decide (p=0):=by
  rw[decide_eq_decide];constructor
  ·intro h;exact nX.1 (List.eq_nil_of_length_eq_zero aw)
  ·rintro rfl;rw[cq];rfl
 refine aJ (fn:=Tryz.f217) ?_;by_cases hp0:p=0
 ·rw[aF hp0]at hz;simp -dsimp only[go_sem,hz,az];rw[kV,hp0,cq];rfl
 ·rw[aG hp0]at hz;simp -dsimp only[go_sem,hz,az];refine aK (n9 hp aw hp0 aw) ?_;simp -dsimp only[go_sem];have h1:am 0 (1:PQ):=by
   have:=am.mon (h:=0) 0 (c:=1) aH aH;rwa [du]at this
  have s1:aa (1:PQ)=1:=jf (R:=Rat) aH;refine ao (vv hp h1 (d9 (R:=Rat) aH) aw sp aw (s:=p) (mul_one p).symm) rfl ?_;simp -dsimp only[go_sem]
theorem CA {p q:PQ} (hp:2<=aa p) (hq:q≠0) (sp:aa p<=1048576) (sq:aa q<=1048576):Fn Tryz.prog 191 [.c (.lst [[cM (U p)],[cM (U q)]])] [iN 0]:=by
 have hp0:p≠0:=fun e=>by rw[e,aM.2 rfl]at hp;omega
 have dp:∀ v:Nat,v<4->Fn Tryz.prog 123 [iUp p,iN v] [iN (if v=0 then(aa p:Int)-1 else 0)]:=fun v hv=>by
  have:=yP (U p) v hv (by have:=dF p;omega);by_cases h:v=0
  ·subst h;rw[rG]at this;exact this
  ·rw[tg p hp0 v aw]at this;rwa [if_neg h]
 have dq:∀ v:Nat,1<=v->v<4->Fn Tryz.prog 123 [iUp q,iN v] [iN 0]:=fun v h1 hv=>by
  have:=yP (U q) v hv (by have:=dF q;omega);rwa [tg q hq v h1]at this
 refine aJ (fn:=Tryz.f191) ?_;simp -dsimp only[go_sem];refine a8 [(2,3),(5,21)] [] [] (fun n τ β ε=>∃ v:Nat,n=v/\v<=3/\τ 3 = .i (iN v))
  (fun e τ β ε=>e = .ret/\τ 2 = .i (iN 0)) 3 ?_ ?_ ?_
 ·exact⟨3,rfl,aw,rfl⟩
 ·rintro n τ β ε π hK hKB hKE ⟨v,hn,hv,h3⟩;have k0:τ 0 = .i (.c (.lst [[cM (U p)],[cM (U q)]])):=(hK 0 rfl).trans rfl;have hA:(0:Int)<=(v:Int):=aw;simp -dsimp only[go_sem,h3,k0,hA,List.length_cons,List.length_nil];refine a8 [(2,2),(5,5),(12,21)] [] [] (fun n τ' β' ε'=>∃ j:Nat,n=2-j/\j<=2/\(j=0\/1<=v)/\τ' 12 = .i (iN j))
   (fun e τ' β' ε'=>(e = .ret/\v=0/\τ' 2 = .i (iN 0))\/(e = .exit 2/\1<=v)) 2 ?_ ?_ ?_
  ·exact⟨0,aw,aw,.inl rfl,rfl⟩
  ·rintro n2 τ2 β2 ε2 π2 hK2 hKB2 hKE2 ⟨j,hn2,hj,hjv,h12⟩;have q10:τ2 10 = .i (.c (.lst [[cM (U p)],[cM (U q)]])):=(hK2 10 rfl).trans rfl;have q11:τ2 11 = .i (iN 2):=by rw[hK2 11 aH];simp -dsimp only[go_sem];rfl
   have q3:τ2 3 = .i (iN v):=(hK2 3 rfl).trans h3;obtain rfl|rfl|rfl:j=0\/j=1\/j=2:=aw
   ·have h12':τ2 12 = .i (iN 0):=h12;simp -dsimp only[go_sem,h12',q11,q10,q3,Int.reduceLT,decide_true,Int.reduceToNat,Int.reduceLE,true_and];refine ao (dp v aw) rfl ?_;by_cases hv0:v=0
    ·have hd:(0:Int)<(aa p:Int)-1:=aw;simp -dsimp only[go_sem,if_pos hv0,hd,q3];exact⟨(aA hK2),hKB2,hKE2,hv0,by rw[hv0];rfl⟩
    ·simp -dsimp only[go_sem,if_neg hv0,h12',Int.reduceLT,decide_false]
     repeat(refine And.intro aw ?_)
     exact again 1 aw ⟨(aA hK2),hKB2,hKE2,1,rfl,aw,.inr aw,rfl⟩
   ·have h12':τ2 12 = .i (iN 1):=h12;have hv1:1<=v:=by rcases hjv with h|h<;>omega
    simp -dsimp only[go_sem,h12',q11,q10,q3,Int.reduceLT,decide_true,Int.reduceToNat,Int.reduceLE,true_and];refine ao (dq v hv1 aw) rfl ?_;simp -dsimp only[go_sem,h12',Int.reduceLT,decide_false]
    repeat(refine And.intro aw ?_)
    exact again 0 aw ⟨(aA hK2),hKB2,hKE2,2,rfl,aw,.inr hv1,rfl⟩
   ·have h12':τ2 12 = .i (iN 2):=h12;have hv1:1<=v:=by rcases hjv with h|h<;>omega
    simp -dsimp only[go_sem,h12',q11,Int.reduceLT,decide_false];exact⟨(aA hK2),hKB2,hKE2,hv1⟩
  ·rintro e τ2 β2 ε2 π2 hK2 hKB2 hKE2 h;have kO:=Kp.step2 hK hK2 (by intro n;simp[inR]<;>omega) (aA hK);have kB:=Kp.step2 hKB hKB2 (by intro n;simp[inR]) hKB;have kE:=Kp.step2 hKE hKE2 (by intro n;simp[inR]) hKE;rcases h with⟨rfl,hv0,h2⟩|⟨rfl,hv1⟩
   ·simp -dsimp only[go_sem];exact⟨kO,kB,kE,h2⟩
   ·have q3:τ2 3 = .i (iN v):=(hK2 3 rfl).trans h3;have ev:(v:Int)-1=((v-1:Nat):Int):=aw;simp -dsimp only[go_sem,q3,ev]
    repeat(refine And.intro aw ?_)
    exact again (v-1) aw ⟨(aA kO),kB,kE,v-1,rfl,aw,rfl⟩
 ·rintro e τ β ε π hK hKB hKE ⟨rfl,h2⟩;simp -dsimp only[go_sem,h2]
end Go.AM
namespace Go.AM
open Alg
open Go.Proofs
abbrev iz (a:Zp):IV := .c (.v (.int .u64 (a.val:Int)))
theorem ED (k:Nat) (h:k<9223372036854775808):IntKind.wrap .i64 ((BitVec.ofInt (IntKind.bits .i64) (k:Int) &&& BitVec.ofInt (IntKind.bits .i64) 1).toNat:Nat)=((k % 2:Nat):Int):=by
 have e1:(BitVec.ofInt (IntKind.bits .i64) (k:Int)).toNat=k:=by
  rw[BitVec.toNat_ofInt];show((k:Int) % ((2 ^ 64:Nat):Int)).toNat=k;omega
 have e2:(BitVec.ofInt (IntKind.bits .i64) 1).toNat=1:=rfl;rw[BitVec.toNat_and,e1,e2,Nat.and_one_is_mod];have:k % 2=0\/k % 2=1:=aw;rcases this with h|h<;>rw[h]<;>rfl
theorem fN (P:Program) (T:TypeId) (x y:Operand) (k':IntKind) (a:Nat) (K:Value->Prop):fp P .shr T x y (.int .i64 (a:Int)) (.int k' 1) K=K (.int .i64 ((a/2:Nat):Int)):=by
 rw[lg];have e:(a:Int).fdiv (2 ^ (min (Int.toNat 1) (IntKind.bits .i64)))=((a/2:Nat):Int):=by
  show(a:Int).fdiv 2=_;rw[Int.fdiv_eq_ediv_of_nonneg _ aH];omega
 rw[e];simp
theorem zmul {a b:Zp}:((a.val:Int)*(b.val:Int) % 18446744073709551616).tmod 2147483647=(((a*b:Zp).val:Nat):Int):=by
 have h1:=a.isLt;have h2:=b.isLt;have h3:a.val*b.val<=2147483646*2147483646:=Nat.mul_le_mul aw aw;have h4:((a.val:Int)*(b.val:Int))=((a.val*b.val:Nat):Int):=au;rw[tz,h4];rw[Int.tmod_eq_emod_of_nonneg aw];omega
theorem DR (b:Zp) (k:Nat):Alg.pw b k=(if k % 2=1 then b else 1)*Alg.pw (b*b) (k/2):=by
 have h1:∀ m,Alg.pw (b*b) m=Alg.pw b (m+m):=fun m=>by rw[IL,xG]
 rw[h1];by_cases h:k % 2=1
 ·rw[if_pos h];have e:Alg.pw b k=Alg.pw b (1+(k/2+k/2)):=congrArg _ aw;rw[e,xG,BZ]
 ·rw[if_neg h,one_mul];exact congrArg _ aw
theorem pU (a:Zp) (n:Nat) (hn:n<9223372036854775808):Fn Tryz.prog 247 [iz a,iN n] [iz (Alg.pw a n)]:=by
 refine aJ (fn:=Tryz.f247) ?_;simp -dsimp only[go_sem];refine a8 [(0,1),(5,20)] [] [] (fun m τ β ε=>∃(b o:Zp) (k:Nat),m=k/\k<=n/\Alg.pw a n=o*Alg.pw b k/\τ 0 = .i (iz b)/\τ 1 = .i (iN k)/\τ 5 = .i (iz o))
  (fun e τ β ε=>e = .exit 0/\τ 5 = .i (iz (Alg.pw a n))) n ?_ ?_ ?_
 ·exact⟨a,1,n,rfl,ay _,(one_mul _).symm,rfl,rfl,rfl⟩
 ·rintro m τ β ε π hK hKB hKE ⟨b,o,k,hm,hk,he,h0,h1,h5⟩;by_cases hk0:k=0
  ·have hA:¬ (0:Int)<(k:Int):=aw;simp -dsimp only[go_sem,h1,hA];refine⟨(aA hK),hKB,hKE,?_⟩;rw[h5,he,hk0];show AV.i (iz o)=AV.i (iz (o*1));rw[mul_one]
  ·have hA:(0:Int)<(k:Int):=aw;have ha:=ED k aw;have e1:decide (((k % 2:Nat):Int)=1)=decide (k % 2=1):=by rw[decide_eq_decide];omega
   by_cases h2:k % 2=1
   ·rw[aF h2]at e1;simp -dsimp only[go_sem,h1,hA,ha,e1,h5,h0,fN,zmul]
    repeat(refine And.intro aw ?_)
    refine again (k/2) aw ⟨(aA hK),hKB,hKE,b*b,o*b,k/2,rfl,aw,?_,rfl,rfl,rfl⟩;rw[he,DR b k,if_pos h2,mul_assoc]
   ·rw[aG h2]at e1;simp -dsimp only[go_sem,h1,hA,ha,e1,h5,h0,fN,zmul]
    repeat(refine And.intro aw ?_)
    refine again (k/2) aw ⟨(aA hK),hKB,hKE,b*b,o,k/2,rfl,aw,?_,rfl,rfl,h5⟩;rw[he,DR b k,if_neg h2,one_mul]
 ·rintro e τ β ε π hK hKB hKE ⟨rfl,h5⟩;simp -dsimp only[go_sem,h5]
end Go.AM
namespace Go.AM
open Alg
open Go.Proofs
open Classical
abbrev PZ:=Alg.P Zp
def zr (a:Zp):List C:=[.v (.int .u64 (a.val:Int))]
abbrev zl (l:List Zp):IV := .c (.lst (l.map zr))
def zp (l:List Zp):PZ:=⟨fun i=>l.getD i 0,⟨l.length,fun i hi=>by simp[List.getD,List.getElem?_eq_none hi]⟩⟩
theorem KU (l:List Zp) (i:Nat):(zp l).c i=l.getD i 0:=rfl
theorem mO {l:List Zp} {i:Nat} (h:i<l.length):(zp l).c i=l[i]:=by rw[KU];simp[List.getD,h]
theorem pH {l:List Zp} {i:Nat} (h:l.length<=i):(zp l).c i=0:=by rw[KU];simp[List.getD,List.getElem?_eq_none h]
def TrZ (l:List Zp):Prop:=∀ h:0<l.length,l[l.length-1]≠0
theorem kY {l:List Zp} (h:TrZ l):aa (zp l)=l.length:=jU (fun i hi=>pH hi) fun h0=>by
 rw[mO (by omega:l.length-1<l.length)];exact h aw
noncomputable def rm (a b:PZ):PZ:=if h:b=0 then a else Classical.choose (Classical.choose_spec (ox a b h))
theorem DM {a b s r:PZ} (hb:b≠0) (e:a=s*b+r) (hr:aa r<aa b):rm a b=r:=by
 rw[rm,dif_neg hb];have h:=Classical.choose_spec (Classical.choose_spec (ox a b hb));exact(sB (h.1.symm.trans e) h.2 hr).2
theorem H0 (a:PZ) {b:PZ} (hb:b≠0):∃ s,a=s*b+rm a b/\aa (rm a b)<aa b:=by
 obtain⟨q,r,e,hr⟩:=ox a b hb;exact⟨q,by rw[DM hb e hr];exact e,by rw[DM hb e hr];exact hr⟩
noncomputable def euc:Nat->PZ->PZ->PZ
 | 0,a,_=>a
 | n+1,a,b=>if b=0 then a else euc n b (rm a b)
theorem CI {G:PZ}:∀(n:Nat) {a b:PZ},Dv G a->Dv G b->Dv G (euc n a b)
 | 0,_,_,h,_=>h
 | n+1,a,b,h,h'=>by
  simp only[euc];split
  ·exact h
  ·rename_i hb;obtain⟨s,e,_⟩:=H0 a hb;exact CI n h' ((e ▸ h:Dv G (s*b+rm a b)).of_add (h'.mul_left s))
theorem CH:∀(n:Nat) {a b:PZ},a≠0->euc n a b≠0
 | 0,_,_,h=>h
 | n+1,a,b,h=>by
  simp only[euc];split
  ·exact h
  ·rename_i hb;exact CH n hb
theorem uV:∀(n m:Nat) (a b:PZ),aa b<=n->n<=m->euc m a b=euc n a b
 | 0,m,a,b,h,_=>by
  have hb:b=0:=aM.1 aw;cases m with
  | zero=>rfl
  | succ m=>simp only[euc];rw[if_pos hb]
 | n+1,m,a,b,h,hm=>by
  obtain⟨m,rfl⟩:∃ k,m=k+1:=⟨m-1,aw⟩;simp only[euc];split
  ·rfl
  ·rename_i hb;obtain⟨s,_,hs⟩:=H0 a hb;exact uV n m b (rm a b) aw aw
theorem zsub {c f x:Zp}:(((x.val:Int)+(2147483647-(c.val:Int)) % 18446744073709551616*(f.val:Int) % 18446744073709551616) % 18446744073709551616).tmod 2147483647=(((x + -c*f:Zp).val:Nat):Int):=by
 have h1:=c.isLt;have h2:=f.isLt;have h3:=x.isLt;have hn:(-c:Zp).val=(2147483647-c.val) % 2147483647:=rfl;have h4:(2147483647-c.val)*f.val<=2147483647*2147483646:=Nat.mul_le_mul aw aw;have h5:(2147483647-(c.val:Int)) % 18446744073709551616*(f.val:Int)=(((2147483647-c.val)*f.val:Nat):Int):=by
  rw[show(2147483647-(c.val:Int)) % 18446744073709551616=((2147483647-c.val:Nat):Int)by omega];simp
 rw[h5,Int.tmod_eq_emod_of_nonneg aw,Bs,tz,hn];have h6:(2147483647-c.val) % 2147483647*f.val % 2147483647=(2147483647-c.val)*f.val % 2147483647:=by
  rw[Nat.mul_mod,Nat.mod_mod,<-Nat.mul_mod]
 rw[h6];generalize (2147483647-c.val)*f.val=w at *
 omega
def pt (rows:List (List C)) (l:List Zp):Prop:=∀(j:Nat) (h:j<l.length),rows[j]?=some (zr l[j])
theorem pt.of (l:List Zp):pt (l.map zr) l:=fun j h=>by simp[h]
def mh (R b:List Zp) (f:Zp) (at' i:Nat):List Zp:=(List.range R.length).map fun j=>if at'<=j/\j<at'+i then R.getD j 0 + -(b.getD (j-at') 0)*f else R.getD j 0
theorem gc (R b:List Zp) (f:Zp) (at' i:Nat):(mh R b f at' i).length=R.length:=by simp[mh]
theorem gQ {R b:List Zp} {f:Zp} {at' i j:Nat} (h:j<(mh R b f at' i).length):(mh R b f at' i)[j]=if at'<=j/\j<at'+i then R.getD j 0 + -(b.getD (j-at') 0)*f else R.getD j 0:=by simp[mh]
theorem wq (R b:List Zp) (f:Zp) (at':Nat):mh R b f at' 0=R:=by
 refine List.ext_getElem (gc ..) fun j h1 h2=>?_;rw[gQ,if_neg aw];simp[List.getD,h2]
theorem G8 {R b:List Zp} (f:Zp) {at':Nat} (h:at'+b.length=R.length):zp (mh R b f at' b.length)=zp R-mon at' f*zp b:=by
 refine Alg.P.ext fun j=>?_;rw[i9,cu];rcases Nat.lt_or_ge j R.length with hj|hj
 ·rw[mO (by rw[gc];exact hj),gQ];by_cases h1:at'<=j
  ·rw[if_pos ⟨h1,aw⟩,if_pos h1,KU,KU,sub_eq,neg_mul,mul_comm]
  ·rw[if_neg (fun h=>h1 h.1),if_neg h1,sub_zero];rfl
 ·rw[pH (by rw[gc];exact hj),pH hj,if_pos aw,pH aw,mul_zero,sub_zero]
theorem Du {l:List Zp} {t:Nat} (h:∀ j (hj:j<l.length),t<=j->l[j]=0):zp (l.take t)=zp l:=by
 refine Alg.P.ext fun j=>?_;rcases Nat.lt_or_ge j l.length with hj|hj
 ·rcases Nat.lt_or_ge j t with h2|h2
  ·rw[mO ar,mO hj,List.getElem_take]
  ·rw[pH ar,mO hj,h j hj h2]
 ·rw[pH hj,pH ar]
theorem zO {R b:List Zp} {f:Zp} {at' i:Nat} {rows:List (List C)} (hi:i<b.length) (hj:at'+i<R.length) (h:pt rows (mh R b f at' i)) :
  pt (rows.set (at'+i) (zr (R[at'+i] + -b[i]*f))) (mh R b f at' (i+1)):=fun j hj2=>by
 rw[gc]at hj2;have h1:=h j (by rw[gc];exact hj2);have h2:=h (at'+i) (by rw[gc];exact hj);rw[List.getElem?_set];by_cases e:at'+i=j
 ·subst e;rw[if_pos rfl,if_pos (List.getElem?_eq_some_iff.1 h2).1,gQ,if_pos aw];simp[List.getD,hj,hi]
 ·rw[if_neg e,h1,gQ,gQ];by_cases h3:at'<=j/\j<at'+i
  ·rw[if_pos h3,if_pos aw]
  ·rw[if_neg h3,if_neg aw]
noncomputable def qm (xs ys:List Zp):PZ:=if xs.length<ys.length then euc xs.length (zp ys) (zp xs)else euc ys.length (zp xs) (zp ys)
theorem Dw (l:List Zp):lens 1 (l.map zr):=fun r hr=>by obtain⟨a,-,rfl⟩:=List.mem_map.1 hr;rfl
theorem wn {a:Zp} (h:a≠0):∃ v:Zp,v*a=1/\Fn Tryz.prog 247 [iz a,iN 2147483645] [iz v] :=
 ⟨_,Bq h,pU a 2147483645 aw⟩
set_option maxHeartbeats 1600000 in
theorem FM {xs ys:List Zp} (hx:xs≠[]) (hy:ys≠[]) (tx:TrZ xs) (ty:TrZ ys) (lx:xs.length<=1048576) (ly:ys.length<=1048576):Fn Tryz.prog 228 [zl xs,zl ys] [iN ((aa (qm xs ys):Int)-1)]:=by
 have hx0:=List.length_pos_iff.2 hx;have hy0:=List.length_pos_iff.2 hy;refine aJ (fn:=Tryz.f228) ?_;simp -dsimp only[go_sem,az];by_cases hlt:xs.length<ys.length
 case' pos =>
  have e1:decide ((xs.length:Int)<(ys.length:Int))=true:=aF aw;obtain⟨a,b,ha0,ta,tb,hle,la,hE,h0,h1⟩:∃ a b:List Zp,0<a.length/\TrZ a/\TrZ b/\b.length<=a.length/\a.length<=1048576/\qm xs ys=euc b.length (zp a) (zp b)/\zl ys=zl a/\zl xs=zl b :=
   ⟨ys,xs,aw,ty,tx,aw,ly,by rw[qm,if_pos hlt],rfl,rfl⟩
  simp -dsimp only[go_sem,e1];have i0:∀ f:Nat->AV,f=f->AV.i (zl ys)=AV.i (zl a):=fun _ _=>by rw[h0]
  have i1:∀ f:Nat->AV,f=f->AV.i (zl xs)=AV.i (zl b):=fun _ _=>by rw[h1]
  clear h0 h1 hlt e1
 case' neg =>
  have e1:decide ((xs.length:Int)<(ys.length:Int))=false:=aG aw;obtain⟨a,b,ha0,ta,tb,hle,la,hE,h0,h1⟩:∃ a b:List Zp,0<a.length/\TrZ a/\TrZ b/\b.length<=a.length/\a.length<=1048576/\qm xs ys=euc b.length (zp a) (zp b)/\zl xs=zl a/\zl ys=zl b :=
   ⟨xs,ys,aw,tx,ty,aw,lx,by rw[qm,if_neg hlt],rfl,rfl⟩
  simp -dsimp only[go_sem,e1];have i0:∀ f:Nat->AV,f=f->AV.i (zl xs)=AV.i (zl a):=fun _ _=>by rw[h0]
  have i1:∀ f:Nat->AV,f=f->AV.i (zl ys)=AV.i (zl b):=fun _ _=>by rw[h1]
  clear h0 h1 hlt e1
 all_goals
  refine bt [(0,1),(5,10),(18,92)] [] [(22,22)] (fun n τ β ε=>∃(a b:List Zp),n=b.length/\0<a.length/\TrZ a/\TrZ b/\b.length<=a.length/\a.length<=1048576/\qm xs ys=euc b.length (zp a) (zp b)/\τ 0 = .i (zl a)/\τ 1 = .i (zl b))
   (fun e τ β ε=>e = .exit 0/\∃ a:List Zp,0<a.length/\a.length<=1048576/\TrZ a/\qm xs ys=zp a/\τ 0 = .i (zl a)) b.length ?_ ?_ ?_
  ·exact⟨a,b,rfl,ha0,ta,tb,hle,la,hE,by simp -dsimp only[go_sem];exact i0 (fun _ => .any) rfl,by simp -dsimp only[go_sem];exact i1 (fun _ => .any) rfl⟩
  ·clear hE tb ta ha0 hle la i0 i1;rintro n τ β ε π hK hKB hKE ⟨a,b,hn,ha0,ta,tb,hle,la,hE,h0,h1⟩;by_cases hb:b=[]
   ·have hA:¬ (0:Int)<(b.length:Int):=by simp[hb]
    simp -dsimp only[go_sem,h1,hA,az];refine⟨(aA hK),hKB,hKE,a,ha0,la,ta,?_,h0⟩;rw[hE,hb];first|done|rfl
   ·have hb0:=List.length_pos_iff.2 hb;have hA:(0:Int)<(b.length:Int):=aw;have eb:(b.length:Int)-1=((b.length-1:Nat):Int):=aw;have gb:b[b.length-1]?=some b[b.length-1]:=aD aw;simp -dsimp only[go_sem,h1,h0,hA,az];refine ap 11 [] true true ?_;simp -dsimp only[go_sem,h1,h0];refine co (Bk (a.map zr) (Dw a) ar) ?_;simp -dsimp only[go_sem,h1,h0,eb,az]
    repeat(refine And.intro aw ?_)
    obtain⟨v,hv,hpw⟩:=wn (tb hb0);refine aP gb ?_;simp -dsimp only[go_sem,zr];refine ao hpw rfl ?_;simp -dsimp only[go_sem];refine bt [(5,5),(7,10),(30,90)] [] [(22,22)] (fun n τ' β' ε'=>∃(R:List Zp) (rows:List (List C)) (s:PZ),n=R.length/\TrZ R/\R.length<=a.length/\zp a=s*zp b+zp R/\pt rows R/\τ' 5 = .sl 22 ((ε 22).gen+1) R.length/\ε' 22=⟨(ε 22).gen+1,1,rows,true,true⟩)
     (fun e τ' β' ε'=>e = .exit 2/\∃(R:List Zp) (rows:List (List C)) (s:PZ),R.length<b.length/\TrZ R/\zp a=s*zp b+zp R/\pt rows R/\τ' 5 = .sl 22 ((ε 22).gen+1) R.length/\ε' 22=⟨(ε 22).gen+1,1,rows,true,true⟩) a.length ?_ ?_ ?_
    ·have hne:(a.map zr).isEmpty=false:=by cases a with|nil=>simp at ha0|cons _ _=>rfl
     exact⟨a,a.map zr,0,rfl,ta,ay _,by rw[zero_mul,zero_add],pt.of a,by simp -dsimp only[go_sem],by simp -dsimp only[go_sem,hne]⟩
    ·rintro n2 τ2 β2 ε2 π2 hK2 hKB2 hKE2 ⟨R,rows,s,hn2,tR,hRl,hRe,hrow,h5,h22⟩;have q1:τ2 1 = .i (zl b):=(hK2 1 rfl).trans h1;have q6:τ2 6 = .i (iz v):=(hK2 6 rfl).trans rfl;by_cases hlt:b.length<=R.length
     ·have hA2:(b.length:Int)<=(R.length:Int):=aw;have eR:(R.length:Int)-1=((R.length-1:Nat):Int):=aw;have eat:(R.length:Int)-(b.length:Int)=((R.length-b.length:Nat):Int):=aw;have hR0:0<R.length:=aw;simp -dsimp only[go_sem,h5,q1,q6,hA2,eR,eat,az,h22]
      repeat(refine And.intro aw ?_)
      refine⟨_,hrow (R.length-1) aw,?_⟩;simp -dsimp only[go_sem,zr,zmul]
      repeat(refine And.intro aw ?_)
      refine bt [(9,10),(51,73)] [] [(22,22)] (fun n τ' β' ε'=>∃(i:Nat) (rows':List (List C)),n=b.length-i/\i<=b.length/\τ' 51 = .i (iN i)/\pt rows' (mh R b (R[R.length-1]*v) (R.length-b.length) i)/\ε' 22=⟨(ε 22).gen+1,1,rows',true,true⟩)
       (fun e τ' β' ε'=>e = .exit 4/\∃(rows':List (List C)),pt rows' (mh R b (R[R.length-1]*v) (R.length-b.length) b.length)/\ε' 22=⟨(ε 22).gen+1,1,rows',true,true⟩) b.length ?_ ?_ ?_
      ·exact⟨0,rows,aw,aw,rfl,by rw[wq];exact hrow,h22⟩
      ·rintro n3 τ3 β3 ε3 π3 hK3 hKB3 hKE3 ⟨i,rows',hn3,hi,h51,hrow',h22'⟩;have r49:τ3 49 = .i (zl b):=(hK3 49 rfl).trans rfl;have r50:τ3 50 = .i (iN b.length):=(hK3 50 rfl).trans rfl;have r5:τ3 5 = .sl 22 ((ε 22).gen+1) R.length:=(hK3 5 rfl).trans h5;have r7:τ3 7 = .i (iz (R[R.length-1]*v)):=by rw[hK3 7 aH];simp -dsimp only[go_sem,zmul]
       have r8:τ3 8 = .i (iN ((R.length-b.length:Nat):Int)):=by rw[hK3 8 aH];simp -dsimp only[go_sem,eat]
       by_cases hlt3:i<b.length
       ·have hA3:(i:Int)<(b.length:Int):=aw;have gbi:b[i]?=some b[i]:=by simp[hlt3]
        have ead:((R.length-b.length:Nat):Int)+(i:Int)=((R.length-b.length+i:Nat):Int):=aw;simp -dsimp only[go_sem,h51,r50,r49,hA3];refine aP gbi ?_;simp -dsimp only[go_sem,zr,h51,r50,r49,r5,r7,r8,ead,h22']
        repeat(refine And.intro aw ?_)
        have hji:R.length-b.length+i<R.length:=aw;have hr:rows'[R.length-b.length+i]?=some (zr R[R.length-b.length+i]):=by
         have:=hrow' (R.length-b.length+i) (by rw[gc];exact hji);rw[gQ,if_neg aw]at this;rw[this];simp[List.getD,hji]
        refine⟨_,hr,?_⟩;simp -dsimp only[go_sem,zr,zsub]
        repeat(refine And.intro aw ?_)
        refine⟨_,hr,?_⟩;simp -dsimp only[go_sem,zr]
        repeat(refine And.intro aw ?_)
        refine again (b.length-(i+1)) aw ⟨(aA hK3),hKB3,(aA hKE3),i+1,rows'.set (R.length-b.length+i) (zr (R[R.length-b.length+i] + -b[i]*(R[R.length-1]*v))),rfl,aw,rfl,zO hlt3 aw hrow',?_⟩;simp -dsimp only[go_sem,h22'];rfl
       ·have hA3:¬ (i:Int)<(b.length:Int):=aw;obtain rfl:i=b.length:=aw;simp -dsimp only[go_sem,h51,r50,hA3];exact⟨(aA hK3),hKB3,hKE3,rows',hrow',h22'⟩
      ·rintro e τ3 β3 ε3 π3 hK3 hKB3 hKE3 ⟨rfl,rows',hrow',h22'⟩;refine⟨_,bA.refl _,?_⟩;have r5:τ3 5 = .sl 22 ((ε 22).gen+1) R.length:=(hK3 5 rfl).trans h5;have kO:=Kp.step2 hK2 hK3 (by intro n;simp[inR]<;>omega) (aA hK2);have kB:=Kp.step2 hKB2 hKB3 (by intro n;simp[inR]) hKB2;have kE:=Kp.step2 hKE2 hKE3 (by intro n;simp[inR]) hKE2;have hz:=G8 (R:=R) (b:=b) (R[R.length-1]*v) (at':=R.length-b.length) aw;have hlast:∀(h:R.length-1<(mh R b (R[R.length-1]*v) (R.length-b.length) b.length).length),(mh R b (R[R.length-1]*v) (R.length-b.length) b.length)[R.length-1]=0:=fun h=>by
        rw[gQ,if_pos aw,show R.length-1-(R.length-b.length)=b.length-1 by omega];rw[show R.getD (R.length-1) 0=R[R.length-1]from mO aw,show b.getD (b.length-1) 0=b[b.length-1]from mO aw];have e9 : -b[b.length-1]*(R[R.length-1]*v) = -(R[R.length-1]*(v*b[b.length-1])):=by rw[neg_mul,dE,mul_comm b[b.length-1] v]
        rw[e9,hv,mul_one,jB]
       generalize hR':mh R b (R[R.length-1]*v) (R.length-b.length) b.length=R' at *
       have lR':R'.length=R.length:=by rw[<-hR',gc]
       simp -dsimp only[go_sem];refine bt [(5,5),(74,90)] [] [] (fun n τ' β' ε'=>∃ t:Nat,n=t/\t<=R'.length/\(∀ j (hj:j<R'.length),t<=j->R'[j]=0)/\τ' 5 = .sl 22 ((ε 22).gen+1) t)
        (fun e τ' β' ε'=>e = .exit 6/\∃ t:Nat,t<=R'.length/\(∀ j (hj:j<R'.length),t<=j->R'[j]=0)/\(∀ h:t-1<R'.length,0<t->R'[t-1]≠0)/\τ' 5 = .sl 22 ((ε 22).gen+1) t) R'.length ?_ ?_ ?_
       ·exact⟨R'.length,rfl,ay _,fun j hj h=>by omega,by rw[lR'];exact r5⟩
       ·rintro n4 τ4 β4 ε4 π4 hK4 hKB4 hKE4 ⟨t,hn4,ht,hzero,h5'⟩;have s22:ε4 22=⟨(ε 22).gen+1,1,rows',true,true⟩:=by rw[hKE4 22 aH];exact h22'
        by_cases ht0:t=0
        ·have hA4:¬ (0:Int)<(t:Int):=aw;simp -dsimp only[go_sem,h5',s22,hA4];exact⟨(aA hK4),hKB4,hKE4,t,ht,hzero,fun _ h=>by omega,rfl⟩
        ·have hA4:(0:Int)<(t:Int):=aw;have et:(t:Int)-1=((t-1:Nat):Int):=aw;have hr4:=hrow' (t-1) aw;simp -dsimp only[go_sem,h5',s22,hA4,et]
         repeat(refine And.intro aw ?_)
         refine⟨_,hr4,?_⟩;simp -dsimp only[go_sem,zr];by_cases hz4:R'[t-1]=0
         ·have e4:decide (((R'[t-1].val:Nat):Int)=0)=true:=aF (by rw[hz4];rfl);simp -dsimp only[go_sem,e4,h5',s22,et]
          repeat(refine And.intro aw ?_)
          refine again (t-1) aw ⟨(aA hK4),hKB4,hKE4,t-1,rfl,aw,fun j hj h=>?_,rfl⟩;by_cases e:j=t-1
          ·subst e;exact hz4
          ·exact hzero j hj aw
         ·have hv0:R'[t-1].val≠0:=fun h=>hz4 (lV h);have e4:decide (((R'[t-1].val:Nat):Int)=0)=false:=aG aw;simp -dsimp only[go_sem,e4];exact⟨(aA hK4),hKB4,hKE4,t,ht,hzero,fun _ _=>hz4,h5'⟩
       ·rintro e τ4 β4 ε4 π4 hK4 hKB4 hKE4 ⟨rfl,t,ht,hzero,hnz,h5'⟩;refine⟨_,bA.refl _,?_⟩;have kO2:=Kp.step2 kO hK4 (by intro n;simp[inR]<;>omega) (aA kO);have kB2:=Kp.step2 kB hKB4 (by intro n;simp[inR]) kB;have kE2:=Kp.step2 kE hKE4 (by intro n;simp[inR]) kE;have s22:ε4 22=⟨(ε 22).gen+1,1,rows',true,true⟩:=by rw[hKE4 22 aH];exact h22'
        have htl:t<R.length:=by
         rcases Nat.lt_or_ge t R.length with h|h
         ·exact h
         ·have e5:t=R.length:=aw;refine absurd ?_ (hnz aw aw);have:=hlast aw;simpa only[e5]using this
        have lt':(R'.take t).length=t:=by simp;omega
        simp -dsimp only[go_sem];refine again t aw ⟨(aA kO2),kB2,kE2,R'.take t,rows',s+mon (R.length-b.length) (R[R.length-1]*v),lt'.symm,fun h=>?_,aw,?_,fun j hj=>?_,by rw[lt'];exact h5',s22⟩
        ·rw[List.getElem_take];simp only[lt']at h ⊢;exact hnz aw h
        ·rw[Du hzero,hz,hRe,add_mul,sub_eq];rw[add_assoc,add_comm (zp R),<-add_assoc (mon _ _*zp b),jB,zero_add]
        ·rw[List.getElem_take];exact hrow' j (by simp at hj;omega)
     ·have hA2:¬ (b.length:Int)<=(R.length:Int):=aw;simp -dsimp only[go_sem,h5,q1,hA2,az,h22];exact⟨(aA hK2),hKB2,hKE2,R,rows,s,aw,tR,hRe,hrow,rfl,rfl⟩
    ·rintro e τ2 β2 ε2 π2 hK2 hKB2 hKE2 ⟨rfl,R,rows,s,hlt,tR,hRe,hrow,h5,h22⟩;refine⟨_,bA.refl _,?_⟩;have q1:τ2 1 = .i (zl b):=(hK2 1 rfl).trans h1;have kO:=Kp.step2 hK hK2 (by intro n;simp[inR]<;>omega) (aA hK);have kB:=Kp.step2 hKB hKB2 (by intro n;simp[inR]) hKB;have kE:=Kp.step2 hKE hKE2 (by intro n;simp[inR]) (aA hKE);have hb':zp b≠0:=fun e=>by
      have:=kY tb;rw[e,aM.2 rfl]at this;omega
     have hrm:rm (zp a) (zp b)=zp R:=DM hb' hRe (by rw[kY tR,kY tb];exact hlt);have hE':qm xs ys=euc R.length (zp b) (zp R):=by
      rw[hE];obtain⟨m,hm⟩:∃ m,b.length=m+1:=⟨b.length-1,aw⟩;rw[hm];simp only[euc];rw[if_neg hb',hrm];exact uV _ _ _ _ (by rw[kY tR];exact ay _) aw
     have htake:rows.take R.length=R.map zr:=by
      refine List.ext_getElem? fun j=>?_;rw[List.getElem?_take,List.getElem?_map];split
      ·rename_i hj;rw[hrow j hj,aD hj];rfl
      ·rename_i hj;rw[List.getElem?_eq_none aw];rfl
     simp -dsimp only[go_sem,q1,h5];refine vc R.length ((bA.freeze _ 22).trans (bA.imm _ 1 (x:=zl R) ?_)) aw ?_
     ·simp -dsimp only[go_sem,h22,htake]
     ·refine⟨?_,?_,?_,b,R,rfl,hb0,tb,tR,aw,aw,hE',?_,?_⟩
      ·simp -dsimp only[go_sem,kO]
      ·exact kB
      ·simp -dsimp only[go_sem,kE]
      ·simp -dsimp only[go_sem]
      ·simp -dsimp only[go_sem]
  ·rintro e τ β ε π hK hKB hKE ⟨rfl,a,ha0,la,ta,hE,h0⟩;refine⟨_,bA.refl _,?_⟩;simp -dsimp only[go_sem,h0,az];refine⟨aw,?_⟩;rw[hE,kY ta]
theorem ixX (e:Ex) (v:Nat) (hv:v<4):ez Tryz.prog (Instr.index 100 (.agg #[.int .i64 e.a,.int .i64 e.b,.int .i64 e.c,.int .i64 e.d]) (.int .i64 (v:Int))) (.int .i64 (e.at v)):=by
 intro w;have hu:=mt.hk;obtain⟨i,hi,hs⟩:=mt.hi;have hI:=mt.hI;obtain rfl|rfl|rfl|rfl:v=0\/v=1\/v=2\/v=3:=aw
 all_goals simp[Instr.index,asIntOf,run_underlying hu,run_underlying hI,sizeOf,typeInfo,hi,hs,Go.part,isAgg,Ex.at]
def jq:Prop:=∀ z:Int,(lb z).length<=17179869184->Fn Tryz.prog 246 [iZ z] [iz (af z)]
noncomputable def fD (p:PQ):List Zp:=(List.range (aa p)).map fun i=>rq (p.c i)
def uM (p:PQ):Prop:=∀ i,i<aa p->af (p.c i).den≠0
noncomputable def rE (p:PQ):List IV:=if uM p then[zl (fD p),iB (decide (rq (lc p)≠0))]else[.c (.lst []),iB false]
theorem eh (p:PQ):(fD p).length=aa p:=by simp[fD]
noncomputable def seen (p:PQ) (L:List Tm) (j:Nat):Zp:=if ∃ t∈L,t.1.a=(j:Int)then rq (p.c j)else 0
theorem zh {i:Nat}:∀{L:List Tm},(∀ t∈L,t.1.a.toNat≠i)->(toP L).c i=0
 | [],_=>rfl
 | t::L,h=>by
  rw[bc,ce,zh fun t ht=>h t (by simp[ht]),bY,if_neg (fun e=>h t au e.symm)];exact add_zero _
theorem J5 {p:PQ} {i:Nat} (h:p.c i≠0):((⟨(i:Int),0,0,0⟩:Ex),p.c i)∈U p:=by
 refine Classical.byContradiction fun hn=>h ?_;have:=zh (i:=i) (L:=U p) fun t ht e=>by
  obtain⟨j,hj,rfl,_⟩:=nY ht;simp only[Int.toNat_natCast]at e;subst e;exact hn ht
 rwa [im]at this
theorem zx (p:PQ) (j:Nat):seen p (U p) j=rq (p.c j):=by
 rw[seen];split
 ·rfl
 ·rename_i h;have h0:p.c j=0:=Classical.byContradiction fun hc=>h ⟨_,J5 hc,rfl⟩;rw[h0,rq];exact(zero_mul _).symm
theorem zadd {a b:Zp}:(((a.val:Int)+(b.val:Int)) % 18446744073709551616).tmod 2147483647=(((a+b:Zp).val:Nat):Int):=by
 have h1:=a.isLt;have h2:=b.isLt;rw[Bs,Int.tmod_eq_emod_of_nonneg aw];omega
theorem zadd' {a b:Zp}:(((a.val+b.val:Nat):Int) % 18446744073709551616).tmod 2147483647=(((a+b:Zp).val:Nat):Int):=by
 rw[<-zadd];simp
theorem rR (hres:jq) {p:PQ} {h:Nat} (hp:am h p) (hb:h<=137438953000) (hp0:p≠0) (sp:aa p<=1048576) (a:Nat) (ha:a<=1000000):Fn Tryz.prog 227 [iUp p,iN 0,.c (.v (.int .u64 (a:Int)))] (rE p):=by
 have h0:=aR hp0;have es:(aa p:Int)-1+1=(aa p:Int):=aw;refine aJ (fn:=Tryz.f227) ?_;simp -dsimp only[go_sem];refine aK (ik p sp) ?_;simp -dsimp only[go_sem,es,Int.toNat_natCast]
 repeat(refine And.intro aw ?_)
 refine bt [(6,7),(10,14),(22,75)] [(10,10)] [(19,19)] (fun n τ β ε=>∃(i:Nat) (rows:List (List C)),n=(U p).length-i/\i<=(U p).length/\τ 22 = .i (iN i)/\ε 19=⟨1,1,rows,true,true⟩ /\
   (∀ j,j<aa p->rows[j]?=some (zr (seen p ((U p).take i) j)))/\∀ t∈(U p).take i,af (t.2.den)≠0)
  (fun e τ β ε=>(e = .exit 0/\uM p/\∃ rows:List (List C),ε 19=⟨1,1,rows,true,true⟩/\∀ j,j<aa p->rows[j]?=some (zr (rq (p.c j)))) \/
   (e = .ret/\¬ uM p/\τ 6 = .fl []/\τ 7 = .i (.c (.v (.bool false))))) (U p).length ?_ ?_ ?_
 ·refine⟨0,List.replicate (aa p) [.v (.int .u64 0)],aw,aw,rfl,rfl,fun j hj=>?_,au⟩;rw[seen,if_neg au];simp[hj];rfl
 ·rintro n τ β ε π hK hKB hKE ⟨i,rows,hn,hi,h22,h19,hrows,hgood⟩;have k20:τ 20 = .i (iUp p):=(hK 20 rfl).trans rfl;have k21:τ 21 = .i (iN (U p).length):=by rw[hK 21 aH];simp -dsimp only[go_sem,az]
  have k8:τ 8 = .sl 19 1 (aa p):=(hK 8 rfl).trans rfl;have k1:τ 1 = .i (iN 0):=(hK 1 rfl).trans rfl;have k2:τ 2 = .i (.c (.v (.int .u64 (a:Int)))):=(hK 2 rfl).trans rfl;by_cases hlt:i<(U p).length
  ·have hA:(i:Int)<((U p).length:Int):=aw;obtain⟨e,he,het,hec⟩:=nY (List.getElem_mem hlt);have hg:(U p)[i]?=some (⟨(e:Int),0,0,0⟩,p.c e):=by rw[aD hlt,het]
   have hbd:=hp.coef e;simp -dsimp only[go_sem,h22,k21,k20,hA];refine aP hg ?_;simp -dsimp only[go_sem,Int.reduceToNat,Int.reduceLE,aC];refine aQ (args':=[iZ ((p.c e).den:Int)]) rfl (hres _ (ax (rB (z:=((p.c e).den:Int)) (by simpa using hbd.2)) aw)) ?_;by_cases hd:af ((p.c e).den:Int)=0
   ·have e1:decide ((((af ((p.c e).den:Int)).val:Nat):Int)=0)=true:=aF (by rw[hd];rfl);simp -dsimp only[go_sem,e1];exact⟨(aA hK),hKB,hKE,fun hgd=>hgd e he hd⟩
   ·have hv0:(af ((p.c e).den:Int)).val≠0:=fun h=>hd (lV h);have e1:decide ((((af ((p.c e).den:Int)).val:Nat):Int)=0)=false:=aG aw;obtain⟨v,hv,hpw⟩:=wn hd;have hrq:af (p.c e).num*v=rq (p.c e):=by
     rw[rq];congr 1;exact qg (by rw[mul_comm];exact hv)
    simp -dsimp only[go_sem,e1,Int.reduceToNat,Int.reduceLE,aC];refine aQ (args':=[iZ (p.c e).num]) rfl (hres _ (ax (rB hbd.1) aw)) ?_;simp -dsimp only[go_sem];refine ao hpw rfl ?_;simp -dsimp only[go_sem,zmul,hrq]
    repeat(refine And.intro aw ?_)
    refine a8 [(12,14),(42,58)] [] [] (fun n τ' β' ε'=>∃ w:Nat,n=4-w/\w<=4/\τ' 42 = .i (iN w)/\τ' 12 = .i (iz (rq (p.c e))))
     (fun e' τ' β' ε'=>e' = .exit 2/\τ' 12 = .i (iz (rq (p.c e)))) 4 ?_ ?_ ?_
    ·exact⟨0,rfl,aw,rfl,rfl⟩
    ·rintro n2 τ2 β2 ε2 π2 hK2 hKB2 hKE2 ⟨w,hn2,hw,h42,q12⟩;have q41:τ2 41 = .i (.g [.v (.int .i64 (e:Int)),.v (.int .i64 0),.v (.int .i64 0),.v (.int .i64 0)]):=(hK2 41 rfl).trans rfl;have q1:τ2 1 = .i (iN 0):=(hK2 1 rfl).trans k1;have q2:τ2 2 = .i (.c (.v (.int .u64 (a:Int)))):=(hK2 2 rfl).trans k2;obtain rfl|rfl|rfl|rfl|rfl:w=4\/w=0\/w=1\/w=2\/w=3:=aw
     ·have h42':τ2 42 = .i (iN 4):=h42;simp -dsimp only[go_sem,h42',Int.reduceLT,decide_false];exact⟨(aA hK2),hKB2,hKE2,q12⟩
     ·have h42':τ2 42 = .i (iN 0):=h42;simp -dsimp only[go_sem,h42',q41,q1,q2,q12,Int.reduceLT,decide_true,Int.reduceToNat];refine⟨_,ixX ⟨(e:Int),0,0,0⟩ 0 aw,rfl,?_⟩
      repeat(refine And.intro aw ?_)
      refine again (4-1) aw ⟨(aA hK2),hKB2,hKE2,1,rfl,aw,rfl,q12⟩
     ·have h42':τ2 42 = .i (iN 1):=h42;have ex:((a:Int)+1) % 18446744073709551616=((a+1:Nat):Int):=aw;simp -dsimp only[go_sem,h42',q41,q1,q2,q12,Int.reduceLT,decide_true,Int.reduceToNat];refine⟨_,ixX ⟨(e:Int),0,0,0⟩ 1 aw,rfl,?_⟩;simp -dsimp only[go_sem,h42',q41,q1,q2,q12,Int.reduceEq,decide_false];refine aQ (args':=[iz ⟨a+1,aw⟩,iN 0]) ?_ (pU ⟨a+1,aw⟩ 0 aw) ?_
      ·rw[show((a:Int)+1 % 18446744073709551616) % 18446744073709551616=((a+1:Nat):Int)by omega];rfl
      simp -dsimp only[go_sem,zmul,h42']
      repeat(refine And.intro aw ?_)
      refine again (4-2) aw ⟨(aA hK2),hKB2,hKE2,2,rfl,aw,rfl,?_⟩;simp -dsimp only[go_sem];rw[show Alg.pw (⟨a+1,aw⟩:Zp) 0=1 from rfl,mul_one]
     ·have h42':τ2 42 = .i (iN 2):=h42;have ex:((a:Int)+2) % 18446744073709551616=((a+2:Nat):Int):=aw;simp -dsimp only[go_sem,h42',q41,q1,q2,q12,Int.reduceLT,decide_true,Int.reduceToNat];refine⟨_,ixX ⟨(e:Int),0,0,0⟩ 2 aw,rfl,?_⟩;simp -dsimp only[go_sem,h42',q41,q1,q2,q12,Int.reduceEq,decide_false];refine aQ (args':=[iz ⟨a+2,aw⟩,iN 0]) ?_ (pU ⟨a+2,aw⟩ 0 aw) ?_
      ·rw[show((a:Int)+2 % 18446744073709551616) % 18446744073709551616=((a+2:Nat):Int)by omega];rfl
      simp -dsimp only[go_sem,zmul,h42']
      repeat(refine And.intro aw ?_)
      refine again (4-3) aw ⟨(aA hK2),hKB2,hKE2,3,rfl,aw,rfl,?_⟩;simp -dsimp only[go_sem];rw[show Alg.pw (⟨a+2,aw⟩:Zp) 0=1 from rfl,mul_one]
     ·have h42':τ2 42 = .i (iN 3):=h42;have ex:((a:Int)+3) % 18446744073709551616=((a+3:Nat):Int):=aw;simp -dsimp only[go_sem,h42',q41,q1,q2,q12,Int.reduceLT,decide_true,Int.reduceToNat];refine⟨_,ixX ⟨(e:Int),0,0,0⟩ 3 aw,rfl,?_⟩;simp -dsimp only[go_sem,h42',q41,q1,q2,q12,Int.reduceEq,decide_false];refine aQ (args':=[iz ⟨a+3,aw⟩,iN 0]) ?_ (pU ⟨a+3,aw⟩ 0 aw) ?_
      ·rw[show((a:Int)+3 % 18446744073709551616) % 18446744073709551616=((a+3:Nat):Int)by omega];rfl
      simp -dsimp only[go_sem,zmul,h42']
      repeat(refine And.intro aw ?_)
      refine again (4-4) aw ⟨(aA hK2),hKB2,hKE2,4,rfl,aw,rfl,?_⟩;simp -dsimp only[go_sem];rw[show Alg.pw (⟨a+3,aw⟩:Zp) 0=1 from rfl,mul_one]
    ·rintro e' τ2 β2 ε2 π2 hK2 hKB2 hKE2 ⟨rfl,q12⟩;have r10:τ2 10 = .bp 10 ((β 10).gen+1) 0:=(hK2 10 rfl).trans rfl;have b10:β2 10=⟨(β 10).gen+1,eT (⟨(e:Int),0,0,0⟩,p.c e)⟩:=(hKB2 10 rfl).trans rfl;have r8:τ2 8 = .sl 19 1 (aa p):=(hK2 8 rfl).trans k8;have r1:τ2 1 = .i (iN 0):=(hK2 1 rfl).trans k1;have r22:τ2 22 = .i (iN i):=(hK2 22 rfl).trans h22;have f19:ε2 19=⟨1,1,rows,true,true⟩:=by rw[hKE2 19 aH];exact h19
     have kO:=Kp.step2 hK hK2 (by intro n;simp[inR]<;>omega) (aA hK);have kB:=Kp.step2 hKB hKB2 (by intro n;simp[inR]) (aA hKB);have kE:=Kp.step2 hKE hKE2 (by intro n;simp[inR]) hKE;have hs0:seen p ((U p).take i) e=0:=by
      rw[seen,if_neg];rintro ⟨t,ht,hte⟩;obtain⟨j,hj,rfl⟩:=List.getElem_of_mem ht;simp only[List.length_take]at hj;rw[List.getElem_take]at hte;have h5:=(List.pairwise_iff_getElem.1 (ky p).srt) j i aw hlt aw;rw[jS ((ky p).uv _ (List.getElem_mem _)) ((ky p).uv _ (List.getElem_mem _)),het]at h5;simp only at h5;omega
     have hr0:=hrows e he;rw[hs0]at hr0;have hse:∀ j,seen p ((U p).take (i+1)) j=if j=e then rq (p.c e)else seen p ((U p).take i) j:=fun j=>by
      rw[aq hlt,het,seen,seen];by_cases hj:j=e
      ·subst hj;rw[if_pos ⟨_,by simp;right;rfl,rfl⟩,if_pos rfl]
      ·rw[if_neg hj];congr 1;refine propext ⟨?_,fun⟨t,ht,h5⟩=>⟨t,by simp[ht],h5⟩⟩;rintro ⟨t,ht,h5⟩;rcases List.mem_append.1 ht with ht|ht
       ·exact⟨t,ht,h5⟩
       ·simp at ht;subst ht;simp only at h5;omega
     simp -dsimp only[go_sem];refine ap 16 [] false true ?_;simp -dsimp only[go_sem,r10,b10,r8,r1,q12,f19,Int.reduceToNat,Int.reduceLE,true_and,List.drop_zero,Int.toNat_natCast];refine⟨he,_,hr0,?_⟩;simp -dsimp only[go_sem,zr,zadd,zadd'];refine⟨aH,he,_,hr0,?_⟩;have hUl:=dF p;simp -dsimp only[go_sem,r22,zr]
     repeat(refine And.intro aw ?_)
     refine again ((U p).length-(i+1)) aw ⟨(aA kO),kB,(aA kE),i+1,rows.set e (zr (0+rq (p.c e))),rfl,aw,rfl,by simp -dsimp only[go_sem,f19];rfl,fun j hj=>?_,fun t ht=>?_⟩
     ·rw[List.getElem?_set,hse];by_cases hje:e=j
      ·subst hje;rw[if_pos rfl,if_pos (List.getElem?_eq_some_iff.1 hr0).1,if_pos rfl,zero_add];rfl
      ·rw[if_neg hje,if_neg (fun h=>hje h.symm)];exact hrows j hj
     ·rw[aq hlt,het]at ht;rcases List.mem_append.1 ht with ht|ht
      ·exact hgood t ht
      ·simp at ht;subst ht;exact hd
  ·have hA:¬ (i:Int)<((U p).length:Int):=aw;obtain rfl:i=(U p).length:=aw;rw[List.take_length]at hrows hgood;simp -dsimp only[go_sem,h22,k21,hA];refine⟨(aA hK),hKB,hKE,?_,rows,h19,?_⟩
   ·intro j hj;by_cases hc:p.c j=0
    ·rw[hc];decide
    ·exact hgood _ (J5 hc)
   ·intro j hj;rw[<-zx p j];exact hrows j hj
 ·rintro e τ β ε π hK hKB hKE h;refine⟨_,bA.refl _,?_⟩;rcases h with⟨rfl,hg,rows,h19,hrows⟩|⟨rfl,hg,h6,h7⟩
  ·have k8:τ 8 = .sl 19 1 (aa p):=(hK 8 rfl).trans rfl;have el:(aa p:Int)-1=((aa p-1:Nat):Int):=aw;simp -dsimp only[go_sem,k8];refine ap 10 [] false true ?_;simp -dsimp only[go_sem,k8,h19,el]
   repeat(refine And.intro aw ?_)
   refine⟨_,hrows (aa p-1) aw,?_⟩;simp -dsimp only[go_sem,zr];have htake:rows.take (aa p)=(fD p).map zr:=by
    refine List.ext_getElem? fun j=>?_;rw[List.getElem?_take,List.getElem?_map];split
    ·rename_i hj;rw[hrows j hj,aD (by rw[eh];exact hj)];simp[fD]
    ·rename_i hj;rw[List.getElem?_eq_none (by rw[eh];omega)];rfl
   have hnz:(!decide ((((rq (p.c (aa p-1))).val:Nat):Int)=0))=decide (rq (lc p)≠0):=by
    rw[show lc p=p.c (aa p-1)from rfl];by_cases h0:rq (p.c (aa p-1))=0
    ·rw[h0];rfl
    ·have h1:(rq (p.c (aa p-1))).val≠0:=fun h=>h0 (lV h);rw[aF h0,aG aw];rfl
   rw[rE,if_pos hg,htake,hnz]
  ·simp -dsimp only[go_sem,h6,h7];rw[rE,if_neg hg]
end Go.AM
