/- Lemmas, part 15 of 24: Package mgcd: greatest common divisors with constants; contents; Package mgcd: contents, the highest variable; Package mgcd: powers modulo a prime; Package mgcd: Euclid's algorithm modulo a prime; Package mgcd: images modulo a prime; Package mgcd: a bound of the degree; Package mgcd: the remainder sequence; Package mgcd: the remainder sequence, walked. No condition. -/
import Derived.Test.YtcmfkhicjhliaaaGreatPZ213
set_option maxRecDepth 65536
set_option linter.unusedSimpArgs false
set_option linter.unusedVariables false
set_option linter.unusedSectionVars false
namespace Go.AM
open Alg
open Go.Proofs
open Classical
theorem Kj (p:PQ):yF (U p)=decide (Alg.sz p=1):=by
 by_cases h:Alg.sz p=1
 ·have hp:p=Alg.C (p.c 0):=eX (by omega);have h0:p.c 0≠0:=fun e=>by
   rw[e,show Alg.C (0:Rat)=0 from cu]at hp;rw[hp,ap.2 rfl]at h;omega
  rw[hp,U_C h0,<-hp,ai h];rfl
 ·rw[aj h];by_cases hp:p=0
  ·rw[hp,bR];rfl
  ·obtain⟨R,hR⟩:=fu hp;have:=az hp;rw[hR];cases R with
   | nil =>
    show decide _=false;refine aj fun e=>?_;have:=congrArg Ex.a e;simp only[e0]at this;omega
   | cons _ _=>rfl
theorem gg (p:PQ):Fn Tryz.prog 189 [iUp p] [iB (decide (Alg.sz p=1))]:=by
 have:=mG (U p);rwa [Kj]at this
noncomputable def kq (p q:PQ):PQ:=if p=0 then Alg.mo q else if q=0 then Alg.mo p else 1
theorem xj {p q:PQ} {h k:Nat} (hp:Alg.HB h p) (hq:Alg.HB k q) (hb:h<=137438953000) (hb':k<=137438953000) (sp:Alg.sz p<=1048576) (sq:Alg.sz q<=1048576) (hc:p=0\/q=0\/Alg.sz p=1\/Alg.sz q=1):Fn Tryz.prog 151 [iUp p,iUp q] [iUp (kq p q)]:=by
 have hz:∀ x:PQ,decide (((U x).length:Int)=0)=decide (x=0):=fun x=>by
  rw[decide_eq_decide];constructor
  ·intro h;exact mN.1 (List.eq_nil_of_length_eq_zero (by omega))
  ·rintro rfl;rw[bR];rfl
 refine ak (fn:=Tryz.f151) (by rfl) rfl rfl rfl (by rfl) ?_;by_cases hp0:p=0
 ·have e1:=hz p;rw[ai hp0]at e1;simp -dsimp -implicitDefEqProofs only[go_sem,e1,af];refine aa (jA hq hb' sq) rfl ?_;simp -dsimp -implicitDefEqProofs only[go_sem];rw[kq,if_pos hp0]
 ·have e1:=hz p;rw[aj hp0]at e1;by_cases hq0:q=0
  ·have e2:=hz q;rw[ai hq0]at e2;simp -dsimp -implicitDefEqProofs only[go_sem,e1,e2,af];refine aa (jA hp hb sp) rfl ?_;simp -dsimp -implicitDefEqProofs only[go_sem];rw[kq,if_neg hp0,if_pos hq0]
  ·have e2:=hz q;rw[aj hq0]at e2;simp -dsimp -implicitDefEqProofs only[go_sem,e1,e2,af];refine aa (gg p) rfl ?_;by_cases h1:Alg.sz p=1
   ·have e3:decide (Alg.sz p=1)=true:=ai h1;simp -dsimp -implicitDefEqProofs only[go_sem,e3];refine an oR ?_;simp -dsimp -implicitDefEqProofs only[go_sem];rw[kq,if_neg hp0,if_neg hq0]
   ·have e3:decide (Alg.sz p=1)=false:=aj h1;have e4:decide (Alg.sz q=1)=true:=ai (by rcases hc with h|h|h|h<;>first|exact absurd h hp0|exact absurd h hq0|exact absurd h h1|exact h)
    simp -dsimp -implicitDefEqProofs only[go_sem,e3];refine aa (gg q) rfl ?_;simp -dsimp -implicitDefEqProofs only[go_sem,e4];refine an oR ?_;simp -dsimp -implicitDefEqProofs only[go_sem];rw[kq,if_neg hp0,if_neg hq0]
theorem tw (a c:Rat):kq (Alg.C a) (Alg.C c)=if a=0/\c=0 then 0 else 1:=by
 have mo1:∀ x:Rat,x≠0->Alg.mo (Alg.C x)=1:=fun x hx=>by
  rw[Alg.mo,n9,<-bf,cx hx];rfl
 have cz:∀ x:Rat,Alg.C x=0↔x=0:=fun x=>⟨fun h=>Classical.byContradiction fun hx=>fv hx h,fun h=>by rw[h];exact cu⟩;rw[kq];by_cases ha:a=0
 ·rw[if_pos ((cz a).2 ha)];by_cases hc:c=0
  ·rw[if_pos ⟨ha,hc⟩,(cz c).2 hc,fc]
  ·rw[if_neg (fun h=>hc h.2),mo1 c hc]
 ·rw[if_neg (fun h=>ha ((cz a).1 h)),if_neg (c:=a=0/\c=0) (fun h=>ha h.1),mo1 a ha,ite_self]
theorem M6 (c:Rat):Alg.C c=0\/Alg.sz (Alg.C c)=1:=by
 by_cases h:c=0
 ·exact .inl (by rw[h];exact cu)
 ·exact .inr (iH h)
theorem NZ (f:Nat->Rat) (n:Nat) (hn:n<=1048576) {h:Nat} (hf:∀ i,Alg.HB h (Alg.C (f i))) (hb:h<=137438953000) (hne:∃ i,i<n/\f i≠0):Fn Tryz.prog 214 [.c (.lst (bS (fun i=>U (Alg.C (f i))) n))] [iUp 1]:=by
 have hlen:(bS (fun i=>U (Alg.C (f i))) n).length=n:=by simp[bS]
 have hrow:∀ j,j<n->(bS (fun i=>U (Alg.C (f i))) n)[j]?=some [cM (U (Alg.C (f j)))]:=fun j hj=>by rw[bS,List.getElem?_map,List.getElem?_range hj];rfl
 have hm0:iM []=iUp 0:=by rw[jZ,bR]
 refine ak (fn:=Tryz.f214) (by rfl) rfl rfl rfl (by rfl) ?_;simp -dsimp -implicitDefEqProofs only[go_sem,hlen];refine aJ [(3,3),(5,5),(8,17)] [] [] (fun m τ β ε=>∃ i:Nat,m=n-i/\i<=n/\(∀ j,j<i->f j=0)/\τ 8 = .i (iN i)/\(τ 3 = .i (iUp 0)\/τ 3 = .fl []))
  (fun e τ β ε=>e = .exit 0/\τ 3 = .i (iUp 1)) n ?_ ?_ ?_
 ·exact⟨0,by omega,by omega,fun j hj=>by omega,rfl,.inr rfl⟩
 ·rintro m τ β ε π hK hKB hKE ⟨i,hm,hi,hz,h8,h3⟩;have k6:τ 6 = .i (.c (.lst (bS (fun i=>U (Alg.C (f i))) n))):=(hK 6 rfl).trans rfl;have k7:τ 7 = .i (iN n):=(hK 7 rfl).trans rfl;have hlt:i<n:=by
   obtain⟨j,hj,hf⟩:=hne;rcases Nat.lt_or_ge j i with h|h
   ·exact absurd (hz j h) hf
   ·omega
  have hA:(i:Int)<(n:Int):=by omega
  have cz:(Alg.C (0:Rat))=(0:PQ):=cu;have hg:=tw 0 (f i);rw[cz]at hg;have call:Fn Tryz.prog 151 [iUp 0,iUp (Alg.C (f i))] [iUp (if f i=0 then 0 else 1)]:=by
   have:=xj (p:=0) (q:=Alg.C (f i)) (Alg.HB.zero h) (hf i) hb hb (by rw[ap.2 rfl];omega) (by have:=gQ (f i);omega) (.inl rfl);rw[hg]at this;simpa using this
  have con:=gg (if f i=0 then(0:PQ)else 1)
  have sz1:Alg.sz (1:PQ)=1:=iH (R:=Rat) (by decide);by_cases hfi:f i=0
  ·rw[if_pos hfi,ap.2 rfl]at con;rw[if_pos hfi]at call;have hz':∀ j,j<i+1->f j=0:=fun j hj=>by
    by_cases e:j=i
    ·rw[e];exact hfi
    ·exact hz j (by omega)
   simp -dsimp -implicitDefEqProofs only[go_sem,h8,k7,k6,hA];refine⟨_,hrow i hlt,?_⟩;rcases h3 with h3|h3<;>simp -dsimp -implicitDefEqProofs only[go_sem,h3]
   ·refine an call ?_;simp -dsimp -implicitDefEqProofs only[go_sem];refine an con ?_;simp -dsimp -implicitDefEqProofs only[go_sem,h8]
    repeat(refine And.intro (by omega) ?_)
    exact again (n-(i+1)) (by omega) ⟨(by(repeat apply am rfl);exact hK),hKB,hKE,i+1,rfl,by omega,hz',rfl,.inl rfl⟩
   ·refine ar (args':=[iUp 0,iUp (Alg.C (f i))]) ?_ call ?_
    ·rw[<-hm0];rfl
    simp -dsimp -implicitDefEqProofs only[go_sem];refine an con ?_;simp -dsimp -implicitDefEqProofs only[go_sem,h8]
    repeat(refine And.intro (by omega) ?_)
    exact again (n-(i+1)) (by omega) ⟨(by(repeat apply am rfl);exact hK),hKB,hKE,i+1,rfl,by omega,hz',rfl,.inl rfl⟩
  ·rw[if_neg hfi,sz1]at con;rw[if_neg hfi]at call;simp -dsimp -implicitDefEqProofs only[go_sem,h8,k7,k6,hA];refine⟨_,hrow i hlt,?_⟩;rcases h3 with h3|h3<;>simp -dsimp -implicitDefEqProofs only[go_sem,h3]
   ·refine an call ?_;simp -dsimp -implicitDefEqProofs only[go_sem];refine an con ?_;simp -dsimp -implicitDefEqProofs only[go_sem];exact⟨(by(repeat apply am rfl);exact hK),hKB,hKE⟩
   ·refine ar (args':=[iUp 0,iUp (Alg.C (f i))]) ?_ call ?_
    ·rw[<-hm0];rfl
    simp -dsimp -implicitDefEqProofs only[go_sem];refine an con ?_;simp -dsimp -implicitDefEqProofs only[go_sem];exact⟨(by(repeat apply am rfl);exact hK),hKB,hKE⟩
 ·rintro e τ β ε π hK hKB hKE ⟨rfl,h3⟩;simp -dsimp -implicitDefEqProofs only[go_sem,h3]
theorem mW {p:PQ} {h:Nat} (hp:Alg.HB h p) (hb:h<=137438953000) (hp0:p≠0) (sp:Alg.sz p<=1048576):Fn Tryz.prog 192 [iUp p,iN 0] [iUp 1]:=by
 refine ak (fn:=Tryz.f192) (by rfl) rfl rfl rfl (by rfl) ?_;simp -dsimp -implicitDefEqProofs only[go_sem];refine bQ (ox p hp0 sp) ?_;simp -dsimp -implicitDefEqProofs only[go_sem];have h0:=az hp0;have hlen:(bS (fun i=>U (Alg.C (p.c i))) (Alg.sz p)).length=Alg.sz p:=by simp[bS]
 rw[List.take_of_length_le (by omega)];refine an (NZ p.c (Alg.sz p) sp (lL hp) hb ⟨Alg.sz p-1,by omega,bu hp0⟩) ?_;simp -dsimp -implicitDefEqProofs only[go_sem]
theorem nL {p:PQ} {h:Nat} (hp:Alg.HB h p) (hb:h+2*Alg.sz p+2<=137438953000) (sp:Alg.sz p<=524288):Fn Tryz.prog 217 [iUp p,iN 0] [iUp p]:=by
 have hz:decide (((U p).length:Int)=0)=decide (p=0):=by
  rw[decide_eq_decide];constructor
  ·intro h;exact mN.1 (List.eq_nil_of_length_eq_zero (by omega))
  ·rintro rfl;rw[bR];rfl
 refine ak (fn:=Tryz.f217) (by rfl) rfl rfl rfl (by rfl) ?_;by_cases hp0:p=0
 ·rw[ai hp0]at hz;simp -dsimp -implicitDefEqProofs only[go_sem,hz,af];rw[jZ,hp0,bR];rfl
 ·rw[aj hp0]at hz;simp -dsimp -implicitDefEqProofs only[go_sem,hz,af];refine an (mW hp (by omega) hp0 (by omega)) ?_;simp -dsimp -implicitDefEqProofs only[go_sem];have h1:Alg.HB 0 (1:PQ):=by
   have:=Alg.HB.mon (h:=0) 0 (c:=1) (by decide) (by decide);rwa [cH]at this
  have s1:Alg.sz (1:PQ)=1:=iH (R:=Rat) (by decide);refine aa (ur hp h1 (fv (R:=Rat) (by decide)) (by omega) sp (by omega) (s:=p) (mul_one p).symm) rfl ?_;simp -dsimp -implicitDefEqProofs only[go_sem]
theorem Bh {p q:PQ} (hp:2<=Alg.sz p) (hq:q≠0) (sp:Alg.sz p<=1048576) (sq:Alg.sz q<=1048576):Fn Tryz.prog 191 [.c (.lst [[cM (U p)],[cM (U q)]])] [iN 0]:=by
 have hp0:p≠0:=fun e=>by rw[e,ap.2 rfl]at hp;omega
 have dp:∀ v:Nat,v<4->Fn Tryz.prog 123 [iUp p,iN v] [iN (if v=0 then(Alg.sz p:Int)-1 else 0)]:=fun v hv=>by
  have:=xo (U p) v hv (by have:=cJ p;omega);by_cases h:v=0
  ·subst h;rw[qi]at this;exact this
  ·rw[rD p hp0 v (by omega)]at this;rwa [if_neg h]
 have dq:∀ v:Nat,1<=v->v<4->Fn Tryz.prog 123 [iUp q,iN v] [iN 0]:=fun v h1 hv=>by
  have:=xo (U q) v hv (by have:=cJ q;omega);rwa [rD q hq v h1]at this
 refine ak (fn:=Tryz.f191) (by rfl) rfl rfl rfl (by rfl) ?_;simp -dsimp -implicitDefEqProofs only[go_sem];refine aJ [(2,3),(5,21)] [] [] (fun n τ β ε=>∃ v:Nat,n=v/\v<=3/\τ 3 = .i (iN v))
  (fun e τ β ε=>e = .ret/\τ 2 = .i (iN 0)) 3 ?_ ?_ ?_
 ·exact⟨3,rfl,by omega,rfl⟩
 ·rintro n τ β ε π hK hKB hKE ⟨v,hn,hv,h3⟩;have k0:τ 0 = .i (.c (.lst [[cM (U p)],[cM (U q)]])):=(hK 0 rfl).trans rfl;have hA:(0:Int)<=(v:Int):=by omega
  simp -dsimp -implicitDefEqProofs only[go_sem,h3,k0,hA,List.length_cons,List.length_nil];refine aJ [(2,2),(5,5),(12,21)] [] [] (fun n τ' β' ε'=>∃ j:Nat,n=2-j/\j<=2/\(j=0\/1<=v)/\τ' 12 = .i (iN j))
   (fun e τ' β' ε'=>(e = .ret/\v=0/\τ' 2 = .i (iN 0))\/(e = .exit 2/\1<=v)) 2 ?_ ?_ ?_
  ·exact⟨0,by omega,by omega,.inl rfl,rfl⟩
  ·rintro n2 τ2 β2 ε2 π2 hK2 hKB2 hKE2 ⟨j,hn2,hj,hjv,h12⟩;have q10:τ2 10 = .i (.c (.lst [[cM (U p)],[cM (U q)]])):=(hK2 10 rfl).trans rfl;have q11:τ2 11 = .i (iN 2):=by rw[hK2 11 (by decide)];simp -dsimp -implicitDefEqProofs only[go_sem];rfl
   have q3:τ2 3 = .i (iN v):=(hK2 3 rfl).trans h3;obtain rfl|rfl|rfl:j=0\/j=1\/j=2:=by omega
   ·have h12':τ2 12 = .i (iN 0):=h12;simp -dsimp -implicitDefEqProofs only[go_sem,h12',q11,q10,q3,Int.reduceLT,decide_true,Int.reduceToNat,Int.reduceLE,true_and];refine aa (dp v (by omega)) rfl ?_;by_cases hv0:v=0
    ·have hd:(0:Int)<(Alg.sz p:Int)-1:=by omega
     simp -dsimp -implicitDefEqProofs only[go_sem,if_pos hv0,hd,q3];exact⟨(by(repeat apply am rfl);exact hK2),hKB2,hKE2,hv0,by rw[hv0];rfl⟩
    ·simp -dsimp -implicitDefEqProofs only[go_sem,if_neg hv0,h12',Int.reduceLT,decide_false]
     repeat(refine And.intro (by omega) ?_)
     exact again 1 (by omega) ⟨(by(repeat apply am rfl);exact hK2),hKB2,hKE2,1,rfl,by omega,.inr (by omega),rfl⟩
   ·have h12':τ2 12 = .i (iN 1):=h12;have hv1:1<=v:=by rcases hjv with h|h<;>omega
    simp -dsimp -implicitDefEqProofs only[go_sem,h12',q11,q10,q3,Int.reduceLT,decide_true,Int.reduceToNat,Int.reduceLE,true_and];refine aa (dq v hv1 (by omega)) rfl ?_;simp -dsimp -implicitDefEqProofs only[go_sem,h12',Int.reduceLT,decide_false]
    repeat(refine And.intro (by omega) ?_)
    exact again 0 (by omega) ⟨(by(repeat apply am rfl);exact hK2),hKB2,hKE2,2,rfl,by omega,.inr hv1,rfl⟩
   ·have h12':τ2 12 = .i (iN 2):=h12;have hv1:1<=v:=by rcases hjv with h|h<;>omega
    simp -dsimp -implicitDefEqProofs only[go_sem,h12',q11,Int.reduceLT,decide_false];exact⟨(by(repeat apply am rfl);exact hK2),hKB2,hKE2,hv1⟩
  ·rintro e τ2 β2 ε2 π2 hK2 hKB2 hKE2 h;have kO:=Kp.step2 hK hK2 (by intro n;simp[inR]<;>omega) (by(repeat apply am rfl);exact hK)
   have kB:=Kp.step2 hKB hKB2 (by intro n;simp[inR]) hKB;have kE:=Kp.step2 hKE hKE2 (by intro n;simp[inR]) hKE;rcases h with⟨rfl,hv0,h2⟩|⟨rfl,hv1⟩
   ·simp -dsimp -implicitDefEqProofs only[go_sem];exact⟨kO,kB,kE,h2⟩
   ·have q3:τ2 3 = .i (iN v):=(hK2 3 rfl).trans h3;have ev:(v:Int)-1=((v-1:Nat):Int):=by omega
    simp -dsimp -implicitDefEqProofs only[go_sem,q3,ev]
    repeat(refine And.intro (by omega) ?_)
    exact again (v-1) (by omega) ⟨(by(repeat apply am rfl);exact kO),kB,kE,v-1,rfl,by omega,rfl⟩
 ·rintro e τ β ε π hK hKB hKE ⟨rfl,h2⟩;simp -dsimp -implicitDefEqProofs only[go_sem,h2]
end Go.AM
namespace Go.AM
open Alg
open Go.Proofs
abbrev iz (a:Zp):IV := .c (.v (.int .u64 (a.val:Int)))
theorem De (k:Nat) (h:k<9223372036854775808):IntKind.wrap .i64 ((BitVec.ofInt (IntKind.bits .i64) (k:Int) &&& BitVec.ofInt (IntKind.bits .i64) 1).toNat:Nat)=((k % 2:Nat):Int):=by
 have e1:(BitVec.ofInt (IntKind.bits .i64) (k:Int)).toNat=k:=by
  rw[BitVec.toNat_ofInt];show((k:Int) % ((2 ^ 64:Nat):Int)).toNat=k;omega
 have e2:(BitVec.ofInt (IntKind.bits .i64) 1).toNat=1:=rfl;rw[BitVec.toNat_and,e1,e2,Nat.and_one_is_mod];have:k % 2=0\/k % 2=1:=by omega
 rcases this with h|h<;>rw[h]<;>rfl
theorem eU (P:Program) (T:TypeId) (x y:Operand) (k':IntKind) (a:Nat) (K:Value->Prop):d7 P .shr T x y (.int .i64 (a:Int)) (.int k' 1) K=K (.int .i64 ((a/2:Nat):Int)):=by
 rw[j7];have e:(a:Int).fdiv (2 ^ (min (Int.toNat 1) (IntKind.bits .i64)))=((a/2:Nat):Int):=by
  show(a:Int).fdiv 2=_;rw[Int.fdiv_eq_ediv_of_nonneg _ (by decide)];omega
 rw[e];simp
theorem zmul {a b:Zp}:((a.val:Int)*(b.val:Int) % 18446744073709551616).tmod 2147483647=(((a*b:Zp).val:Nat):Int):=by
 have h1:=a.isLt;have h2:=b.isLt;have h3:a.val*b.val<=2147483646*2147483646:=Nat.mul_le_mul (by omega) (by omega);have h4:((a.val:Int)*(b.val:Int))=((a.val*b.val:Nat):Int):=by simp
 rw[rJ,h4];rw[Int.tmod_eq_emod_of_nonneg (by omega)];omega
theorem Cw (b:Zp) (k:Nat):Alg.pw b k=(if k % 2=1 then b else 1)*Alg.pw (b*b) (k/2):=by
 have h1:∀ m,Alg.pw (b*b) m=Alg.pw b (m+m):=fun m=>by rw[Hb,wn]
 rw[h1];by_cases h:k % 2=1
 ·rw[if_pos h];have e:Alg.pw b k=Alg.pw b (1+(k/2+k/2)):=congrArg _ (by omega);rw[e,wn,AE]
 ·rw[if_neg h,one_mul];exact congrArg _ (by omega)
theorem oN (a:Zp) (n:Nat) (hn:n<9223372036854775808):Fn Tryz.prog 247 [iz a,iN n] [iz (Alg.pw a n)]:=by
 refine ak (fn:=Tryz.f247) (by rfl) rfl rfl rfl (by rfl) ?_;simp -dsimp -implicitDefEqProofs only[go_sem];refine aJ [(0,1),(5,20)] [] [] (fun m τ β ε=>∃(b o:Zp) (k:Nat),m=k/\k<=n/\Alg.pw a n=o*Alg.pw b k/\τ 0 = .i (iz b)/\τ 1 = .i (iN k)/\τ 5 = .i (iz o))
  (fun e τ β ε=>e = .exit 0/\τ 5 = .i (iz (Alg.pw a n))) n ?_ ?_ ?_
 ·exact⟨a,1,n,rfl,ae _,(one_mul _).symm,rfl,rfl,rfl⟩
 ·rintro m τ β ε π hK hKB hKE ⟨b,o,k,hm,hk,he,h0,h1,h5⟩;by_cases hk0:k=0
  ·have hA:¬ (0:Int)<(k:Int):=by omega
   simp -dsimp -implicitDefEqProofs only[go_sem,h1,hA];refine⟨(by(repeat apply am rfl);exact hK),hKB,hKE,?_⟩
   rw[h5,he,hk0];show AV.i (iz o)=AV.i (iz (o*1));rw[mul_one]
  ·have hA:(0:Int)<(k:Int):=by omega
   have ha:=De k (by omega);have e1:decide (((k % 2:Nat):Int)=1)=decide (k % 2=1):=by rw[decide_eq_decide];omega
   by_cases h2:k % 2=1
   ·rw[ai h2]at e1;simp -dsimp -implicitDefEqProofs only[go_sem,h1,hA,ha,e1,h5,h0,eU,zmul]
    repeat(refine And.intro (by omega) ?_)
    refine again (k/2) (by omega) ⟨(by(repeat apply am rfl);exact hK),hKB,hKE,b*b,o*b,k/2,rfl,by omega,?_,rfl,rfl,rfl⟩
    rw[he,Cw b k,if_pos h2,mul_assoc]
   ·rw[aj h2]at e1;simp -dsimp -implicitDefEqProofs only[go_sem,h1,hA,ha,e1,h5,h0,eU,zmul]
    repeat(refine And.intro (by omega) ?_)
    refine again (k/2) (by omega) ⟨(by(repeat apply am rfl);exact hK),hKB,hKE,b*b,o,k/2,rfl,by omega,?_,rfl,rfl,h5⟩
    rw[he,Cw b k,if_neg h2,one_mul]
 ·rintro e τ β ε π hK hKB hKE ⟨rfl,h5⟩;simp -dsimp -implicitDefEqProofs only[go_sem,h5]
end Go.AM
namespace Go.AM
open Alg
open Go.Proofs
open Classical
abbrev PZ:=Alg.P Zp
def zr (a:Zp):List C:=[.v (.int .u64 (a.val:Int))]
abbrev zl (l:List Zp):IV := .c (.lst (l.map zr))
def zp (l:List Zp):PZ:=⟨fun i=>l.getD i 0,⟨l.length,fun i hi=>by simp[List.getD,List.getElem?_eq_none hi]⟩⟩
theorem Jj (l:List Zp) (i:Nat):(zp l).c i=l.getD i 0:=rfl
theorem lB {l:List Zp} {i:Nat} (h:i<l.length):(zp l).c i=l[i]:=by rw[Jj];simp[List.getD,h]
theorem oA {l:List Zp} {i:Nat} (h:l.length<=i):(zp l).c i=0:=by rw[Jj];simp[List.getD,List.getElem?_eq_none h]
def TrZ (l:List Zp):Prop:=∀ h:0<l.length,l[l.length-1]≠0
theorem j3 {l:List Zp} (h:TrZ l):Alg.sz (zp l)=l.length:=jK (fun i hi=>oA hi) fun h0=>by
 rw[lB (by omega:l.length-1<l.length)];exact h (by omega)
noncomputable def rm (a b:PZ):PZ:=if h:b=0 then a else Classical.choose (Classical.choose_spec (nn a b h))
theorem Ct {a b s r:PZ} (hb:b≠0) (e:a=s*b+r) (hr:Alg.sz r<Alg.sz b):rm a b=r:=by
 rw[rm,dif_neg hb];have h:=Classical.choose_spec (Classical.choose_spec (nn a b hb));exact(qP (h.1.symm.trans e) h.2 hr).2
theorem Gx (a:PZ) {b:PZ} (hb:b≠0):∃ s,a=s*b+rm a b/\Alg.sz (rm a b)<Alg.sz b:=by
 obtain⟨q,r,e,hr⟩:=nn a b hb;exact⟨q,by rw[Ct hb e hr];exact e,by rw[Ct hb e hr];exact hr⟩
noncomputable def euc:Nat->PZ->PZ->PZ
 | 0,a,_=>a
 | n+1,a,b=>if b=0 then a else euc n b (rm a b)
theorem Bq {G:PZ}:∀(n:Nat) {a b:PZ},Dv G a->Dv G b->Dv G (euc n a b)
 | 0,_,_,h,_=>h
 | n+1,a,b,h,h'=>by
  simp only[euc];split
  ·exact h
  ·rename_i hb;obtain⟨s,e,_⟩:=Gx a hb;exact Bq n h' ((e ▸ h:Dv G (s*b+rm a b)).of_add (h'.mul_left s))
theorem Bp:∀(n:Nat) {a b:PZ},a≠0->euc n a b≠0
 | 0,_,_,h=>h
 | n+1,a,b,h=>by
  simp only[euc];split
  ·exact h
  ·rename_i hb;exact Bp n hb
theorem tH:∀(n m:Nat) (a b:PZ),Alg.sz b<=n->n<=m->euc m a b=euc n a b
 | 0,m,a,b,h,_=>by
  have hb:b=0:=ap.1 (by omega);cases m with
  | zero=>rfl
  | succ m=>simp only[euc];rw[if_pos hb]
 | n+1,m,a,b,h,hm=>by
  obtain⟨m,rfl⟩:∃ k,m=k+1:=⟨m-1,by omega⟩;simp only[euc];split
  ·rfl
  ·rename_i hb;obtain⟨s,_,hs⟩:=Gx a hb;exact tH n m b (rm a b) (by omega) (by omega)
theorem zsub {c f x:Zp}:(((x.val:Int)+(2147483647-(c.val:Int)) % 18446744073709551616*(f.val:Int) % 18446744073709551616) % 18446744073709551616).tmod 2147483647=(((x + -c*f:Zp).val:Nat):Int):=by
 have h1:=c.isLt;have h2:=f.isLt;have h3:=x.isLt;have hn:(-c:Zp).val=(2147483647-c.val) % 2147483647:=rfl;have h4:(2147483647-c.val)*f.val<=2147483647*2147483646:=Nat.mul_le_mul (by omega) (by omega);have h5:(2147483647-(c.val:Int)) % 18446744073709551616*(f.val:Int)=(((2147483647-c.val)*f.val:Nat):Int):=by
  rw[show(2147483647-(c.val:Int)) % 18446744073709551616=((2147483647-c.val:Nat):Int)by omega];simp
 rw[h5,Int.tmod_eq_emod_of_nonneg (by omega),zZ,rJ,hn];have h6:(2147483647-c.val) % 2147483647*f.val % 2147483647=(2147483647-c.val)*f.val % 2147483647:=by
  rw[Nat.mul_mod,Nat.mod_mod,<-Nat.mul_mod]
 rw[h6];generalize (2147483647-c.val)*f.val=w at *
 omega
def oh (rows:List (List C)) (l:List Zp):Prop:=∀(j:Nat) (h:j<l.length),rows[j]?=some (zr l[j])
theorem oh.of (l:List Zp):oh (l.map zr) l:=fun j h=>by simp[h]
def kQ (R b:List Zp) (f:Zp) (at' i:Nat):List Zp:=(List.range R.length).map fun j=>if at'<=j/\j<at'+i then R.getD j 0 + -(b.getD (j-at') 0)*f else R.getD j 0
theorem fC (R b:List Zp) (f:Zp) (at' i:Nat):(kQ R b f at' i).length=R.length:=by simp[kQ]
theorem fZ {R b:List Zp} {f:Zp} {at' i j:Nat} (h:j<(kQ R b f at' i).length):(kQ R b f at' i)[j]=if at'<=j/\j<at'+i then R.getD j 0 + -(b.getD (j-at') 0)*f else R.getD j 0:=by simp[kQ]
theorem va (R b:List Zp) (f:Zp) (at':Nat):kQ R b f at' 0=R:=by
 refine List.ext_getElem (fC ..) fun j h1 h2=>?_;rw[fZ,if_neg (by omega)];simp[List.getD,h2]
theorem FG {R b:List Zp} (f:Zp) {at':Nat} (h:at'+b.length=R.length):zp (kQ R b f at' b.length)=zp R-mon at' f*zp b:=by
 refine Alg.P.ext fun j=>?_;rw[iu,bY];rcases Nat.lt_or_ge j R.length with hj|hj
 ·rw[lB (by rw[fC];exact hj),fZ];by_cases h1:at'<=j
  ·rw[if_pos ⟨h1,by omega⟩,if_pos h1,Jj,Jj,sub_eq,neg_mul,mul_comm]
  ·rw[if_neg (fun h=>h1 h.1),if_neg h1,sub_zero];rfl
 ·rw[oA (by rw[fC];exact hj),oA hj,if_pos (by omega),oA (by omega),mul_zero,sub_zero]
theorem Cb {l:List Zp} {t:Nat} (h:∀ j (hj:j<l.length),t<=j->l[j]=0):zp (l.take t)=zp l:=by
 refine Alg.P.ext fun j=>?_;rcases Nat.lt_or_ge j l.length with hj|hj
 ·rcases Nat.lt_or_ge j t with h2|h2
  ·rw[lB (by simp;omega),lB hj,List.getElem_take]
  ·rw[oA (by simp;omega),lB hj,h j hj h2]
 ·rw[oA hj,oA (by simp;omega)]
theorem yi {R b:List Zp} {f:Zp} {at' i:Nat} {rows:List (List C)} (hi:i<b.length) (hj:at'+i<R.length) (h:oh rows (kQ R b f at' i)) :
  oh (rows.set (at'+i) (zr (R[at'+i] + -b[i]*f))) (kQ R b f at' (i+1)):=fun j hj2=>by
 rw[fC]at hj2;have h1:=h j (by rw[fC];exact hj2);have h2:=h (at'+i) (by rw[fC];exact hj);rw[List.getElem?_set];by_cases e:at'+i=j
 ·subst e;rw[if_pos rfl,if_pos (List.getElem?_eq_some_iff.1 h2).1,fZ,if_pos (by omega)];simp[List.getD,hj,hi]
 ·rw[if_neg e,h1,fZ,fZ];by_cases h3:at'<=j/\j<at'+i
  ·rw[if_pos h3,if_pos (by omega)]
  ·rw[if_neg h3,if_neg (by omega)]
noncomputable def pb (xs ys:List Zp):PZ:=if xs.length<ys.length then euc xs.length (zp ys) (zp xs)else euc ys.length (zp xs) (zp ys)
theorem Cc (l:List Zp):lens 1 (l.map zr):=fun r hr=>by obtain⟨a,-,rfl⟩:=List.mem_map.1 hr;rfl
theorem u7 {a:Zp} (h:a≠0):∃ v:Zp,v*a=1/\Fn Tryz.prog 247 [iz a,iN 2147483645] [iz v] :=
 ⟨_,zX h,oN a 2147483645 (by omega)⟩
set_option maxHeartbeats 1600000 in
theorem Ek {xs ys:List Zp} (hx:xs≠[]) (hy:ys≠[]) (tx:TrZ xs) (ty:TrZ ys) (lx:xs.length<=1048576) (ly:ys.length<=1048576):Fn Tryz.prog 228 [zl xs,zl ys] [iN ((Alg.sz (pb xs ys):Int)-1)]:=by
 have hx0:=List.length_pos_iff.2 hx;have hy0:=List.length_pos_iff.2 hy;refine ak (fn:=Tryz.f228) (by rfl) rfl rfl rfl (by rfl) ?_;simp -dsimp -implicitDefEqProofs only[go_sem,af];by_cases hlt:xs.length<ys.length
 case' pos =>
  have e1:decide ((xs.length:Int)<(ys.length:Int))=true:=ai (by omega);obtain⟨a,b,ha0,ta,tb,hle,la,hE,h0,h1⟩:∃ a b:List Zp,0<a.length/\TrZ a/\TrZ b/\b.length<=a.length/\a.length<=1048576/\pb xs ys=euc b.length (zp a) (zp b)/\zl ys=zl a/\zl xs=zl b :=
   ⟨ys,xs,by omega,ty,tx,by omega,ly,by rw[pb,if_pos hlt],rfl,rfl⟩
  simp -dsimp -implicitDefEqProofs only[go_sem,e1];have i0:∀ f:Nat->AV,f=f->AV.i (zl ys)=AV.i (zl a):=fun _ _=>by rw[h0]
  have i1:∀ f:Nat->AV,f=f->AV.i (zl xs)=AV.i (zl b):=fun _ _=>by rw[h1]
  clear h0 h1 hlt e1
 case' neg =>
  have e1:decide ((xs.length:Int)<(ys.length:Int))=false:=aj (by omega);obtain⟨a,b,ha0,ta,tb,hle,la,hE,h0,h1⟩:∃ a b:List Zp,0<a.length/\TrZ a/\TrZ b/\b.length<=a.length/\a.length<=1048576/\pb xs ys=euc b.length (zp a) (zp b)/\zl xs=zl a/\zl ys=zl b :=
   ⟨xs,ys,by omega,tx,ty,by omega,lx,by rw[pb,if_neg hlt],rfl,rfl⟩
  simp -dsimp -implicitDefEqProofs only[go_sem,e1];have i0:∀ f:Nat->AV,f=f->AV.i (zl xs)=AV.i (zl a):=fun _ _=>by rw[h0]
  have i1:∀ f:Nat->AV,f=f->AV.i (zl ys)=AV.i (zl b):=fun _ _=>by rw[h1]
  clear h0 h1 hlt e1
 all_goals
  refine aS [(0,1),(5,10),(18,92)] [] [(22,22)] (fun n τ β ε=>∃(a b:List Zp),n=b.length/\0<a.length/\TrZ a/\TrZ b/\b.length<=a.length/\a.length<=1048576/\pb xs ys=euc b.length (zp a) (zp b)/\τ 0 = .i (zl a)/\τ 1 = .i (zl b))
   (fun e τ β ε=>e = .exit 0/\∃ a:List Zp,0<a.length/\a.length<=1048576/\TrZ a/\pb xs ys=zp a/\τ 0 = .i (zl a)) b.length ?_ ?_ ?_
  ·exact⟨a,b,rfl,ha0,ta,tb,hle,la,hE,by simp -dsimp -implicitDefEqProofs only[go_sem];exact i0 (fun _ => .any) rfl,by simp -dsimp -implicitDefEqProofs only[go_sem];exact i1 (fun _ => .any) rfl⟩
  ·clear hE tb ta ha0 hle la i0 i1;rintro n τ β ε π hK hKB hKE ⟨a,b,hn,ha0,ta,tb,hle,la,hE,h0,h1⟩;by_cases hb:b=[]
   ·have hA:¬ (0:Int)<(b.length:Int):=by simp[hb]
    simp -dsimp -implicitDefEqProofs only[go_sem,h1,hA,af];refine⟨(by(repeat apply am rfl);exact hK),hKB,hKE,a,ha0,la,ta,?_,h0⟩
    rw[hE,hb];first|done|rfl
   ·have hb0:=List.length_pos_iff.2 hb;have hA:(0:Int)<(b.length:Int):=by omega
    have eb:(b.length:Int)-1=((b.length-1:Nat):Int):=by omega
    have gb:b[b.length-1]?=some b[b.length-1]:=ah (by omega);simp -dsimp -implicitDefEqProofs only[go_sem,h1,h0,hA,af];refine ao (by rfl) 11 [] true true (by rfl) (by rfl) (by decide +kernel) ?_;simp -dsimp -implicitDefEqProofs only[go_sem,h1,h0];refine bQ (zS (a.map zr) (Cc a) (by simp;omega)) ?_;simp -dsimp -implicitDefEqProofs only[go_sem,h1,h0,eb,af]
    repeat(refine And.intro (by omega) ?_)
    obtain⟨v,hv,hpw⟩:=u7 (tb hb0);refine av gb ?_;simp -dsimp -implicitDefEqProofs only[go_sem,zr];refine aa hpw rfl ?_;simp -dsimp -implicitDefEqProofs only[go_sem];refine aS [(5,5),(7,10),(30,90)] [] [(22,22)] (fun n τ' β' ε'=>∃(R:List Zp) (rows:List (List C)) (s:PZ),n=R.length/\TrZ R/\R.length<=a.length/\zp a=s*zp b+zp R/\oh rows R/\τ' 5 = .sl 22 ((ε 22).gen+1) R.length/\ε' 22=⟨(ε 22).gen+1,1,rows,true,true⟩)
     (fun e τ' β' ε'=>e = .exit 2/\∃(R:List Zp) (rows:List (List C)) (s:PZ),R.length<b.length/\TrZ R/\zp a=s*zp b+zp R/\oh rows R/\τ' 5 = .sl 22 ((ε 22).gen+1) R.length/\ε' 22=⟨(ε 22).gen+1,1,rows,true,true⟩) a.length ?_ ?_ ?_
    ·have hne:(a.map zr).isEmpty=false:=by cases a with|nil=>simp at ha0|cons _ _=>rfl
     exact⟨a,a.map zr,0,rfl,ta,ae _,by rw[zero_mul,zero_add],oh.of a,by simp -dsimp -implicitDefEqProofs only[go_sem],by simp -dsimp -implicitDefEqProofs only[go_sem,hne]⟩
    ·rintro n2 τ2 β2 ε2 π2 hK2 hKB2 hKE2 ⟨R,rows,s,hn2,tR,hRl,hRe,hrow,h5,h22⟩;have q1:τ2 1 = .i (zl b):=(hK2 1 rfl).trans h1;have q6:τ2 6 = .i (iz v):=(hK2 6 rfl).trans rfl;by_cases hlt:b.length<=R.length
     ·have hA2:(b.length:Int)<=(R.length:Int):=by omega
      have eR:(R.length:Int)-1=((R.length-1:Nat):Int):=by omega
      have eat:(R.length:Int)-(b.length:Int)=((R.length-b.length:Nat):Int):=by omega
      have hR0:0<R.length:=by omega
      simp -dsimp -implicitDefEqProofs only[go_sem,h5,q1,q6,hA2,eR,eat,af,h22]
      repeat(refine And.intro (by omega) ?_)
      refine⟨_,hrow (R.length-1) (by omega),?_⟩;simp -dsimp -implicitDefEqProofs only[go_sem,zr,zmul]
      repeat(refine And.intro (by omega) ?_)
      refine aS [(9,10),(51,73)] [] [(22,22)] (fun n τ' β' ε'=>∃(i:Nat) (rows':List (List C)),n=b.length-i/\i<=b.length/\τ' 51 = .i (iN i)/\oh rows' (kQ R b (R[R.length-1]*v) (R.length-b.length) i)/\ε' 22=⟨(ε 22).gen+1,1,rows',true,true⟩)
       (fun e τ' β' ε'=>e = .exit 4/\∃(rows':List (List C)),oh rows' (kQ R b (R[R.length-1]*v) (R.length-b.length) b.length)/\ε' 22=⟨(ε 22).gen+1,1,rows',true,true⟩) b.length ?_ ?_ ?_
      ·exact⟨0,rows,by omega,by omega,rfl,by rw[va];exact hrow,h22⟩
      ·rintro n3 τ3 β3 ε3 π3 hK3 hKB3 hKE3 ⟨i,rows',hn3,hi,h51,hrow',h22'⟩;have r49:τ3 49 = .i (zl b):=(hK3 49 rfl).trans rfl;have r50:τ3 50 = .i (iN b.length):=(hK3 50 rfl).trans rfl;have r5:τ3 5 = .sl 22 ((ε 22).gen+1) R.length:=(hK3 5 rfl).trans h5;have r7:τ3 7 = .i (iz (R[R.length-1]*v)):=by rw[hK3 7 (by decide)];simp -dsimp -implicitDefEqProofs only[go_sem,zmul]
       have r8:τ3 8 = .i (iN ((R.length-b.length:Nat):Int)):=by rw[hK3 8 (by decide)];simp -dsimp -implicitDefEqProofs only[go_sem,eat]
       by_cases hlt3:i<b.length
       ·have hA3:(i:Int)<(b.length:Int):=by omega
        have gbi:b[i]?=some b[i]:=by simp[hlt3]
        have ead:((R.length-b.length:Nat):Int)+(i:Int)=((R.length-b.length+i:Nat):Int):=by omega
        simp -dsimp -implicitDefEqProofs only[go_sem,h51,r50,r49,hA3];refine av gbi ?_;simp -dsimp -implicitDefEqProofs only[go_sem,zr,h51,r50,r49,r5,r7,r8,ead,h22']
        repeat(refine And.intro (by omega) ?_)
        have hji:R.length-b.length+i<R.length:=by omega
        have hr:rows'[R.length-b.length+i]?=some (zr R[R.length-b.length+i]):=by
         have:=hrow' (R.length-b.length+i) (by rw[fC];exact hji);rw[fZ,if_neg (by omega)]at this;rw[this];simp[List.getD,hji]
        refine⟨_,hr,?_⟩;simp -dsimp -implicitDefEqProofs only[go_sem,zr,zsub]
        repeat(refine And.intro (by omega) ?_)
        refine⟨_,hr,?_⟩;simp -dsimp -implicitDefEqProofs only[go_sem,zr]
        repeat(refine And.intro (by omega) ?_)
        refine again (b.length-(i+1)) (by omega) ⟨(by(repeat apply am rfl);exact hK3),hKB3,(by(repeat apply am rfl);exact hKE3),i+1,rows'.set (R.length-b.length+i) (zr (R[R.length-b.length+i] + -b[i]*(R[R.length-1]*v))),rfl,by omega,rfl,yi hlt3 (by omega) hrow',?_⟩
        simp -dsimp -implicitDefEqProofs only[go_sem,h22'];rfl
       ·have hA3:¬ (i:Int)<(b.length:Int):=by omega
        obtain rfl:i=b.length:=by omega
        simp -dsimp -implicitDefEqProofs only[go_sem,h51,r50,hA3];exact⟨(by(repeat apply am rfl);exact hK3),hKB3,hKE3,rows',hrow',h22'⟩
      ·rintro e τ3 β3 ε3 π3 hK3 hKB3 hKE3 ⟨rfl,rows',hrow',h22'⟩;refine⟨_,aY.refl _,?_⟩;have r5:τ3 5 = .sl 22 ((ε 22).gen+1) R.length:=(hK3 5 rfl).trans h5;have kO:=Kp.step2 hK2 hK3 (by intro n;simp[inR]<;>omega) (by(repeat apply am rfl);exact hK2)
       have kB:=Kp.step2 hKB2 hKB3 (by intro n;simp[inR]) hKB2;have kE:=Kp.step2 hKE2 hKE3 (by intro n;simp[inR]) hKE2;have hz:=FG (R:=R) (b:=b) (R[R.length-1]*v) (at':=R.length-b.length) (by omega);have hlast:∀(h:R.length-1<(kQ R b (R[R.length-1]*v) (R.length-b.length) b.length).length),(kQ R b (R[R.length-1]*v) (R.length-b.length) b.length)[R.length-1]=0:=fun h=>by
        rw[fZ,if_pos (by omega),show R.length-1-(R.length-b.length)=b.length-1 by omega];rw[show R.getD (R.length-1) 0=R[R.length-1]from lB (by omega),show b.getD (b.length-1) 0=b[b.length-1]from lB (by omega)];have e9 : -b[b.length-1]*(R[R.length-1]*v) = -(R[R.length-1]*(v*b[b.length-1])):=by rw[neg_mul,cS,mul_comm b[b.length-1] v]
        rw[e9,hv,mul_one,iP]
       generalize hR':kQ R b (R[R.length-1]*v) (R.length-b.length) b.length=R' at *
       have lR':R'.length=R.length:=by rw[<-hR',fC]
       simp -dsimp -implicitDefEqProofs only[go_sem];refine aS [(5,5),(74,90)] [] [] (fun n τ' β' ε'=>∃ t:Nat,n=t/\t<=R'.length/\(∀ j (hj:j<R'.length),t<=j->R'[j]=0)/\τ' 5 = .sl 22 ((ε 22).gen+1) t)
        (fun e τ' β' ε'=>e = .exit 6/\∃ t:Nat,t<=R'.length/\(∀ j (hj:j<R'.length),t<=j->R'[j]=0)/\(∀ h:t-1<R'.length,0<t->R'[t-1]≠0)/\τ' 5 = .sl 22 ((ε 22).gen+1) t) R'.length ?_ ?_ ?_
       ·exact⟨R'.length,rfl,ae _,fun j hj h=>by omega,by rw[lR'];exact r5⟩
       ·rintro n4 τ4 β4 ε4 π4 hK4 hKB4 hKE4 ⟨t,hn4,ht,hzero,h5'⟩;have s22:ε4 22=⟨(ε 22).gen+1,1,rows',true,true⟩:=by rw[hKE4 22 (by decide)];exact h22'
        by_cases ht0:t=0
        ·have hA4:¬ (0:Int)<(t:Int):=by omega
         simp -dsimp -implicitDefEqProofs only[go_sem,h5',s22,hA4];exact⟨(by(repeat apply am rfl);exact hK4),hKB4,hKE4,t,ht,hzero,fun _ h=>by omega,rfl⟩
        ·have hA4:(0:Int)<(t:Int):=by omega
         have et:(t:Int)-1=((t-1:Nat):Int):=by omega
         have hr4:=hrow' (t-1) (by omega);simp -dsimp -implicitDefEqProofs only[go_sem,h5',s22,hA4,et]
         repeat(refine And.intro (by omega) ?_)
         refine⟨_,hr4,?_⟩;simp -dsimp -implicitDefEqProofs only[go_sem,zr];by_cases hz4:R'[t-1]=0
         ·have e4:decide (((R'[t-1].val:Nat):Int)=0)=true:=ai (by rw[hz4];rfl);simp -dsimp -implicitDefEqProofs only[go_sem,e4,h5',s22,et]
          repeat(refine And.intro (by omega) ?_)
          refine again (t-1) (by omega) ⟨(by(repeat apply am rfl);exact hK4),hKB4,hKE4,t-1,rfl,by omega,fun j hj h=>?_,rfl⟩
          by_cases e:j=t-1
          ·subst e;exact hz4
          ·exact hzero j hj (by omega)
         ·have hv0:R'[t-1].val≠0:=fun h=>hz4 (kD h);have e4:decide (((R'[t-1].val:Nat):Int)=0)=false:=aj (by omega);simp -dsimp -implicitDefEqProofs only[go_sem,e4];exact⟨(by(repeat apply am rfl);exact hK4),hKB4,hKE4,t,ht,hzero,fun _ _=>hz4,h5'⟩
       ·rintro e τ4 β4 ε4 π4 hK4 hKB4 hKE4 ⟨rfl,t,ht,hzero,hnz,h5'⟩;refine⟨_,aY.refl _,?_⟩;have kO2:=Kp.step2 kO hK4 (by intro n;simp[inR]<;>omega) (by(repeat apply am rfl);exact kO)
        have kB2:=Kp.step2 kB hKB4 (by intro n;simp[inR]) kB;have kE2:=Kp.step2 kE hKE4 (by intro n;simp[inR]) kE;have s22:ε4 22=⟨(ε 22).gen+1,1,rows',true,true⟩:=by rw[hKE4 22 (by decide)];exact h22'
        have htl:t<R.length:=by
         rcases Nat.lt_or_ge t R.length with h|h
         ·exact h
         ·have e5:t=R.length:=by omega
          refine absurd ?_ (hnz (by omega) (by omega));have:=hlast (by omega);simpa only[e5]using this
        have lt':(R'.take t).length=t:=by simp;omega
        simp -dsimp -implicitDefEqProofs only[go_sem];refine again t (by omega) ⟨(by(repeat apply am rfl);exact kO2),kB2,kE2,R'.take t,rows',s+mon (R.length-b.length) (R[R.length-1]*v),lt'.symm,fun h=>?_,by omega,?_,fun j hj=>?_,by rw[lt'];exact h5',s22⟩
        ·rw[List.getElem_take];simp only[lt']at h ⊢;exact hnz (by omega) h
        ·rw[Cb hzero,hz,hRe,add_mul,sub_eq];rw[add_assoc,add_comm (zp R),<-add_assoc (mon _ _*zp b),iP,zero_add]
        ·rw[List.getElem_take];exact hrow' j (by simp at hj;omega)
     ·have hA2:¬ (b.length:Int)<=(R.length:Int):=by omega
      simp -dsimp -implicitDefEqProofs only[go_sem,h5,q1,hA2,af,h22];exact⟨(by(repeat apply am rfl);exact hK2),hKB2,hKE2,R,rows,s,by omega,tR,hRe,hrow,rfl,rfl⟩
    ·rintro e τ2 β2 ε2 π2 hK2 hKB2 hKE2 ⟨rfl,R,rows,s,hlt,tR,hRe,hrow,h5,h22⟩;refine⟨_,aY.refl _,?_⟩;have q1:τ2 1 = .i (zl b):=(hK2 1 rfl).trans h1;have kO:=Kp.step2 hK hK2 (by intro n;simp[inR]<;>omega) (by(repeat apply am rfl);exact hK)
     have kB:=Kp.step2 hKB hKB2 (by intro n;simp[inR]) hKB;have kE:=Kp.step2 hKE hKE2 (by intro n;simp[inR]) (by(repeat apply am rfl);exact hKE)
     have hb':zp b≠0:=fun e=>by
      have:=j3 tb;rw[e,ap.2 rfl]at this;omega
     have hrm:rm (zp a) (zp b)=zp R:=Ct hb' hRe (by rw[j3 tR,j3 tb];exact hlt);have hE':pb xs ys=euc R.length (zp b) (zp R):=by
      rw[hE];obtain⟨m,hm⟩:∃ m,b.length=m+1:=⟨b.length-1,by omega⟩;rw[hm];simp only[euc];rw[if_neg hb',hrm];exact tH _ _ _ _ (by rw[j3 tR];exact ae _) (by omega)
     have htake:rows.take R.length=R.map zr:=by
      refine List.ext_getElem? fun j=>?_;rw[List.getElem?_take,List.getElem?_map];split
      ·rename_i hj;rw[hrow j hj,ah hj];rfl
      ·rename_i hj;rw[List.getElem?_eq_none (by omega)];rfl
     simp -dsimp -implicitDefEqProofs only[go_sem,q1,h5];refine tX R.length ((aY.freeze _ 22).trans (aY.imm _ 1 (x:=zl R) ?_)) (by omega) ?_
     ·simp -dsimp -implicitDefEqProofs only[go_sem,h22,htake]
     ·refine⟨?_,?_,?_,b,R,rfl,hb0,tb,tR,by omega,by omega,hE',?_,?_⟩
      ·simp -dsimp -implicitDefEqProofs only[go_sem,kO]
      ·exact kB
      ·simp -dsimp -implicitDefEqProofs only[go_sem,kE]
      ·simp -dsimp -implicitDefEqProofs only[go_sem]
      ·simp -dsimp -implicitDefEqProofs only[go_sem]
  ·rintro e τ β ε π hK hKB hKE ⟨rfl,a,ha0,la,ta,hE,h0⟩;refine⟨_,aY.refl _,?_⟩;simp -dsimp -implicitDefEqProofs only[go_sem,h0,af];refine⟨by omega,?_⟩;rw[hE,j3 ta]
theorem ixX (e:Ex) (v:Nat) (hv:v<4):dz Tryz.prog (Instr.index 100 (.agg #[.int .i64 e.a,.int .i64 e.b,.int .i64 e.c,.int .i64 e.d]) (.int .i64 (v:Int))) (.int .i64 (e.at v)):=by
 intro w;have hu:=mt.hk;obtain⟨i,hi,hs⟩:=mt.hi;have hI:=mt.hI;obtain rfl|rfl|rfl|rfl:v=0\/v=1\/v=2\/v=3:=by omega
 all_goals simp[Instr.index,asIntOf,run_underlying hu,run_underlying hI,sizeOf,typeInfo,hi,hs,Go.part,isAgg,Ex.at]
def iw:Prop:=∀ z:Int,(lb z).length<=17179869184->Fn Tryz.prog 246 [iZ z] [iz (Alg.mp z)]
noncomputable def eA (p:PQ):List Zp:=(List.range (Alg.sz p)).map fun i=>rq (p.c i)
def tu (p:PQ):Prop:=∀ i,i<Alg.sz p->Alg.mp (p.c i).den≠0
noncomputable def qg (p:PQ):List IV:=if tu p then[zl (eA p),iB (decide (rq (lc p)≠0))]else[.c (.lst []),iB false]
theorem dy (p:PQ):(eA p).length=Alg.sz p:=by simp[eA]
noncomputable def seen (p:PQ) (L:List Tm) (j:Nat):Zp:=if ∃ t∈L,t.1.a=(j:Int)then rq (p.c j)else 0
theorem xP {i:Nat}:∀{L:List Tm},(∀ t∈L,t.1.a.toNat≠i)->(toP L).c i=0
 | [],_=>rfl
 | t::L,h=>by
  rw[aG,bK,xP fun t ht=>h t (by simp[ht]),bJ,if_neg (fun e=>h t (by simp) e.symm)];exact add_zero _
theorem Iy {p:PQ} {i:Nat} (h:p.c i≠0):((⟨(i:Int),0,0,0⟩:Ex),p.c i)∈U p:=by
 refine Classical.byContradiction fun hn=>h ?_;have:=xP (i:=i) (L:=U p) fun t ht e=>by
  obtain⟨j,hj,rfl,_⟩:=mO ht;simp only[Int.toNat_natCast]at e;subst e;exact hn ht
 rwa [gy]at this
theorem xZ (p:PQ) (j:Nat):seen p (U p) j=rq (p.c j):=by
 rw[seen];split
 ·rfl
 ·rename_i h;have h0:p.c j=0:=Classical.byContradiction fun hc=>h ⟨_,Iy hc,rfl⟩;rw[h0,rq];exact(zero_mul _).symm
theorem zadd {a b:Zp}:(((a.val:Int)+(b.val:Int)) % 18446744073709551616).tmod 2147483647=(((a+b:Zp).val:Nat):Int):=by
 have h1:=a.isLt;have h2:=b.isLt;rw[zZ,Int.tmod_eq_emod_of_nonneg (by omega)];omega
theorem zadd' {a b:Zp}:(((a.val+b.val:Nat):Int) % 18446744073709551616).tmod 2147483647=(((a+b:Zp).val:Nat):Int):=by
 rw[<-zadd];simp
theorem qt (hres:iw) {p:PQ} {h:Nat} (hp:Alg.HB h p) (hb:h<=137438953000) (hp0:p≠0) (sp:Alg.sz p<=1048576) (a:Nat) (ha:a<=1000000):Fn Tryz.prog 227 [iUp p,iN 0,.c (.v (.int .u64 (a:Int)))] (qg p):=by
 have h0:=az hp0;have es:(Alg.sz p:Int)-1+1=(Alg.sz p:Int):=by omega
 refine ak (fn:=Tryz.f227) (by rfl) rfl rfl rfl (by rfl) ?_;simp -dsimp -implicitDefEqProofs only[go_sem];refine an (gv p sp) ?_;simp -dsimp -implicitDefEqProofs only[go_sem,es,Int.toNat_natCast]
 repeat(refine And.intro (by omega) ?_)
 refine aS [(6,7),(10,14),(22,75)] [(10,10)] [(19,19)] (fun n τ β ε=>∃(i:Nat) (rows:List (List C)),n=(U p).length-i/\i<=(U p).length/\τ 22 = .i (iN i)/\ε 19=⟨1,1,rows,true,true⟩ /\
   (∀ j,j<Alg.sz p->rows[j]?=some (zr (seen p ((U p).take i) j)))/\∀ t∈(U p).take i,Alg.mp (t.2.den)≠0)
  (fun e τ β ε=>(e = .exit 0/\tu p/\∃ rows:List (List C),ε 19=⟨1,1,rows,true,true⟩/\∀ j,j<Alg.sz p->rows[j]?=some (zr (rq (p.c j)))) \/
   (e = .ret/\¬ tu p/\τ 6 = .fl []/\τ 7 = .i (.c (.v (.bool false))))) (U p).length ?_ ?_ ?_
 ·refine⟨0,List.replicate (Alg.sz p) [.v (.int .u64 0)],by omega,by omega,rfl,rfl,fun j hj=>?_,by simp⟩;rw[seen,if_neg (by simp)];simp[hj];rfl
 ·rintro n τ β ε π hK hKB hKE ⟨i,rows,hn,hi,h22,h19,hrows,hgood⟩;have k20:τ 20 = .i (iUp p):=(hK 20 rfl).trans rfl;have k21:τ 21 = .i (iN (U p).length):=by rw[hK 21 (by decide)];simp -dsimp -implicitDefEqProofs only[go_sem,af]
  have k8:τ 8 = .sl 19 1 (Alg.sz p):=(hK 8 rfl).trans rfl;have k1:τ 1 = .i (iN 0):=(hK 1 rfl).trans rfl;have k2:τ 2 = .i (.c (.v (.int .u64 (a:Int)))):=(hK 2 rfl).trans rfl;by_cases hlt:i<(U p).length
  ·have hA:(i:Int)<((U p).length:Int):=by omega
   obtain⟨e,he,het,hec⟩:=mO (List.getElem_mem hlt);have hg:(U p)[i]?=some (⟨(e:Int),0,0,0⟩,p.c e):=by rw[ah hlt,het]
   have hbd:=hp.coef e;simp -dsimp -implicitDefEqProofs only[go_sem,h22,k21,k20,hA];refine av hg ?_;simp -dsimp -implicitDefEqProofs only[go_sem,Int.reduceToNat,Int.reduceLE,ag];refine ar (args':=[iZ ((p.c e).den:Int)]) rfl (hres _ (ac (qe (z:=((p.c e).den:Int)) (by simpa using hbd.2)) (by omega))) ?_;by_cases hd:Alg.mp ((p.c e).den:Int)=0
   ·have e1:decide ((((Alg.mp ((p.c e).den:Int)).val:Nat):Int)=0)=true:=ai (by rw[hd];rfl);simp -dsimp -implicitDefEqProofs only[go_sem,e1];exact⟨(by(repeat apply am rfl);exact hK),hKB,hKE,fun hgd=>hgd e he hd⟩
   ·have hv0:(Alg.mp ((p.c e).den:Int)).val≠0:=fun h=>hd (kD h);have e1:decide ((((Alg.mp ((p.c e).den:Int)).val:Nat):Int)=0)=false:=aj (by omega);obtain⟨v,hv,hpw⟩:=u7 hd;have hrq:Alg.mp (p.c e).num*v=rq (p.c e):=by
     rw[rq];congr 1;exact o6 (by rw[mul_comm];exact hv)
    simp -dsimp -implicitDefEqProofs only[go_sem,e1,Int.reduceToNat,Int.reduceLE,ag];refine ar (args':=[iZ (p.c e).num]) rfl (hres _ (ac (qe hbd.1) (by omega))) ?_;simp -dsimp -implicitDefEqProofs only[go_sem];refine aa hpw rfl ?_;simp -dsimp -implicitDefEqProofs only[go_sem,zmul,hrq]
    repeat(refine And.intro (by omega) ?_)
    refine aJ [(12,14),(42,58)] [] [] (fun n τ' β' ε'=>∃ w:Nat,n=4-w/\w<=4/\τ' 42 = .i (iN w)/\τ' 12 = .i (iz (rq (p.c e))))
     (fun e' τ' β' ε'=>e' = .exit 2/\τ' 12 = .i (iz (rq (p.c e)))) 4 ?_ ?_ ?_
    ·exact⟨0,rfl,by omega,rfl,rfl⟩
    ·rintro n2 τ2 β2 ε2 π2 hK2 hKB2 hKE2 ⟨w,hn2,hw,h42,q12⟩;have q41:τ2 41 = .i (.g [.v (.int .i64 (e:Int)),.v (.int .i64 0),.v (.int .i64 0),.v (.int .i64 0)]):=(hK2 41 rfl).trans rfl;have q1:τ2 1 = .i (iN 0):=(hK2 1 rfl).trans k1;have q2:τ2 2 = .i (.c (.v (.int .u64 (a:Int)))):=(hK2 2 rfl).trans k2;obtain rfl|rfl|rfl|rfl|rfl:w=4\/w=0\/w=1\/w=2\/w=3:=by omega
     ·have h42':τ2 42 = .i (iN 4):=h42;simp -dsimp -implicitDefEqProofs only[go_sem,h42',Int.reduceLT,decide_false];exact⟨(by(repeat apply am rfl);exact hK2),hKB2,hKE2,q12⟩
     ·have h42':τ2 42 = .i (iN 0):=h42;simp -dsimp -implicitDefEqProofs only[go_sem,h42',q41,q1,q2,q12,Int.reduceLT,decide_true,Int.reduceToNat];refine⟨_,ixX ⟨(e:Int),0,0,0⟩ 0 (by omega),rfl,?_⟩
      repeat(refine And.intro (by omega) ?_)
      refine again (4-1) (by omega) ⟨(by(repeat apply am rfl);exact hK2),hKB2,hKE2,1,rfl,by omega,rfl,q12⟩
     ·have h42':τ2 42 = .i (iN 1):=h42;have ex:((a:Int)+1) % 18446744073709551616=((a+1:Nat):Int):=by omega
      simp -dsimp -implicitDefEqProofs only[go_sem,h42',q41,q1,q2,q12,Int.reduceLT,decide_true,Int.reduceToNat];refine⟨_,ixX ⟨(e:Int),0,0,0⟩ 1 (by omega),rfl,?_⟩;simp -dsimp -implicitDefEqProofs only[go_sem,h42',q41,q1,q2,q12,Int.reduceEq,decide_false];refine ar (args':=[iz ⟨a+1,by omega⟩,iN 0]) ?_ (oN ⟨a+1,by omega⟩ 0 (by omega)) ?_
      ·rw[show((a:Int)+1 % 18446744073709551616) % 18446744073709551616=((a+1:Nat):Int)by omega];rfl
      simp -dsimp -implicitDefEqProofs only[go_sem,zmul,h42']
      repeat(refine And.intro (by omega) ?_)
      refine again (4-2) (by omega) ⟨(by(repeat apply am rfl);exact hK2),hKB2,hKE2,2,rfl,by omega,rfl,?_⟩
      simp -dsimp -implicitDefEqProofs only[go_sem];rw[show Alg.pw (⟨a+1,by omega⟩:Zp) 0=1 from rfl,mul_one]
     ·have h42':τ2 42 = .i (iN 2):=h42;have ex:((a:Int)+2) % 18446744073709551616=((a+2:Nat):Int):=by omega
      simp -dsimp -implicitDefEqProofs only[go_sem,h42',q41,q1,q2,q12,Int.reduceLT,decide_true,Int.reduceToNat];refine⟨_,ixX ⟨(e:Int),0,0,0⟩ 2 (by omega),rfl,?_⟩;simp -dsimp -implicitDefEqProofs only[go_sem,h42',q41,q1,q2,q12,Int.reduceEq,decide_false];refine ar (args':=[iz ⟨a+2,by omega⟩,iN 0]) ?_ (oN ⟨a+2,by omega⟩ 0 (by omega)) ?_
      ·rw[show((a:Int)+2 % 18446744073709551616) % 18446744073709551616=((a+2:Nat):Int)by omega];rfl
      simp -dsimp -implicitDefEqProofs only[go_sem,zmul,h42']
      repeat(refine And.intro (by omega) ?_)
      refine again (4-3) (by omega) ⟨(by(repeat apply am rfl);exact hK2),hKB2,hKE2,3,rfl,by omega,rfl,?_⟩
      simp -dsimp -implicitDefEqProofs only[go_sem];rw[show Alg.pw (⟨a+2,by omega⟩:Zp) 0=1 from rfl,mul_one]
     ·have h42':τ2 42 = .i (iN 3):=h42;have ex:((a:Int)+3) % 18446744073709551616=((a+3:Nat):Int):=by omega
      simp -dsimp -implicitDefEqProofs only[go_sem,h42',q41,q1,q2,q12,Int.reduceLT,decide_true,Int.reduceToNat];refine⟨_,ixX ⟨(e:Int),0,0,0⟩ 3 (by omega),rfl,?_⟩;simp -dsimp -implicitDefEqProofs only[go_sem,h42',q41,q1,q2,q12,Int.reduceEq,decide_false];refine ar (args':=[iz ⟨a+3,by omega⟩,iN 0]) ?_ (oN ⟨a+3,by omega⟩ 0 (by omega)) ?_
      ·rw[show((a:Int)+3 % 18446744073709551616) % 18446744073709551616=((a+3:Nat):Int)by omega];rfl
      simp -dsimp -implicitDefEqProofs only[go_sem,zmul,h42']
      repeat(refine And.intro (by omega) ?_)
      refine again (4-4) (by omega) ⟨(by(repeat apply am rfl);exact hK2),hKB2,hKE2,4,rfl,by omega,rfl,?_⟩
      simp -dsimp -implicitDefEqProofs only[go_sem];rw[show Alg.pw (⟨a+3,by omega⟩:Zp) 0=1 from rfl,mul_one]
    ·rintro e' τ2 β2 ε2 π2 hK2 hKB2 hKE2 ⟨rfl,q12⟩;have r10:τ2 10 = .bp 10 ((β 10).gen+1) 0:=(hK2 10 rfl).trans rfl;have b10:β2 10=⟨(β 10).gen+1,eT (⟨(e:Int),0,0,0⟩,p.c e)⟩:=(hKB2 10 rfl).trans rfl;have r8:τ2 8 = .sl 19 1 (Alg.sz p):=(hK2 8 rfl).trans k8;have r1:τ2 1 = .i (iN 0):=(hK2 1 rfl).trans k1;have r22:τ2 22 = .i (iN i):=(hK2 22 rfl).trans h22;have f19:ε2 19=⟨1,1,rows,true,true⟩:=by rw[hKE2 19 (by decide)];exact h19
     have kO:=Kp.step2 hK hK2 (by intro n;simp[inR]<;>omega) (by(repeat apply am rfl);exact hK)
     have kB:=Kp.step2 hKB hKB2 (by intro n;simp[inR]) (by(repeat apply am rfl);exact hKB)
     have kE:=Kp.step2 hKE hKE2 (by intro n;simp[inR]) hKE;have hs0:seen p ((U p).take i) e=0:=by
      rw[seen,if_neg];rintro ⟨t,ht,hte⟩;obtain⟨j,hj,rfl⟩:=List.getElem_of_mem ht;simp only[List.length_take]at hj;rw[List.getElem_take]at hte;have h5:=(List.pairwise_iff_getElem.1 (il p).srt) j i (by omega) hlt (by omega);rw[jg ((il p).uv _ (List.getElem_mem _)) ((il p).uv _ (List.getElem_mem _)),het]at h5;simp only at h5;omega
     have hr0:=hrows e he;rw[hs0]at hr0;have hse:∀ j,seen p ((U p).take (i+1)) j=if j=e then rq (p.c e)else seen p ((U p).take i) j:=fun j=>by
      rw[ab hlt,het,seen,seen];by_cases hj:j=e
      ·subst hj;rw[if_pos ⟨_,by simp;right;rfl,rfl⟩,if_pos rfl]
      ·rw[if_neg hj];congr 1;refine propext ⟨?_,fun⟨t,ht,h5⟩=>⟨t,by simp[ht],h5⟩⟩;rintro ⟨t,ht,h5⟩;rcases List.mem_append.1 ht with ht|ht
       ·exact⟨t,ht,h5⟩
       ·simp at ht;subst ht;simp only at h5;omega
     simp -dsimp -implicitDefEqProofs only[go_sem];refine ao (by rfl) 16 [] false true (by rfl) (by rfl) (by decide +kernel) ?_;simp -dsimp -implicitDefEqProofs only[go_sem,r10,b10,r8,r1,q12,f19,Int.reduceToNat,Int.reduceLE,true_and,List.drop_zero,Int.toNat_natCast];refine⟨he,_,hr0,?_⟩;simp -dsimp -implicitDefEqProofs only[go_sem,zr,zadd,zadd'];refine⟨by decide,he,_,hr0,?_⟩;have hUl:=cJ p;simp -dsimp -implicitDefEqProofs only[go_sem,r22,zr]
     repeat(refine And.intro (by omega) ?_)
     refine again ((U p).length-(i+1)) (by omega) ⟨(by(repeat apply am rfl);exact kO),kB,(by(repeat apply am rfl);exact kE),i+1,rows.set e (zr (0+rq (p.c e))),rfl,by omega,rfl,by simp -dsimp -implicitDefEqProofs only[go_sem,f19];rfl,fun j hj=>?_,fun t ht=>?_⟩
     ·rw[List.getElem?_set,hse];by_cases hje:e=j
      ·subst hje;rw[if_pos rfl,if_pos (List.getElem?_eq_some_iff.1 hr0).1,if_pos rfl,zero_add];rfl
      ·rw[if_neg hje,if_neg (fun h=>hje h.symm)];exact hrows j hj
     ·rw[ab hlt,het]at ht;rcases List.mem_append.1 ht with ht|ht
      ·exact hgood t ht
      ·simp at ht;subst ht;exact hd
  ·have hA:¬ (i:Int)<((U p).length:Int):=by omega
   obtain rfl:i=(U p).length:=by omega
   rw[List.take_length]at hrows hgood;simp -dsimp -implicitDefEqProofs only[go_sem,h22,k21,hA];refine⟨(by(repeat apply am rfl);exact hK),hKB,hKE,?_,rows,h19,?_⟩
   ·intro j hj;by_cases hc:p.c j=0
    ·rw[hc];decide
    ·exact hgood _ (Iy hc)
   ·intro j hj;rw[<-xZ p j];exact hrows j hj
 ·rintro e τ β ε π hK hKB hKE h;refine⟨_,aY.refl _,?_⟩;rcases h with⟨rfl,hg,rows,h19,hrows⟩|⟨rfl,hg,h6,h7⟩
  ·have k8:τ 8 = .sl 19 1 (Alg.sz p):=(hK 8 rfl).trans rfl;have el:(Alg.sz p:Int)-1=((Alg.sz p-1:Nat):Int):=by omega
   simp -dsimp -implicitDefEqProofs only[go_sem,k8];refine ao (by rfl) 10 [] false true (by rfl) (by rfl) (by decide +kernel) ?_;simp -dsimp -implicitDefEqProofs only[go_sem,k8,h19,el]
   repeat(refine And.intro (by omega) ?_)
   refine⟨_,hrows (Alg.sz p-1) (by omega),?_⟩;simp -dsimp -implicitDefEqProofs only[go_sem,zr];have htake:rows.take (Alg.sz p)=(eA p).map zr:=by
    refine List.ext_getElem? fun j=>?_;rw[List.getElem?_take,List.getElem?_map];split
    ·rename_i hj;rw[hrows j hj,ah (by rw[dy];exact hj)];simp[eA]
    ·rename_i hj;rw[List.getElem?_eq_none (by rw[dy];omega)];rfl
   have hnz:(!decide ((((rq (p.c (Alg.sz p-1))).val:Nat):Int)=0))=decide (rq (lc p)≠0):=by
    rw[show lc p=p.c (Alg.sz p-1)from rfl];by_cases h0:rq (p.c (Alg.sz p-1))=0
    ·rw[h0];rfl
    ·have h1:(rq (p.c (Alg.sz p-1))).val≠0:=fun h=>h0 (kD h);rw[ai h0,aj (by omega)];rfl
   rw[qg,if_pos hg,htake,hnz]
  ·simp -dsimp -implicitDefEqProofs only[go_sem,h6,h7];rw[qg,if_neg hg]
def eI (p:PQ):Prop:=tu p/\rq (lc p)≠0
theorem th {p:PQ} (h:rq (lc p)≠0):TrZ (eA p):=fun h0=>by
 have e:(eA p)[(eA p).length-1]=rq (p.c ((eA p).length-1)):=by simp[eA]
 rw[e,dy];exact h
theorem i6 {p:PQ} (h:eI p):qg p=[zl (eA p),iB true]:=by rw[qg,if_pos h.1,ai h.2]
theorem ko {p:PQ} (h:¬ eI p):∃ L:List Zp,qg p=[zl L,iB false]:=by
 by_cases hg:tu p
 ·exact⟨eA p,by rw[qg,if_pos hg,aj (fun h2=>h ⟨hg,h2⟩)]⟩
 ·exact⟨[],by rw[qg,if_neg hg];rfl⟩
theorem zY (p:PQ) (i:Nat):(zp (eA p)).c i=rq (p.c i):=by
 rcases Nat.lt_or_ge i (Alg.sz p)with h|h
 ·rw[lB (by rw[dy];exact h)];simp[eA]
 ·rw[oA (by rw[dy];exact h),au h,rq];exact(zero_mul _).symm
noncomputable def bnd (p q:PQ):Int:=if eI p/\eI q then(Alg.sz (pb (eA p) (eA q)):Int)-1 else min ((Alg.sz p:Int)-1) ((Alg.sz q:Int)-1)
theorem Da {p q:PQ} (hp:2<=Alg.sz p) (hq:2<=Alg.sz q) (h:bnd p q=0):Cop p q:=by
 rw[bnd]at h;split at h
 ·rename_i hg;have hp0:p≠0:=fun e=>by rw[e,ap.2 rfl]at hp;omega
  refine JZ hp0 hg.1.1 (zY p) (by rw[zY];exact hg.1.2) hg.2.1 (zY q) fun g hg1 hg2=>?_;have hd:Dv g (pb (eA p) (eA q)):=by
   rw[pb];split
   ·exact Bq _ hg2 hg1
   ·exact Bq _ hg1 hg2
  have hne:pb (eA p) (eA q)≠0:=by
   have hz:∀ x:PQ,eI x->2<=Alg.sz x->zp (eA x)≠0:=fun x hx h2 e=>by
    have:=j3 (th hx.2);rw[e,ap.2 rfl,dy]at this;omega
   rw[pb];split
   ·exact Bp _ (hz q hg.2 hq)
   ·exact Bp _ (hz p hg.1 hp)
  obtain⟨c,hc⟩:=hd;have hc0:c≠0:=fun e=>hne (by rw[hc,e,mul_zero]);have hg0:g≠0:=fun e=>hne (by rw[hc,e,zero_mul]);have h1:=cO hg0 hc0;rw[<-hc]at h1;have:=az hc0;have:=az hg0;omega
 ·omega
theorem FF (hres:iw) {p q:PQ} {h k:Nat} (hp:Alg.HB h p) (hq:Alg.HB k q) (hb:h<=137438953000) (hb':k<=137438953000) (hp0:p≠0) (hq0:q≠0) (sp:Alg.sz p<=1048576) (sq:Alg.sz q<=1048576):Fn Tryz.prog 215 [iUp p,iUp q,iN 0] [iN (bnd p q)]:=by
 have hp1:=az hp0;have hq1:=az hq0;refine ak (fn:=Tryz.f215) (by rfl) rfl rfl rfl (by rfl) ?_;simp -dsimp -implicitDefEqProofs only[go_sem];refine aJ [(6,40)] [] [] (fun n τ β ε=>∃ i:Nat,n=3-i/\i<=3/\τ 12 = .i (.c (.v (.int .u64 (i:Int))))/\(1<=i->¬ (eI p/\eI q)))
  (fun e τ β ε=>(e = .exit 0/\¬ (eI p/\eI q))\/(e = .ret/\τ 6 = .i (iN (bnd p q)))) 3 ?_ ?_ ?_
 ·exact⟨0,by omega,by omega,rfl,fun h=>by omega⟩
 ·rintro n τ β ε π hK hKB hKE ⟨i,hn,hi,h12,hbad⟩;have k0:τ 0 = .i (iUp p):=(hK 0 rfl).trans rfl;have k1:τ 1 = .i (iUp q):=(hK 1 rfl).trans rfl;have k2:τ 2 = .i (iN 0):=(hK 2 rfl).trans rfl;by_cases hlt:i<3
  ·have hA:(i:Int)<3:=by omega
   have ea:((17:Int)+100*(i:Int) % 18446744073709551616) % 18446744073709551616=((17+100*i:Nat):Int):=by omega
   simp -dsimp -implicitDefEqProofs only[go_sem,h12,k0,k1,k2,hA,ea];refine an (qt hres hp hb hp0 sp (17+100*i) (by omega)) ?_;by_cases g1:eI p
   ·rw[i6 g1];simp -dsimp -implicitDefEqProofs only[go_sem,k1,k2,ea];refine an (qt hres hq hb' hq0 sq (17+100*i) (by omega)) ?_;by_cases g2:eI q
    ·rw[i6 g2];have hx:eA p≠[]:=fun e=>by have:=congrArg List.length e;rw[dy]at this;simp at this;omega
     have hy:eA q≠[]:=fun e=>by have:=congrArg List.length e;rw[dy]at this;simp at this;omega
     simp -dsimp -implicitDefEqProofs only[go_sem];refine aa (Ek hx hy (th g1.2) (th g2.2) (by rw[dy];exact sp) (by rw[dy];exact sq)) rfl ?_;simp -dsimp -implicitDefEqProofs only[go_sem];refine⟨(by(repeat apply am rfl);exact hK),hKB,hKE,?_⟩
     rw[bnd,if_pos ⟨g1,g2⟩]
    ·obtain⟨L,hL⟩:=ko g2;rw[hL];simp -dsimp -implicitDefEqProofs only[go_sem,h12];exact again (3-(i+1)) (by omega) ⟨(by(repeat apply am rfl);exact hK),hKB,hKE,i+1,rfl,by omega,by simp -dsimp -implicitDefEqProofs only[go_sem];refine congrArg (fun z=>AV.i (.c (.v (.int .u64 z)))) ?_;omega,fun _ h=>g2 h.2⟩
   ·obtain⟨L,hL⟩:=ko g1;rw[hL];simp -dsimp -implicitDefEqProofs only[go_sem,k1,k2,ea];refine an (qt hres hq hb' hq0 sq (17+100*i) (by omega)) ?_;obtain⟨M,b,hM⟩:∃(M:List Zp) (b:Bool),qg q=[zl M,iB b]:=by
     by_cases g2:eI q
     ·exact⟨_,_,i6 g2⟩
     ·obtain⟨M,hM⟩:=ko g2;exact⟨M,_,hM⟩
    rw[hM];simp -dsimp -implicitDefEqProofs only[go_sem,h12];exact again (3-(i+1)) (by omega) ⟨(by(repeat apply am rfl);exact hK),hKB,hKE,i+1,rfl,by omega,by simp -dsimp -implicitDefEqProofs only[go_sem];refine congrArg (fun z=>AV.i (.c (.v (.int .u64 z)))) ?_;omega,fun _ h=>g1 h.1⟩
  ·have hA:¬ (i:Int)<3:=by omega
   simp -dsimp -implicitDefEqProofs only[go_sem,h12,hA];exact⟨(by(repeat apply am rfl);exact hK),hKB,hKE,hbad (by omega)⟩
 ·rintro e τ β ε π hK hKB hKE h;rcases h with⟨rfl,hbad⟩|⟨rfl,h6⟩
  ·have k0:τ 0 = .i (iUp p):=(hK 0 rfl).trans rfl;have k1:τ 1 = .i (iUp q):=(hK 1 rfl).trans rfl;have k2:τ 2 = .i (iN 0):=(hK 2 rfl).trans rfl;simp -dsimp -implicitDefEqProofs only[go_sem,k0,k1,k2];refine an (gv p sp) ?_;simp -dsimp -implicitDefEqProofs only[go_sem,k1,k2];refine an (gv q sq) ?_;simp -dsimp -implicitDefEqProofs only[go_sem];rw[bnd,if_neg hbad]
  ·simp -dsimp -implicitDefEqProofs only[go_sem,h6]
def Sm (w:Nat) (n d:PQ):Prop:=∃ A B:Alg.P Int,A≠0/\B≠0/\n*toQ B=d*toQ A/\Alg.sz A<=w+1/\Alg.n1 A<=2 ^ w/\Alg.sz B<=w+1/\Alg.n1 B<=2 ^ w
theorem Sm.symm {w:Nat} {n d:PQ} (h:Sm w n d):Sm w d n:=by
 obtain⟨A,B,h1,h2,h3,h4,h5,h6,h7⟩:=h;exact⟨B,A,h2,h1,h3.symm,h6,h7,h4,h5⟩
noncomputable def kL:Nat->PQ->PQ->PQ
 | 0,_,q=>q
 | k+1,p,q=>if psr q (Alg.sz p) p=0 then q else if Alg.sz (psr q (Alg.sz p) p)=1 then 1 else kL k q (Alg.mo (psr q (Alg.sz p) p))
def zV (n d p q:PQ):Prop:=(p=n/\q=d)\/∃ s t s' t',Row n d p s t q s' t'
theorem wo {n d p q:PQ} {k:Nat} (hk':Alg.HB k p) (hk:Alg.HB k q) (hc:zV n d p q) (hq:q≠0) (hle:Alg.sz q<=Alg.sz p) :
  (∃ s t s' t',Row n d q s t (psr q (Alg.sz p) p) s' t')/\Alg.sz (psr q (Alg.sz p) p)<Alg.sz q/\(∃(c:Rat) (S:PQ),c≠0/\Alg.C c*p=S*q+psr q (Alg.sz p) p)/\Alg.HB (k+Alg.sz p*(k+1)) (psr q (Alg.sz p) p):=by
 obtain⟨_,h2,_,h4,c,S,h5,h6⟩:=mj hq hk (Alg.sz p) p k (ae _) hk';refine⟨?_,h2 hle,⟨c,S,h5,h6⟩,h4⟩;rcases hc with⟨rfl,rfl⟩|⟨s,t,s',t',row⟩
 ·exact⟨_,_,_,_,Row.first h5 hq hle h6 (h2 hle)⟩
 ·exact⟨_,_,_,_,row.next h5 hq h6 (h2 hle)⟩
theorem my {g p q r S:PQ} {c:Rat} (hc:c≠0) (e:Alg.C c*p=S*q+r) (h:IsG g q r):IsG g p q:=by
 have back:∀ x:PQ,Dv x (Alg.C c*p)->Dv x p:=fun x hx=>by
  have:=hx.mul_left (Alg.C (Alg.inv c));rwa [<-mul_assoc,<-bf,cx hc,bU,one_mul]at this
 refine⟨back g (e ▸ (h.1.mul_left S).add h.2.1),h.1,fun x hx hx'=>h.2.2 x hx' ?_⟩;have h1:Dv x (S*q+r):=e ▸ hx.mul_left (Alg.C c);exact h1.of_add (hx'.mul_left S)
theorem s8 {g q r:PQ} (hr:r≠0) (h:IsG g q (Alg.mo r)):IsG g q r:=by
 have e:Alg.C (lc r)*Alg.mo r=r:=by
  rw[Alg.mo,<-mul_assoc,<-bf,mul_inv (bu hr),bU,one_mul]
 exact⟨h.1,by rw[<-e];exact h.2.1.mul_left _,fun x hx hx'=>h.2.2 x hx (by rw[Alg.mo];exact hx'.mul_left _)⟩
theorem pn {n d q r s t s' t':PQ} (hr:r≠0) (row:Row n d q s t r s' t'):zV n d q (Alg.mo r):=by
 have:=row.scale (a:=(1:Rat)) (b:=Alg.inv (lc r)) (by decide) (eH (bu hr));rw[bU,one_mul,one_mul,one_mul]at this;exact .inr ⟨_,_,_,_,this⟩
theorem rp {n d q r s t s' t':PQ} {w h:Nat} (row:Row n d q s t r s' t') (hs:Sm w n d) (hn:Alg.HB h n) (hd:Alg.HB h d):Alg.HB (2*(Alg.hN w+h)+1) (Alg.mo r):=by
 obtain⟨A,B,h1,h2,h3,h4,h5,h6,h7⟩:=hs;exact row.size h2 h3 h4 h5 h6 h7 hn hd
theorem pP {n d:PQ} {w h:Nat} (hs:Sm w n d) (hn:Alg.HB h n) (hd:Alg.HB h d):∀(k:Nat) {p q:PQ},Alg.sz q<=k->q≠0->Alg.sz q<=Alg.sz p->zV n d p q->Alg.HB (2*(Alg.hN w+h)+1) p->Alg.HB (2*(Alg.hN w+h)+1) q ->
  IsG (kL k p q) p q/\Alg.HB (2*(Alg.hN w+h)+1) (kL k p q)/\Alg.sz (kL k p q)<=Alg.sz q/\kL k p q≠0
 | 0,p,q,hk,hq,_,_,_,_=>by have:=az hq;omega
 | k+1,p,q,hk,hq,hle,hc,hp',hq'=>by
  have hq1:=az hq;obtain⟨⟨s,t,s',t',row⟩,hlt,⟨c,S,hc0,e⟩,_⟩:=wo hp' hq' hc hq hle;simp only[kL];by_cases h0:psr q (Alg.sz p) p=0
  ·rw[if_pos h0];rw[h0]at e;exact⟨my hc0 e ⟨Dv.refl _,Dv.zero _,fun x hx _=>hx⟩,hq',ae _,hq⟩
  ·rw[if_neg h0];have h1:=az h0;by_cases h2:Alg.sz (psr q (Alg.sz p) p)=1
   ·rw[if_pos h2];have h3:=eX (Nat.le_of_eq h2);have h4:(psr q (Alg.sz p) p).c 0≠0:=fun e9=>by
     rw[e9,show Alg.C (0:Rat)=0 from cu]at h3;exact h0 h3
    have h5:Dv (psr q (Alg.sz p) p) (1:PQ):=⟨Alg.C (Alg.inv ((psr q (Alg.sz p) p).c 0)),by rw[h3];simp only[mJ];rw[<-bf,mul_inv h4];rfl⟩;refine⟨my hc0 e ⟨Dv.one _,Dv.one _,fun x _ hx=>hx.trans h5⟩,?_,?_,fv (R:=Rat) (by decide)⟩
    ·have:=Alg.HB.mon (h:=2*(Alg.hN w+h)+1) 0 (c:=1) (by have:=fN (2*(Alg.hN w+h)+1);show 1<=_;omega) (by have:=fN (2*(Alg.hN w+h)+1);show 1<=_;omega);rwa [cH]at this
    ·have:Alg.sz (1:PQ)=1:=iH (R:=Rat) (by decide);omega
   ·rw[if_neg h2];have hm:Alg.mo (psr q (Alg.sz p) p)≠0:=it h0;obtain⟨i1,i2,i3,i4⟩:=pP hs hn hd k (p:=q) (q:=Alg.mo (psr q (Alg.sz p) p)) (by rw[fh];omega) hm (by rw[fh];omega) (pn h0 row) hq' (rp row hs hn hd);refine⟨my hc0 e (s8 h0 i1),i2,?_,i4⟩;rw[fh]at i3;omega
theorem pQ:∀(k m:Nat) (p q:PQ),Alg.sz q<=k->k<=m->q≠0->Alg.sz q<=Alg.sz p->(∃ j,Alg.HB j p/\Alg.HB j q)->kL m p q=kL k p q
 | 0,m,p,q,h,_,hq,_,_=>by have:=az hq;omega
 | k+1,m,p,q,h,hm,hq,hle,⟨j,hj,hj'⟩=>by
  obtain⟨m,rfl⟩:∃ x,m=x+1:=⟨m-1,by omega⟩;obtain⟨_,h2,_,h4,_⟩:=mj hq hj' (Alg.sz p) p j (ae _) hj;have hlt:=h2 hle;simp only[kL];split
  ·rfl
  ·rename_i h0;split
   ·rfl
   ·exact pQ k m q (Alg.mo (psr q (Alg.sz p) p)) (by rw[fh];omega) (by omega) (it h0) (by rw[fh];omega) ⟨j+Alg.sz p*(j+1),hj'.mono (by omega),h4.mo⟩
noncomputable def nY (a b:PQ):PQ:=if bnd a b=0 then 1 else if Dv b a/\bnd a b=(Alg.sz b:Int)-1 then b else kL (Alg.sz b) a b
noncomputable def pO (n d:PQ):PQ:=if Alg.sz n<Alg.sz d then nY d n else nY n d
theorem Bw (a b:PQ) (hb:b≠0):(∃ s,Dv b a/\tO a b=[iUp s,iB true])\/(¬ Dv b a/\tO a b=[iM [],iB false]):=by
 by_cases h:Dv b a
 ·obtain⟨s,hs⟩:=h;exact .inl ⟨s,⟨s,hs⟩,ge hb (by rw[hs,mul_comm])⟩
 ·exact .inr ⟨h,by rw[tO,dif_neg h]⟩
set_option maxHeartbeats 1600000 in
theorem Lg (hres:iw) {n d:PQ} {w h N:Nat} (hs:Sm w n d) (hn:Alg.HB h n) (hd:Alg.HB h d) (sn:2<=Alg.sz n) (sd:2<=Alg.sz d) (tn:Alg.sz n<=N) (td:Alg.sz d<=N) (hN:N<=500000)
  (hb:(2*(Alg.hN w+h)+1)+(N+2)*((2*(Alg.hN w+h)+1)+1)+(2*(Alg.hN w+h)+1)<=68719476000):Fn Tryz.prog 193 [iUp n,iUp d,iN 0] [iUp (pO n d)]:=by
 refine ak (fn:=Tryz.f193) (by rfl) rfl rfl rfl (by rfl) ?_;simp -dsimp -implicitDefEqProofs only[go_sem];refine an (gv n (by omega)) ?_;simp -dsimp -implicitDefEqProofs only[go_sem];refine an (gv d (by omega)) ?_;by_cases hlt:Alg.sz n<Alg.sz d
 case' pos =>
  have e1:decide (((Alg.sz n:Int)-1)<((Alg.sz d:Int)-1))=true:=ai (by omega);have hU:pO n d=nY d n:=by rw[pO,if_pos hlt]
  simp -dsimp -implicitDefEqProofs only[go_sem,e1];obtain⟨a,b,hs,ha,hb',sa,sb,hle,ta,hU,h0,h1⟩:∃ a b:PQ,Sm w a b/\Alg.HB h a/\Alg.HB h b/\2<=Alg.sz a/\2<=Alg.sz b/\Alg.sz b<=Alg.sz a/\Alg.sz a<=N/\pO n d=nY a b/\iUp d=iUp a/\iUp n=iUp b:=⟨d,n,hs.symm,hd,hn,sd,sn,by omega,td,hU,rfl,rfl⟩;rw[h0,h1]
 case' neg =>
  have e1:decide (((Alg.sz n:Int)-1)<((Alg.sz d:Int)-1))=false:=aj (by omega);have hU:pO n d=nY n d:=by rw[pO,if_neg hlt]
  simp -dsimp -implicitDefEqProofs only[go_sem,e1];obtain⟨a,b,hs,ha,hb',sa,sb,hle,ta,hU,h0,h1⟩:∃ a b:PQ,Sm w a b/\Alg.HB h a/\Alg.HB h b/\2<=Alg.sz a/\2<=Alg.sz b/\Alg.sz b<=Alg.sz a/\Alg.sz a<=N/\pO n d=nY a b/\iUp n=iUp a/\iUp d=iUp b:=⟨n,d,hs,hn,hd,sn,sd,by omega,tn,hU,rfl,rfl⟩;rw[h0,h1]
 all_goals
  clear h0 h1 e1 hlt;rw[hU];have ha0:a≠0:=fun e=>by rw[e,ap.2 rfl]at sa;omega
  have hb0:b≠0:=fun e=>by rw[e,ap.2 rfl]at sb;omega
  have hspec:=fun(k:Nat) (p q:PQ) => @pP a b w h hs ha hb' k p q;have hmo:=fun(q r s t s' t':PQ) (row:Row a b q s t r s' t')=>rp row hs ha hb';have hHle:h<=2*(Alg.hN w+h)+1:=by omega
  generalize 2*(Alg.hN w+h)+1=H at *
  have hA:=ha.mono hHle;have hB:=hb'.mono hHle;have hNH:∀ x:Nat,x<=N->(x+2)*(H+1)<=(N+2)*(H+1):=fun x hx=>Nat.mul_le_mul_right _ (by omega);have hNa:=hNH _ ta;have hH1:H+1<=(N+2)*(H+1):=Nat.le_mul_of_pos_left _ (by omega);refine an (FF hres hA hB (by omega) (by omega) ha0 hb0 (by omega) (by omega)) ?_;by_cases hm:bnd a b=0
  ·have e2:decide (bnd a b=0)=true:=ai hm;simp -dsimp -implicitDefEqProofs only[go_sem,e2];refine an oR ?_;simp -dsimp -implicitDefEqProofs only[go_sem];rw[nY,if_pos hm]
  ·have e2:decide (bnd a b=0)=false:=aj hm;simp -dsimp -implicitDefEqProofs only[go_sem,e2];refine an (rI hA hB hb0 (by omega) (by omega) (by omega)) ?_;have fin:¬ (Dv b a/\bnd a b=(Alg.sz b:Int)-1)->nY a b=kL (Alg.sz b) a b:=fun hn=>by rw[nY,if_neg hm,if_neg hn]
   rcases Bw a b hb0 with⟨s,hdv,hR⟩|⟨hdv,hR⟩<;>rw[hR]
   ·by_cases hmb:bnd a b=(Alg.sz b:Int)-1
    ·have e3:decide (bnd a b=(Alg.sz b:Int)-1)=true:=ai hmb;simp -dsimp -implicitDefEqProofs only[go_sem];refine an (gv b (by omega)) ?_;simp -dsimp -implicitDefEqProofs only[go_sem,e3];rw[nY,if_neg hm,if_pos ⟨hdv,hmb⟩]
    ·have e3:decide (bnd a b=(Alg.sz b:Int)-1)=false:=aj hmb;simp -dsimp -implicitDefEqProofs only[go_sem];refine an (gv b (by omega)) ?_;simp -dsimp -implicitDefEqProofs only[go_sem,e3];rw[fin fun h=>hmb h.2];refine aJ [(0,1),(6,6),(10,11),(43,65)] [] [] (fun n τ β ε=>∃ p q:PQ,n=Alg.sz q/\2<=Alg.sz q/\Alg.sz q<=Alg.sz p/\Alg.sz p<=N/\Alg.HB H p/\Alg.HB H q/\kL (Alg.sz q) p q=kL (Alg.sz b) a b/\zV a b p q/\τ 0 = .i (iUp p)/\τ 1 = .i (iUp q))
      (fun e τ β ε=>e = .ret/\τ 6 = .i (iUp (kL (Alg.sz b) a b))) (Alg.sz b) ?_ ?_ ?_
     ·exact⟨a,b,rfl,sb,hle,ta,hA,hB,rfl,.inl ⟨rfl,rfl⟩,rfl,rfl⟩
     ·rintro n τ β ε π hK hKB hKE ⟨p,q,hn,sq,hle,tp,hp,hq,he,hc,h0,h1⟩;have k2:τ 2 = .i (iN 0):=(hK 2 rfl).trans rfl;have hp0:p≠0:=fun e=>by rw[e,ap.2 rfl]at hle;omega
      have hq0:q≠0:=fun e=>by rw[e,ap.2 rfl]at sq;omega
      obtain⟨⟨s,t,s',t',row⟩,hlt,_,hr⟩:=wo hp hq hc hq0 hle;have hNp:=hNH _ tp;have hNp2:Alg.sz p*(H+1)<=(Alg.sz p+2)*(H+1):=Nat.mul_le_mul_right _ (by omega);have call:=up hp hq hp0 hq0 (by omega) (by omega) (by omega);obtain⟨m,hm⟩:∃ m,Alg.sz q=m+1:=⟨Alg.sz q-1,by omega⟩;have hmore:=pQ (Alg.sz (Alg.mo (psr q (Alg.sz p) p))) m q (Alg.mo (psr q (Alg.sz p) p));rw[hm]at he;simp only[kL]at he;generalize psr q (Alg.sz p) p=r at *
      have hz:decide (((U r).length:Int)=0)=decide (r=0):=by
       rw[decide_eq_decide];constructor
       ·intro h;exact mN.1 (List.eq_nil_of_length_eq_zero (by omega))
       ·rintro rfl;rw[bR];rfl
      simp -dsimp -implicitDefEqProofs only[go_sem,h0,h1,k2];refine an call ?_;by_cases r0:r=0
      ·rw[ai r0]at hz;rw[if_pos r0]at he;simp -dsimp -implicitDefEqProofs only[go_sem,hz,h1,af];exact⟨(by(repeat apply am rfl);exact hK),hKB,hKE,by rw[he]⟩
      ·rw[aj r0]at hz;rw[if_neg r0]at he;simp -dsimp -implicitDefEqProofs only[go_sem,hz,h1,k2,af];refine an (gv r (by omega)) ?_;by_cases r1:Alg.sz r=1
       ·have e5:decide ((Alg.sz r:Int)-1=0)=true:=ai (by omega);rw[if_pos r1]at he;simp -dsimp -implicitDefEqProofs only[go_sem,e5];refine an oR ?_;simp -dsimp -implicitDefEqProofs only[go_sem];exact⟨(by(repeat apply am rfl);exact hK),hKB,hKE,by rw[he]⟩
       ·have e5:decide ((Alg.sz r:Int)-1=0)=false:=aj (by omega);have r2:=az r0;rw[if_neg r1]at he;simp -dsimp -implicitDefEqProofs only[go_sem,e5,h1,k2];refine an (nL hr (by omega) (by omega)) ?_;simp -dsimp -implicitDefEqProofs only[go_sem];refine an (jA hr (by omega) (by omega)) ?_;simp -dsimp -implicitDefEqProofs only[go_sem];refine again (Alg.sz (Alg.mo r)) (by rw[fh];omega) ⟨(by(repeat apply am rfl);exact hK),hKB,hKE,q,Alg.mo r,rfl,by rw[fh];omega,by rw[fh];omega,by omega,hq,hmo _ _ _ _ _ _ row,?_,pn r0 row,rfl,rfl⟩
        rw[<-hmore (ae _) (by rw[fh];omega) (it r0) (by rw[fh];omega) ⟨H,hq,hmo _ _ _ _ _ _ row⟩];exact he
     ·rintro e τ β ε π hK hKB hKE ⟨rfl,h6⟩;simp -dsimp -implicitDefEqProofs only[go_sem,h6]
   ·simp -dsimp -implicitDefEqProofs only[go_sem];rw[fin fun h=>hdv h.1];refine aJ [(0,1),(6,6),(10,11),(43,65)] [] [] (fun n τ β ε=>∃ p q:PQ,n=Alg.sz q/\2<=Alg.sz q/\Alg.sz q<=Alg.sz p/\Alg.sz p<=N/\Alg.HB H p/\Alg.HB H q/\kL (Alg.sz q) p q=kL (Alg.sz b) a b/\zV a b p q/\τ 0 = .i (iUp p)/\τ 1 = .i (iUp q))
     (fun e τ β ε=>e = .ret/\τ 6 = .i (iUp (kL (Alg.sz b) a b))) (Alg.sz b) ?_ ?_ ?_
    ·exact⟨a,b,rfl,sb,hle,ta,hA,hB,rfl,.inl ⟨rfl,rfl⟩,rfl,rfl⟩
    ·rintro n τ β ε π hK hKB hKE ⟨p,q,hn,sq,hle,tp,hp,hq,he,hc,h0,h1⟩;have k2:τ 2 = .i (iN 0):=(hK 2 rfl).trans rfl;have hp0:p≠0:=fun e=>by rw[e,ap.2 rfl]at hle;omega
     have hq0:q≠0:=fun e=>by rw[e,ap.2 rfl]at sq;omega
     obtain⟨⟨s,t,s',t',row⟩,hlt,_,hr⟩:=wo hp hq hc hq0 hle;have hNp:=hNH _ tp;have hNp2:Alg.sz p*(H+1)<=(Alg.sz p+2)*(H+1):=Nat.mul_le_mul_right _ (by omega);have call:=up hp hq hp0 hq0 (by omega) (by omega) (by omega);obtain⟨m,hm⟩:∃ m,Alg.sz q=m+1:=⟨Alg.sz q-1,by omega⟩;have hmore:=pQ (Alg.sz (Alg.mo (psr q (Alg.sz p) p))) m q (Alg.mo (psr q (Alg.sz p) p));rw[hm]at he;simp only[kL]at he;generalize psr q (Alg.sz p) p=r at *
     have hz:decide (((U r).length:Int)=0)=decide (r=0):=by
      rw[decide_eq_decide];constructor
      ·intro h;exact mN.1 (List.eq_nil_of_length_eq_zero (by omega))
      ·rintro rfl;rw[bR];rfl
     simp -dsimp -implicitDefEqProofs only[go_sem,h0,h1,k2];refine an call ?_;by_cases r0:r=0
     ·rw[ai r0]at hz;rw[if_pos r0]at he;simp -dsimp -implicitDefEqProofs only[go_sem,hz,h1,af];exact⟨(by(repeat apply am rfl);exact hK),hKB,hKE,by rw[he]⟩
     ·rw[aj r0]at hz;rw[if_neg r0]at he;simp -dsimp -implicitDefEqProofs only[go_sem,hz,h1,k2,af];refine an (gv r (by omega)) ?_;by_cases r1:Alg.sz r=1
      ·have e5:decide ((Alg.sz r:Int)-1=0)=true:=ai (by omega);rw[if_pos r1]at he;simp -dsimp -implicitDefEqProofs only[go_sem,e5];refine an oR ?_;simp -dsimp -implicitDefEqProofs only[go_sem];exact⟨(by(repeat apply am rfl);exact hK),hKB,hKE,by rw[he]⟩
      ·have e5:decide ((Alg.sz r:Int)-1=0)=false:=aj (by omega);have r2:=az r0;rw[if_neg r1]at he;simp -dsimp -implicitDefEqProofs only[go_sem,e5,h1,k2];refine an (nL hr (by omega) (by omega)) ?_;simp -dsimp -implicitDefEqProofs only[go_sem];refine an (jA hr (by omega) (by omega)) ?_;simp -dsimp -implicitDefEqProofs only[go_sem];refine again (Alg.sz (Alg.mo r)) (by rw[fh];omega) ⟨(by(repeat apply am rfl);exact hK),hKB,hKE,q,Alg.mo r,rfl,by rw[fh];omega,by rw[fh];omega,by omega,hq,hmo _ _ _ _ _ _ row,?_,pn r0 row,rfl,rfl⟩
       rw[<-hmore (ae _) (by rw[fh];omega) (it r0) (by rw[fh];omega) ⟨H,hq,hmo _ _ _ _ _ _ row⟩];exact he
    ·rintro e τ β ε π hK hKB hKE ⟨rfl,h6⟩;simp -dsimp -implicitDefEqProofs only[go_sem,h6]
end Go.AM
