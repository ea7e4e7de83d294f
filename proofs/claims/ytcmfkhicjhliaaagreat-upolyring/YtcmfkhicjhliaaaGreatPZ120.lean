/- Lemmas, part 21 of 24: Reference R7: coefficients, powers, pseudo remainders in one variable; Reference R8: normal forms, contents; Reference R8: residues, powers, remainders modulo a prime; Reference R8: images modulo a prime, bounds; Reference R8: greatest common divisors in one variable. No condition. -/
import Derived.Test.YtcmfkhicjhliaaaGreatPZ119
set_option maxRecDepth 65536
set_option linter.unusedSimpArgs false
set_option linter.unusedVariables false
set_option linter.unusedSectionVars false
namespace Go.AM
open Alg
open Go.Proofs
theorem fB (p:PQ) (sp:Alg.sz p<=1048576):Fn Tryz.prog 44 [iUp p,iN 0] [iN ((Alg.sz p:Int)-1)]:=by
 have:=ub (U p) 0 (by omega) (by have:=cO p;omega);rwa [qe]at this
theorem oc (p:PQ) (k:Nat) (sp:Alg.sz p<=1048576):Fn Tryz.prog 172 [iUp p,iN 0,iN k] [iUp (Alg.C (p.c k))]:=by
 have:=BT (U p) 0 k (by omega) (by have:=cO p;omega);rwa [yY]at this
theorem Fj (p:PQ) (hp:p≠0) (sp:Alg.sz p<=1048576):Fn Tryz.prog 171 [iUp p,iN 0] [iUp (Alg.C (lc p))]:=by
 have h0:=aA hp;refine ao kd (fn:=Tryz.f171) (by rfl) rfl rfl rfl (by rfl) (by simp) (by rfl) ?_;simp -dsimp -implicitDefEqProofs only[go_sem];refine am (fB p sp) ?_;simp -dsimp -implicitDefEqProofs only[go_sem];refine ar (args':=[iUp p,iN 0,iN ((Alg.sz p-1:Nat):Int)]) (by rw[show((Alg.sz p-1:Nat):Int)=(Alg.sz p:Int)-1 by omega]) (oc p (Alg.sz p-1) sp) ?_;simp -dsimp -implicitDefEqProofs only[go_sem];rfl
theorem U_X:U (mon 1 1)=[(e0.to 0 1,1)]:=by rw[zi 1 (by decide)];rfl
theorem pB (n:Nat):Alg.HB 0 (mon n 1):=Alg.HB.mon n (by decide) (by decide)
theorem rh (n:Nat):Alg.sz (mon n (1:Rat))=n+1:=lS n (by decide)
theorem mA:fH ((1:Int):Rat)=U (mon 0 1):=by
 rw[zi 0 (by decide)];rfl
theorem Iu (n:Nat) (hn:n<=524286):Fn Tryz.prog 173 [iUp (mon 1 1),iN n] [iUp (mon n 1)]:=by
 refine ao kd (fn:=Tryz.f173) (by rfl) rfl rfl rfl (by rfl) (by simp) (by rfl) ?_;have e1:decide ((n:Int)<0)=false:=aj (by omega);simp -dsimp -implicitDefEqProofs only[go_sem,e1];refine am (Fc 1 (by decide)) ?_;simp -dsimp -implicitDefEqProofs only[go_sem];refine aH [(5,6),(11,18)] [] [] (fun m τ β ε=>∃ i:Nat,m=n-i/\i<=n/\τ 6 = .i (iN i)/\τ 5 = .i (iUp (mon i 1)))
  (fun e τ β ε=>e = .exit 0/\τ 5 = .i (iUp (mon n 1))) n ?_ ?_ ?_
 ·exact⟨0,by omega,by omega,rfl,by simp -dsimp -implicitDefEqProofs only[go_sem];rw[mA]⟩
 ·rintro m τ β ε π hK hKB hKE ⟨i,hm,hi,h6,h5⟩;have k0:τ 0 = .i (iUp (mon 1 1)):=(hK 0 rfl).trans rfl;have k1:τ 1 = .i (iN n):=(hK 1 rfl).trans rfl;by_cases hlt:i<n
  ·have dA:decide ((i:Int)<(n:Int))=true:=ai (by omega);simp -dsimp -implicitDefEqProofs only[go_sem,h6,h5,k0,k1,dA];refine am (dK (pB i) (pB 1) (by omega) (by rw[rh];omega) (by rw[rh];omega)) ?_;rw[dx];simp -dsimp -implicitDefEqProofs only[go_sem,h6]
   repeat(refine And.intro (by omega) ?_)
   refine again (n-(i+1)) (by omega) ⟨(by(repeat apply ak rfl);exact hK),(by(repeat apply ak rfl);exact hKB),(by(repeat apply ak rfl);exact hKE),i+1,rfl,by omega,rfl,?_⟩
   simp -dsimp -implicitDefEqProofs only[go_sem];rw[show(1:Rat)*1=1 from Rat.mul_one 1]
  ·have dA:decide ((i:Int)<(n:Int))=false:=aj (by omega);obtain rfl:i=n:=by omega
   simp -dsimp -implicitDefEqProofs only[go_sem,h6,k1,dA];exact⟨(by(repeat apply ak rfl);exact hK),(by(repeat apply ak rfl);exact hKB),(by(repeat apply ak rfl);exact hKE),h5⟩
 ·rintro e τ β ε π hK hKB hKE ⟨rfl,h5⟩;simp -dsimp -implicitDefEqProofs only[go_sem,h5]
theorem qQ {p q:PQ} {h k:Nat} (hp:Alg.HB h p) (hq:Alg.HB k q) (hq0:q≠0) (hb:h+(Alg.sz p+2)*(k+1)+2*k<=68719476000) (sp:Alg.sz p<=262144) (sq:Alg.sz q<=262144):Fn Tryz.prog 135 [iUp p,iUp q,iN 0] [iUp (psr q (Alg.sz p) p),iN 0]:=by
 obtain⟨Q,hQ⟩:=fJ hq0;have lQ:(U q).length=Q.length+1:=by rw[hQ];rfl
 have e1:decide (((U q).length:Int)=0)=false:=by rw[lQ];exact aj (by omega)
 have hq1:=aA hq0;refine ao kd (fn:=Tryz.f135) (by rfl) rfl rfl rfl (by rfl) (by simp) (by rfl) ?_;simp -dsimp -implicitDefEqProofs only[go_sem,e1,af];refine am (fB q (by omega)) ?_;simp -dsimp -implicitDefEqProofs only[go_sem];refine am (Fj q hq0 (by omega)) ?_;simp -dsimp -implicitDefEqProofs only[go_sem];refine am (fB p (by omega)) ?_;simp -dsimp -implicitDefEqProofs only[go_sem];refine aH [(10,12),(27,49)] [] [] (fun n τ β ε=>∃(t:Nat) (r:PQ) (j:Nat),n=t/\Alg.sz r<=t/\psr q t r=psr q (Alg.sz p) p/\t<=Alg.sz p/\j+t<=Alg.sz p/\Alg.HB (h+j*(k+1)) r/\τ 11 = .i (iN ((t:Int)-1))/\τ 10 = .i (iUp r))
  (fun e τ β ε=>e = .exit 0/\τ 10 = .i (iUp (psr q (Alg.sz p) p))) (Alg.sz p) ?_ ?_ ?_
 ·exact⟨Alg.sz p,p,0,rfl,ae _,rfl,ae _,by omega,by simpa using hp,rfl,rfl⟩
 ·rintro n τ β ε π hK hKB hKE ⟨t,r,j,hn,hs,hps,htp,hjt,hr,h11,h10⟩;have k1:τ 1 = .i (iUp q):=(hK 1 rfl).trans rfl;have k2:τ 2 = .i (iN 0):=(hK 2 rfl).trans rfl;have k8:τ 8 = .i (iN ((Alg.sz q:Int)-1)):=(hK 8 rfl).trans rfl;have k9:τ 9 = .i (iUp (Alg.C (lc q))):=(hK 9 rfl).trans rfl;by_cases hlt:Alg.sz q<=t
  ·obtain⟨t',rfl⟩:∃ t',t=t'+1:=⟨t-1,by omega⟩;have ei:((t'+1:Nat):Int)-1=(t':Int):=by omega
   have dA:decide (((Alg.sz q:Int)-1)<=(t':Int))=true:=ai (by omega);have ek:(t':Int)-((Alg.sz q:Int)-1)=((t'+1-Alg.sz q:Nat):Int):=by omega
   rw[ei]at h11;have hjk:j*(k+1)+(k+1)<=(Alg.sz p+2)*(k+1):=by rw[<-Nat.succ_mul];exact Nat.mul_le_mul_right _ (by omega)
   have c1:=gG (r.c t');have c2:=gG (lc q);have c3:=aM (Alg.C (r.c t')) (mon (t'+1-Alg.sz q) 1);have c4:=aM (Alg.C (lc q)) r;have c5:=aM (Alg.C (r.c t')*mon (t'+1-Alg.sz q) 1) q;rw[rh]at c3;simp -dsimp -implicitDefEqProofs only[go_sem,h10,h11,k1,k2,k8,k9,dA];refine am (oc r t' (by omega)) ?_;simp -dsimp -implicitDefEqProofs only[go_sem,h10,h11,k1,k2,k8,k9];refine aa (gO 0 (by omega)) rfl ?_;simp -dsimp -implicitDefEqProofs only[go_sem,h10,h11,k1,k2,k8,k9,ek]
   repeat(refine And.intro (by omega) ?_)
   refine ar (args':=[iUp (mon 1 1),iN ((t'+1-Alg.sz q:Nat):Int)]) (by rw[<-U_X]) (Iu (t'+1-Alg.sz q) (by omega)) ?_;simp -dsimp -implicitDefEqProofs only[go_sem];refine am (dK (lC hr t') (pB _) (by omega) (by omega) (by rw[rh];omega)) ?_;simp -dsimp -implicitDefEqProofs only[go_sem,h10,h11,k1,k2,k8,k9];refine am (dK (lC hq (Alg.sz q-1)) hr (by omega) (by have:=gG (q.c (Alg.sz q-1));omega) (by omega)) ?_;simp -dsimp -implicitDefEqProofs only[go_sem,h10,h11,k1,k2,k8,k9];refine am (dK ((lC hr t').mul (pB _)) hq (by omega) (by omega) (by omega)) ?_;simp -dsimp -implicitDefEqProofs only[go_sem,h10,h11,k1,k2,k8,k9];refine am (zm ((lC hq (Alg.sz q-1)).mul hr) (((lC hr t').mul (pB _)).mul hq) (by omega) (by omega) (by show Alg.sz (Alg.C (lc q)*r)<=_;omega) (by omega)) ?_;simp -dsimp -implicitDefEqProofs only[go_sem,h11]
   repeat(refine And.intro (by omega) ?_)
   refine again t' (by omega) ⟨(by(repeat apply ak rfl);exact hK),(by(repeat apply ak rfl);exact hKB),(by(repeat apply ak rfl);exact hKE),t',pst q t' r,j+1,rfl,AB hq0 hs hlt,?_,by omega,by omega,(hr.pstep hq _ _ _).mono (by rw[Nat.succ_mul];omega),rfl,?_⟩
   ·rw[<-hps];simp only[psr];rw[if_pos hlt]
   ·simp -dsimp -implicitDefEqProofs only[go_sem];rw[pst,<-cT (r.c t'),dx,Nat.zero_add,show r.c t'*1=r.c t' from Rat.mul_one _]
  ·have dA:decide (((Alg.sz q:Int)-1)<=((t:Int)-1))=false:=aj (by omega);have hpr:psr q t r=r:=by
    cases t with
    | zero=>rfl
    | succ t=>simp only[psr];rw[if_neg hlt]
   simp -dsimp -implicitDefEqProofs only[go_sem,h10,h11,k8,dA];rw[hpr]at hps;exact⟨(by(repeat apply ak rfl);exact hK),(by(repeat apply ak rfl);exact hKB),(by(repeat apply ak rfl);exact hKE),by rw[<-hps]⟩
 ·rintro e τ β ε π hK hKB hKE ⟨rfl,h10⟩;simp -dsimp -implicitDefEqProofs only[go_sem,h10]
end Go.AM
namespace Go.AM
open Alg
open Go.Proofs
open Classical
theorem hzU (x:PQ):decide (((U x).length:Int)=0)=decide (x=0):=by
 rw[decide_eq_decide];constructor
 ·intro h;exact mF.1 (List.eq_nil_of_length_eq_zero (by omega))
 ·rintro rfl;rw[bQ];rfl
theorem bZ {p:PQ} {h:Nat} (hp:Alg.HB h p) (hb:h<=137438953000) (sp:Alg.sz p<=1048576):Fn Tryz.prog 129 [iUp p] [iUp (Alg.mo p)]:=by
 refine ao kd (fn:=Tryz.f129) (by rfl) rfl rfl rfl (by rfl) (by simp) (by rfl) ?_;by_cases hp0:p=0
 ·subst hp0;have e1:decide (((U 0).length:Int)=0)=true:=by rw[bQ];rfl
  simp -dsimp -implicitDefEqProofs only[go_sem,e1,af];rw[eY,jU,bQ];rfl
 ·obtain⟨R,hR⟩:=fJ hp0;have lR:(U p).length=R.length+1:=by rw[hR];rfl
  have cR:(U p)[0]?=some (⟨((Alg.sz p-1:Nat):Int),0,0,0⟩,lc p):=by rw[hR];rfl
  have e1:decide (((U p).length:Int)=0)=false:=by rw[lR];exact aj (by omega)
  have hqq:QB 17179869184 (lc p):=gw (hp.coef _).1 (hp.coef _).2 (by omega);have hl:=bB hp0;obtain⟨b1,b2⟩:=iV (x:=1) (h:=0) hl ⟨by decide,by decide⟩ (hp.coef (Alg.sz p-1));simp -dsimp -implicitDefEqProofs only[go_sem,e1,af];refine an (by rfl) 9 [] false true (by rfl) (by rfl) (by decide +kernel) ?_;simp -dsimp -implicitDefEqProofs only[go_sem];refine am (dv 1 (by decide)) ?_;simp -dsimp -implicitDefEqProofs only[go_sem,Int.reduceToNat,Int.reduceLE,ag];refine av cR ?_;simp -dsimp -implicitDefEqProofs only[go_sem,Int.reduceToNat,Int.reduceLE,ag];refine ar (args':=[iQ 1,iQ (lc p)]) rfl (vw 1 _ hl mJ hqq) ?_;simp -dsimp -implicitDefEqProofs only[go_sem];refine aa (lh hp (by omega) sp (gw b1 b2 (by omega))) rfl ?_;simp -dsimp -implicitDefEqProofs only[go_sem,yf]
theorem Iw:Fn Tryz.prog 131 [] [iUp 1]:=by
 refine ao kd (fn:=Tryz.f131) (by rfl) rfl rfl rfl (by rfl) (by simp) (by rfl) ?_;simp -dsimp -implicitDefEqProofs only[go_sem];refine am (dv 1 (by decide)) ?_;simp -dsimp -implicitDefEqProofs only[go_sem];refine ar (args':=[iQ ((1:Int):Rat)]) rfl (np _ (ud (n:=1) (by decide) _ (by decide))) ?_;simp -dsimp -implicitDefEqProofs only[go_sem];rw[mA,cT];rfl
theorem C7 {p q:PQ} (hp:p≠0) (hq:q≠0) (sp:Alg.sz p<=1048576) (sq:Alg.sz q<=1048576):Fn Tryz.prog 130 [iUp p,iUp q] [iN (if Alg.sz p=1/\Alg.sz q=1 then -1 else 0)]:=by
 have dp:∀ v:Nat,v<4->Fn Tryz.prog 44 [iUp p,iN v] [iN (if v=0 then(Alg.sz p:Int)-1 else 0)]:=fun v hv=>by
  have:=ub (U p) v hv (by have:=cO p;omega);by_cases h:v=0
  ·subst h;rw[qe]at this;exact this
  ·rw[rA p hp v (by omega)]at this;rwa [if_neg h]
 have dq:∀ v:Nat,v<4->Fn Tryz.prog 44 [iUp q,iN v] [iN (if v=0 then(Alg.sz q:Int)-1 else 0)]:=fun v hv=>by
  have:=ub (U q) v hv (by have:=cO q;omega);by_cases h:v=0
  ·subst h;rw[qe]at this;exact this
  ·rw[rA q hq v (by omega)]at this;rwa [if_neg h]
 have hp1:=aA hp;have hq1:=aA hq;refine ao kd (fn:=Tryz.f130) (by rfl) rfl rfl rfl (by rfl) (by simp) (by rfl) ?_;simp -dsimp -implicitDefEqProofs only[go_sem];refine aH [(5,21)] [] [] (fun n τ β ε=>∃ v:Int,n=(v+1).toNat /\ -1<=v/\v<=3/\(v<0->Alg.sz p=1/\Alg.sz q=1)/\τ 5 = .i (iN v))
  (fun e τ β ε=>e = .exit 0/\τ 5 = .i (iN (if Alg.sz p=1/\Alg.sz q=1 then -1 else 0))) 4 ?_ ?_ ?_
 ·exact⟨3,by omega,by omega,by omega,by omega,rfl⟩
 ·rintro n τ β ε π hK hKB hKE ⟨v,hn,hv0,hv,hz,h5⟩;have k0:τ 0 = .i (iUp p):=(hK 0 rfl).trans rfl;have k1:τ 1 = .i (iUp q):=(hK 1 rfl).trans rfl;by_cases hv1:v = -1
  ·subst hv1;simp -dsimp -implicitDefEqProofs only[go_sem,h5,Int.reduceLE,decide_false];refine⟨(by(repeat apply ak rfl);exact hK),(by(repeat apply ak rfl);exact hKB),(by(repeat apply ak rfl);exact hKE),?_⟩
   rw[if_pos (hz (by omega))]
  ·have dA:decide ((0:Int)<=v)=true:=ai (by omega);obtain⟨u,rfl⟩:∃ u:Nat,v=u:=⟨v.toNat,by omega⟩;simp -dsimp -implicitDefEqProofs only[go_sem,h5,k0,k1,dA];refine am (dp u (by omega)) ?_;by_cases hu:u=0
   ·rw[if_pos hu];by_cases hs:Alg.sz p=1
    ·have e1:decide (((Alg.sz p:Int)-1)<1)=true:=ai (by omega);simp -dsimp -implicitDefEqProofs only[go_sem,e1,h5,k1];refine am (dq u (by omega)) ?_;rw[if_pos hu];by_cases ht:Alg.sz q=1
     ·have e2:decide (((Alg.sz q:Int)-1)<1)=true:=ai (by omega);simp -dsimp -implicitDefEqProofs only[go_sem,e2,h5]
      repeat(refine And.intro (by omega) ?_)
      refine again 0 (by omega) ⟨(by(repeat apply ak rfl);exact hK),(by(repeat apply ak rfl);exact hKB),(by(repeat apply ak rfl);exact hKE),-1,by omega,by omega,by omega,fun _=>⟨hs,ht⟩,?_⟩
      simp -dsimp -implicitDefEqProofs only[go_sem];rw[hu];rfl
     ·have e2:decide (((Alg.sz q:Int)-1)<1)=false:=aj (by omega);simp -dsimp -implicitDefEqProofs only[go_sem,e2];refine⟨(by(repeat apply ak rfl);exact hK),(by(repeat apply ak rfl);exact hKB),(by(repeat apply ak rfl);exact hKE),?_⟩
      rw[if_neg (fun h=>ht h.2),h5,hu];rfl
    ·have e1:decide (((Alg.sz p:Int)-1)<1)=false:=aj (by omega);simp -dsimp -implicitDefEqProofs only[go_sem,e1];refine⟨(by(repeat apply ak rfl);exact hK),(by(repeat apply ak rfl);exact hKB),(by(repeat apply ak rfl);exact hKE),?_⟩
     rw[if_neg (fun h=>hs h.1),h5,hu];rfl
   ·rw[if_neg hu];simp -dsimp -implicitDefEqProofs only[go_sem,h5,k1,Int.reduceLT,decide_true];refine am (dq u (by omega)) ?_;rw[if_neg hu];simp -dsimp -implicitDefEqProofs only[go_sem,h5,Int.reduceLT,decide_true]
    repeat(refine And.intro (by omega) ?_)
    refine again u (by omega) ⟨(by(repeat apply ak rfl);exact hK),(by(repeat apply ak rfl);exact hKB),(by(repeat apply ak rfl);exact hKE),(u:Int)-1,by omega,by omega,by omega,fun _=>by omega,rfl⟩
 ·rintro e τ β ε π hK hKB hKE ⟨rfl,h5⟩;simp -dsimp -implicitDefEqProofs only[go_sem,h5]
theorem mI {p q:PQ} {h k:Nat} (hp:Alg.HB h p) (hq:Alg.HB k q) (hb:h<=137438953000) (hb':k<=137438953000) (sp:Alg.sz p<=1048576) (sq:Alg.sz q<=1048576) (hc:p=0\/q=0\/(Alg.sz p=1/\Alg.sz q=1)):Fn Tryz.prog 94 [iUp p,iUp q] [iUp (kj p q)]:=by
 refine ao kd (fn:=Tryz.f94) (by rfl) rfl rfl rfl (by rfl) (by simp) (by rfl) ?_;by_cases hp0:p=0
 ·have e1:=hzU p;rw[ai hp0]at e1;simp -dsimp -implicitDefEqProofs only[go_sem,e1,af];refine aa (bZ hq hb' sq) rfl ?_;simp -dsimp -implicitDefEqProofs only[go_sem];rw[kj,if_pos hp0]
 ·have e1:=hzU p;rw[aj hp0]at e1;by_cases hq0:q=0
  ·have e2:=hzU q;rw[ai hq0]at e2;simp -dsimp -implicitDefEqProofs only[go_sem,e1,e2,af];refine aa (bZ hp hb sp) rfl ?_;simp -dsimp -implicitDefEqProofs only[go_sem];rw[kj,if_neg hp0,if_pos hq0]
  ·have e2:=hzU q;rw[aj hq0]at e2;have h1:Alg.sz p=1/\Alg.sz q=1:=by rcases hc with h|h|h<;>first|exact absurd h hp0|exact absurd h hq0|exact h
   have tp:=C7 hp0 hq0 sp sq;rw[if_pos h1]at tp;simp -dsimp -implicitDefEqProofs only[go_sem,e1,e2,af];refine aa tp rfl ?_;simp -dsimp -implicitDefEqProofs only[go_sem,Int.reduceLT,decide_true];refine am Iw ?_;simp -dsimp -implicitDefEqProofs only[go_sem];rw[kj,if_neg hp0,if_neg hq0]
theorem zz (p:PQ) (sp:Alg.sz p<=1048575):Fn Tryz.prog 167 [iUp p,iN 0] [.c (.lst (bR (fun i=>U (Alg.C (p.c i))) (Alg.sz p)))]:=by
 have hlen:∀(f:Nat->List Tm) (n:Nat),(bR f n).length=n:=fun f n=>by simp[bR]
 refine ao kd (fn:=Tryz.f167) (by rfl) rfl rfl rfl (by rfl) (by simp) (by rfl) ?_;simp -dsimp -implicitDefEqProofs only[go_sem];refine cC 5 7 1 (rs:=[]) rfl (by simp) ?_;refine aX [(5,6),(8,21)] [] [(7,7),(21,21)] (fun n τ β ε=>∃ i:Nat,n=Alg.sz p-i/\i<=Alg.sz p/\τ 6 = .i (iN i)/\Own 1 (bR (fun i=>U (Alg.C (p.c i))) i) 5 7 τ ε)
  (fun e τ β ε=>e = .exit 0/\Own 1 (bR (fun i=>U (Alg.C (p.c i))) (Alg.sz p)) 5 7 τ ε) (Alg.sz p) ?_ ?_ ?_
 ·exact⟨0,by omega,by omega,rfl,Own.mk (g:=1) (mm:=false) (by omega) rfl rfl rfl⟩
 ·rintro n τ β ε π hK hKB hKE ⟨i,hn,hi,h6,g,mm,hg,h5,h7⟩;rw[hlen]at h5;have k0:τ 0 = .i (iUp p):=(hK 0 rfl).trans rfl;have k1:τ 1 = .i (iN 0):=(hK 1 rfl).trans rfl;simp -dsimp -implicitDefEqProofs only[go_sem,h6,k0,k1];refine am (fB p (by omega)) ?_;by_cases hlt:i<Alg.sz p
  ·have dA:decide ((i:Int)<=(Alg.sz p:Int)-1)=true:=ai (by omega);simp -dsimp -implicitDefEqProofs only[go_sem,h6,k0,k1,dA,h5];refine am (oc p i (by omega)) ?_;simp -dsimp -implicitDefEqProofs only[go_sem,h5,h7,hg,h6,hlen]
   repeat(refine And.intro (by omega) ?_)
   refine aJ (Alg.sz p-(i+1)) 5 21 7 (by omega) rfl rfl (by omega) (by decide) ⟨(by(repeat apply ak rfl);exact hK),(by(repeat apply ak rfl);exact hKB),(by(repeat apply ak rfl);exact hKE),i+1,rfl,by omega,rfl,?_⟩
   refine Own.mk2 (Nat.succ_pos _) (by simp -dsimp -implicitDefEqProofs only[go_sem];rfl) (by simp -dsimp -implicitDefEqProofs only[go_sem];rfl) (by simp[hlen]) ?_;unfold bR;rw[List.range_succ,List.map_append];rfl
  ·have dA:decide ((i:Int)<=(Alg.sz p:Int)-1)=false:=aj (by omega);obtain rfl:i=Alg.sz p:=by omega
   simp -dsimp -implicitDefEqProofs only[go_sem,dA];exact⟨(by(repeat apply ak rfl);exact hK),(by(repeat apply ak rfl);exact hKB),(by(repeat apply ak rfl);exact hKE),Own.mk hg h5 (by rw[hlen]) h7⟩
 ·rintro e τ β ε π hK hKB hKE ⟨rfl,g,mm,hg,h5,h9⟩;refine⟨_,aY.refl _,?_⟩;simp -dsimp -implicitDefEqProofs only[go_sem,h5,h9,hg,hlen];rw[List.take_of_length_le (by rw[hlen];omega)]
theorem li {p:PQ} {h:Nat} (hp:Alg.HB h p) (hb:h<=137438953000) (hp0:p≠0) (sp:Alg.sz p<=1048575):Fn Tryz.prog 132 [iUp p,iN 0] [iUp 1]:=by
 have hlen:∀(f:Nat->List Tm) (n:Nat),(bR f n).length=n:=fun f n=>by simp[bR]
 have hrow:∀ j,j<Alg.sz p->(bR (fun i=>U (Alg.C (p.c i))) (Alg.sz p))[j]?=some [cM (U (Alg.C (p.c j)))]:=fun j hj=>by rw[bR,List.getElem?_map,List.getElem?_range hj];rfl
 have hp1:=aA hp0;refine ao kd (fn:=Tryz.f132) (by rfl) rfl rfl rfl (by rfl) (by simp) (by rfl) ?_;simp -dsimp -implicitDefEqProofs only[go_sem];refine am (zz p sp) ?_;simp -dsimp -implicitDefEqProofs only[go_sem];refine p8 (aY.imm _ 6 (x:=iM []) rfl) ?_;refine aH [(6,7),(12,23)] [] [] (fun n τ β ε=>∃ i:Nat,n=Alg.sz p-i/\i<=Alg.sz p/\τ 7 = .i (iN i)/\τ 6 = .i (iUp (if ∃ j,j<i/\p.c j≠0 then 1 else 0)))
  (fun e τ β ε=>e = .exit 0/\τ 6 = .i (iUp 1)) (Alg.sz p) ?_ ?_ ?_
 ·exact⟨0,by omega,by omega,rfl,by simp -dsimp -implicitDefEqProofs only[go_sem];rw[if_neg (fun⟨j,h,_⟩=>by omega),jU,bQ]⟩
 ·rintro n τ β ε π hK hKB hKE ⟨i,hn,hi,h7,h6⟩;have k5:τ 5 = .i (.c (.lst (bR (fun i=>U (Alg.C (p.c i))) (Alg.sz p)))):=(hK 5 rfl).trans rfl;by_cases hlt:i<Alg.sz p
  ·have dA:decide ((i:Int)<(Alg.sz p:Int))=true:=ai (by omega);have c1:Alg.C (1:Rat)=(1:PQ):=bT;have c0:Alg.C (0:Rat)=(0:PQ):=co;have hg:kj (if ∃ j,j<i/\p.c j≠0 then 1 else 0) (Alg.C (p.c i))=if ∃ j,j<i+1/\p.c j≠0 then 1 else 0:=by
    have a:=th (if ∃ j,j<i/\p.c j≠0 then 1 else 0) (p.c i)
    by_cases h1:∃ j,j<i/\p.c j≠0
    ·rw[if_pos h1,c1]at a;rw[if_pos h1,a,if_neg (fun h=>absurd h.1 (by decide)),if_pos (by obtain⟨j,h2,h3⟩:=h1;exact⟨j,by omega,h3⟩)]
    ·rw[if_neg h1,c0]at a;rw[if_neg h1,a];by_cases h2:p.c i=0
     ·rw[if_pos ⟨rfl,h2⟩,if_neg];rintro ⟨j,h3,h4⟩;by_cases e:j=i
      ·rw[e]at h4;exact h4 h2
      ·exact h1 ⟨j,by omega,h4⟩
     ·rw[if_neg (fun h=>h2 h.2),if_pos ⟨i,by omega,h2⟩]
   have call:Fn Tryz.prog 94 [iUp (if ∃ j,j<i/\p.c j≠0 then 1 else 0),iUp (Alg.C (p.c i))] [iUp (kj (if ∃ j,j<i/\p.c j≠0 then 1 else 0) (Alg.C (p.c i)))]:=by
    by_cases h1:∃ j,j<i/\p.c j≠0
    ·rw[if_pos h1];refine mI (cX 0) (lC hp i) (by omega) hb (by rw[ck];omega) (by have:=gG (p.c i);omega) ?_;rcases MQ (p.c i)with h|h
     ·exact .inr (.inl h)
     ·exact .inr (.inr ⟨ck,h⟩)
    ·rw[if_neg h1];exact mI (Alg.HB.zero 0) (lC hp i) (by omega) hb (by rw[ap.2 rfl];omega) (by have:=gG (p.c i);omega) (.inl rfl)
   rw[hg]at call;simp -dsimp -implicitDefEqProofs only[go_sem,h7,h6,k5,dA,hlen];refine⟨_,hrow i hlt,?_⟩;simp -dsimp -implicitDefEqProofs only[go_sem,h7,h6,k5,Int.reduceToNat,Int.reduceLE,ag];refine am call ?_;simp -dsimp -implicitDefEqProofs only[go_sem,h7]
   repeat(refine And.intro (by omega) ?_)
   exact again (Alg.sz p-(i+1)) (by omega) ⟨(by(repeat apply ak rfl);exact hK),(by(repeat apply ak rfl);exact hKB),(by(repeat apply ak rfl);exact hKE),i+1,rfl,by omega,rfl,rfl⟩
  ·have dA:decide ((i:Int)<(Alg.sz p:Int))=false:=aj (by omega);obtain rfl:i=Alg.sz p:=by omega
   rw[if_pos ⟨Alg.sz p-1,by omega,bB hp0⟩]at h6;simp -dsimp -implicitDefEqProofs only[go_sem,h7,k5,dA,hlen];exact⟨(by(repeat apply ak rfl);exact hK),(by(repeat apply ak rfl);exact hKB),(by(repeat apply ak rfl);exact hKE),h6⟩
 ·rintro e τ β ε π hK hKB hKE ⟨rfl,h6⟩;simp -dsimp -implicitDefEqProofs only[go_sem,h6]
theorem Ff {p q s:PQ} {h k:Nat} (hp:Alg.HB h p) (hq:Alg.HB k q) (hq0:q≠0) (hb:h+(Alg.sz p+2)*(k+1)+k<=137438953000) (sp:Alg.sz p<=524288) (sq:Alg.sz q<=524288) (e:p=s*q):Fn Tryz.prog 168 [iUp p,iUp q] [iUp s]:=by
 have:=ua hp hq hq0 hb sp sq;rw[fZ hq0 e]at this;refine ao kd (fn:=Tryz.f168) (by rfl) rfl rfl rfl (by rfl) (by simp) (by rfl) ?_;simp -dsimp -implicitDefEqProofs only[go_sem];refine am this ?_;simp -dsimp -implicitDefEqProofs only[go_sem]
theorem gk {p:PQ} {h:Nat} (hp:Alg.HB h p) (hb:h+2*Alg.sz p+2<=137438953000) (sp:Alg.sz p<=524288):Fn Tryz.prog 133 [iUp p,iN 0] [iUp p]:=by
 have hz:=hzU p;refine ao kd (fn:=Tryz.f133) (by rfl) rfl rfl rfl (by rfl) (by simp) (by rfl) ?_;by_cases hp0:p=0
 ·rw[ai hp0]at hz;simp -dsimp -implicitDefEqProofs only[go_sem,hz,af];rw[jU,hp0,bQ];rfl
 ·rw[aj hp0]at hz;simp -dsimp -implicitDefEqProofs only[go_sem,hz,af];refine am (li hp (by omega) hp0 (by omega)) ?_;simp -dsimp -implicitDefEqProofs only[go_sem];refine aa (Ff hp (cX 0) eX (by omega) sp (by rw[ck];omega) (s:=p) (mul_one p).symm) rfl ?_;simp -dsimp -implicitDefEqProofs only[go_sem]
end Go.AM
namespace Go.AM
open Alg
open Go.Proofs
theorem Ea (v d:Int) (hd:0<=d/\d<4294967296):((v % 2147483647*4294967296 % 18446744073709551616+d % 18446744073709551616) % 18446744073709551616).tmod 2147483647=(d+4294967296*v) % 2147483647:=by
 have e1:v % 2147483647*4294967296 % 18446744073709551616=v % 2147483647*4294967296:=by omega
 have e2:d % 18446744073709551616=d:=by omega
 have e3:(v % 2147483647*4294967296+d) % 18446744073709551616=v % 2147483647*4294967296+d:=by omega
 rw[e1,e2,e3,Int.tmod_eq_emod_of_nonneg (by omega)];omega
theorem C9 (z:Int) (hz:(lb z).length<=17179869184):Fn Tryz.prog 202 [iZ z] [iz (Alg.mp z)]:=by
 have hm:=nW z;refine ao kd (fn:=Tryz.f202) (by rfl) rfl rfl rfl (by rfl) (by simp) (by rfl) ?_;simp -dsimp -implicitDefEqProofs only[go_sem]
 repeat(refine And.intro (by omega) ?_)
 refine aH [(3,4),(9,22)] [] [] (fun n τ β ε=>∃ j:Nat,n=j/\j<=(lb z).length/\τ 4 = .i (iN ((j:Int)-1))/\τ 3 = .i (.c (.v (.int .u64 (val ((lb z).drop j) % 2147483647)))))
  (fun e τ β ε=>e = .exit 0/\τ 3 = .i (.c (.v (.int .u64 ((z.natAbs:Int) % 2147483647))))) (lb z).length ?_ ?_ ?_
 ·exact⟨(lb z).length,rfl,ae _,by simp -dsimp -implicitDefEqProofs only[go_sem,af],by simp -dsimp -implicitDefEqProofs only[go_sem];rw[List.drop_length];rfl⟩
 ·rintro n τ β ε π hK hKB hKE ⟨j,hn,hj,h4,h3⟩;have k1:τ 1 = .bp 1 1 0:=(hK 1 rfl).trans rfl;have b1:β 1=⟨1,eZ z⟩:=(hKB 1 rfl).trans rfl;by_cases hj0:j=0
  ·subst hj0;have dA:decide ((0:Int)<=((0:Nat):Int)-1)=false:=rfl;simp -dsimp -implicitDefEqProofs only[go_sem,h4,dA];rw[List.drop_zero,a6]at h3;exact⟨(by(repeat apply ak rfl);exact hK),(by(repeat apply ak rfl);exact hKB),(by(repeat apply ak rfl);exact hKE),h3⟩
  ·obtain⟨i,rfl⟩:∃ i,j=i+1:=⟨j-1,by omega⟩;have ei:((i+1:Nat):Int)-1=(i:Int):=by omega
   rw[ei]at h4;have dA:decide ((0:Int)<=(i:Int))=true:=ai (by omega);have gi:(lb z)[i]?=some (lb z)[i]:=ah (by omega);unfold eZ km at b1;simp -dsimp -implicitDefEqProofs only[go_sem,h4,h3,k1,b1,dA,Int.reduceToNat,Int.reduceLE,ag];refine av gi ?_;simp -dsimp -implicitDefEqProofs only[go_sem,bc,h4,h3]
   repeat(refine And.intro (by omega) ?_)
   refine again i (by omega) ⟨(by(repeat apply ak rfl);exact hK),(by(repeat apply ak rfl);exact hKB),(by(repeat apply ak rfl);exact hKE),i,rfl,by omega,rfl,?_⟩
   simp -dsimp -implicitDefEqProofs only[go_sem];rw[Ea _ _ ((bA z).get (by omega)),<-bG (l:=lb z) (i:=i) (by omega)]
 ·rintro e τ β ε π hK hKB hKE ⟨rfl,h3⟩;have k1:τ 1 = .bp 1 1 0:=(hK 1 rfl).trans rfl;have b1:β 1=⟨1,eZ z⟩:=(hKB 1 rfl).trans rfl;unfold eZ km at b1;by_cases hz0:z<0
  ·have e1:decide (z<0)=true:=ai hz0;rw[e1]at b1;by_cases hr:(z.natAbs:Int) % 2147483647=0
   ·have e0:decide ((0:Int)<0)=false:=rfl;rw[hr]at h3;simp -dsimp -implicitDefEqProofs only[go_sem,h3,k1,b1,e0,Int.reduceToNat,Int.reduceLE,ag];rw[iz,hm,show z % 2147483647=0 by omega]
   ·have e2:decide (0<(z.natAbs:Int) % 2147483647)=true:=ai (by omega);simp -dsimp -implicitDefEqProofs only[go_sem,h3,k1,b1,e2,Int.reduceToNat,Int.reduceLE,ag];rw[iz,hm,show(2147483647-(z.natAbs:Int) % 2147483647) % 18446744073709551616=z % 2147483647 by omega]
  ·have e1:decide (z<0)=false:=aj hz0;rw[e1]at b1;simp -dsimp -implicitDefEqProofs only[go_sem,h3,k1,b1,Int.reduceToNat,Int.reduceLE,ag];rw[iz,hm,show(z.natAbs:Int) % 2147483647=z % 2147483647 by omega]
theorem nm (a:Zp) (n:Nat) (hn:n<9223372036854775808):Fn Tryz.prog 203 [iz a,iN n] [iz (Alg.pw a n)]:=by
 refine ao kd (fn:=Tryz.f203) (by rfl) rfl rfl rfl (by rfl) (by simp) (by rfl) ?_;simp -dsimp -implicitDefEqProofs only[go_sem];refine aH [(0,1),(5,20)] [] [] (fun m τ β ε=>∃(b o:Zp) (k:Nat),m=k/\k<=n/\Alg.pw a n=o*Alg.pw b k/\τ 0 = .i (iz b)/\τ 1 = .i (iN k)/\τ 5 = .i (iz o))
  (fun e τ β ε=>e = .exit 0/\τ 5 = .i (iz (Alg.pw a n))) n ?_ ?_ ?_
 ·exact⟨a,1,n,rfl,ae _,(one_mul _).symm,rfl,rfl,rfl⟩
 ·rintro m τ β ε π hK hKB hKE ⟨b,o,k,hm,hk,he,h0,h1,h5⟩;by_cases hk0:k=0
  ·have hA:decide ((0:Int)<(k:Int))=false:=aj (by omega);simp -dsimp -implicitDefEqProofs only[go_sem,h1,hA];refine⟨(by(repeat apply ak rfl);exact hK),(by(repeat apply ak rfl);exact hKB),(by(repeat apply ak rfl);exact hKE),?_⟩
   rw[h5,he,hk0];show AV.i (iz o)=AV.i (iz (o*1));rw[mul_one]
  ·have hA:decide ((0:Int)<(k:Int))=true:=ai (by omega);have em:(k:Int).tmod 2=((k % 2:Nat):Int):=by rw[Int.tmod_eq_emod_of_nonneg (by omega)];omega
   have ed:(k:Int).tdiv 2=((k/2:Nat):Int):=by rw[Int.tdiv_eq_ediv_of_nonneg (by omega)];omega
   have e1:decide (((k % 2:Nat):Int)=1)=decide (k % 2=1):=by rw[decide_eq_decide];omega
   by_cases h2:k % 2=1
   ·rw[ai h2]at e1;simp -dsimp -implicitDefEqProofs only[go_sem,h1,hA,em,ed,e1,h5,h0,zmul]
    repeat(refine And.intro (by omega) ?_)
    refine again (k/2) (by omega) ⟨(by(repeat apply ak rfl);exact hK),(by(repeat apply ak rfl);exact hKB),(by(repeat apply ak rfl);exact hKE),b*b,o*b,k/2,rfl,by omega,?_,rfl,rfl,rfl⟩
    rw[he,Cm b k,if_pos h2,mul_assoc]
   ·rw[aj h2]at e1;simp -dsimp -implicitDefEqProofs only[go_sem,h1,hA,em,ed,e1,h5,h0,zmul]
    repeat(refine And.intro (by omega) ?_)
    refine again (k/2) (by omega) ⟨(by(repeat apply ak rfl);exact hK),(by(repeat apply ak rfl);exact hKB),(by(repeat apply ak rfl);exact hKE),b*b,o,k/2,rfl,by omega,?_,rfl,rfl,h5⟩
    rw[he,Cm b k,if_neg h2,one_mul]
 ·rintro e τ β ε π hK hKB hKE ⟨rfl,h5⟩;simp -dsimp -implicitDefEqProofs only[go_sem,h5]
theorem se {a:Zp} (h:a≠0):∃ v:Zp,v*a=1/\Fn Tryz.prog 203 [iz a,iN 2147483645] [iz v]:=by
 exact⟨_,zT h,nm a 2147483645 (by omega)⟩
noncomputable def zli (r:PZ):List Zp:=(List.range (Alg.sz r)).map r.c
theorem ky (r:PZ):(zli r).length=Alg.sz r:=by simp[zli]
theorem Mj {l:List Zp} (h:TrZ l):zli (zp l)=l:=by
 refine List.ext_getElem (by rw[ky,jW h]) fun i h1 h2=>?_;rw[<-lm h2];simp[zli]
theorem Nm {rows:List (List C)} {R:List Zp} (hrow:n9 rows R):rows.take R.length=R.map zr:=by
 refine List.ext_getElem? fun j=>?_;rw[List.getElem?_take,List.getElem?_map];split
 ·rename_i hj;rw[hrow j hj,ah hj];rfl
 ·rename_i hj;rw[List.getElem?_eq_none (by omega)];rfl
set_option maxHeartbeats 1600000 in
theorem It {a b:List Zp} (ha0:0<a.length) (hb0:0<b.length) (ta:TrZ a) (tb:TrZ b) (la:a.length<=1048576) (lb':b.length<=1048576):Fn Tryz.prog 170 [zl a,zl b] [zl (zli (rm (zp a) (zp b)))]:=by
 have eb:(b.length:Int)-1=((b.length-1:Nat):Int):=by omega
 have gb:b[b.length-1]?=some b[b.length-1]:=ah (by omega);have hne:(a.map zr).isEmpty=false:=by cases a with|nil=>simp at ha0|cons _ _=>rfl
 obtain⟨v,hv,hpw⟩:=se (tb hb0);refine ao kd (fn:=Tryz.f170) (by rfl) rfl rfl rfl (by rfl) (by simp) (by rfl) ?_;simp -dsimp -implicitDefEqProofs only[go_sem,eb,af,hne];refine⟨B5 a,by omega,by omega,?_⟩;refine av gb ?_;simp -dsimp -implicitDefEqProofs only[go_sem,zr];refine aa hpw rfl ?_;simp -dsimp -implicitDefEqProofs only[go_sem];have hb':zp b≠0:=fun e=>by
  have:=jW tb;rw[e,ap.2 rfl]at this;omega
 refine aX [(5,5),(7,9),(20,81)] [] [(12,12)] (fun n τ' β' ε'=>∃(R:List Zp) (rows:List (List C)) (s:PZ),n=R.length/\TrZ R/\R.length<=a.length/\zp a=s*zp b+zp R/\n9 rows R/\τ' 5 = .sl 12 1 R.length/\ε' 12=⟨1,1,rows,true,true⟩)
  (fun e τ' β' ε'=>e = .exit 0/\∃(R:List Zp) (rows:List (List C)) (s:PZ),R.length<b.length/\TrZ R/\zp a=s*zp b+zp R/\n9 rows R/\τ' 5 = .sl 12 1 R.length/\ε' 12=⟨1,1,rows,true,true⟩) a.length ?_ ?_ ?_
 ·exact⟨a,a.map zr,0,rfl,ta,ae _,by rw[zero_mul,zero_add],n9.of a,by simp -dsimp -implicitDefEqProofs only[go_sem],by simp -dsimp -implicitDefEqProofs only[go_sem,hne]⟩
 ·rintro n2 τ2 β2 ε2 π2 hK2 hKB2 hKE2 ⟨R,rows,s,hn2,tR,hRl,hRe,hrow,h5,h22⟩;have q1:τ2 1 = .i (zl b):=(hK2 1 rfl).trans rfl;have q6:τ2 6 = .i (iz v):=(hK2 6 rfl).trans rfl;by_cases hlt:b.length<=R.length
  ·have hA2:decide ((b.length:Int)<=(R.length:Int))=true:=ai (by omega);have eR:(R.length:Int)-1=((R.length-1:Nat):Int):=by omega
   have eat:(R.length:Int)-(b.length:Int)=((R.length-b.length:Nat):Int):=by omega
   have hR0:0<R.length:=by omega
   simp -dsimp -implicitDefEqProofs only[go_sem,h5,q1,q6,hA2,eR,eat,af,h22]
   repeat(refine And.intro (by omega) ?_)
   refine⟨_,hrow (R.length-1) (by omega),?_⟩;simp -dsimp -implicitDefEqProofs only[go_sem,zr,zmul,h5,q1,q6,eat,af,h22]
   repeat(refine And.intro (by omega) ?_)
   refine aX [(9,9),(39,64)] [] [(12,12)] (fun n τ' β' ε'=>∃(i:Nat) (rows':List (List C)),n=b.length-i/\i<=b.length/\τ' 9 = .i (iN i)/\n9 rows' (kK R b (R[R.length-1]*v) (R.length-b.length) i)/\ε' 12=⟨1,1,rows',true,true⟩)
    (fun e τ' β' ε'=>e = .exit 2/\∃(rows':List (List C)),n9 rows' (kK R b (R[R.length-1]*v) (R.length-b.length) b.length)/\ε' 12=⟨1,1,rows',true,true⟩) b.length ?_ ?_ ?_
   ·exact⟨0,rows,by omega,by omega,rfl,by rw[uX];exact hrow,h22⟩
   ·rintro n3 τ3 β3 ε3 π3 hK3 hKB3 hKE3 ⟨i,rows',hn3,hi,h51,hrow',h22'⟩;have r1:τ3 1 = .i (zl b):=(hK3 1 rfl).trans q1;have r5:τ3 5 = .sl 12 1 R.length:=(hK3 5 rfl).trans h5;have r7:τ3 7 = .i (iz (R[R.length-1]*v)):=by rw[hK3 7 (by decide)];simp -dsimp -implicitDefEqProofs only[go_sem,zmul]
    have r8:τ3 8 = .i (iN ((R.length-b.length:Nat):Int)):=by rw[hK3 8 (by decide)];simp -dsimp -implicitDefEqProofs only[go_sem,eat]
    by_cases hlt3:i<b.length
    ·have hA3:decide ((i:Int)<(b.length:Int))=true:=ai (by omega);have gbi:b[i]?=some b[i]:=by simp[hlt3]
     have ead:((R.length-b.length:Nat):Int)+(i:Int)=((R.length-b.length+i:Nat):Int):=by omega
     have hji:R.length-b.length+i<R.length:=by omega
     have hr:rows'[R.length-b.length+i]?=some (zr R[R.length-b.length+i]):=by
      have:=hrow' (R.length-b.length+i) (by rw[ft];exact hji);rw[fT,if_neg (by omega)]at this;rw[this];simp[List.getD,hji]
     simp -dsimp -implicitDefEqProofs only[go_sem,h51,r1,hA3,af];refine an (by rfl) 20 [] false true (by rfl) (by rfl) (by decide +kernel) ?_;simp -dsimp -implicitDefEqProofs only[go_sem,h51,r1,r5,r7,r8,ead,h22']
     repeat(refine And.intro (by omega) ?_)
     refine⟨_,hr,?_⟩;simp -dsimp -implicitDefEqProofs only[go_sem,zr,h51,r1,r5,r7,r8,ead,h22'];refine av gbi ?_;simp -dsimp -implicitDefEqProofs only[go_sem,zr,zsub,h51,r1,r5,r7,r8,ead,h22']
     repeat(refine And.intro (by omega) ?_)
     refine⟨_,hr,?_⟩;simp -dsimp -implicitDefEqProofs only[go_sem,zr,h51]
     repeat(refine And.intro (by omega) ?_)
     refine again (b.length-(i+1)) (by omega) ⟨(by(repeat apply ak rfl);exact hK3),(by(repeat apply ak rfl);exact hKB3),(by(repeat apply ak rfl);exact hKE3),i+1,rows'.set (R.length-b.length+i) (zr (R[R.length-b.length+i] + -b[i]*(R[R.length-1]*v))),rfl,by omega,rfl,yc hlt3 (by omega) hrow',?_⟩
     simp -dsimp -implicitDefEqProofs only[go_sem,h22'];rfl
    ·have hA3:decide ((i:Int)<(b.length:Int))=false:=aj (by omega);obtain rfl:i=b.length:=by omega
     simp -dsimp -implicitDefEqProofs only[go_sem,h51,r1,hA3,af];exact⟨(by(repeat apply ak rfl);exact hK3),(by(repeat apply ak rfl);exact hKB3),(by(repeat apply ak rfl);exact hKE3),rows',hrow',h22'⟩
   ·rintro e τ3 β3 ε3 π3 hK3 hKB3 hKE3 ⟨rfl,rows',hrow',h22'⟩;refine⟨_,aY.refl _,?_⟩;have r5:τ3 5 = .sl 12 1 R.length:=(hK3 5 rfl).trans h5;have kO:=Kp.step2 hK2 hK3 (by intro n;simp[inR]<;>omega) (by(repeat apply ak rfl);exact hK2)
    have kB:=Kp.step2 hKB2 hKB3 (by intro n;simp[inR]) hKB2;have kE:=Kp.step2 hKE2 hKE3 (by intro n;simp[inR]) hKE2;have hz:=Ft (R:=R) (b:=b) (R[R.length-1]*v) (at':=R.length-b.length) (by omega);have hlast:∀(h:R.length-1<(kK R b (R[R.length-1]*v) (R.length-b.length) b.length).length),(kK R b (R[R.length-1]*v) (R.length-b.length) b.length)[R.length-1]=0:=fun h=>by
     rw[fT,if_pos (by omega),show R.length-1-(R.length-b.length)=b.length-1 by omega];rw[show R.getD (R.length-1) 0=R[R.length-1]from lm (by omega),show b.getD (b.length-1) 0=b[b.length-1]from lm (by omega)];have e9 : -b[b.length-1]*(R[R.length-1]*v) = -(R[R.length-1]*(v*b[b.length-1])):=by rw[neg_mul,cN,mul_comm b[b.length-1] v]
     rw[e9,hv,mul_one,iD]
    generalize hR':kK R b (R[R.length-1]*v) (R.length-b.length) b.length=R' at *
    have lR':R'.length=R.length:=by rw[<-hR',ft]
    simp -dsimp -implicitDefEqProofs only[go_sem];refine aX [(5,5),(65,81)] [] [] (fun n τ' β' ε'=>∃ t:Nat,n=t/\t<=R'.length/\(∀ j (hj:j<R'.length),t<=j->R'[j]=0)/\τ' 5 = .sl 12 1 t)
     (fun e τ' β' ε'=>e = .exit 4/\∃ t:Nat,t<=R'.length/\(∀ j (hj:j<R'.length),t<=j->R'[j]=0)/\(∀ h:t-1<R'.length,0<t->R'[t-1]≠0)/\τ' 5 = .sl 12 1 t) R'.length ?_ ?_ ?_
    ·exact⟨R'.length,rfl,ae _,fun j hj h=>by omega,by rw[lR'];exact r5⟩
    ·rintro n4 τ4 β4 ε4 π4 hK4 hKB4 hKE4 ⟨t,hn4,ht,hzero,h5'⟩;have s22:ε4 12=⟨1,1,rows',true,true⟩:=by rw[hKE4 12 (by decide)];exact h22'
     by_cases ht0:t=0
     ·have hA4:decide ((0:Int)<(t:Int))=false:=aj (by omega);simp -dsimp -implicitDefEqProofs only[go_sem,h5',s22,hA4];exact⟨(by(repeat apply ak rfl);exact hK4),(by(repeat apply ak rfl);exact hKB4),(by(repeat apply ak rfl);exact hKE4),t,ht,hzero,fun _ h=>by omega,rfl⟩
     ·have hA4:decide ((0:Int)<(t:Int))=true:=ai (by omega);have et:(t:Int)-1=((t-1:Nat):Int):=by omega
      have hr4:=hrow' (t-1) (by omega);simp -dsimp -implicitDefEqProofs only[go_sem,h5',s22,hA4,et]
      repeat(refine And.intro (by omega) ?_)
      refine⟨_,hr4,?_⟩;simp -dsimp -implicitDefEqProofs only[go_sem,zr];by_cases hz4:R'[t-1]=0
      ·have e4:decide (((R'[t-1].val:Nat):Int)=0)=true:=ai (by rw[hz4];rfl);simp -dsimp -implicitDefEqProofs only[go_sem,e4,h5',s22,et]
       repeat(refine And.intro (by omega) ?_)
       refine again (t-1) (by omega) ⟨(by(repeat apply ak rfl);exact hK4),(by(repeat apply ak rfl);exact hKB4),(by(repeat apply ak rfl);exact hKE4),t-1,rfl,by omega,fun j hj h=>?_,rfl⟩
       by_cases e:j=t-1
       ·subst e;exact hz4
       ·exact hzero j hj (by omega)
      ·have hv0:R'[t-1].val≠0:=fun h=>hz4 (kx h);have e4:decide (((R'[t-1].val:Nat):Int)=0)=false:=aj (by omega);simp -dsimp -implicitDefEqProofs only[go_sem,e4];exact⟨(by(repeat apply ak rfl);exact hK4),(by(repeat apply ak rfl);exact hKB4),(by(repeat apply ak rfl);exact hKE4),t,ht,hzero,fun _ _=>hz4,h5'⟩
    ·rintro e τ4 β4 ε4 π4 hK4 hKB4 hKE4 ⟨rfl,t,ht,hzero,hnz,h5'⟩;refine⟨_,aY.refl _,?_⟩;have kO2:=Kp.step2 kO hK4 (by intro n;simp[inR]<;>omega) (by(repeat apply ak rfl);exact kO)
     have kB2:=Kp.step2 kB hKB4 (by intro n;simp[inR]) kB;have kE2:=Kp.step2 kE hKE4 (by intro n;simp[inR]) kE;have s22:ε4 12=⟨1,1,rows',true,true⟩:=by rw[hKE4 12 (by decide)];exact h22'
     have htl:t<R.length:=by
      rcases Nat.lt_or_ge t R.length with h|h
      ·exact h
      ·have e5:t=R.length:=by omega
       refine absurd ?_ (hnz (by omega) (by omega));have:=hlast (by omega);simpa only[e5]using this
     have lt':(R'.take t).length=t:=by simp;omega
     simp -dsimp -implicitDefEqProofs only[go_sem];refine again t (by omega) ⟨(by(repeat apply ak rfl);exact kO2),(by(repeat apply ak rfl);exact kB2),(by(repeat apply ak rfl);exact kE2),R'.take t,rows',s+mon (R.length-b.length) (R[R.length-1]*v),lt'.symm,fun h=>?_,by omega,?_,fun j hj=>?_,by rw[lt'];exact h5',s22⟩
     ·rw[List.getElem_take];simp only[lt']at h ⊢;exact hnz (by omega) h
     ·rw[B4 hzero,hz,hRe,add_mul,sub_eq];rw[add_assoc,add_comm (zp R),<-add_assoc (mon _ _*zp b),iD,zero_add]
     ·rw[List.getElem_take];exact hrow' j (by simp at hj;omega)
  ·have hA2:decide ((b.length:Int)<=(R.length:Int))=false:=aj (by omega);simp -dsimp -implicitDefEqProofs only[go_sem,h5,q1,hA2,af,h22];exact⟨(by(repeat apply ak rfl);exact hK2),(by(repeat apply ak rfl);exact hKB2),(by(repeat apply ak rfl);exact hKE2),R,rows,s,by omega,tR,hRe,hrow,rfl,rfl⟩
 ·rintro e τ2 β2 ε2 π2 hK2 hKB2 hKE2 ⟨rfl,R,rows,s,hlt,tR,hRe,hrow,h5,h22⟩;refine⟨_,aY.refl _,?_⟩;have hrm:rm (zp a) (zp b)=zp R:=Cj hb' hRe (by rw[jW tR,jW tb];exact hlt);simp -dsimp -implicitDefEqProofs only[go_sem,h5,h22,Nm hrow];rw[hrm,Mj tR]
end Go.AM
namespace Go.AM
open Alg
open Go.Proofs
open Classical
set_option maxHeartbeats 1600000 in
theorem oa {p:PQ} {h:Nat} (hp:Alg.HB h p) (hb:h<=137438953000) (hp0:p≠0) (sp:Alg.sz p<=1048576) (a:Nat) (ha:a<=1000000):Fn Tryz.prog 169 [iUp p,iN 0,.c (.v (.int .u64 (a:Int)))] (qc p):=by
 have h0:=aA hp0;have es:(Alg.sz p:Int)-1+1=(Alg.sz p:Int):=by omega
 have hUl:=cO p;refine ao kd (fn:=Tryz.f169) (by rfl) rfl rfl rfl (by rfl) (by simp) (by rfl) ?_;simp -dsimp -implicitDefEqProofs only[go_sem];refine am (fB p sp) ?_;simp -dsimp -implicitDefEqProofs only[go_sem,es,Int.toNat_natCast]
 repeat(refine And.intro (by omega) ?_)
 refine aX [(6,7),(9,13),(19,83)] [] [(18,18)] (fun n τ β ε=>∃(i:Nat) (rows:List (List C)),n=(U p).length-i/\i<=(U p).length/\τ 9 = .i (iN i)/\ε 18=⟨1,1,rows,true,true⟩ /\
   (∀ j,j<Alg.sz p->rows[j]?=some (zr (seen p ((U p).take i) j)))/\∀ t∈(U p).take i,Alg.mp (t.2.den)≠0)
  (fun e τ β ε=>(e = .exit 0/\tc p/\∃ rows:List (List C),ε 18=⟨1,1,rows,true,true⟩/\∀ j,j<Alg.sz p->rows[j]?=some (zr (rq (p.c j)))) \/
   (e = .ret/\¬ tc p/\τ 6 = .fl []/\τ 7 = .i (.c (.v (.bool false))))) (U p).length ?_ ?_ ?_
 ·refine⟨0,List.replicate (Alg.sz p) [.v (.int .u64 0)],by omega,by omega,rfl,rfl,fun j hj=>?_,by simp⟩;rw[seen,if_neg (by simp)];simp[hj];rfl
 ·rintro n τ β ε π hK hKB hKE ⟨i,rows,hn,hi,h9,h19,hrows,hgood⟩;have k0:τ 0 = .i (iUp p):=(hK 0 rfl).trans rfl;have k8:τ 8 = .sl 18 1 (Alg.sz p):=(hK 8 rfl).trans rfl;have k1:τ 1 = .i (iN 0):=(hK 1 rfl).trans rfl;have k2:τ 2 = .i (.c (.v (.int .u64 (a:Int)))):=(hK 2 rfl).trans rfl;by_cases hlt:i<(U p).length
  ·have hA:decide ((i:Int)<((U p).length:Int))=true:=ai (by omega);obtain⟨e,he,het,hec⟩:=mG (List.getElem_mem hlt);have hg:(U p)[i]?=some (⟨(e:Int),0,0,0⟩,p.c e):=by rw[ah hlt,het]
   have hbd:=hp.coef e;simp -dsimp -implicitDefEqProofs only[go_sem,h9,k0,hA,af];refine av hg ?_;simp -dsimp -implicitDefEqProofs only[go_sem,h9,k0,Int.reduceToNat,Int.reduceLE,ag];refine ar (args':=[iZ ((p.c e).den:Int)]) rfl (C9 _ (ac (p9 (z:=((p.c e).den:Int)) (by simpa using hbd.2)) (by omega))) ?_;by_cases hd:Alg.mp ((p.c e).den:Int)=0
   ·have e1:decide ((((Alg.mp ((p.c e).den:Int)).val:Nat):Int)=0)=true:=ai (by rw[hd];rfl);simp -dsimp -implicitDefEqProofs only[go_sem,e1];exact⟨(by(repeat apply ak rfl);exact hK),(by(repeat apply ak rfl);exact hKB),(by(repeat apply ak rfl);exact hKE),fun hgd=>hgd e he hd⟩
   ·have hv0:(Alg.mp ((p.c e).den:Int)).val≠0:=fun h=>hd (kx h);have e1:decide ((((Alg.mp ((p.c e).den:Int)).val:Nat):Int)=0)=false:=aj (by omega);obtain⟨v,hv,hpw⟩:=se hd;have hrq:Alg.mp (p.c e).num*v=rq (p.c e):=by
     rw[rq];congr 1;exact oW (by rw[mul_comm];exact hv)
    simp -dsimp -implicitDefEqProofs only[go_sem,e1,h9,k0,Int.reduceToNat,Int.reduceLE,ag];refine av hg ?_;simp -dsimp -implicitDefEqProofs only[go_sem,e1,h9,k0,Int.reduceToNat,Int.reduceLE,ag];refine ar (args':=[iZ (p.c e).num]) rfl (C9 _ (ac (p9 hbd.1) (by omega))) ?_;simp -dsimp -implicitDefEqProofs only[go_sem];refine aa hpw rfl ?_;simp -dsimp -implicitDefEqProofs only[go_sem,zmul,hrq]
    repeat(refine And.intro (by omega) ?_)
    refine aH [(11,12),(45,66)] [] [] (fun n τ' β' ε'=>∃ w:Nat,n=4-w/\w<=4/\τ' 12 = .i (iN w)/\τ' 11 = .i (iz (rq (p.c e))))
     (fun e' τ' β' ε'=>e' = .exit 2/\τ' 11 = .i (iz (rq (p.c e)))) 4 ?_ ?_ ?_
    ·exact⟨0,rfl,by omega,rfl,rfl⟩
    ·rintro n2 τ2 β2 ε2 π2 hK2 hKB2 hKE2 ⟨w,hn2,hw,h42,q11⟩;have q1:τ2 1 = .i (iN 0):=(hK2 1 rfl).trans k1;have q2:τ2 2 = .i (.c (.v (.int .u64 (a:Int)))):=(hK2 2 rfl).trans k2;have q0:τ2 0 = .i (iUp p):=(hK2 0 rfl).trans k0;have q9:τ2 9 = .i (iN i):=(hK2 9 rfl).trans h9;obtain rfl|rfl|rfl|rfl|rfl:w=0\/w=1\/w=2\/w=3\/w=4:=by omega
     ·have h42':τ2 12 = .i (iN 0):=h42;simp -dsimp -implicitDefEqProofs only[go_sem,h42',q1,q2,q11,q0,q9,Int.reduceLT,decide_true,decide_false,Int.reduceEq]
      repeat(refine And.intro (by omega) ?_)
      refine again (4-1) (by omega) ⟨(by(repeat apply ak rfl);exact hK2),(by(repeat apply ak rfl);exact hKB2),(by(repeat apply ak rfl);exact hKE2),1,rfl,by omega,rfl,q11⟩
     ·have h42':τ2 12 = .i (iN 1):=h42;simp -dsimp -implicitDefEqProofs only[go_sem,h42',q1,q2,q11,q0,q9,Int.reduceLT,Int.reduceEq,decide_true,decide_false,Int.reduceToNat];refine av hg ?_;simp -dsimp -implicitDefEqProofs only[go_sem,h42',q1,q2,q11,q0,q9,Int.reduceToNat,Int.reduceLE,ag];refine ar (args':=[iz ⟨a+1,by omega⟩,iN 0]) ?_ (nm ⟨a+1,by omega⟩ 0 (by omega)) ?_
      ·rw[show((a:Int)+1 % 18446744073709551616) % 18446744073709551616=((a+1:Nat):Int)by omega]
      simp -dsimp -implicitDefEqProofs only[go_sem,zmul,h42',q11]
      repeat(refine And.intro (by omega) ?_)
      refine again (4-2) (by omega) ⟨(by(repeat apply ak rfl);exact hK2),(by(repeat apply ak rfl);exact hKB2),(by(repeat apply ak rfl);exact hKE2),2,rfl,by omega,rfl,?_⟩
      simp -dsimp -implicitDefEqProofs only[go_sem];rw[show Alg.pw (⟨a+1,by omega⟩:Zp) 0=1 from rfl,mul_one]
     ·have h42':τ2 12 = .i (iN 2):=h42;simp -dsimp -implicitDefEqProofs only[go_sem,h42',q1,q2,q11,q0,q9,Int.reduceLT,Int.reduceEq,decide_true,decide_false,Int.reduceToNat];refine av hg ?_;simp -dsimp -implicitDefEqProofs only[go_sem,h42',q1,q2,q11,q0,q9,Int.reduceToNat,Int.reduceLE,ag];refine ar (args':=[iz ⟨a+2,by omega⟩,iN 0]) ?_ (nm ⟨a+2,by omega⟩ 0 (by omega)) ?_
      ·rw[show((a:Int)+2 % 18446744073709551616) % 18446744073709551616=((a+2:Nat):Int)by omega]
      simp -dsimp -implicitDefEqProofs only[go_sem,zmul,h42',q11]
      repeat(refine And.intro (by omega) ?_)
      refine again (4-3) (by omega) ⟨(by(repeat apply ak rfl);exact hK2),(by(repeat apply ak rfl);exact hKB2),(by(repeat apply ak rfl);exact hKE2),3,rfl,by omega,rfl,?_⟩
      simp -dsimp -implicitDefEqProofs only[go_sem];rw[show Alg.pw (⟨a+2,by omega⟩:Zp) 0=1 from rfl,mul_one]
     ·have h42':τ2 12 = .i (iN 3):=h42;simp -dsimp -implicitDefEqProofs only[go_sem,h42',q1,q2,q11,q0,q9,Int.reduceLT,Int.reduceEq,decide_true,decide_false,Int.reduceToNat];refine av hg ?_;simp -dsimp -implicitDefEqProofs only[go_sem,h42',q1,q2,q11,q0,q9,Int.reduceToNat,Int.reduceLE,ag];refine ar (args':=[iz ⟨a+3,by omega⟩,iN 0]) ?_ (nm ⟨a+3,by omega⟩ 0 (by omega)) ?_
      ·rw[show((a:Int)+3 % 18446744073709551616) % 18446744073709551616=((a+3:Nat):Int)by omega]
      simp -dsimp -implicitDefEqProofs only[go_sem,zmul,h42',q11]
      repeat(refine And.intro (by omega) ?_)
      refine again (4-4) (by omega) ⟨(by(repeat apply ak rfl);exact hK2),(by(repeat apply ak rfl);exact hKB2),(by(repeat apply ak rfl);exact hKE2),4,rfl,by omega,rfl,?_⟩
      simp -dsimp -implicitDefEqProofs only[go_sem];rw[show Alg.pw (⟨a+3,by omega⟩:Zp) 0=1 from rfl,mul_one]
     ·have h42':τ2 12 = .i (iN 4):=h42;simp -dsimp -implicitDefEqProofs only[go_sem,h42',Int.reduceLT,decide_false];exact⟨(by(repeat apply ak rfl);exact hK2),(by(repeat apply ak rfl);exact hKB2),(by(repeat apply ak rfl);exact hKE2),q11⟩
    ·rintro e' τ2 β2 ε2 π2 hK2 hKB2 hKE2 ⟨rfl,q11⟩;have r8:τ2 8 = .sl 18 1 (Alg.sz p):=(hK2 8 rfl).trans k8;have r1:τ2 1 = .i (iN 0):=(hK2 1 rfl).trans k1;have r0:τ2 0 = .i (iUp p):=(hK2 0 rfl).trans k0;have r9:τ2 9 = .i (iN i):=(hK2 9 rfl).trans h9;have f18:ε2 18=⟨1,1,rows,true,true⟩:=by rw[hKE2 18 (by decide)];exact h19
     have kO:=Kp.step2 hK hK2 (by intro n;simp[inR]<;>omega) (by(repeat apply ak rfl);exact hK)
     have kB:=Kp.step2 hKB hKB2 (by intro n;simp[inR]) (by(repeat apply ak rfl);exact hKB)
     have kE:=Kp.step2 hKE hKE2 (by intro n;simp[inR]) hKE;have hs0:seen p ((U p).take i) e=0:=by
      rw[seen,if_neg];rintro ⟨t,ht,hte⟩;obtain⟨j,hj,rfl⟩:=List.getElem_of_mem ht;simp only[List.length_take]at hj;rw[List.getElem_take]at hte;have h5:=(List.pairwise_iff_getElem.1 (jB p).srt) j i (by omega) hlt (by omega);rw[jb ((jB p).uv _ (List.getElem_mem _)) ((jB p).uv _ (List.getElem_mem _)),het]at h5;simp only at h5;omega
     have hr0:=hrows e he;rw[hs0]at hr0;have hse:∀ j,seen p ((U p).take (i+1)) j=if j=e then rq (p.c e)else seen p ((U p).take i) j:=fun j=>by
      rw[ab hlt,het,seen,seen];by_cases hj:j=e
      ·subst hj;rw[if_pos ⟨_,by simp;right;rfl,rfl⟩,if_pos rfl]
      ·rw[if_neg hj];congr 1;refine propext ⟨?_,fun⟨t,ht,h5⟩=>⟨t,by simp[ht],h5⟩⟩;rintro ⟨t,ht,h5⟩;rcases List.mem_append.1 ht with ht|ht
       ·exact⟨t,ht,h5⟩
       ·simp at ht;subst ht;simp only at h5;omega
     simp -dsimp -implicitDefEqProofs only[go_sem,r0,r9,r1,r8,q11,f18,Int.reduceToNat,Int.reduceLE,ag];refine av hg ?_;simp -dsimp -implicitDefEqProofs only[go_sem,r0,r9,r1,r8,q11,f18,Int.reduceToNat,Int.reduceLE,ag,Int.toNat_natCast];refine⟨he,_,hr0,?_⟩;simp -dsimp -implicitDefEqProofs only[go_sem,zr,zadd,zadd',r0,r9,r1,r8,q11,f18,Int.reduceToNat,Int.reduceLE,ag,Int.toNat_natCast];refine⟨by omega,he,_,hr0,?_⟩;simp -dsimp -implicitDefEqProofs only[go_sem,r9,zr]
     repeat(refine And.intro (by omega) ?_)
     refine again ((U p).length-(i+1)) (by omega) ⟨(by(repeat apply ak rfl);exact kO),(by(repeat apply ak rfl);exact kB),(by(repeat apply ak rfl);exact kE),i+1,rows.set e (zr (0+rq (p.c e))),rfl,by omega,rfl,by simp -dsimp -implicitDefEqProofs only[go_sem,f18];rfl,fun j hj=>?_,fun t ht=>?_⟩
     ·rw[List.getElem?_set,hse];by_cases hje:e=j
      ·subst hje;rw[if_pos rfl,if_pos (List.getElem?_eq_some_iff.1 hr0).1,if_pos rfl,zero_add];rfl
      ·rw[if_neg hje,if_neg (fun h=>hje h.symm)];exact hrows j hj
     ·rw[ab hlt,het]at ht;rcases List.mem_append.1 ht with ht|ht
      ·exact hgood t ht
      ·simp at ht;subst ht;exact hd
  ·have hA:decide ((i:Int)<((U p).length:Int))=false:=aj (by omega);obtain rfl:i=(U p).length:=by omega
   rw[List.take_length]at hrows hgood;simp -dsimp -implicitDefEqProofs only[go_sem,h9,k0,hA,af];refine⟨(by(repeat apply ak rfl);exact hK),(by(repeat apply ak rfl);exact hKB),(by(repeat apply ak rfl);exact hKE),?_,rows,h19,?_⟩
   ·intro j hj;by_cases hc:p.c j=0
    ·rw[hc];decide
    ·exact hgood _ (Ip hc)
   ·intro j hj;rw[<-xT p j];exact hrows j hj
 ·rintro e τ β ε π hK hKB hKE h;refine⟨_,aY.refl _,?_⟩;rcases h with⟨rfl,hg,rows,h19,hrows⟩|⟨rfl,hg,h6,h7⟩
  ·have k8:τ 8 = .sl 18 1 (Alg.sz p):=(hK 8 rfl).trans rfl;have el:(Alg.sz p:Int)-1=((Alg.sz p-1:Nat):Int):=by omega
   simp -dsimp -implicitDefEqProofs only[go_sem,k8];refine an (by rfl) 10 [] false true (by rfl) (by rfl) (by decide +kernel) ?_;simp -dsimp -implicitDefEqProofs only[go_sem,k8,h19,el]
   repeat(refine And.intro (by omega) ?_)
   refine⟨_,hrows (Alg.sz p-1) (by omega),?_⟩;simp -dsimp -implicitDefEqProofs only[go_sem,zr];have htake:rows.take (Alg.sz p)=(eA p).map zr:=by
    refine List.ext_getElem? fun j=>?_;rw[List.getElem?_take,List.getElem?_map];split
    ·rename_i hj;rw[hrows j hj,ah (by rw[dy];exact hj)];simp[eA]
    ·rename_i hj;rw[List.getElem?_eq_none (by rw[dy];omega)];rfl
   have hnz:(!decide ((((rq (p.c (Alg.sz p-1))).val:Nat):Int)=0))=decide (rq (lc p)≠0):=by
    rw[show lc p=p.c (Alg.sz p-1)from rfl];by_cases h0:rq (p.c (Alg.sz p-1))=0
    ·rw[h0];rfl
    ·have h1:(rq (p.c (Alg.sz p-1))).val≠0:=fun h=>h0 (kx h);rw[ai h0,aj (by omega)];rfl
   rw[qc,if_pos hg,htake,hnz]
  ·simp -dsimp -implicitDefEqProofs only[go_sem,h6,h7];rw[qc,if_neg hg]
noncomputable def rbnd (p q:PQ):Int:=if eH p/\eH q then(Alg.sz (euc (eA q).length (zp (eA p)) (zp (eA q))):Int)-1 else(Alg.sz p:Int)-1
theorem Mk (r:PZ):TrZ (zli r):=fun h=>by
 rw[ky]at h;have e:(zli r)[(zli r).length-1]=r.c (Alg.sz r-1):=by simp[zli]
 rw[e];exact kF (by omega)
theorem Mi (r:PZ):zp (zli r)=r:=Alg.P.ext fun i=>by
 by_cases h:i<Alg.sz r
 ·rw[lm (by rw[ky];exact h)];simp[zli]
 ·rw[om (by rw[ky];omega),au (by omega)]
set_option maxHeartbeats 1600000 in
theorem uc {p q:PQ} {h k:Nat} (hp:Alg.HB h p) (hq:Alg.HB k q) (hb:h<=137438953000) (hb':k<=137438953000) (hp0:p≠0) (hq0:q≠0) (sp:Alg.sz p<=1048576) (sq:Alg.sz q<=1048576):Fn Tryz.prog 134 [iUp p,iUp q,iN 0] [iN (rbnd p q)]:=by
 have hp1:=aA hp0;have hq1:=aA hq0;refine ao kd (fn:=Tryz.f134) (by rfl) rfl rfl rfl (by rfl) (by simp) (by rfl) ?_;simp -dsimp -implicitDefEqProofs only[go_sem];refine aH [(6,47)] [] [] (fun n τ β ε=>∃ i:Nat,n=3-i/\i<=3/\τ 7 = .i (iN ((17+100*i:Nat):Int))/\(1<=i->¬ (eH p/\eH q)))
  (fun e τ β ε=>(e = .exit 0/\¬ (eH p/\eH q))\/(e = .ret/\τ 6 = .i (iN (rbnd p q)))) 3 ?_ ?_ ?_
 ·exact⟨0,by omega,by omega,rfl,fun h=>by omega⟩
 ·rintro n τ β ε π hK hKB hKE ⟨i,hn,hi,h7,hbad⟩;have k0:τ 0 = .i (iUp p):=(hK 0 rfl).trans rfl;have k1:τ 1 = .i (iUp q):=(hK 1 rfl).trans rfl;have k2:τ 2 = .i (iN 0):=(hK 2 rfl).trans rfl;by_cases hlt:i<3
  ·have hA:decide (((17+100*i:Nat):Int)<300)=true:=ai (by omega);have ea:((17+100*i:Nat):Int) % 18446744073709551616=((17+100*i:Nat):Int):=by omega
   simp -dsimp -implicitDefEqProofs only[go_sem,h7,k0,k1,k2,hA,ea];refine am (oa hp hb hp0 sp (17+100*i) (by omega)) ?_;by_cases g1:eH p
   ·rw[iS g1];simp -dsimp -implicitDefEqProofs only[go_sem,h7,k1,k2,ea];refine am (oa hq hb' hq0 sq (17+100*i) (by omega)) ?_;by_cases g2:eH q
    ·rw[iS g2];have lx:=dy p;have ly:=dy q;simp -dsimp -implicitDefEqProofs only[go_sem];refine aH [(8,8),(10,10),(38,44)] [] [] (fun n τ' β' ε'=>∃ x y:List Zp,n=y.length/\0<x.length/\TrZ x/\TrZ y/\x.length<=1048576/\y.length<=1048576/\euc (eA q).length (zp (eA p)) (zp (eA q))=euc y.length (zp x) (zp y)/\τ' 8 = .i (zl x)/\τ' 10 = .i (zl y))
      (fun e τ' β' ε'=>e = .exit 2/\∃ x:List Zp,0<x.length/\x.length<=1048576/\TrZ x/\euc (eA q).length (zp (eA p)) (zp (eA q))=zp x/\τ' 8 = .i (zl x)) (eA q).length ?_ ?_ ?_
     ·exact⟨eA p,eA q,rfl,by omega,s6 g1.2,s6 g2.2,by omega,by omega,rfl,rfl,rfl⟩
     ·rintro n2 τ2 β2 ε2 π2 hK2 hKB2 hKE2 ⟨x,y,hn2,x0,tx,ty,sx,sy,he,h8,h10⟩;by_cases hy:0<y.length
      ·have dA:decide ((0:Int)<(y.length:Int))=true:=ai (by omega);have hy':zp y≠0:=fun e=>by
        have:=jW ty;rw[e,ap.2 rfl]at this;omega
       obtain⟨s,e1,e2⟩:=Gm (zp x) hy';rw[jW ty]at e2;simp -dsimp -implicitDefEqProofs only[go_sem,h8,h10,dA,af];refine aa (It x0 hy tx ty sx sy) rfl ?_;simp -dsimp -implicitDefEqProofs only[go_sem];refine again (zli (rm (zp x) (zp y))).length (by rw[ky];omega) ⟨(by(repeat apply ak rfl);exact hK2),(by(repeat apply ak rfl);exact hKB2),(by(repeat apply ak rfl);exact hKE2),y,zli (rm (zp x) (zp y)),rfl,hy,ty,Mk _,sy,by rw[ky];omega,?_,by simp -dsimp -implicitDefEqProofs only[go_sem,h10],(by simp -dsimp -implicitDefEqProofs only[go_sem];try rfl)⟩
       rw[he,Mi,ky];obtain⟨m,hm⟩:∃ m,y.length=m+1:=⟨y.length-1,by omega⟩;rw[hm];simp only[euc];rw[if_neg hy'];exact tz _ _ _ _ (ae _) (by omega)
      ·have dA:decide ((0:Int)<(y.length:Int))=false:=aj (by omega);simp -dsimp -implicitDefEqProofs only[go_sem,h10,dA,af];refine⟨(by(repeat apply ak rfl);exact hK2),(by(repeat apply ak rfl);exact hKB2),(by(repeat apply ak rfl);exact hKE2),x,x0,sx,tx,?_,h8⟩
       rw[he,show y.length=0 by omega];rfl
     ·rintro e τ2 β2 ε2 π2 hK2 hKB2 hKE2 ⟨rfl,x,x0,sx,tx,he,h8⟩;have kO:=Kp.step2 hK hK2 (by intro n;simp[inR]<;>omega) (by(repeat apply ak rfl);exact hK)
      have kB:=Kp.step2 hKB hKB2 (by intro n;simp[inR]) hKB;have kE:=Kp.step2 hKE hKE2 (by intro n;simp[inR]) hKE;simp -dsimp -implicitDefEqProofs only[go_sem,h8,af]
      repeat(refine And.intro (by omega) ?_)
      have:rbnd p q=(x.length:Int)-1:=by rw[rbnd,if_pos ⟨g1,g2⟩,he,jW tx]
      rw[this]
    ·obtain⟨L,hL⟩:=kh g2;rw[hL];simp -dsimp -implicitDefEqProofs only[go_sem,h7]
     repeat(refine And.intro (by omega) ?_)
     exact again (3-(i+1)) (by omega) ⟨(by(repeat apply ak rfl);exact hK),(by(repeat apply ak rfl);exact hKB),(by(repeat apply ak rfl);exact hKE),i+1,rfl,by omega,by simp -dsimp -implicitDefEqProofs only[go_sem];refine congrArg (fun z=>AV.i (.c (.v (.int .i64 z)))) ?_;omega,fun _ h=>g2 h.2⟩
   ·obtain⟨L,hL⟩:=kh g1;rw[hL];simp -dsimp -implicitDefEqProofs only[go_sem,h7,k1,k2,ea];refine am (oa hq hb' hq0 sq (17+100*i) (by omega)) ?_;obtain⟨M,b,hM⟩:∃(M:List Zp) (b:Bool),qc q=[zl M,iB b]:=by
     by_cases g2:eH q
     ·exact⟨_,_,iS g2⟩
     ·obtain⟨M,hM⟩:=kh g2;exact⟨M,_,hM⟩
    rw[hM];simp -dsimp -implicitDefEqProofs only[go_sem,h7]
    repeat(refine And.intro (by omega) ?_)
    exact again (3-(i+1)) (by omega) ⟨(by(repeat apply ak rfl);exact hK),(by(repeat apply ak rfl);exact hKB),(by(repeat apply ak rfl);exact hKE),i+1,rfl,by omega,by simp -dsimp -implicitDefEqProofs only[go_sem];refine congrArg (fun z=>AV.i (.c (.v (.int .i64 z)))) ?_;omega,fun _ h=>g1 h.1⟩
  ·have hA:decide (((17+100*i:Nat):Int)<300)=false:=aj (by omega);simp -dsimp -implicitDefEqProofs only[go_sem,h7,hA];exact⟨(by(repeat apply ak rfl);exact hK),(by(repeat apply ak rfl);exact hKB),(by(repeat apply ak rfl);exact hKE),hbad (by omega)⟩
 ·rintro e τ β ε π hK hKB hKE h;rcases h with⟨rfl,hbad⟩|⟨rfl,h6⟩
  ·have k0:τ 0 = .i (iUp p):=(hK 0 rfl).trans rfl;have k2:τ 2 = .i (iN 0):=(hK 2 rfl).trans rfl;simp -dsimp -implicitDefEqProofs only[go_sem,k0,k2];refine am (fB p sp) ?_;simp -dsimp -implicitDefEqProofs only[go_sem];rw[rbnd,if_neg hbad]
  ·simp -dsimp -implicitDefEqProofs only[go_sem,h6]
theorem Gv {p q:PQ} (hp:2<=Alg.sz p) (hq:2<=Alg.sz q) (hle:Alg.sz q<=Alg.sz p) (h:rbnd p q=0):Cop p q:=by
 refine CZ hp hq ?_;rw[rbnd]at h;by_cases g:eH p/\eH q
 ·rw[if_pos g]at h;rw[bnd,if_pos g,o6,if_neg (by rw[dy,dy];omega)];exact h
 ·rw[if_neg g]at h;omega
end Go.AM
namespace Go.AM
open Alg
open Go.Proofs
open Classical
def xj (n d p q:PQ):Prop:=(∃ a b:Rat,a≠0/\b≠0/\p=Alg.C a*n/\q=Alg.C b*d)\/∃ s t s' t',Row n d p s t q s' t'
theorem xX {n d p q:PQ} {k:Nat} (hk':Alg.HB k p) (hk:Alg.HB k q) (hc:xj n d p q) (hq:q≠0) (hle:Alg.sz q<=Alg.sz p) :
  (∃ s t s' t',Row n d q s t (psr q (Alg.sz p) p) s' t')/\Alg.sz (psr q (Alg.sz p) p)<Alg.sz q/\(∃(c:Rat) (S:PQ),c≠0/\Alg.C c*p=S*q+psr q (Alg.sz p) p)/\Alg.HB (k+Alg.sz p*(k+1)) (psr q (Alg.sz p) p):=by
 obtain⟨_,h2,_,h4,c,S,h5,h6⟩:=mc hq hk (Alg.sz p) p k (ae _) hk';refine⟨?_,h2 hle,⟨c,S,h5,h6⟩,h4⟩;have hlt:=h2 hle;generalize psr q (Alg.sz p) p=r at *
 rcases hc with⟨a,b,ha,hb,rfl,rfl⟩|⟨s,t,s',t',row⟩
 ·rw[bD hb]at hlt;rw[bD hb,bD ha]at hle;have hd:d≠0:=fun e=>hq (by rw[e,mul_zero]);have e:Alg.C (c*a)*n=(S*Alg.C b)*d+r:=by rw[bf,mul_assoc,h6,mul_assoc]
  have:=(Row.first (aD h5 ha) hd hle e hlt).scale hb (b:=(1:Rat)) (by decide)
  rw[bT,one_mul,one_mul,one_mul]at this;exact⟨_,_,_,_,this⟩
 ·exact⟨_,_,_,_,row.next h5 hq h6 hlt⟩
theorem vi {n d q r s t s' t':PQ} (row:Row n d q s t r s' t') (hr:r≠0):xj n d q (Alg.mo r):=by
 rcases ph hr row with⟨h1,h2⟩|h
 ·have:=row.scale (a:=(1:Rat)) (b:=Alg.inv (lc r)) (by decide) (eG (bB hr));rw[bT,one_mul,one_mul,one_mul]at this;exact .inr ⟨_,_,_,_,this⟩
 ·exact .inr h
theorem rt {g x y:PQ} (hx:x≠0) (hy:y≠0) (h:IsG g (Alg.mo x) (Alg.mo y)):IsG g x y:=(sX hx (sX hy h).symm).symm
theorem ml {g g' x y:PQ} (h:IsG g x y) (h':IsG g' x y):Alg.mo g=Alg.mo g':=by
 have h1:=ru h;have h2:=ru h';exact h1.trans h2.symm
theorem kP:Alg.mo (1:PQ)=1:=G3 (nY (R:=Rat) 1)
theorem sI {p:PQ} (h:Alg.sz p=1):Alg.mo p=1:=by
 have h1:=eU (Nat.le_of_eq h);have h2:p.c 0≠0:=fun e=>by
  rw[e,show Alg.C (0:Rat)=0 from co]at h1;rw[h1,ap.2 rfl]at h;omega
 rw[h1,Alg.mo,nY,<-bf,cq h2];rfl
theorem CH {x y g:PQ} (hx:x≠0) (hy:y≠0) (hle:Alg.sz (Alg.mo y)<=Alg.sz (Alg.mo x)) (hbig:2<=Alg.sz (Alg.mo x)) (h:rbnd (Alg.mo x) (Alg.mo y)=0) (hg:IsG g x y):Alg.mo g=Alg.mo 1:=by
 refine ml hg ?_;by_cases hy2:2<=Alg.sz (Alg.mo y)
 ·exact rt hx hy ⟨Dv.one _,Dv.one _,Gv hbig hy2 hle h⟩
 ·have h1:=aA (ik hy);have h2:Alg.mo y=1:=by rw[<-OJ,sI (by omega)]
  refine rt hx hy ?_;rw[h2];exact⟨Dv.one _,Dv.refl _,fun x _ hx=>hx⟩
set_option maxHeartbeats 1600000 in
theorem zy {n d g:PQ} {w h N:Nat} (hs:Sm w n d) (Hn:Alg.HB h n) (Hd:Alg.HB h d) (n0:n≠0) (d0:d≠0) (hnd:¬ (Alg.sz n=1/\Alg.sz d=1)) (tn:Alg.sz n<=N) (td:Alg.sz d<=N) (hN:N<=250000) (hgnd:IsG g n d)
  (hb:(2*(Alg.hN w+h)+1)+(N+2)*((2*(Alg.hN w+h)+1)+1)+2*(2*(Alg.hN w+h)+1)+2*N<=68719476000):Fn Tryz.prog 94 [iUp n,iUp d] [iUp (Alg.mo g)]:=by
 have hgdn:=hgnd.symm;have n1:=aA n0;have d1:=aA d0;have Hnm:=Hn.mo;have Hdm:=Hd.mo;have sn:Alg.sz (Alg.mo n)=Alg.sz n:=fe;have sd:Alg.sz (Alg.mo d)=Alg.sz d:=fe;have e1:=hzU n;rw[aj n0]at e1;have e2:=hzU d;rw[aj d0]at e2;have tp:=C7 n0 d0 (by omega) (by omega);rw[if_neg hnd]at tp;have g11:kj 1 1=(1:PQ):=by rw[kj,if_neg eX,if_neg eX]
 have base:=mI (p:=1) (q:=1) (cX 0) (cX 0) (by omega) (by omega) (by rw[ck];omega) (by rw[ck];omega) (.inr (.inr ⟨ck,ck⟩));rw[g11]at base;refine ao kd (fn:=Tryz.f94) (by rfl) rfl rfl rfl (by rfl) (by simp) (by rfl) ?_;simp -dsimp -implicitDefEqProofs only[go_sem,e1,e2,af];refine aa tp rfl ?_;simp -dsimp -implicitDefEqProofs only[go_sem,Int.reduceLT,decide_false];refine aa (li Hn (by omega) n0 (by omega)) rfl ?_;simp -dsimp -implicitDefEqProofs only[go_sem];refine aa (li Hd (by omega) d0 (by omega)) rfl ?_;simp -dsimp -implicitDefEqProofs only[go_sem];refine am base ?_;simp -dsimp -implicitDefEqProofs only[go_sem];refine aa (gk Hn (by omega) (by omega)) rfl ?_;simp -dsimp -implicitDefEqProofs only[go_sem];refine am (bZ Hn (by omega) (by omega)) ?_;simp -dsimp -implicitDefEqProofs only[go_sem];refine aa (gk Hd (by omega) (by omega)) rfl ?_;simp -dsimp -implicitDefEqProofs only[go_sem];refine am (bZ Hd (by omega) (by omega)) ?_;simp -dsimp -implicitDefEqProofs only[go_sem];refine am (fB _ (by omega)) ?_;simp -dsimp -implicitDefEqProofs only[go_sem];refine am (fB _ (by omega)) ?_;by_cases hlt:Alg.sz n<Alg.sz d
 ·have e3:decide ((Alg.sz (Alg.mo n):Int)-1<(Alg.sz (Alg.mo d):Int)-1)=true:=ai (by omega);have hle:Alg.sz (Alg.mo n)<=Alg.sz (Alg.mo d):=by omega
  have hbig:2<=Alg.sz (Alg.mo d):=by omega
  simp -dsimp -implicitDefEqProofs only[go_sem,e3];refine aa (uc Hdm Hnm (by omega) (by omega) (ik d0) (ik n0) (by omega) (by omega)) rfl ?_;by_cases hr:rbnd (Alg.mo d) (Alg.mo n)=0
  ·have e5:decide (rbnd (Alg.mo d) (Alg.mo n)=0)=true:=ai hr;simp -dsimp -implicitDefEqProofs only[go_sem,e5];refine am (bZ (cX 0) (by omega) (by rw[ck];omega)) ?_;simp -dsimp -implicitDefEqProofs only[go_sem];rw[kP,<-kP,CH d0 n0 hle hbig hr hgdn]
  ·have e5:decide (rbnd (Alg.mo d) (Alg.mo n)=0)=false:=aj hr;simp -dsimp -implicitDefEqProofs only[go_sem,e5];refine aH [(7,10),(58,72)] [] [] (fun m τ β ε=>∃ p q:PQ,m=Alg.sz q/\p≠0/\Alg.sz p<=N/\Alg.HB (2*(Alg.hN w+h)+1) p/\Alg.HB (2*(Alg.hN w+h)+1) q/\(q≠0->xj d n p q/\Alg.sz q<=Alg.sz p)/\Alg.sz q<=N/\(∀ g,IsG g p q->IsG g d n)/\τ 7 = .i (iUp p)/\τ 8 = .i (iUp q))
    (fun e τ β ε=>e = .exit 0/\∃ p:PQ,p≠0/\Alg.sz p<=N/\Alg.HB (2*(Alg.hN w+h)+1) p/\IsG p d n/\τ 7 = .i (iUp p)) (Alg.sz (Alg.mo n)) ?_ ?_ ?_
   ·exact⟨Alg.mo d,Alg.mo n,rfl,ik d0,by omega,Hdm.mono (by omega),Hnm.mono (by omega),fun _=>⟨.inl ⟨_,_,eG (bB d0),eG (bB n0),rfl,rfl⟩,by omega⟩,by omega,fun g hg=>rt d0 n0 hg,rfl,rfl⟩
   ·rintro m τ β ε π hK hKB hKE ⟨p,q,hm,hp0,hpN,hp,hq,hc,hqN,hG,h7,h8⟩;have k5:τ 5 = .i (iN 0):=(hK 5 rfl).trans rfl;by_cases hq0:q=0
    ·have dA:decide ((0:Int)<((U q).length:Int))=false:=aj (by rw[hq0,bQ];decide);simp -dsimp -implicitDefEqProofs only[go_sem,h8,dA,af];refine⟨(by(repeat apply ak rfl);exact hK),(by(repeat apply ak rfl);exact hKB),(by(repeat apply ak rfl);exact hKE),p,hp0,hpN,hp,hG p ?_,h7⟩
     rw[hq0];exact⟨Dv.refl _,Dv.zero _,fun x hx _=>hx⟩
    ·obtain⟨hch,hle'⟩:=hc hq0;have hq1:=aA hq0;have dA:decide ((0:Int)<((U q).length:Int))=true:=ai (by obtain⟨R,hR⟩:=fJ hq0;rw[hR];simp);obtain⟨⟨s,t,s',t',row⟩,hlt,⟨c,S,hc0,e⟩,hrH⟩:=xX hp hq hch hq0 hle';have hmul:Alg.sz p*((2*(Alg.hN w+h)+1)+1)<=N*((2*(Alg.hN w+h)+1)+1):=Nat.mul_le_mul_right _ hpN;have hmul2:(Alg.sz p+2)*((2*(Alg.hN w+h)+1)+1)<=(N+2)*((2*(Alg.hN w+h)+1)+1):=Nat.mul_le_mul_right _ (by omega);have hmul3:N*((2*(Alg.hN w+h)+1)+1)<=(N+2)*((2*(Alg.hN w+h)+1)+1):=Nat.mul_le_mul_right _ (by omega);simp -dsimp -implicitDefEqProofs only[go_sem,h7,h8,k5,dA,af];refine am (qQ hp hq hq0 (by omega) (by omega) (by omega)) ?_;simp -dsimp -implicitDefEqProofs only[go_sem,h7,h8,k5];refine am (gk hrH (by omega) (by omega)) ?_;simp -dsimp -implicitDefEqProofs only[go_sem,h7,h8,k5];refine am (bZ hrH (by omega) (by omega)) ?_;simp -dsimp -implicitDefEqProofs only[go_sem];have hms:Alg.sz (Alg.mo (psr q (Alg.sz p) p))=Alg.sz (psr q (Alg.sz p) p):=fe;refine again (Alg.sz (Alg.mo (psr q (Alg.sz p) p))) (by omega) ⟨(by(repeat apply ak rfl);exact hK),(by(repeat apply ak rfl);exact hKB),(by(repeat apply ak rfl);exact hKE),q,Alg.mo (psr q (Alg.sz p) p),rfl,hq0,hqN,hq,?_,fun hr0=>⟨?_,by omega⟩,by omega,fun g hg=>hG g (mj hc0 e ?_),rfl,rfl⟩
     ·by_cases hr0:psr q (Alg.sz p) p=0
      ·rw[hr0,eY];exact Alg.HB.zero _
      ·exact rk row hs.symm Hd Hn
     ·have hr1:psr q (Alg.sz p) p≠0:=fun e=>hr0 (by rw[e,eY]);exact vi row hr1
     ·by_cases hr0:psr q (Alg.sz p) p=0
      ·rw[hr0,eY]at hg;rw[hr0];exact hg
      ·exact sX hr0 hg
   ·rintro e τ β ε π hK hKB hKE ⟨rfl,p,hp0,hpN,hp,hG,h7⟩;have k5:τ 5 = .i (iN 0):=(hK 5 rfl).trans rfl;have k6:τ 6 = .i (iUp 1):=(hK 6 rfl).trans rfl;have hp1:=aA hp0;have hfin:Alg.mo g=Alg.mo p:=(ml hG hgdn).symm;simp -dsimp -implicitDefEqProofs only[go_sem,h7,k5];refine am (fB p (by omega)) ?_;by_cases h1:Alg.sz p=1
    ·have e6:decide ((Alg.sz p:Int)-1<1)=true:=ai (by omega);simp -dsimp -implicitDefEqProofs only[go_sem,e6,k6];refine am (bZ (cX 0) (by omega) (by rw[ck];omega)) ?_;simp -dsimp -implicitDefEqProofs only[go_sem];rw[hfin,sI h1,kP]
    ·have e6:decide ((Alg.sz p:Int)-1<1)=false:=aj (by omega);simp -dsimp -implicitDefEqProofs only[go_sem,e6,k6,h7];have mul:=dK (cX 0) hp (by omega) (by rw[ck];omega) (by omega);rw[one_mul]at mul;refine am mul ?_;simp -dsimp -implicitDefEqProofs only[go_sem];refine am (bZ hp (by omega) (by omega)) ?_;simp -dsimp -implicitDefEqProofs only[go_sem];rw[hfin]
 ·have e3:decide ((Alg.sz (Alg.mo n):Int)-1<(Alg.sz (Alg.mo d):Int)-1)=false:=aj (by omega);have hle:Alg.sz (Alg.mo d)<=Alg.sz (Alg.mo n):=by omega
  have hbig:2<=Alg.sz (Alg.mo n):=by omega
  simp -dsimp -implicitDefEqProofs only[go_sem,e3];refine aa (uc Hnm Hdm (by omega) (by omega) (ik n0) (ik d0) (by omega) (by omega)) rfl ?_;by_cases hr:rbnd (Alg.mo n) (Alg.mo d)=0
  ·have e5:decide (rbnd (Alg.mo n) (Alg.mo d)=0)=true:=ai hr;simp -dsimp -implicitDefEqProofs only[go_sem,e5];refine am (bZ (cX 0) (by omega) (by rw[ck];omega)) ?_;simp -dsimp -implicitDefEqProofs only[go_sem];rw[kP,<-kP,CH n0 d0 hle hbig hr hgnd]
  ·have e5:decide (rbnd (Alg.mo n) (Alg.mo d)=0)=false:=aj hr;simp -dsimp -implicitDefEqProofs only[go_sem,e5];refine aH [(7,10),(58,72)] [] [] (fun m τ β ε=>∃ p q:PQ,m=Alg.sz q/\p≠0/\Alg.sz p<=N/\Alg.HB (2*(Alg.hN w+h)+1) p/\Alg.HB (2*(Alg.hN w+h)+1) q/\(q≠0->xj n d p q/\Alg.sz q<=Alg.sz p)/\Alg.sz q<=N/\(∀ g,IsG g p q->IsG g n d)/\τ 7 = .i (iUp p)/\τ 8 = .i (iUp q))
    (fun e τ β ε=>e = .exit 0/\∃ p:PQ,p≠0/\Alg.sz p<=N/\Alg.HB (2*(Alg.hN w+h)+1) p/\IsG p n d/\τ 7 = .i (iUp p)) (Alg.sz (Alg.mo d)) ?_ ?_ ?_
   ·exact⟨Alg.mo n,Alg.mo d,rfl,ik n0,by omega,Hnm.mono (by omega),Hdm.mono (by omega),fun _=>⟨.inl ⟨_,_,eG (bB n0),eG (bB d0),rfl,rfl⟩,by omega⟩,by omega,fun g hg=>rt n0 d0 hg,rfl,rfl⟩
   ·rintro m τ β ε π hK hKB hKE ⟨p,q,hm,hp0,hpN,hp,hq,hc,hqN,hG,h7,h8⟩;have k5:τ 5 = .i (iN 0):=(hK 5 rfl).trans rfl;by_cases hq0:q=0
    ·have dA:decide ((0:Int)<((U q).length:Int))=false:=aj (by rw[hq0,bQ];decide);simp -dsimp -implicitDefEqProofs only[go_sem,h8,dA,af];refine⟨(by(repeat apply ak rfl);exact hK),(by(repeat apply ak rfl);exact hKB),(by(repeat apply ak rfl);exact hKE),p,hp0,hpN,hp,hG p ?_,h7⟩
     rw[hq0];exact⟨Dv.refl _,Dv.zero _,fun x hx _=>hx⟩
    ·obtain⟨hch,hle'⟩:=hc hq0;have hq1:=aA hq0;have dA:decide ((0:Int)<((U q).length:Int))=true:=ai (by obtain⟨R,hR⟩:=fJ hq0;rw[hR];simp);obtain⟨⟨s,t,s',t',row⟩,hlt,⟨c,S,hc0,e⟩,hrH⟩:=xX hp hq hch hq0 hle';have hmul:Alg.sz p*((2*(Alg.hN w+h)+1)+1)<=N*((2*(Alg.hN w+h)+1)+1):=Nat.mul_le_mul_right _ hpN;have hmul2:(Alg.sz p+2)*((2*(Alg.hN w+h)+1)+1)<=(N+2)*((2*(Alg.hN w+h)+1)+1):=Nat.mul_le_mul_right _ (by omega);have hmul3:N*((2*(Alg.hN w+h)+1)+1)<=(N+2)*((2*(Alg.hN w+h)+1)+1):=Nat.mul_le_mul_right _ (by omega);simp -dsimp -implicitDefEqProofs only[go_sem,h7,h8,k5,dA,af];refine am (qQ hp hq hq0 (by omega) (by omega) (by omega)) ?_;simp -dsimp -implicitDefEqProofs only[go_sem,h7,h8,k5];refine am (gk hrH (by omega) (by omega)) ?_;simp -dsimp -implicitDefEqProofs only[go_sem,h7,h8,k5];refine am (bZ hrH (by omega) (by omega)) ?_;simp -dsimp -implicitDefEqProofs only[go_sem];have hms:Alg.sz (Alg.mo (psr q (Alg.sz p) p))=Alg.sz (psr q (Alg.sz p) p):=fe;refine again (Alg.sz (Alg.mo (psr q (Alg.sz p) p))) (by omega) ⟨(by(repeat apply ak rfl);exact hK),(by(repeat apply ak rfl);exact hKB),(by(repeat apply ak rfl);exact hKE),q,Alg.mo (psr q (Alg.sz p) p),rfl,hq0,hqN,hq,?_,fun hr0=>⟨?_,by omega⟩,by omega,fun g hg=>hG g (mj hc0 e ?_),rfl,rfl⟩
     ·by_cases hr0:psr q (Alg.sz p) p=0
      ·rw[hr0,eY];exact Alg.HB.zero _
      ·exact rk row hs Hn Hd
     ·have hr1:psr q (Alg.sz p) p≠0:=fun e=>hr0 (by rw[e,eY]);exact vi row hr1
     ·by_cases hr0:psr q (Alg.sz p) p=0
      ·rw[hr0,eY]at hg;rw[hr0];exact hg
      ·exact sX hr0 hg
   ·rintro e τ β ε π hK hKB hKE ⟨rfl,p,hp0,hpN,hp,hG,h7⟩;have k5:τ 5 = .i (iN 0):=(hK 5 rfl).trans rfl;have k6:τ 6 = .i (iUp 1):=(hK 6 rfl).trans rfl;have hp1:=aA hp0;have hfin:Alg.mo g=Alg.mo p:=(ml hG hgnd).symm;simp -dsimp -implicitDefEqProofs only[go_sem,h7,k5];refine am (fB p (by omega)) ?_;by_cases h1:Alg.sz p=1
    ·have e6:decide ((Alg.sz p:Int)-1<1)=true:=ai (by omega);simp -dsimp -implicitDefEqProofs only[go_sem,e6,k6];refine am (bZ (cX 0) (by omega) (by rw[ck];omega)) ?_;simp -dsimp -implicitDefEqProofs only[go_sem];rw[hfin,sI h1,kP]
    ·have e6:decide ((Alg.sz p:Int)-1<1)=false:=aj (by omega);simp -dsimp -implicitDefEqProofs only[go_sem,e6,k6,h7];have mul:=dK (cX 0) hp (by omega) (by rw[ck];omega) (by omega);rw[one_mul]at mul;refine am mul ?_;simp -dsimp -implicitDefEqProofs only[go_sem];refine am (bZ hp (by omega) (by omega)) ?_;simp -dsimp -implicitDefEqProofs only[go_sem];rw[hfin]
end Go.AM
