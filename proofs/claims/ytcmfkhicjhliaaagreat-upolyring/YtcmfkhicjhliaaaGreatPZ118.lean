/- Lemmas, part 19 of 24: Package upoly: division; Package upoly: Euclid's algorithm; Powers of polynomials and of rational functions; Package upoly: resultants; Package upoly: linear equations, for divisors of degree at most 1; Package upoly: squarefree decompositions; Reference R7: orders, equality. No condition. -/
import Derived.Test.YtcmfkhicjhliaaaGreatPZ117
set_option maxRecDepth 65536
set_option linter.unusedSimpArgs false
set_option linter.unusedVariables false
set_option linter.unusedSectionVars false
namespace Go.AM
open Alg
open Go.Proofs
open Classical
theorem gJ:ku (0:KP)=kl []:=by show kl (Alg.cl 0)=_;rw[pd]
def wD (w v:Nat):Nat->Nat
 | 0=>w
 | n+1=>2*wD w v n+2*v+1
theorem rd (w v:Nat):∀{m n:Nat},m<=n->wD w v m<=wD w v n:=by
 intro m n h
 induction n with
 | zero=>rw[Nat.le_zero.1 h];exact ae _
 | succ n ih =>
  rcases Nat.lt_or_ge n m with h1|h1
  ·rw[show m=n+1 by omega];exact ae _
  ·have:=ih h1;simp only[wD];omega
theorem Ci {n:Nat} {p:KP} (h:Alg.sz p<=n):dh (dc n p)=Alg.cl p:=by
 rw[jc];congr 1;refine Alg.P.ext fun i=>?_;rw[uw,List.getD_eq_getElem?_getD];rcases Nat.lt_or_ge i n with hi|hi
 ·rw[j7 p hi];rfl
 ·rw[List.getElem?_eq_none (by rw[dF];exact hi),au (by omega)];rfl
theorem Ec {n j:Nat} {p p':KP} {x:KQ} (h:∀ i,i≠j->p'.c i=p.c i) (hx:p'.c j=x):(dc n p).set j x=dc n p':=by
 refine List.ext_getElem (by simp[dc]) fun i h1 h2=>?_;rw[List.getElem_set];simp only[dc,List.getElem_map,List.getElem_range];by_cases e:j=i
 ·subst e;rw[if_pos rfl,hx]
 ·rw[if_neg e,h i fun e'=>e e'.symm]
theorem xa (p:KP):Fn Tryz.prog 18 [ku p,ku 0] [ku 0,ku 0,iN 3]:=by
 have e1:decide (((0:Nat):Int)=0)=true:=rfl;rw[gJ];refine ao kd (fn:=Tryz.f18) (by rfl) rfl rfl rfl (by rfl) (by simp) (by rfl) ?_;simp -dsimp -implicitDefEqProofs only[go_sem,af,e1];rfl
theorem xc {p q:KP} {v:Nat} (hq0:q≠0) (hlt:Alg.sz p<Alg.sz q) (hq:PW v q) (hv:v<=1000) (hs:Alg.sz p<=1000) (hs':Alg.sz q<=1000):Fn Tryz.prog 18 [ku p,ku q] [ku 0,ku p,iN 0]:=by
 have e1:decide ((Alg.sz q:Int)=0)=false:=aj (by omega);have sq:=aA hq0;have hlast:(Alg.cl q)[Alg.sz q-1]?=some (lc q):=by rw[ah (by rw[aF];omega),jp];rfl
 have el:(Alg.sz q:Int)-1=((Alg.sz q-1:Nat):Int):=by omega
 rw[gJ];refine ao kd (fn:=Tryz.f18) (by rfl) rfl rfl rfl (by rfl) (by simp) (by rfl) ?_;simp -dsimp -implicitDefEqProofs only[go_sem,af,aF,e1];refine bO (oj ((Alg.cl p).map kr) (ro _) (by simp[aF];omega)) ?_;simp -dsimp -implicitDefEqProofs only[go_sem,af,aF];refine am (bW 0 (by decide)) ?_;simp -dsimp -implicitDefEqProofs only[go_sem,af,aF]
 repeat(refine And.intro (by omega) ?_)
 rw[show max (0:Int) ((Alg.sz p:Int)-(Alg.sz q:Int)+1)=0 by omega];refine bO (BP (kr (kn 0))) ?_;simp -dsimp -implicitDefEqProofs only[go_sem,af,aF];refine an (by rfl) 12 [9] false true (by rfl) (by rfl) (by decide +kernel) ?_;simp -dsimp -implicitDefEqProofs only[go_sem];refine am (bW 1 (by decide)) ?_;simp -dsimp -implicitDefEqProofs only[go_sem,af,aF,el]
 repeat(refine And.intro (by omega) ?_)
 refine av hlast ?_;simp -dsimp -implicitDefEqProofs only[go_sem];have hl0:=bB hq0;have hlw:FB v (Alg.inv (lc q)):=(hq _).inv hl0;have hc:kn 1*Alg.inv (lc q)=Alg.inv (lc q):=by rw[fi,one_mul]
 refine ar (args':=[iK (kn 1),iK (lc q)]) rfl (un gh ((jO (w:=0) (by decide)).mono (by omega)) ((hq _).mono hv) hl0 (by rw[hc];exact hlw.mono hv)) ?_;rw[hc];simp -dsimp -implicitDefEqProofs only[go_sem];refine ar (args':=[iK (Alg.inv (lc q)),iN 0]) rfl (pz _ 0) ?_;simp -dsimp -implicitDefEqProofs only[go_sem];refine⟨by decide,?_⟩;refine aX [(10,12),(42,84)] [(12,12)] [] (fun m τ β ε=>m=0/\τ 10 = .i (iN (-1))) (fun e τ β ε=>e = .exit 0) 0 ?_ ?_ ?_
 ·exact⟨rfl,rfl⟩
 ·rintro m τ β ε π hK hKB hKE ⟨rfl,h10⟩;have hA:decide ((0:Int) <= -1)=false:=rfl;simp -dsimp -implicitDefEqProofs only[go_sem,h10,hA];exact⟨(by(repeat apply ak rfl);exact hK),(by(repeat apply ak rfl);exact hKB),(by(repeat apply ak rfl);exact hKE)⟩
 ·rintro e τ β ε π hK hKB hKE rfl;have k8:τ 8 = .sl 27 1 0:=(hK 8 rfl).trans rfl;have k7:τ 7 = .sl 17 1 (Alg.sz p):=by rw[hK 7 (by decide)];simp -dsimp -implicitDefEqProofs only[go_sem,af,aF]
  have r27:ε 27=⟨1,2,[],false,true⟩:=by rw[hKE 27 (by decide)];simp -dsimp -implicitDefEqProofs only[go_sem];rfl
  have r17:∃ m,ε 17=⟨1,2,(Alg.cl p).map kr,m,true⟩:=⟨_,by rw[hKE 17 (by decide)];simp -dsimp -implicitDefEqProofs only[go_sem];rfl⟩;obtain⟨mm,r17⟩:=r17;refine⟨_,aY.refl _,?_⟩;simp -dsimp -implicitDefEqProofs only[go_sem,k8,k7,r27,r17];refine aa (jx [] (by simp)) rfl ?_;simp -dsimp -implicitDefEqProofs only[go_sem,k7,r17];refine ar (args':=[kl (Alg.cl p)]) ?_ (jx (Alg.cl p) (by rw[aF];omega)) ?_
  ·rw[List.take_of_length_le (by simp[aF])]
  have e5:dh (Alg.cl p)=Alg.cl p:=by rw[jc,GC]
  rw[e5];simp -dsimp -implicitDefEqProofs only[go_sem];rfl
structure DvS (p q:KP) (w v n r:Nat) (Q R:KP):Prop where
 eq:p=Q*q+R
 szR:Alg.sz R<=r+Alg.sz q-1
 szQ:Alg.sz Q<=n
 low:∀ j,j<r->Q.c j=0
 w:PW (wD w v (n-r)) R
set_option maxHeartbeats 2000000 in
theorem xb {p q:KP} {w v n:Nat} (hq0:q≠0) (hle:Alg.sz q<=Alg.sz p) (hn:n=Alg.sz p-Alg.sz q+1) (hp:PW w p) (hq:PW v q) (hb:wD w v n<=1000) (hs:Alg.sz p<=1000) (hs':Alg.sz q<=1000):Fn Tryz.prog 18 [ku p,ku q] [ku (qu p q),ku (Alg.re p q),iN 0]:=by
 have e1:decide ((Alg.sz q:Int)=0)=false:=aj (by have:=aA hq0;omega);have sq:=aA hq0;have hw:w<=1000:=ac (rd w v (Nat.zero_le n)) hb;have hv1:2*v+1<=1000:=by
  have:=rd w v (show 1<=n by omega);simp only[wD]at this;omega
 have hlast:(Alg.cl q)[Alg.sz q-1]?=some (lc q):=by rw[ah (by rw[aF];omega),jp];rfl
 have el:(Alg.sz q:Int)-1=((Alg.sz q-1:Nat):Int):=by omega
 have hrep:=vp (kr (kn 0)) rfl n (by omega) (by omega);have erep:List.replicate n (kr (kn 0))=(dc n (0:KP)).map kr:=by
  rw[gL];refine List.ext_getElem (by simp[dc]) fun i h1 h2=>?_;simp[dc];rfl
 have eem:∀(m:Nat) (r:KP),0<m->(!(List.map kr (dc m r)).isEmpty)=true:=by
  intro m r hm;obtain⟨m,rfl⟩:∃ m',m=m'+1:=⟨m-1,by omega⟩;simp[dc,List.range_succ]
 have eem2:(!(List.map kr (Alg.cl p)).isEmpty)=true:=by rw[<-vT rfl];exact eem _ _ (by omega)
 rw[erep]at hrep;have hl0:=bB hq0;have hlw:FB v (Alg.inv (lc q)):=(hq _).inv hl0;have hc:kn 1*Alg.inv (lc q)=Alg.inv (lc q):=by rw[fi,one_mul]
 refine ao kd (fn:=Tryz.f18) (by rfl) rfl rfl rfl (by rfl) (by simp) (by rfl) ?_;simp -dsimp -implicitDefEqProofs only[go_sem,af,aF,e1];refine bO (oj ((Alg.cl p).map kr) (ro _) (by simp[aF];omega)) ?_;simp -dsimp -implicitDefEqProofs only[go_sem,af,aF];refine am (bW 0 (by decide)) ?_;simp -dsimp -implicitDefEqProofs only[go_sem,af,aF]
 repeat(refine And.intro (by omega) ?_)
 rw[show max (0:Int) ((Alg.sz p:Int)-(Alg.sz q:Int)+1)=(n:Int)by omega];refine bO hrep ?_;simp -dsimp -implicitDefEqProofs only[go_sem,af,aF,dF];refine an (by rfl) 12 [9] false true (by rfl) (by rfl) (by decide +kernel) ?_;simp -dsimp -implicitDefEqProofs only[go_sem];refine am (bW 1 (by decide)) ?_;simp -dsimp -implicitDefEqProofs only[go_sem,af,aF,el]
 repeat(refine And.intro (by omega) ?_)
 refine av hlast ?_;simp -dsimp -implicitDefEqProofs only[go_sem];refine ar (args':=[iK (kn 1),iK (lc q)]) rfl (un gh ((jO (w:=0) (by decide)).mono (by omega)) ((hq _).mono (by omega)) hl0 (by rw[hc];exact hlw.mono (by omega))) ?_;rw[hc];simp -dsimp -implicitDefEqProofs only[go_sem];refine ar (args':=[iK (Alg.inv (lc q)),iN 0]) rfl (pz _ 0) ?_;simp -dsimp -implicitDefEqProofs only[go_sem,dF,af]
 repeat(refine And.intro (by omega) ?_)
 refine aX [(10,12),(42,84)] [(12,12)] [(17,17),(27,27)] (fun m τ β ε=>∃(r:Nat) (Q R:KP),m=r/\r<=n/\τ 10 = .i (iN ((r:Int)-1))/\DvS p q w v n r Q R/\ε 17=⟨1,2,(dc (Alg.sz p) R).map kr,true,true⟩/\ε 27=⟨1,2,(dc n Q).map kr,true,true⟩)
  (fun e τ β ε=>e = .exit 0/\∃ Q R:KP,DvS p q w v n 0 Q R/\ε 17=⟨1,2,(dc (Alg.sz p) R).map kr,true,true⟩/\ε 27=⟨1,2,(dc n Q).map kr,true,true⟩) n ?_ ?_ ?_
 ·refine⟨n,0,p,rfl,ae _,by simp -dsimp -implicitDefEqProofs only[go_sem,dF,af],⟨by rw[zero_mul,zero_add],by omega,by rw[ap.2 rfl];omega,fun _ _=>rfl,by rw[Nat.sub_self];exact hp⟩,?_,?_⟩
  ·simp -dsimp -implicitDefEqProofs only[go_sem];rw[eem2,vT rfl]
  ·simp -dsimp -implicitDefEqProofs only[go_sem];rw[eem n 0 (by omega)]
 ·rintro m τ β ε π hK hKB hKE ⟨r,Q,R,rfl,hr,h10,hD,h17,h27⟩;have k8:τ 8 = .sl 27 1 n:=by rw[hK 8 (by decide)];simp -dsimp -implicitDefEqProofs only[go_sem,dF,af]
  have k7:τ 7 = .sl 17 1 (Alg.sz p):=by rw[hK 7 (by decide)];simp -dsimp -implicitDefEqProofs only[go_sem,af,aF]
  have k9:τ 9 = .bp 9 1 0:=(hK 9 rfl).trans rfl;have b9:β 9=⟨1,kr (Alg.inv (lc q))⟩:=(hKB 9 rfl).trans rfl;have k1:τ 1 = .i (ku q):=(hK 1 rfl).trans rfl;cases m with
  | zero =>
   have hA:decide ((0:Int)<=((0:Nat):Int)-1)=false:=rfl;simp -dsimp -implicitDefEqProofs only[go_sem,h10,hA];exact⟨(by(repeat apply ak rfl);exact hK),(by(repeat apply ak rfl);exact hKB),(by(repeat apply ak rfl);exact hKE),Q,R,hD,h17,h27⟩
  | succ i =>
   have er:((i+1:Nat):Int)-1=(i:Int):=by omega
   rw[er]at h10;have hA:decide ((0:Int)<=(i:Int))=true:=ai (by omega);have ei:((i+Alg.sz q:Nat):Int)-1=((i+Alg.sz q-1:Nat):Int):=by omega
   have hg:=j7 (n:=Alg.sz p) (j:=i+Alg.sz q-1) R (by omega);obtain⟨W,hW⟩:∃ W,W=wD w v (n-(i+1)):=⟨_,rfl⟩;have hWn:2*W+2*v+1<=1000:=by
    have h1:=rd w v (show n-(i+1)+1<=n by omega);simp only[wD]at h1;omega
   have hRw:=hD.w;rw[<-hW]at hRw;obtain⟨c,hcd⟩:∃ c,c=R.c (i+Alg.sz q-1)*Alg.inv (lc q):=⟨_,rfl⟩;have hcw:FB (W+v) c:=by rw[hcd];exact(hRw _).mul hlw
   simp -dsimp -implicitDefEqProofs only[go_sem,h10,hA];refine an (by rfl) 13 [] false true (by rfl) (by rfl) (by decide +kernel) ?_;simp -dsimp -implicitDefEqProofs only[go_sem,h10,k8,k7,k9,b9,k1,h17,h27,af,aF,ei]
   repeat(refine And.intro (by omega) ?_)
   refine av hg ?_;simp -dsimp -implicitDefEqProofs only[go_sem,h10,k8,k7,k9,b9,k1,h17,h27];refine ar (args':=[iK (R.c (i+Alg.sz q-1)),iK (Alg.inv (lc q))]) rfl (jy gh ((hRw _).mono (by omega)) (hlw.mono (by omega)) (by rw[<-hcd];exact hcw.mono (by omega))) ?_;rw[<-hcd];have hgq:=j7 (n:=n) (j:=i) Q (by omega);simp -dsimp -implicitDefEqProofs only[go_sem,h10,k8,k7,k9,b9,k1,h17,h27];refine⟨by omega,av hgq ?_⟩;simp -dsimp -implicitDefEqProofs only[go_sem,h10,k8,k7,k9,b9,k1,h17,h27,af,aF];have hQ0:Q.c i=0:=hD.low i (by omega);obtain⟨Q',hQ'⟩:∃ Q',Q'=Q+mon i c:=⟨_,rfl⟩;have eQ:(dc n Q).set i c=dc n Q':=by
    rw[hQ',<-xV,hQ0,zero_add]
   have hQc:Q'.c i=c:=by rw[hQ',bM,bJ,if_pos rfl,hQ0,zero_add]
   have eset:∀ x,((dc n Q).map kr).set i (kr x)=((dc n Q).set i x).map kr:=fun x=>by rw[List.map_set]
   refine aH [(11,12),(61,84)] [(12,12)] [(17,17)] (fun m τ β ε=>∃ k:Nat,m=Alg.sz q-k/\k<=Alg.sz q/\τ 61 = .i (iN k)/\ε 17=⟨1,2,(dc (Alg.sz p) (R-mon i c*tk q k)).map kr,true,true⟩)
    (fun e τ β ε=>e = .exit 2/\ε 17=⟨1,2,(dc (Alg.sz p) (R-mon i c*q)).map kr,true,true⟩) (Alg.sz q) ?_ ?_ ?_
   ·exact⟨0,by omega,by omega,rfl,by simp -dsimp -implicitDefEqProofs only[go_sem,h17];rw[mU,mul_zero,sub_zero]⟩
   ·rintro m2 τ2 β2 ε2 π2 hK2 hKB2 hKE2 ⟨k,hm2,hk,h61,h17'⟩;have q60:τ2 60 = .i (iN (Alg.sz q)):=by rw[hK2 60 (by decide)];simp -dsimp -implicitDefEqProofs only[go_sem,af,aF]
    have q59:τ2 59 = .i (ku q):=by rw[hK2 59 (by decide)];simp -dsimp -implicitDefEqProofs only[go_sem,k1]
    have q7:τ2 7 = .sl 17 1 (Alg.sz p):=(hK2 7 rfl).trans k7;have q8:τ2 8 = .sl 27 1 n:=(hK2 8 rfl).trans k8;have q10:τ2 10 = .i (iN i):=(hK2 10 rfl).trans h10;have q27:ε2 27=⟨1,2,(dc n Q').map kr,true,true⟩:=by
     rw[hKE2 27 (by decide)];simp -dsimp -implicitDefEqProofs only[go_sem];rw[<-eQ,List.map_set];rfl
    by_cases hlt2:k<Alg.sz q
    ·have hA2:(k:Int)<(Alg.sz q:Int):=by omega
     have hg2:(Alg.cl q)[k]?=some (q.c k):=by rw[ah (by rw[aF];exact hlt2),jp]
     have eik:(i:Int)+(k:Int)=((i+k:Nat):Int):=by omega
     have hg3:=j7 (n:=Alg.sz p) (j:=i+k) (R-mon i c*tk q k) (by omega);have hg4:=j7 (n:=n) (j:=i) Q' (by omega);have hPw:∀ k,PW (2*W+2*v+1) (R-mon i c*tk q k):=fun k=>(hRw.sub (yg hcw (Oe hq))).mono (by omega);have hcq:FB (W+v+v) (c*q.c k):=hcw.mul (hq k);have estep:(R-mon i c*tk q k).c (i+k)-c*q.c k=(R-mon i c*tk q (k+1)).c (i+k):=by
      rw[oB,mul_add,dx,il,il,bM,bJ,if_pos rfl];exact ring [R.c (i+k),(mon i c*tk q k).c (i+k),c,q.c k]
     simp -dsimp -implicitDefEqProofs only[go_sem,h61,q60,q59,hA2];refine av hg2 ?_;simp -dsimp -implicitDefEqProofs only[go_sem,h61,q60,q59,hA2];refine an (by rfl) 18 [] false true (by rfl) (by rfl) (by decide +kernel) ?_;simp -dsimp -implicitDefEqProofs only[go_sem,h61,q60,q59,hA2,q7,q8,q10,h17',q27,eik]
     repeat(refine And.intro (by omega) ?_)
     refine av hg3 ?_;simp -dsimp -implicitDefEqProofs only[go_sem,h61,q60,q59,hA2,q7,q8,q10,h17',q27,eik];refine⟨by omega,av hg4 ?_⟩;simp -dsimp -implicitDefEqProofs only[go_sem,h61,q60,q59,hA2,q7,q8,q10,h17',q27,eik];refine ar (args':=[iK (Q'.c i),iK (q.c k)]) rfl (jy gh (by rw[hQc];exact hcw.mono (by omega)) ((hq _).mono (by omega)) (by rw[hQc];exact hcq.mono (by omega))) ?_;rw[hQc];simp -dsimp -implicitDefEqProofs only[go_sem,h61,q60,q59,hA2,q7,q8,q10,h17',q27,eik];refine ar (args':=[iK ((R-mon i c*tk q k).c (i+k)),iK (c*q.c k)]) rfl (IZ gh ((hPw k _).mono hWn) (hcq.mono (by omega)) (by rw[estep];exact(hPw (k+1) _).mono hWn)) ?_;rw[estep];simp -dsimp -implicitDefEqProofs only[go_sem,h61,q60,q59,hA2,q7,q8,q10,h17',q27,eik];refine⟨by omega,av hg3 ?_⟩;simp -dsimp -implicitDefEqProofs only[go_sem,h61]
     repeat(refine And.intro (by omega) ?_)
     refine again (Alg.sz q-(k+1)) (by omega) ⟨(by(repeat apply ak rfl);exact hK2),(by(repeat apply ak rfl);exact hKB2),(by(repeat apply ak rfl);exact hKE2),k+1,rfl,by omega,rfl,?_⟩
     simp -dsimp -implicitDefEqProofs only[go_sem,h17'];have e6:(dc (Alg.sz p) (R-mon i c*tk q k)).set (i+k) ((R-mon i c*tk q (k+1)).c (i+k))=dc (Alg.sz p) (R-mon i c*tk q (k+1)):=by
      refine Ec (fun j hj=>?_) rfl;rw[oB,mul_add,dx,il,il,bM,bJ,if_neg hj,add_zero]
     rw[<-e6,List.map_set];rfl
    ·have hA2:¬ (k:Int)<(Alg.sz q:Int):=by omega
     obtain rfl:k=Alg.sz q:=by omega
     simp -dsimp -implicitDefEqProofs only[go_sem,h61,q60,hA2];exact⟨(by(repeat apply ak rfl);exact hK2),(by(repeat apply ak rfl);exact hKB2),(by(repeat apply ak rfl);exact hKE2),by rw[h17',vN (ae _)]⟩
   ·rintro e τ2 β2 ε2 π2 hK2 hKB2 hKE2 ⟨rfl,h17'⟩;have q10:τ2 10 = .i (iN i):=(hK2 10 rfl).trans h10;have q27:ε2 27=⟨1,2,(dc n Q').map kr,true,true⟩:=by
     rw[hKE2 27 (by decide)];simp -dsimp -implicitDefEqProofs only[go_sem];rw[<-eQ,List.map_set];rfl
    have kO:=Kp.step2 hK hK2 (by intro n;simp[inR]<;>omega) (by(repeat apply ak rfl);exact hK)
    have kB:=Kp.step2 hKB hKB2 (by intro n;simp[inR]<;>omega) (by(repeat apply ak rfl);exact hKB)
    have kE:=Kp.step2 hKE hKE2 (by intro n;simp[inR]<;>omega) (by(repeat apply ak rfl);exact hKE)
    simp -dsimp -implicitDefEqProofs only[go_sem,q10]
    repeat(refine And.intro (by omega) ?_)
    refine again i (by omega) ⟨(by(repeat apply ak rfl);exact kO),(by(repeat apply ak rfl);exact kB),(by(repeat apply ak rfl);exact kE),i,Q',R-mon i c*q,rfl,by omega,rfl,?_,h17',q27⟩
    refine⟨?_,?_,?_,fun j hj=>?_,?_⟩
    ·rw[hQ',add_mul];exact lc1 1 hD.eq (ring [p,Q,q,R,mon i c])
    ·refine cF fun j hj=>?_;rw[il,cB,if_pos (by omega)];by_cases ej:j=i+Alg.sz q-1
     ·subst ej;rw[show i+Alg.sz q-1-i=Alg.sz q-1 by omega,hcd,mul_assoc];show _-_*(_*lc q)=0;rw[cq hl0,mul_one,sub_self]
     ·have:=hD.szR;rw[au (by omega:Alg.sz R<=j),au (p:=q) (by omega),mul_zero,sub_self]
    ·rw[hQ'];refine cP hD.szQ (cF fun j hj=>?_);rw[bJ,if_neg (by omega)]
    ·rw[hQ',bM,bJ,if_neg (by omega),hD.low j (by omega),add_zero]
    ·rw[show n-i=n-(i+1)+1 by omega];simp only[wD];rw[<-hW];exact(hRw.sub (yg hcw hq)).mono (by omega)
 ·rintro e τ β ε π hK hKB hKE ⟨rfl,Q,R,hD,h17,h27⟩;have k8:τ 8 = .sl 27 1 n:=by rw[hK 8 (by decide)];simp -dsimp -implicitDefEqProofs only[go_sem,dF,af]
  have k7:τ 7 = .sl 17 1 (Alg.sz p):=by rw[hK 7 (by decide)];simp -dsimp -implicitDefEqProofs only[go_sem,af,aF]
  have hszR:=hD.szR;obtain⟨eQ,eR⟩:=oF hD.eq (by omega);refine⟨_,aY.refl _,?_⟩;simp -dsimp -implicitDefEqProofs only[go_sem,k8,k7,h17,h27];rw[List.take_of_length_le (by simp[dF])];refine aa (jx (dc n Q) (by rw[dF];omega)) rfl ?_;rw[Ci hD.szQ];simp -dsimp -implicitDefEqProofs only[go_sem,k8,k7,h17,h27];rw[List.take_of_length_le (by simp[dF])];refine aa (jx (dc (Alg.sz p) R) (by rw[dF];omega)) rfl ?_;rw[Ci (by omega)];simp -dsimp -implicitDefEqProofs only[go_sem,eQ,eR]
theorem DvS.step {p q:KP} {w v n i:Nat} {Q R:KP} (hD:DvS p q w v n (i+1) Q R) (hi:i+1<=n) (hn:n=Alg.sz p+1-Alg.sz q) (hq0:q≠0) (hq:PW v q) :
  DvS p q w v n i (Q+mon i (R.c (i+Alg.sz q-1)*Alg.inv (lc q))) (R-mon i (R.c (i+Alg.sz q-1)*Alg.inv (lc q))*q):=by
 have sq:=aA hq0;have hl0:=bB hq0;have hlw:FB v (Alg.inv (lc q)):=(hq _).inv hl0;have hcw:FB (wD w v (n-(i+1))+v) (R.c (i+Alg.sz q-1)*Alg.inv (lc q)):=(hD.w _).mul hlw;refine⟨?_,?_,?_,fun j hj=>?_,?_⟩
 ·rw[add_mul];exact lc1 1 hD.eq (ring [p,Q,q,R,mon i (R.c (i+Alg.sz q-1)*Alg.inv (lc q))])
 ·refine cF fun j hj=>?_;rw[il,cB,if_pos (by omega)];by_cases ej:j=i+Alg.sz q-1
  ·subst ej;rw[show i+Alg.sz q-1-i=Alg.sz q-1 by omega,mul_assoc];show _-_*(_*lc q)=0;rw[cq hl0,mul_one,sub_self]
  ·have:=hD.szR;rw[au (by omega:Alg.sz R<=j),au (p:=q) (by omega),mul_zero,sub_self]
 ·refine cP hD.szQ (cF fun j hj=>?_);rw[bJ,if_neg (by omega)]
 ·rw[bM,bJ,if_neg (by omega),hD.low j (by omega),add_zero]
 ·rw[show n-i=n-(i+1)+1 by omega];simp only[wD];exact(hD.w.sub (yg hcw hq)).mono (by omega)
theorem yQ {p q:KP} (h:Alg.sz p<Alg.sz q):qu p q=0/\Alg.re p q=p:=oF (by rw[zero_mul,zero_add]) h
theorem uj {p q:KP} {w v:Nat} (hq0:q≠0) (hp:PW w p) (hq:PW v q) (hb:wD w v (Alg.sz p+1-Alg.sz q)<=1000) (hv:v<=1000) (hs:Alg.sz p<=1000) (hs':Alg.sz q<=1000):Fn Tryz.prog 18 [ku p,ku q] [ku (qu p q),ku (Alg.re p q),iN 0]:=by
 rcases Nat.lt_or_ge (Alg.sz p) (Alg.sz q)with h|h
 ·obtain⟨h1,h2⟩:=yQ h;rw[h1,h2];exact xc hq0 h hq hv hs hs'
 ·exact xb hq0 h (by omega) hp hq hb hs hs'
theorem N0 {p q:KP} {w v:Nat} (hq0:q≠0) (hp:PW w p) (hq:PW v q) (hb:wD w v (Alg.sz p+1-Alg.sz q)<=1000) (hv:v<=1000) (hs:Alg.sz p<=1000) (hs':Alg.sz q<=1000):Fn Tryz.prog 81 [ku p,ku q] [ku (qu p q)]:=IP (uj hq0 hp hq hb hv hs hs')
theorem KReP {p q:KP} {w v:Nat} (hq0:q≠0) (hp:PW w p) (hq:PW v q) (hb:wD w v (Alg.sz p+1-Alg.sz q)<=1000) (hv:v<=1000) (hs:Alg.sz p<=1000) (hs':Alg.sz q<=1000):Fn Tryz.prog 82 [ku p,ku q] [ku (Alg.re p q)]:=Li (uj hq0 hp hq hb hv hs hs')
end Go.AM
namespace Go.AM
open Alg
open Go.Proofs
open Classical
theorem Hr (l:Nat) (c d:List C):cU l [c,d]=⟨upd (upd (upd (fun _ => .any) 0 (sc (.func (.yield l) #[] #[]))) 1 (.bp 1000 1 0)) 2 (.bp 1001 1 0),upd (upd lu 1000 ⟨1,c⟩) 1001 ⟨1,d⟩,nB,mq⟩:=by
 have e1:(cU l [c,d]).t=upd (upd (upd (fun _ => .any) 0 (sc (.func (.yield l) #[] #[]))) 1 (.bp 1000 1 0)) 2 (.bp 1001 1 0):=by
  funext n
  match n with
  | 0=>rfl
  | 1=>rfl
  | 2=>rfl
  | n+3=>rw[ax _ _ (by omega),ax _ _ (by omega),ax _ _ (by omega)];rfl
 have e2:(cU l [c,d]).b=upd (upd lu 1000 ⟨1,c⟩) 1001 ⟨1,d⟩:=by
  funext n;by_cases e:n=1001
  ·subst e;rfl
  ·rw[ax _ _ e];by_cases e':n=1000
   ·subst e';rfl
   ·rw[ax _ _ e'];simp only[cU];split
    ·rw[List.getElem?_eq_none (by simp;omega)];rfl
    ·rfl
 show St.mk (cU l [c,d]).t (cU l [c,d]).b _ _=_;rw[e1,e2];rfl
def two (β:Nat->BX) (c d:List C):Prop:=β 1000=⟨1,c⟩/\β 1001=⟨1,d⟩/\∀ t,t≠1000->t≠1001->(β t).gen=0
theorem two.lone {τ:Nat->AV} {β:Nat->BX} {c d:List C} {n:Nat} (h:two β c d) (hn:n=2):lone n ⟨τ,β,nB,mq⟩:=by
 subst hn;refine⟨fun t ht=>?_,fun _=>rfl,fun _=>rfl⟩;by_cases e:t=1000
 ·subst e;exact⟨by omega,by omega,by show(β 1000).gen=1;rw[h.1]⟩
 ·by_cases e':t=1001
  ·subst e';exact⟨by omega,by omega,by show(β 1001).gen=1;rw[h.2.1]⟩
  ·have:=h.2.2 t e e';have ht':0<(β t).gen:=ht;omega
theorem FY (c d:List C):two (upd (upd lu 1000 ⟨1,c⟩) 1001 ⟨1,d⟩) c d :=
 ⟨by rw[ax _ _ (by omega),aq],aq _ _ _,fun t h h'=>by rw[ax _ _ h',ax _ _ h];rfl⟩
theorem pn (x y:C):FnC Tryz.prog 77 [.c x,.c y] 117 [[y],[x]]:=by
 refine qs kd (fn:=Tryz.f77) (by rfl) rfl rfl rfl (by rfl) (by simp) (by rfl) ?_;simp -dsimp -implicitDefEqProofs only[go_sem,jo];refine kS (ts:=[(3,1),(2,1)]) (by simp -dsimp -implicitDefEqProofs only[go_sem]) (by simp -dsimp -implicitDefEqProofs only[go_sem]) ?_;simp -dsimp -implicitDefEqProofs only[go_sem,wE];exact⟨[(3,1),(2,1)],rfl,by simp,by simp,rfl⟩
noncomputable abbrev kc (p:KP):C := .lst ((Alg.cl p).map kr)
noncomputable def euI (a b:KP):List (List IV):=(eu a b).map fun x=>[ku x.1,ku x.2]
theorem nE (a0 b0:KP) (hE:∀ x∈eu a0 b0,Fn Tryz.prog 82 [ku x.1,ku x.2] [ku (Alg.re x.1 x.2)]):IS Tryz.prog 117 [[kc b0],[kc a0]] (euI a0 b0):=by
 refine oh (fn:=Tryz.f117) (by rfl) rfl rfl rfl (by rfl) (by simp) (by rfl) ?_;intro c hc hbl hL;rw[Hr];have hb2:c.bs.length=2:=hbl;refine WPi.block (WPi.loop (fun n s k=>∃ τ β a b,s=⟨τ,β,nB,mq⟩/\τ 0=sc (.func (.yield c.l) #[] #[])/\τ 1 = .bp 1000 1 0/\τ 2 = .bp 1001 1 0/\two β [kc b] [kc a]/\n=Alg.sz b/\∃ j,k=some j/\j<=(eu a0 b0).length/\(eu a0 b0).drop j=eu a b) (n:=Alg.sz b0) ⟨_,_,a0,b0,rfl,rfl,rfl,rfl,FY _ _,rfl,0,rfl,Nat.zero_le _,rfl⟩ ?_);rintro n s k ⟨τ,β,a,b,rfl,h0,h1,h2,hT,rfl,j,rfl,hjle,hj⟩;obtain⟨t1,t2,t3⟩:=id hT;by_cases hb:b=0
 ·subst hb;refine WPi.seq ?_;refine WPi.seq ?_;refine WPi.yreg_no hc kd 7 11 rfl rfl rfl fun K1 hK1=>?_;have e1:decide ((0:Int)<((0:Nat):Int))=false:=rfl;simp -dsimp -implicitDefEqProofs only[go_sem,h0,h1,h2,t1,t2,pd,af,e1];refine⟨hT.lone hb2,rfl,hK1 _ (hT.lone hb2) ?_⟩;refine WPi.end_k hc kd fun K hK=>?_;simp -dsimp -implicitDefEqProofs only[go_sem];refine hK _ _ (hT.lone hb2) ?_;refine⟨.inl rfl,.inl ?_⟩;rw[iA]at hj;have hlen:=congrArg List.length hj;simp only[List.length_drop,List.length_nil]at hlen;have hjl:j<=(eu a0 b0).length:=hjle;simp only[euI,af];congr 1;omega
 ·have hb0:=aA hb;have e1:decide ((0:Int)<(Alg.sz b:Int))=true:=ai (by omega);rw[jK hb]at hj;have hjlt:j<(eu a0 b0).length:=by
   have hlen:=congrArg List.length hj;simp only[List.length_drop,List.length_cons]at hlen;omega
  have hjg:(eu a0 b0)[j]?=some (a,b):=by
   have:=congrArg (fun l=>l[0]?) hj;simpa using this
  refine WPi.seq ?_;refine WPi.seq ?_;refine WPi.yreg_k hc kd 7 11 j [ku a,ku b] rfl rfl rfl rfl (by rw[hL,euI,List.getElem?_map,hjg];rfl) fun K1 K2 hK1 hK2=>?_;simp -dsimp -implicitDefEqProofs only[go_sem,h0,h1,h2,t1,t2,aF,af,e1];refine⟨hT.lone hb2,rfl,?_⟩;refine⟨hK1 _ (hT.lone hb2) ?_,hK2 _ (hT.lone hb2) ?_⟩
  ·refine WPi.end_k hc kd fun K hK=>?_;simp -dsimp -implicitDefEqProofs only[go_sem];refine hK _ _ (hT.lone hb2) ?_;refine WPi.end_k hc kd fun K hK=>?_;simp -dsimp -implicitDefEqProofs only[go_sem,h1,h2,t1,t2];refine an (by rfl) 4 [] false true (by rfl) (by rfl) (by decide +kernel) ?_;simp -dsimp -implicitDefEqProofs only[go_sem,h1,h2,t1,t2];refine aa (hE (a,b) (List.mem_of_getElem? hjg)) rfl ?_;simp -dsimp -implicitDefEqProofs only[go_sem,h1,h2,t1,t2];have hT2:two (upd (upd β 1001 ⟨1,[kc b]⟩) 1000 ⟨1,[kc (Alg.re a b)]⟩) [kc (Alg.re a b)] [kc b] :=
    ⟨aq _ _ _,by rw[ax _ _ (by omega),aq],fun t h h'=>by rw[ax _ _ h,ax _ _ h'];exact t3 t h h'⟩
   refine hK _ _ (hT2.lone hb2) ⟨Alg.sz (Alg.re a b),(qure hb).2,_,_,b,Alg.re a b,rfl,h0,h1,h2,hT2,rfl,j+1,rfl,hjlt,?_⟩;rw[<-List.drop_drop,hj];rfl
  ·refine WPi.end_k hc kd fun K hK=>?_;simp -dsimp -implicitDefEqProofs only[go_sem];refine hK _ _ (hT.lone hb2) ?_;exact⟨.inl rfl,.inr rfl⟩
theorem CN (a b:KP):(euI a b).length=(eu a b).length:=by simp[euI]
theorem CO {a b:KP} {k:Nat} {x:List IV} (h:(euI a b)[k]?=some x):∃ y,(eu a b)[k]?=some y/\x=[ku y.1,ku y.2]:=by
 rw[euI,List.getElem?_map]at h;cases hy:(eu a b)[k]? with
 | none=>rw[hy]at h;simp at h
 | some y=>rw[hy]at h;exact⟨y,rfl,(Option.some.inj h).symm⟩
noncomputable def euK (a b:KP) (k:Nat):KP:=((((eu a b).take k).getLast?).map (·.2)).getD a
theorem HS {a b:KP} {k:Nat} {y:KP×KP} (h:(eu a b)[k]?=some y):euK a b (k+1)=y.2:=by
 have hk:=(List.getElem?_eq_some_iff.1 h);rw[euK,ab hk.1,hk.2,List.getLast?_concat];rfl
theorem w9 {a b:KP} (hE:∀ x∈eu a b,Fn Tryz.prog 82 [ku x.1,ku x.2] [ku (Alg.re x.1 x.2)]) (hM:Fn Tryz.prog 53 [ku (euL a b)] [ku (mn (euL a b))]):Fn Tryz.prog 24 [ku a,ku b] [ku (Alg.gd a b)]:=by
 rw[<-Nt _ a b (ae _)];refine nq (fn:=Tryz.f24) (by rfl) rfl rfl rfl (by rfl) (by simp) (by rfl) ?_;refine WPn.seq_k kd fun K hK _=>?_;simp -dsimp -implicitDefEqProofs only[go_sem];refine hK _ ?_;refine WPn.seq_k kd fun K hK _=>?_;simp -dsimp -implicitDefEqProofs only[go_sem];refine hK _ ?_;refine WPn.seq ?_;refine WPn.seq_k kd fun K hK _=>?_;simp -dsimp -implicitDefEqProofs only[go_sem];refine nh [1000,1001] rfl rfl rfl (pn (kc a) (kc b)) (by simp) rfl ?_;rw[yZ _ _ _ _ _ (by decide)];simp -dsimp -implicitDefEqProofs only[go_sem];refine hK _ (WPn.block (WPn.rangeFunc (ts:=[(1000,1),(1001,1)]) [5] (fun k cs=>cs=[[kc (euK a b k)]]) (fun _ _=>False) (by simp -dsimp -implicitDefEqProofs only[go_sem]) (by simp -dsimp -implicitDefEqProofs only[go_sem]) (by simp) (by simp -dsimp -implicitDefEqProofs only[go_sem]) (nE a b hE) (by simp) (by simp -dsimp -implicitDefEqProofs only[go_sem];decide) ?_ ?_ ?_ ?_ ?_))
 ·simp -dsimp -implicitDefEqProofs only[go_sem];rfl
 ·intro x hx;obtain⟨p,-,rfl⟩:=List.mem_map.1 hx;rfl
 ·rintro k x cs hx rfl -;obtain⟨y,hy,rfl⟩:=CO hx;generalize hs:bC _ _ _ _ _=s;obtain⟨τ,β,ε,π⟩:=s;have h13:τ 13 = .i (ku y.2):=by
   rw[qR hs];simp -dsimp -implicitDefEqProofs only[go_sem,bC,ij]
  have h5:τ 5 = .bp 5 1 0:=by
   rw[qR hs];simp -dsimp -implicitDefEqProofs only[go_sem,bC,ij];rw[nT]<;>simp -dsimp -implicitDefEqProofs only[go_sem]
  have b5:β 5=⟨1,[kc (euK a b k)]⟩:=by
   rw[BK hs];simp -dsimp -implicitDefEqProofs only[go_sem,bC,dW]
  clear hs;refine WP.end_k kd fun K hK=>?_;simp -dsimp -implicitDefEqProofs only[go_sem,h13];refine hK _ _ ⟨rfl,?_⟩;refine WP.end_k kd fun K hK=>?_;simp -dsimp -implicitDefEqProofs only[go_sem,h13,h5,b5];refine hK _ _ ⟨by simp -dsimp -implicitDefEqProofs only[go_sem],?_⟩;simp -dsimp -implicitDefEqProofs only[go_sem];rw[HS hy]
 ·rintro cs γs rfl-hγ;obtain⟨g,g',rfl⟩:∃ g g',γs=[g,g']:=by
   match γs,hγ with
   | [g,g'],_=>exact⟨g,g',rfl⟩
  rw[gN,iu];refine WPn.end_k kd fun K hK=>?_;dsimp only[List.map,setB];have e6:euK a b (euI a b).length=euL a b:=by
   rw[euK,CN,List.take_length];rfl
  rw[e6];simp -dsimp -implicitDefEqProofs only[go_sem];refine aa hM rfl ?_;simp -dsimp -implicitDefEqProofs only[go_sem];refine hK _ _ ⟨.inr rfl,?_⟩;simp -dsimp -implicitDefEqProofs only[go_sem]
 ·intro e cs γs _ h;exact h.elim
end Go.AM
namespace Go.AM
open Alg
open Go.Proofs
open Classical
theorem M3 {R:Type} [CR R] (b:R) (k:Nat):Alg.pw b k=(if k % 2=1 then b else 1)*Alg.pw (b*b) (k/2):=by
 have h1:∀ m,Alg.pw (b*b) m=Alg.pw b (m+m):=fun m=>by rw[GZ,vY]
 rw[h1];by_cases h:k % 2=1
 ·rw[if_pos h];have e:Alg.pw b k=Alg.pw b (1+(k/2+k/2)):=congrArg _ (by omega);rw[e,vY,AA]
 ·rw[if_neg h,one_mul];exact congrArg _ (by omega)
theorem H3 (c:Rat):fH c=U (Alg.C c):=by
 rw[fH];split
 ·rename_i h;rw[h,show Alg.C (0:Rat)=0 from co,bQ]
 ·rename_i h;rw[U_C h]
structure PwS (p a o:PQ) (h n m:Nat) (ha ho sa so:Nat):Prop where
 eq:Alg.pw p n=o*Alg.pw a m
 bo:Alg.HB ho o
 zo:Alg.sz o<=so+1
 lo:ho<=h*n
 ls:so<=Alg.sz p*n
 ba:m≠0->Alg.HB ha a/\Alg.sz a<=sa+1/\ho+ha*m<=h*n/\so+sa*m<=Alg.sz p*n
theorem CG (x m:Nat):x*m=2*(x*(m/2))+x*(m % 2):=by
 have h:m=2*(m/2)+m % 2:=by omega
 conv=>lhs;rw[h,Nat.mul_add]
 rw[<-Nat.mul_assoc,Nat.mul_comm x 2,Nat.mul_assoc]
theorem zE {p:PQ} {h n:Nat} (hp:Alg.HB h p) (hn:n<=64) (hb:h<=1000000000) (hs:Alg.sz p<=10000):Fn Tryz.prog 160 [iUp p,iN n] [iUp (Alg.pw p n)]:=by
 have e0:decide ((n:Int)<0)=false:=aj (by omega);have hhn:h*n<=64000000000:=by have:=Nat.mul_le_mul hb hn;omega
 have hsn:Alg.sz p*n<=640000:=by have:=Nat.mul_le_mul hs hn;omega
 refine ao kd (fn:=Tryz.f160) (by rfl) rfl rfl rfl (by rfl) (by simp) (by rfl) ?_;simp -dsimp -implicitDefEqProofs only[go_sem,e0];refine am (gg 1 (by decide)) ?_;simp -dsimp -implicitDefEqProofs only[go_sem];refine aa (pD 1) rfl ?_;rw[H3];simp -dsimp -implicitDefEqProofs only[go_sem];refine aH [(0,1),(5,5),(10,24)] [] [] (fun k τ β ε=>∃(a o:PQ) (m ha ho sa so:Nat),k=m/\m<=n/\τ 0 = .i (iUp a)/\τ 1 = .i (iN m)/\τ 5 = .i (iUp o)/\PwS p a o h n m ha ho sa so)
  (fun e τ β ε=>e = .exit 0/\τ 5 = .i (iUp (Alg.pw p n))) n ?_ ?_ ?_
 ·refine⟨p,1,n,h,0,Alg.sz p,0,rfl,ae _,rfl,rfl,rfl,⟨(one_mul _).symm,cX _,?_,Nat.zero_le _,Nat.zero_le _,fun _=>⟨hp,by omega,by omega,by omega⟩⟩⟩;rw[ck];omega
 ·rintro k τ β ε π hK hKB hKE ⟨a,o,m,ha,ho,sa,so,rfl,hm,h0,h1,h5,hS⟩;by_cases hk0:k=0
  ·have hA:¬ (0:Int)<(k:Int):=by omega
   simp -dsimp -implicitDefEqProofs only[go_sem,h1,hA];refine⟨(by(repeat apply ak rfl);exact hK),(by(repeat apply ak rfl);exact hKB),(by(repeat apply ak rfl);exact hKE),?_⟩
   rw[h5,hS.eq,hk0];show AV.i (iUp o)=AV.i (iUp (o*1));rw[mul_one]
  ·have hA:(0:Int)<(k:Int):=by omega
   have hand:=C3 k (by omega);obtain⟨a1,a2,a3,a4⟩:=hS.ba hk0;have hho:=hS.bo;have hso:=hS.zo;have lo:=hS.lo;have ls:=hS.ls;have x1:ha<=ha*k:=Nat.le_mul_of_pos_right _ (by omega);have x2:sa<=sa*k:=Nat.le_mul_of_pos_right _ (by omega);have y1:=CG ha k;have y2:=CG sa k;have e1:decide (((k % 2:Nat):Int)=1)=decide (k % 2=1):=by rw[decide_eq_decide];omega
   have mo:=cI hho a1 (by omega) (by omega) (by omega) (by omega);have ma:=cI a1 a1 (by omega) (by omega) (by omega) (by omega);have so':=aM o a;have sa':=aM a a;have step:∀(o':PQ) (hx sx:Nat),o'=o*(if k % 2=1 then a else 1)->Alg.HB hx o'->Alg.sz o'<=sx+1->hx=ho+ha*(k % 2)->sx=so+sa*(k % 2)->PwS p (a*a) o' h n (k/2) (ha+ha) hx (sa+sa) sx:=by
    intro o' hx sx e1 e2 e3 e4 e5;refine⟨by rw[hS.eq,M3 a k,e1,mul_assoc],e2,e3,by omega,by omega,fun _=>⟨a1.mul a1,by omega,?_,?_⟩⟩
    ·rw[Nat.add_mul];omega
    ·rw[Nat.add_mul];omega
   have step1:k=1->∀(o':PQ) (hx sx:Nat),o'=o*a->Alg.HB hx o'->Alg.sz o'<=sx+1->hx=ho+ha->sx=so+sa->PwS p a o' h n (k/2) ha hx sa sx:=by
    intro ek o' hx sx eo e2 e3 e4 e5;subst ek;refine⟨by rw[hS.eq,eo];show _=o*a*1;rw[AA,mul_one],e2,e3,by omega,by omega,fun h=>absurd rfl h⟩
   by_cases h2:k % 2=1
   ·rw[ai h2]at e1;by_cases h3:k=1
    ·have e2:decide ((1:Int)<(k:Int))=false:=aj (by omega);simp -dsimp -implicitDefEqProofs only[go_sem,h1,hA,hand,e1,h5,h0,eO];refine am mo ?_;simp -dsimp -implicitDefEqProofs only[go_sem,h1,hA,hand,e1,e2,h5,h0,eO];refine again (k/2) (by omega) ⟨(by(repeat apply ak rfl);exact hK),(by(repeat apply ak rfl);exact hKB),(by(repeat apply ak rfl);exact hKE),a,o*a,k/2,ha,ho+ha,sa,so+sa,rfl,by omega,h0,rfl,rfl,step1 h3 _ _ _ rfl (hho.mul a1) (by omega) rfl rfl⟩
    ·have e2:decide ((1:Int)<(k:Int))=true:=ai (by omega);simp -dsimp -implicitDefEqProofs only[go_sem,h1,hA,hand,e1,h5,h0,eO];refine am mo ?_;simp -dsimp -implicitDefEqProofs only[go_sem,h1,hA,hand,e1,e2,h5,h0,eO];refine am ma ?_;simp -dsimp -implicitDefEqProofs only[go_sem,h1,hA,hand,e1,e2,h5,h0,eO];refine again (k/2) (by omega) ⟨(by(repeat apply ak rfl);exact hK),(by(repeat apply ak rfl);exact hKB),(by(repeat apply ak rfl);exact hKE),a*a,o*a,k/2,ha+ha,ho+ha,sa+sa,so+sa,rfl,by omega,rfl,rfl,rfl,step _ _ _ (by rw[if_pos h2]) (hho.mul a1) (by omega) (by rw[h2];omega) (by rw[h2];omega)⟩
   ·rw[aj h2]at e1;have e2:decide ((1:Int)<(k:Int))=true:=ai (by omega);have h20:k % 2=0:=by omega
    simp -dsimp -implicitDefEqProofs only[go_sem,h1,hA,hand,e1,e2,h5,h0,eO];refine am ma ?_;simp -dsimp -implicitDefEqProofs only[go_sem,h1,hA,hand,e1,e2,h5,h0,eO];refine again (k/2) (by omega) ⟨(by(repeat apply ak rfl);exact hK),(by(repeat apply ak rfl);exact hKB),(by(repeat apply ak rfl);exact hKE),a*a,o,k/2,ha+ha,ho,sa+sa,so,rfl,by omega,rfl,rfl,h5,step _ _ _ (by rw[if_neg h2,mul_one]) hho hso (by rw[h20];omega) (by rw[h20];omega)⟩
 ·rintro e τ β ε π hK hKB hKE ⟨rfl,h5⟩;simp -dsimp -implicitDefEqProofs only[go_sem,h5]
theorem Bx {a b:PQ} (h:Cop a b):∀ n,Cop a (Alg.pw b n)
 | 0=>fun _ _ h1=>h1
 | n+1=>(Bx h n).mul h
theorem KG {a b:PQ} (h:Cop a b) (n:Nat):Cop (Alg.pw a n) (Alg.pw b n):=(Bx (Bx h n).symm n).symm
theorem LR (a:PQ) (h:lc a=1):∀ n,lc (Alg.pw a n)=1
 | 0=>sS
 | n+1=>by show lc (Alg.pw a n*a)=1;rw[fV,LR a h n,h,mul_one]
theorem LX {a b:PQ} (hb:b≠0):∀ n,Alg.pw (Alg.fr a b) n=Alg.fr (Alg.pw a n) (Alg.pw b n)
 | 0=>rfl
 | n+1=>by
  show Alg.pw (Alg.fr a b) n*Alg.fr a b=_;rw[LX hb n,dZ (Co hb n) hb];rfl
theorem LK (f:KQ) (n:Nat):nN (Alg.pw f n)=Alg.pw (nN f) n/\Alg.nD (Alg.pw f n)=Alg.pw (Alg.nD f) n:=by
 obtain⟨h1,h2,h3,h4⟩:=cA f;refine oM (Co h1 n) (LR _ h2 n) (KG h3 n) ?_
 conv=>lhs;rw[h4]
 exact LX h1 n
theorem I0 {f:KQ} {n:Nat} (hf:FW f) (hn:n<=64):Fn Tryz.prog 119 [iK f,iN n] [iK (Alg.pw f n),iN 0]:=by
 obtain⟨a1,a2,a3,a4⟩:=dX hf;have e1:decide ((n:Int) < -256)=false:=aj (by omega);have e2:decide ((256:Int)<(n:Int))=false:=aj (by omega);have e3:decide ((n:Int)<0)=false:=aj (by omega);have eK:iF (U (Alg.pw (nN f) n)) (U (Alg.pw (Alg.nD f) n))=iK (Alg.pw f n):=by rw[<-(LK f n).1,<-(LK f n).2]
 refine ao kd (fn:=Tryz.f119) (by rfl) rfl rfl rfl (by rfl) (by simp) (by rfl) ?_;simp -dsimp -implicitDefEqProofs only[go_sem,e1,e2,e3];refine an (by rfl) 9 [] false true (by rfl) (by rfl) (by decide +kernel) ?_;simp -dsimp -implicitDefEqProofs only[go_sem];refine aa (zE a1 hn (by omega) (by omega)) rfl ?_;simp -dsimp -implicitDefEqProofs only[go_sem];refine aa (zE a2 hn (by omega) (by omega)) rfl ?_;simp -dsimp -implicitDefEqProofs only[go_sem];rw[<-eK]
theorem vy {f:KQ} {n:Nat} (hf:FW f) (hn:n<=64):Fn Tryz.prog 83 [iK f,iN n] [iK (Alg.pw f n)]:=by
 refine ao kd (fn:=Tryz.f83) (by rfl) rfl rfl rfl (by rfl) (by simp) (by rfl) ?_;simp -dsimp -implicitDefEqProofs only[go_sem];refine aa (I0 hf hn) rfl ?_;simp -dsimp -implicitDefEqProofs only[go_sem];refine ar (args':=[iK (Alg.pw f n),iN 0]) rfl (pz _ 0) ?_;simp -dsimp -implicitDefEqProofs only[go_sem]
end Go.AM
namespace Go.AM
open Alg
open Go.Proofs
open Classical
noncomputable def sgR (p q:KP) (x:KQ):KQ:=if Alg.sz p % 2=0/\Alg.sz q % 2=0 then -x else x
noncomputable def lA (a b:KP):Nat->KQ
 | 0=>1
 | k+1=>match (eu a b)[k]? with
  | some x=>sgR x.1 x.2 (lA a b k*Alg.pw (lc x.2) (Alg.sz x.1-Alg.sz (Alg.re x.1 x.2)))
  | none=>lA a b k
theorem pU {a b:KP} {k:Nat} {x:KP×KP} (h:(eu a b)[k]?=some x):lA a b (k+1)=sgR x.1 x.2 (lA a b k*Alg.pw (lc x.2) (Alg.sz x.1-Alg.sz (Alg.re x.1 x.2))):=by
 show(match (eu a b)[k]? with
  | some x=>sgR x.1 x.2 (lA a b k*Alg.pw (lc x.2) (Alg.sz x.1-Alg.sz (Alg.re x.1 x.2)))
  | none=>lA a b k)=_
 rw[h]
theorem CM (n:Nat):∀(a b:KP),Alg.sz b<=n->∀(k:Nat) x,(eu a b)[k]?=some x->x.2≠0/\(Alg.re x.1 x.2≠0->(eu a b)[k+1]?=some (x.2,Alg.re x.1 x.2))/\(Alg.re x.1 x.2=0->(eu a b).length=k+1):=by
 induction n with
 | zero =>
  intro a b hb k x hx;have:b=0:=ap.1 (by omega);rw[this,iA]at hx;simp at hx
 | succ n ih =>
  intro a b hb k x hx;by_cases h0:b=0
  ·rw[h0,iA]at hx;simp at hx
  ·rw[jK h0]at hx ⊢;cases k with
   | zero =>
    simp only[List.getElem?_cons_zero,Option.some.injEq]at hx;subst hx;refine⟨h0,fun h=>?_,fun h=>?_⟩
    ·rw[List.getElem?_cons_succ,jK h];rfl
    ·rw[h,iA];rfl
   | succ k =>
    rw[List.getElem?_cons_succ]at hx;obtain⟨h1,h2,h3⟩:=ih b (Alg.re a b) (by have:=(qure (a:=a) h0).2;omega) k x hx;exact⟨h1,fun h=>by rw[List.getElem?_cons_succ];exact h2 h,fun h=>by rw[List.length_cons,h3 h]⟩
theorem Ns (n:Nat):∀(a b:KP),Alg.sz b<=n->a≠0->∀(k:Nat) x,(eu a b)[k]?=some x->x.1≠0:=by
 induction n with
 | zero =>
  intro a b hb _ k x hx;have:b=0:=ap.1 (by omega);rw[this,iA]at hx;simp at hx
 | succ n ih =>
  intro a b hb ha k x hx;by_cases h0:b=0
  ·rw[h0,iA]at hx;simp at hx
  ·rw[jK h0]at hx;cases k with
   | zero =>
    simp only[List.getElem?_cons_zero,Option.some.injEq]at hx;subst hx;exact ha
   | succ k =>
    rw[List.getElem?_cons_succ]at hx;exact ih b (Alg.re a b) (by have:=(qure (a:=a) h0).2;omega) h0 k x hx
theorem jg {p q:KP} (h:Alg.sz q=1):Alg.re p q=0:=by
 have hq:q≠0:=fun e=>by rw[e,ap.2 rfl]at h;omega
 have:=(qure (a:=p) hq).2;exact ap.1 (by omega)
theorem IN {a b:KP} (h:a=0\/b=0):Fn Tryz.prog 35 [ku a,ku b] [iK (kn 0)]:=by
 have e1:decide (((0:Nat):Int)=0)=true:=rfl;by_cases ha:a=0
 ·rw[ha,gJ];refine ao kd (fn:=Tryz.f35) (by rfl) rfl rfl rfl (by rfl) (by simp) (by rfl) ?_;simp -dsimp -implicitDefEqProofs only[go_sem,af,e1];refine am (bW 0 (by decide)) ?_;simp -dsimp -implicitDefEqProofs only[go_sem]
 ·have hb:b=0:=h.resolve_left ha;have e2:decide ((Alg.sz a:Int)=0)=false:=aj (by have:=aA ha;omega);rw[hb,gJ];refine ao kd (fn:=Tryz.f35) (by rfl) rfl rfl rfl (by rfl) (by simp) (by rfl) ?_;simp -dsimp -implicitDefEqProofs only[go_sem,af,aF,e1,e2];refine am (bW 0 (by decide)) ?_;simp -dsimp -implicitDefEqProofs only[go_sem]
structure ResH (a b:KP) (k:Nat) (x:KP×KP):Prop where
 re:Fn Tryz.prog 82 [ku x.1,ku x.2] [ku (Alg.re x.1 x.2)]
 s1:Alg.sz x.1<=60
 s2:Alg.sz x.2<=60
 lw:FW (lc x.2)
 ow:FW (lA a b k)
 pw:FW (Alg.pw (lc x.2) (Alg.sz x.1-Alg.sz (Alg.re x.1 x.2)))
 mw:FW (lA a b k*Alg.pw (lc x.2) (Alg.sz x.1-Alg.sz (Alg.re x.1 x.2)))
 ew:Alg.sz x.2=1->FW (Alg.pw (lc x.2) (Alg.sz x.1-1))/\FW (lA a b k*Alg.pw (lc x.2) (Alg.sz x.1-1))
noncomputable def Ef (a b:KP) (m:Nat) (x:KP×KP):KQ:=if Alg.sz x.2=1 then lA a b m*Alg.pw (lc x.2) (Alg.sz x.1-1)else 0
theorem Lh {a b:KP} {m:Nat} {z:KP×KP} (ha:a≠0) (hb:b≠0) (hs:Alg.sz a<=60) (hs':Alg.sz b<=60) (hm:(eu a b).length=m+1) (hz:(eu a b)[m]?=some z) (H:∀ k x,(eu a b)[k]?=some x->ResH a b k x):Fn Tryz.prog 35 [ku a,ku b] [iK (Ef a b m z)]:=by
 have e1:decide ((Alg.sz a:Int)=0)=false:=aj (by have:=aA ha;omega);have e2:decide ((Alg.sz b:Int)=0)=false:=aj (by have:=aA hb;omega);refine nq (fn:=Tryz.f35) (by rfl) rfl rfl rfl (by rfl) (by simp) (by rfl) ?_;refine WPn.seq_k kd fun K hK _=>?_;simp -dsimp -implicitDefEqProofs only[go_sem];refine hK _ ?_;refine WPn.seq_k kd fun K hK _=>?_;simp -dsimp -implicitDefEqProofs only[go_sem,af,aF,e1,e2];refine hK _ ?_;refine WPn.seq_k kd fun K hK _=>?_;simp -dsimp -implicitDefEqProofs only[go_sem];refine am (bW 1 (by decide)) ?_;simp -dsimp -implicitDefEqProofs only[go_sem];refine hK _ ?_;refine WPn.seq_k kd fun K hK _=>?_;simp -dsimp -implicitDefEqProofs only[go_sem,af,aF]
 repeat(refine And.intro (by omega) ?_)
 refine hK _ ?_;refine WPn.seq_k kd fun K hK _=>?_;simp -dsimp -implicitDefEqProofs only[go_sem];refine hK _ ?_;refine WPn.seq ?_;refine WPn.seq_k kd fun K hK _=>?_;simp -dsimp -implicitDefEqProofs only[go_sem];refine nh [1000,1001] rfl rfl rfl (pn (kc a) (kc b)) (by simp) rfl ?_;rw[yZ _ _ _ _ _ (by decide)];simp -dsimp -implicitDefEqProofs only[go_sem];refine hK _ (WPn.block (WPn.rangeFunc (ts:=[(1000,1),(1001,1)]) [5,6,7] (fun k cs=>k<=m/\∃ d l,cs=[kr (lA a b k),[C.v (.int .i64 d)],[l]])
  (fun e cs=>e = .exit 0/\cs=[kr (lA a b m),[C.v (.int .i64 ((Alg.sz z.1:Int)-1))],[kc z.2]]) (by simp -dsimp -implicitDefEqProofs only[go_sem]) (by simp -dsimp -implicitDefEqProofs only[go_sem]) (by simp) (by simp -dsimp -implicitDefEqProofs only[go_sem]) (nE a b fun x hx=>by
   obtain⟨k,hk,e⟩:=List.getElem_of_mem hx;exact(H k x (by rw[ah hk,e])).re) (by simp) (by simp -dsimp -implicitDefEqProofs only[go_sem];decide) ?_ ?_ ?_ ?_ ?_))
 ·refine⟨Nat.zero_le _,(Alg.sz a:Int)-1,.lst [],?_⟩;simp -dsimp -implicitDefEqProofs only[go_sem];rfl
 ·intro x hx;obtain⟨p,-,rfl⟩:=List.mem_map.1 hx;rfl
 ·rintro k x cs hx ⟨hkm,d,l,rfl⟩ -;obtain⟨y,hy,rfl⟩:=CO hx;obtain⟨hy0,hy1,hy2⟩:=CM _ a b (ae _) k y hy;have Hy:=H k y hy;have hs1:=Hy.s1;have hs2:=Hy.s2;generalize hst:bC _ _ _ _ _=s;obtain⟨τ,β,ε,π⟩:=s;have h27:τ 27 = .i (ku y.1):=by
   rw[qR hst];simp -dsimp -implicitDefEqProofs only[go_sem,bC,ij]
  have h28:τ 28 = .i (ku y.2):=by
   rw[qR hst];simp -dsimp -implicitDefEqProofs only[go_sem,bC,ij]
  have h5:τ 5 = .bp 5 1 0:=by
   rw[qR hst];simp -dsimp -implicitDefEqProofs only[go_sem,bC,ij];rw[nT]<;>simp -dsimp -implicitDefEqProofs only[go_sem]
  have h6:τ 6 = .bp 6 1 0:=by
   rw[qR hst];simp -dsimp -implicitDefEqProofs only[go_sem,bC,ij];rw[nT]<;>simp -dsimp -implicitDefEqProofs only[go_sem]
  have h7:τ 7 = .bp 7 1 0:=by
   rw[qR hst];simp -dsimp -implicitDefEqProofs only[go_sem,bC,ij];rw[nT]<;>simp -dsimp -implicitDefEqProofs only[go_sem]
  have b5:β 5=⟨1,kr (lA a b k)⟩:=by
   rw[BK hst];simp -dsimp -implicitDefEqProofs only[go_sem,bC,dW]
  have b6:β 6=⟨1,[C.v (.int .i64 d)]⟩:=by
   rw[BK hst];simp -dsimp -implicitDefEqProofs only[go_sem,bC,dW]
  have b7:β 7=⟨1,[l]⟩:=by
   rw[BK hst];simp -dsimp -implicitDefEqProofs only[go_sem,bC,dW]
  clear hst;have sy:=aA hy0;refine WP.end_k kd fun K hK=>?_;simp -dsimp -implicitDefEqProofs only[go_sem,h27,h28];refine hK _ _ ⟨rfl,?_⟩;refine WP.end_k kd fun K hK=>?_;simp -dsimp -implicitDefEqProofs only[go_sem,h27,h28,h5,h6,h7,b5,b6,b7,af,aF]
  repeat(refine And.intro (by omega) ?_)
  refine aa Hy.re rfl ?_;by_cases hr:Alg.re y.1 y.2=0
  ·have hl:=hy2 hr;obtain rfl:k=m:=by omega
   have hzy:y=z:=by rw[hy]at hz;exact Option.some.inj hz
   subst hzy;have er:decide (((0:Nat):Int)=0)=true:=rfl;rw[hr,gJ];have key:∀ s:St,s.b 5=⟨1,kr (lA a b k)⟩->s.b 6=⟨1,[C.v (.int .i64 ((Alg.sz y.1:Int)-1))]⟩->s.b 7=⟨1,[kc y.2]⟩->K (.exit 0) s:=fun s q5 q6 q7=>by
    refine hK _ _ ⟨?_,rfl,?_⟩
    ·intro t ht;simp only[List.mem_cons,List.not_mem_nil,or_false]at ht;rcases ht with rfl|rfl|rfl
     ·rw[q5]
     ·rw[q6]
     ·rw[q7]
    ·simp only[List.map,q5,q6,q7]
   by_cases h1:Alg.sz y.2=1
   ·have e3:decide ((Alg.sz y.2:Int)=1)=true:=ai (by omega);simp -dsimp -implicitDefEqProofs only[go_sem,h27,h28,h5,h6,h7,b5,b6,b7,af,aF,e3];refine key _ ?_ ?_ ?_<;>simp -dsimp -implicitDefEqProofs only[go_sem,b5]
   ·have e3:decide ((Alg.sz y.2:Int)=1)=false:=aj (by omega);simp -dsimp -implicitDefEqProofs only[go_sem,h27,h28,h5,h6,h7,b5,b6,b7,af,aF,e3,er];refine key _ ?_ ?_ ?_<;>simp -dsimp -implicitDefEqProofs only[go_sem,b5]
  ·have hk1:k+1<=m:=by
    have:=(List.getElem?_eq_some_iff.1 (hy1 hr)).1;omega
   have sr:=aA hr;have srl:=(qure (a:=y.1) hy0).2;have e3:decide ((Alg.sz y.2:Int)=1)=false:=aj fun h=>hr (jg (by omega));have e4:decide ((Alg.sz (Alg.re y.1 y.2):Int)=0)=false:=aj (by omega);have el:(Alg.sz y.2:Int)-1=((Alg.sz y.2-1:Nat):Int):=by omega
   have hlast:(Alg.cl y.2)[Alg.sz y.2-1]?=some (lc y.2):=by rw[ah (by rw[aF];omega),jp];rfl
   simp -dsimp -implicitDefEqProofs only[go_sem,h27,h28,h5,h6,h7,b5,b6,b7,af,aF,e3,e4];refine an (by rfl) 14 [] false true (by rfl) (by rfl) (by decide +kernel) ?_;simp -dsimp -implicitDefEqProofs only[go_sem,h27,h28,h5,h6,h7,b5,b6,b7,af,aF,el]
   repeat(refine And.intro (by omega) ?_)
   refine av hlast ?_;have hsub:(Alg.sz y.1:Int)-(Alg.sz (Alg.re y.1 y.2):Int)=((Alg.sz y.1-Alg.sz (Alg.re y.1 y.2):Nat):Int):=by
    have:Alg.sz (Alg.re y.1 y.2)<=Alg.sz y.1:=by
     rcases Nat.lt_or_ge (Alg.sz y.1) (Alg.sz y.2)with h|h
     ·rw[(yQ h).2];exact ae _
     ·omega
    omega
   simp -dsimp -implicitDefEqProofs only[go_sem,h27,h28,h5,h6,h7,b5,b6,b7,af,aF,el,hsub]
   repeat(refine And.intro (by omega) ?_)
   refine aa (vy Hy.lw (by omega)) rfl ?_;simp -dsimp -implicitDefEqProofs only[go_sem];refine aa (jy gh Hy.ow Hy.pw Hy.mw) rfl ?_;simp -dsimp -implicitDefEqProofs only[go_sem,h27,h28,h5,h6,h7,b5,b6,b7,af,aF];have tm:∀ n:Nat,((n:Int).tmod 2)=((n % 2:Nat):Int):=fun n=>by rw[Int.tmod_eq_emod_of_nonneg (by omega)];omega
   have key:∀ s:St,s.b 5=⟨1,kr (lA a b (k+1))⟩->s.b 6=⟨1,[C.v (.int .i64 ((Alg.sz y.1:Int)-1))]⟩->s.b 7=⟨1,[kc y.2]⟩->K .normal s:=fun s q5 q6 q7=>by
    refine hK _ _ ⟨?_,hk1,(Alg.sz y.1:Int)-1,kc y.2,?_⟩
    ·intro t ht;simp only[List.mem_cons,List.not_mem_nil,or_false]at ht;rcases ht with rfl|rfl|rfl
     ·rw[q5]
     ·rw[q6]
     ·rw[q7]
    ·simp only[List.map,q5,q6,q7]
   rw[pU hy]at key;refine⟨by decide,?_⟩;by_cases p1:Alg.sz y.1 % 2=0
   ·have d1:decide (((Alg.sz y.1:Int).tmod 2)=0)=true:=ai (by rw[tm,p1];rfl);by_cases p2:Alg.sz y.2 % 2=0
    ·have d2:decide (((Alg.sz y.2:Int).tmod 2)=0)=true:=ai (by rw[tm,p2];rfl);rw[sgR,if_pos ⟨p1,p2⟩]at key;simp -dsimp -implicitDefEqProofs only[go_sem,h27,h28,h5,h6,h7,b5,b6,b7,af,aF,d1,d2];refine⟨by decide,?_⟩;refine aa (I4 Hy.mw) rfl ?_;simp -dsimp -implicitDefEqProofs only[go_sem,h27,h28,h5,h6,h7,b5,b6,b7];refine key _ ?_ ?_ ?_<;>simp -dsimp -implicitDefEqProofs only[go_sem]
    ·have d2:decide (((Alg.sz y.2:Int).tmod 2)=0)=false:=aj (by rw[tm];omega);rw[sgR,if_neg (fun h=>p2 h.2)]at key;simp -dsimp -implicitDefEqProofs only[go_sem,h27,h28,h5,h6,h7,b5,b6,b7,af,aF,d1,d2];refine⟨by decide,?_⟩;refine key _ ?_ ?_ ?_<;>simp -dsimp -implicitDefEqProofs only[go_sem]
   ·have d1:decide (((Alg.sz y.1:Int).tmod 2)=0)=false:=aj (by rw[tm];omega);rw[sgR,if_neg (fun h=>p1 h.1)]at key;simp -dsimp -implicitDefEqProofs only[go_sem,h27,h28,h5,h6,h7,b5,b6,b7,af,aF,d1];refine key _ ?_ ?_ ?_<;>simp -dsimp -implicitDefEqProofs only[go_sem]
 ·rintro cs γs ⟨h,-⟩;rw[CN]at h;omega
 ·rintro e cs γs-⟨rfl,rfl⟩-hγ;obtain⟨g,g',rfl⟩:∃ g g',γs=[g,g']:=by
   match γs,hγ with
   | [g,g'],_=>exact⟨g,g',rfl⟩
  have hz0:=(CM _ a b (ae _) m z hz).1;have sz0:=aA hz0;have Hz:=H m z hz;have hz1:=Hz.s1;have hz2:=Hz.s2;show WPn _ _ _ _;refine WPn.end_k kd fun K hK=>?_;dsimp only[List.map,setB];by_cases h1:Alg.sz z.2=1
  ·have e3:decide ((1:Int)<(Alg.sz z.2:Int))=false:=aj (by omega);obtain⟨w1,w2⟩:=Hz.ew h1;have hg:(Alg.cl z.2)[0]?=some (lc z.2):=by
    rw[ah (by rw[aF];omega),jp];show some (z.2.c 0)=some (z.2.c (Alg.sz z.2-1));rw[h1]
   have eR:Ef a b m z=lA a b m*Alg.pw (lc z.2) (Alg.sz z.1-1):=by unfold Ef;rw[if_pos h1]
   have esz:(Alg.sz z.1:Int)-1=((Alg.sz z.1-1:Nat):Int)\/Alg.sz z.1=0:=by omega
   rcases esz with esz|esz
   ·simp -dsimp -implicitDefEqProofs only[go_sem,af,aF,e3];refine an (by rfl) 7 [] false true (by rfl) (by rfl) (by decide +kernel) ?_;simp -dsimp -implicitDefEqProofs only[go_sem,af,aF,esz];refine⟨Int.le_refl _,av hg ?_⟩;simp -dsimp -implicitDefEqProofs only[go_sem,af,aF,esz];refine aa (vy Hz.lw (by omega)) rfl ?_;simp -dsimp -implicitDefEqProofs only[go_sem];refine aa (jy gh Hz.ow w1 w2) rfl ?_;simp -dsimp -implicitDefEqProofs only[go_sem];refine hK _ _ ⟨.inr rfl,?_⟩;rw[eR];simp -dsimp -implicitDefEqProofs only[go_sem]
   ·exact absurd (ap.1 esz) (Ns _ a b (ae _) ha m z hz)
  ·have e3:decide ((1:Int)<(Alg.sz z.2:Int))=true:=ai (by omega);have eR:Ef a b m z=0:=by unfold Ef;rw[if_neg h1]
   simp -dsimp -implicitDefEqProofs only[go_sem,af,aF,e3];refine am (bW 0 (by decide)) ?_;simp -dsimp -implicitDefEqProofs only[go_sem];refine hK _ _ ⟨.inr rfl,?_⟩;rw[eR,<-gL];simp -dsimp -implicitDefEqProofs only[go_sem]
end Go.AM
namespace Go.AM
open Alg
open Go.Proofs
open Classical
theorem KI:Alg.cl (1:KP)=[1]:=cl_C (R:=KQ) one_ne
theorem CC:ku (1:KP)=kl [kn 1]:=by show kl (Alg.cl 1)=_;rw[KI,fi]
theorem Fl {a b c:KP} (hG:Fn Tryz.prog 24 [ku a,ku b] [ku (Alg.gd a b)]) (h:Alg.sz (Alg.gd a b)≠1):Fn Tryz.prog 28 [ku a,ku b,ku c] [ku 0,ku 0,iN 60]:=by
 have e1:decide ((Alg.sz (Alg.gd a b):Int)=1)=false:=aj (by omega);rw[gJ];refine ao kd (fn:=Tryz.f28) (by rfl) rfl rfl rfl (by rfl) (by simp) (by rfl) ?_;simp -dsimp -implicitDefEqProofs only[go_sem];refine aa hG rfl ?_;simp -dsimp -implicitDefEqProofs only[go_sem,af,aF,e1,Bool.not_false,Bool.not_true];rfl
theorem NZ {a b c:KP} (hG:Fn Tryz.prog 24 [ku a,ku b] [ku (Alg.gd a b)]) (h:Alg.sz (Alg.gd a b)=1) (hb:Alg.sz b=1) (hM:Fn Tryz.prog 14 [ku 0,ku a] [ku 0]) (hS:Fn Tryz.prog 50 [ku c,ku 0] [ku c]) (hQ:Fn Tryz.prog 81 [ku c,ku b] [ku (qu c b)]) :
  Fn Tryz.prog 28 [ku a,ku b,ku c] [ku 0,ku (qu c b),iN 0]:=by
 have e1:decide ((Alg.sz (Alg.gd a b):Int)=1)=true:=ai (by omega);have e2:decide ((Alg.sz b:Int)=0)=false:=aj (by omega);have e3:decide ((1:Int)<(Alg.sz b:Int))=false:=aj (by omega);rw[gJ]at hM hS ⊢;refine ao kd (fn:=Tryz.f28) (by rfl) rfl rfl rfl (by rfl) (by simp) (by rfl) ?_;simp -dsimp -implicitDefEqProofs only[go_sem];refine aa hG rfl ?_;simp -dsimp -implicitDefEqProofs only[go_sem,af,aF,e1,e2,e3,Bool.not_false,Bool.not_true];refine aa hM rfl ?_;simp -dsimp -implicitDefEqProofs only[go_sem];refine aa hS rfl ?_;simp -dsimp -implicitDefEqProofs only[go_sem];refine aa hQ rfl ?_;simp -dsimp -implicitDefEqProofs only[go_sem];rfl
theorem BV {a b c s t:KP} (hG:Fn Tryz.prog 24 [ku a,ku b] [ku (Alg.gd a b)]) (h:Alg.sz (Alg.gd a b)=1) (hb:Alg.sz b=2) (hr:Alg.sz (Alg.re a b)=1) (hR:Fn Tryz.prog 82 [ku a,ku b] [ku (Alg.re a b)])
  (hq1:Fn Tryz.prog 81 [ku 1,ku (Alg.re a b)] [ku (qu 1 (Alg.re a b))]) (hm:Fn Tryz.prog 14 [ku c,ku (qu 1 (Alg.re a b))] [ku (c*qu 1 (Alg.re a b))]) (hr2:Fn Tryz.prog 82 [ku (c*qu 1 (Alg.re a b)),ku b] [ku s])
  (hm2:Fn Tryz.prog 14 [ku s,ku a] [ku (s*a)]) (hs:Fn Tryz.prog 50 [ku c,ku (s*a)] [ku (c-s*a)]) (hq:Fn Tryz.prog 81 [ku (c-s*a),ku b] [ku t]):Fn Tryz.prog 28 [ku a,ku b,ku c] [ku s,ku t,iN 0]:=by
 have e1:decide ((Alg.sz (Alg.gd a b):Int)=1)=true:=ai (by omega);have e2:decide ((Alg.sz b:Int)=0)=false:=aj (by omega);have e3:decide ((1:Int)<(Alg.sz b:Int))=true:=ai (by omega);have e4:decide ((1:Int)<(Alg.sz (Alg.re a b):Int))=false:=aj (by omega);rw[CC]at hq1;refine ao kd (fn:=Tryz.f28) (by rfl) rfl rfl rfl (by rfl) (by simp) (by rfl) ?_;simp -dsimp -implicitDefEqProofs only[go_sem];refine aa hG rfl ?_;simp -dsimp -implicitDefEqProofs only[go_sem,af,aF,e1,e2,e3,Bool.not_false,Bool.not_true];refine aa hR rfl ?_;simp -dsimp -implicitDefEqProofs only[go_sem];refine am (bW 1 (by decide)) ?_;simp -dsimp -implicitDefEqProofs only[go_sem];refine aH [(10,14),(35,52)] [] [] (fun m τ β ε=>m=0/\τ 10 = .i (ku (Alg.re a b))/\τ 11 = .fl [kr (kn 1)]) (fun e τ β ε=>e = .exit 0/\τ 10 = .i (ku (Alg.re a b))/\τ 11 = .fl [kr (kn 1)]) 0 ?_ ?_ ?_
 ·exact⟨rfl,rfl,rfl⟩
 ·rintro m τ β ε π hK hKB hKE ⟨rfl,h10,h11⟩;simp -dsimp -implicitDefEqProofs only[go_sem,h10,h11,af,aF,e4];exact⟨(by(repeat apply ak rfl);exact hK),(by(repeat apply ak rfl);exact hKB),(by(repeat apply ak rfl);exact hKE)⟩
 ·rintro e τ β ε π hK hKB hKE ⟨rfl,h10,h11⟩;have k0:τ 0 = .i (ku a):=(hK 0 rfl).trans rfl;have k1:τ 1 = .i (ku b):=(hK 1 rfl).trans rfl;have k2:τ 2 = .i (ku c):=(hK 2 rfl).trans rfl;simp -dsimp -implicitDefEqProofs only[go_sem,h10,h11,k0,k1,k2];refine aa hq1 rfl ?_;simp -dsimp -implicitDefEqProofs only[go_sem,k0,k1,k2];refine aa hm rfl ?_;simp -dsimp -implicitDefEqProofs only[go_sem,k0,k1,k2];refine aa hr2 rfl ?_;simp -dsimp -implicitDefEqProofs only[go_sem,k0,k1,k2];refine aa hm2 rfl ?_;simp -dsimp -implicitDefEqProofs only[go_sem,k0,k1,k2];refine aa hs rfl ?_;simp -dsimp -implicitDefEqProofs only[go_sem,k0,k1,k2];refine aa hq rfl ?_;simp -dsimp -implicitDefEqProofs only[go_sem]
end Go.AM
namespace Go.AM
open Alg
open Go.Proofs
open Classical
noncomputable def sqr (x:KP×Nat):List C:=[kc x.1,C.v (.int .i64 (x.2:Int))]
inductive SqR:Nat->Nat->KP->KP->List (KP×Nat)->Prop
 | stop {n:Nat} {b c:KP} (h:Alg.sz b<=1):SqR 0 n b c []
 | step {m n:Nat} {b c:KP} {out:List (KP×Nat)} (h:1<Alg.sz b) (h1:Fn Tryz.prog 17 [ku b] [ku (der b)]) (h2:Fn Tryz.prog 50 [ku c,ku (der b)] [ku (c-der b)])
   (h3:Fn Tryz.prog 24 [ku b,ku (c-der b)] [ku (Alg.gd b (c-der b))]) (h4:Fn Tryz.prog 81 [ku b,ku (Alg.gd b (c-der b))] [ku (qu b (Alg.gd b (c-der b)))])
   (h5:Fn Tryz.prog 81 [ku (c-der b),ku (Alg.gd b (c-der b))] [ku (qu (c-der b) (Alg.gd b (c-der b)))]) (h6:SqR m (n+1) (qu b (Alg.gd b (c-der b))) (qu (c-der b) (Alg.gd b (c-der b))) out) :
   SqR (m+1) n b c ((if 1<Alg.sz (Alg.gd b (c-der b))then[(Alg.gd b (c-der b),n)]else[])++out)
theorem BU {a:KP} {m:Nat} {out:List (KP×Nat)} (h:2<=Alg.sz a) (hm:m<=1000) (hM:Fn Tryz.prog 53 [ku a] [ku (mn a)]) (hD:Fn Tryz.prog 17 [ku (mn a)] [ku (der (mn a))])
  (hG:Fn Tryz.prog 24 [ku (mn a),ku (der (mn a))] [ku (Alg.gd (mn a) (der (mn a)))]) (hq:Fn Tryz.prog 81 [ku (mn a),ku (Alg.gd (mn a) (der (mn a)))] [ku (qu (mn a) (Alg.gd (mn a) (der (mn a))))])
  (hq2:Fn Tryz.prog 81 [ku (der (mn a)),ku (Alg.gd (mn a) (der (mn a)))] [ku (qu (der (mn a)) (Alg.gd (mn a) (der (mn a))))])
  (hR:SqR m 1 (qu (mn a) (Alg.gd (mn a) (der (mn a)))) (qu (der (mn a)) (Alg.gd (mn a) (der (mn a)))) out):Fn Tryz.prog 31 [ku a] [.c (.lst (out.map sqr))]:=by
 have e1:decide ((Alg.sz a:Int)<2)=false:=aj (by omega);refine ao kd (fn:=Tryz.f31) (by rfl) rfl rfl rfl (by rfl) (by simp) (by rfl) ?_;simp -dsimp -implicitDefEqProofs only[go_sem,af,aF,e1];refine aa hM rfl ?_;simp -dsimp -implicitDefEqProofs only[go_sem];refine aa hD rfl ?_;simp -dsimp -implicitDefEqProofs only[go_sem];refine aa hG rfl ?_;simp -dsimp -implicitDefEqProofs only[go_sem];refine aa hq rfl ?_;simp -dsimp -implicitDefEqProofs only[go_sem];refine aa hD rfl ?_;simp -dsimp -implicitDefEqProofs only[go_sem];refine aa hq2 rfl ?_;simp -dsimp -implicitDefEqProofs only[go_sem];refine cC 6 6 2 (rs:=[]) rfl (by simp) ?_;refine aX [(4,9),(26,52)] [] [(46,46),(6,6)] (fun k τ β ε=>∃(n:Nat) (b c:KP) (o1 o2:List (KP×Nat)),n+k=1+m/\o1.length+1<=n/\SqR k n b c o2/\out=o1++o2/\τ 4 = .i (ku b)/\τ 5 = .i (ku c)/\τ 7 = .i (iN n)/\Own 2 (o1.map sqr) 6 6 τ ε)
  (fun e τ β ε=>e = .exit 0/\Own 2 (out.map sqr) 6 6 τ ε) m ?_ ?_ ?_
 ·exact⟨1,_,_,[],out,by omega,by simp,hR,rfl,rfl,rfl,rfl,Own.mk (g:=1) (mm:=false) (len:=0) (by omega) rfl rfl rfl⟩
 ·rintro k τ β ε π hK hKB hKE ⟨n,b,c,o1,o2,hn,ho1,hS,rfl,h4,h5,h7,g,mm,hg,h6,hrow⟩;cases hS with
  | stop hb =>
   have e2:decide ((1:Int)<(Alg.sz b:Int))=false:=aj (by omega);simp only[List.append_nil];simp -dsimp -implicitDefEqProofs only[go_sem,h4,af,aF,e2];exact⟨(by(repeat apply ak rfl);exact hK),(by(repeat apply ak rfl);exact hKB),(by(repeat apply ak rfl);exact hKE),Own.mk hg h6 rfl hrow⟩
  | @step k' _ _ _ o3 hb c1 c2 c3 c4 c5 hS' =>
   have e2:decide ((1:Int)<(Alg.sz b:Int))=true:=ai (by omega);simp -dsimp -implicitDefEqProofs only[go_sem,h4,h5,h7,af,aF,e2];refine aa c1 rfl ?_;simp -dsimp -implicitDefEqProofs only[go_sem,h4,h5,h7];refine aa c2 rfl ?_;simp -dsimp -implicitDefEqProofs only[go_sem,h4,h5,h7];refine aa c3 rfl ?_;by_cases hf:1<Alg.sz (Alg.gd b (c-der b))
   ·have e3:decide ((1:Int)<(Alg.sz (Alg.gd b (c-der b)):Int))=true:=ai (by omega);simp -dsimp -implicitDefEqProofs only[go_sem,h4,h5,h6,h7,hrow,hg,af,aF,e3]
    repeat(refine And.intro (by omega) ?_)
    refine aa c4 rfl ?_;simp -dsimp -implicitDefEqProofs only[go_sem,h4,h5,h7];refine aa c5 rfl ?_;simp -dsimp -implicitDefEqProofs only[go_sem,h4,h5,h7]
    repeat(refine And.intro (by omega) ?_)
    refine aJ k' 6 46 6 (by omega) rfl rfl (by omega) (by decide) ⟨(by(repeat apply ak rfl);exact hK),(by(repeat apply ak rfl);exact hKB),(by(repeat apply ak rfl);exact hKE),n+1,_,_,o1++[(Alg.gd b (c-der b),n)],o3,by omega,by simp;omega,hS',?_,rfl,rfl,rfl,?_⟩
    ·rw[if_pos hf,List.append_assoc]
    ·exact Own.mk2 (Nat.succ_pos _) (by simp -dsimp -implicitDefEqProofs only[go_sem];rfl) (by simp -dsimp -implicitDefEqProofs only[go_sem];rfl) (by simp) (by simp;rfl)
   ·have e3:decide ((1:Int)<(Alg.sz (Alg.gd b (c-der b)):Int))=false:=aj (by omega);simp -dsimp -implicitDefEqProofs only[go_sem,h4,h5,h6,h7,af,aF,e3];refine aa c4 rfl ?_;simp -dsimp -implicitDefEqProofs only[go_sem,h4,h5,h7];refine aa c5 rfl ?_;simp -dsimp -implicitDefEqProofs only[go_sem,h4,h5,h7]
    repeat(refine And.intro (by omega) ?_)
    refine again k' (by omega) ⟨(by(repeat apply ak rfl);exact hK),(by(repeat apply ak rfl);exact hKB),(by(repeat apply ak rfl);exact hKE),n+1,_,_,o1,o3,by omega,by omega,hS',?_,rfl,rfl,rfl,Own.mk hg (by simp -dsimp -implicitDefEqProofs only[go_sem,h6]) rfl hrow⟩
    rw[if_neg hf];rfl
 ·rintro e τ β ε π hK hKB hKE ⟨rfl,g,mm,hg,h6,hrow⟩;refine⟨_,aY.refl _,?_⟩;simp -dsimp -implicitDefEqProofs only[go_sem,h6,hrow,hg]
end Go.AM
namespace Go.AM
open Go.Proofs
theorem gY (e:Ex):Fn Tryz.prog 125 [iE e] [iB (decide (cy e))]:=by
 refine ao kd (fn:=Tryz.f125) (by rfl) rfl rfl rfl (by rfl) (by simp) (by rfl) ?_;by_cases h0:0<=e.a
 ·by_cases h1:0<=e.b
  ·by_cases h2:0<=e.c
   ·by_cases h3:0<=e.d
    ·simp -dsimp -implicitDefEqProofs only[go_sem,Int.reduceToNat,Int.reduceLE,ag,h0,h1,h2,h3];rw[ai (show cy e from⟨h0,h1,h2,h3⟩)]
    ·simp -dsimp -implicitDefEqProofs only[go_sem,Int.reduceToNat,Int.reduceLE,ag,h0,h1,h2,h3];rw[aj (show¬ cy e from fun h=>h3 h.2.2.2)]
   ·simp -dsimp -implicitDefEqProofs only[go_sem,Int.reduceToNat,Int.reduceLE,ag,h0,h1,h2];rw[aj (show¬ cy e from fun h=>h2 h.2.2.1)]
  ·simp -dsimp -implicitDefEqProofs only[go_sem,Int.reduceToNat,Int.reduceLE,ag,h0,h1];rw[aj (show¬ cy e from fun h=>h1 h.2.1)]
 ·simp -dsimp -implicitDefEqProofs only[go_sem,Int.reduceToNat,Int.reduceLE,ag,h0];rw[aj (show¬ cy e from fun h=>h0 h.1)]
theorem mH (e f:Ex):Fn Tryz.prog 100 [iE e,iE f] [iB (decide (0<bP e f))]:=by
 refine ao kd (fn:=Tryz.f100) (by rfl) rfl rfl rfl (by rfl) (by simp) (by rfl) ?_;simp -dsimp -implicitDefEqProofs only[go_sem];refine aH [(4,23)] [] [] (fun n τ β ε=>∃ i:Int,n=(i+1).toNat /\ -1<=i/\i<=3/\(i<3->e.d=f.d)/\(i<2->e.c=f.c)/\(i<1->e.b=f.b)/\(i<0->e.a=f.a)/\τ 5 = .i (iN i))
  (fun x τ β ε=>(x = .exit 0/\e=f)\/(x = .ret/\τ 4 = .i (iB (decide (0<bP e f))))) 4 ?_ ?_ ?_
 ·exact⟨3,by omega,by omega,by omega,by omega,by omega,by omega,by omega,rfl⟩
 ·rintro n τ β ε π hK hKB hKE ⟨i,hn,hi0,hi,hd,hc,hb,ha,h5⟩;have k2:τ 2 = .bp 2 1 0:=(hK 2 rfl).trans rfl;have k3:τ 3 = .bp 3 1 0:=(hK 3 rfl).trans rfl;have b2:β 2=⟨1,e.cs⟩:=(hKB 2 rfl).trans rfl;have b3:β 3=⟨1,f.cs⟩:=(hKB 3 rfl).trans rfl;obtain rfl|rfl|rfl|rfl|rfl:i=3\/i=2\/i=1\/i=0\/i = -1:=by omega
  ·simp -dsimp -implicitDefEqProofs only[go_sem,h5,Int.reduceLE,decide_true,decide_false];refine an (by rfl) 7 [] false true (by rfl) (by rfl) (by decide +kernel) ?_;simp -dsimp -implicitDefEqProofs only[go_sem,Int.reduceToNat,Int.reduceLE,ag,h5,k2,k3,b2,b3];by_cases hx:e.d=f.d
   ·have e1:decide (e.d=f.d)=true:=ai hx;simp -dsimp -implicitDefEqProofs only[go_sem,Int.reduceToNat,Int.reduceLE,ag,e1,h5]
    repeat(refine And.intro (by omega) ?_)
    exact again 3 (by omega) ⟨(by(repeat apply ak rfl);exact hK),(by(repeat apply ak rfl);exact hKB),(by(repeat apply ak rfl);exact hKE),2,rfl,by omega,by omega,by omega,by omega,by omega,by omega,rfl⟩
   ·have e1:decide (e.d=f.d)=false:=aj hx;simp -dsimp -implicitDefEqProofs only[go_sem,Int.reduceToNat,Int.reduceLE,ag,e1];refine an (by rfl) 8 [] false true (by rfl) (by rfl) (by decide +kernel) ?_;simp -dsimp -implicitDefEqProofs only[go_sem,Int.reduceToNat,Int.reduceLE,ag,h5,k2,k3,b2,b3];refine⟨(by(repeat apply ak rfl);exact hK),(by(repeat apply ak rfl);exact hKB),(by(repeat apply ak rfl);exact hKE),?_⟩
    have e2:decide (f.d<e.d)=decide (0<bP e f):=by rw[decide_eq_decide,gW];omega
    rw[e2]
  ·simp -dsimp -implicitDefEqProofs only[go_sem,h5,Int.reduceLE,decide_true,decide_false];refine an (by rfl) 7 [] false true (by rfl) (by rfl) (by decide +kernel) ?_;simp -dsimp -implicitDefEqProofs only[go_sem,Int.reduceToNat,Int.reduceLE,ag,h5,k2,k3,b2,b3];by_cases hx:e.c=f.c
   ·have e1:decide (e.c=f.c)=true:=ai hx;simp -dsimp -implicitDefEqProofs only[go_sem,Int.reduceToNat,Int.reduceLE,ag,e1,h5]
    repeat(refine And.intro (by omega) ?_)
    exact again 2 (by omega) ⟨(by(repeat apply ak rfl);exact hK),(by(repeat apply ak rfl);exact hKB),(by(repeat apply ak rfl);exact hKE),1,rfl,by omega,by omega,by omega,by omega,by omega,by omega,rfl⟩
   ·have e1:decide (e.c=f.c)=false:=aj hx;simp -dsimp -implicitDefEqProofs only[go_sem,Int.reduceToNat,Int.reduceLE,ag,e1];refine an (by rfl) 8 [] false true (by rfl) (by rfl) (by decide +kernel) ?_;simp -dsimp -implicitDefEqProofs only[go_sem,Int.reduceToNat,Int.reduceLE,ag,h5,k2,k3,b2,b3];refine⟨(by(repeat apply ak rfl);exact hK),(by(repeat apply ak rfl);exact hKB),(by(repeat apply ak rfl);exact hKE),?_⟩
    have e2:decide (f.c<e.c)=decide (0<bP e f):=by rw[decide_eq_decide,gW];omega
    rw[e2]
  ·simp -dsimp -implicitDefEqProofs only[go_sem,h5,Int.reduceLE,decide_true,decide_false];refine an (by rfl) 7 [] false true (by rfl) (by rfl) (by decide +kernel) ?_;simp -dsimp -implicitDefEqProofs only[go_sem,Int.reduceToNat,Int.reduceLE,ag,h5,k2,k3,b2,b3];by_cases hx:e.b=f.b
   ·have e1:decide (e.b=f.b)=true:=ai hx;simp -dsimp -implicitDefEqProofs only[go_sem,Int.reduceToNat,Int.reduceLE,ag,e1,h5]
    repeat(refine And.intro (by omega) ?_)
    exact again 1 (by omega) ⟨(by(repeat apply ak rfl);exact hK),(by(repeat apply ak rfl);exact hKB),(by(repeat apply ak rfl);exact hKE),0,rfl,by omega,by omega,by omega,by omega,by omega,by omega,rfl⟩
   ·have e1:decide (e.b=f.b)=false:=aj hx;simp -dsimp -implicitDefEqProofs only[go_sem,Int.reduceToNat,Int.reduceLE,ag,e1];refine an (by rfl) 8 [] false true (by rfl) (by rfl) (by decide +kernel) ?_;simp -dsimp -implicitDefEqProofs only[go_sem,Int.reduceToNat,Int.reduceLE,ag,h5,k2,k3,b2,b3];refine⟨(by(repeat apply ak rfl);exact hK),(by(repeat apply ak rfl);exact hKB),(by(repeat apply ak rfl);exact hKE),?_⟩
    have e2:decide (f.b<e.b)=decide (0<bP e f):=by rw[decide_eq_decide,gW];omega
    rw[e2]
  ·simp -dsimp -implicitDefEqProofs only[go_sem,h5,Int.reduceLE,decide_true,decide_false];refine an (by rfl) 7 [] false true (by rfl) (by rfl) (by decide +kernel) ?_;simp -dsimp -implicitDefEqProofs only[go_sem,Int.reduceToNat,Int.reduceLE,ag,h5,k2,k3,b2,b3];by_cases hx:e.a=f.a
   ·have e1:decide (e.a=f.a)=true:=ai hx;simp -dsimp -implicitDefEqProofs only[go_sem,Int.reduceToNat,Int.reduceLE,ag,e1,h5]
    repeat(refine And.intro (by omega) ?_)
    exact again 0 (by omega) ⟨(by(repeat apply ak rfl);exact hK),(by(repeat apply ak rfl);exact hKB),(by(repeat apply ak rfl);exact hKE),-1,rfl,by omega,by omega,by omega,by omega,by omega,by omega,rfl⟩
   ·have e1:decide (e.a=f.a)=false:=aj hx;simp -dsimp -implicitDefEqProofs only[go_sem,Int.reduceToNat,Int.reduceLE,ag,e1];refine an (by rfl) 8 [] false true (by rfl) (by rfl) (by decide +kernel) ?_;simp -dsimp -implicitDefEqProofs only[go_sem,Int.reduceToNat,Int.reduceLE,ag,h5,k2,k3,b2,b3];refine⟨(by(repeat apply ak rfl);exact hK),(by(repeat apply ak rfl);exact hKB),(by(repeat apply ak rfl);exact hKE),?_⟩
    have e2:decide (f.a<e.a)=decide (0<bP e f):=by rw[decide_eq_decide,gW];omega
    rw[e2]
  ·simp -dsimp -implicitDefEqProofs only[go_sem,h5,Int.reduceLE,decide_true,decide_false];refine⟨(by(repeat apply ak rfl);exact hK),(by(repeat apply ak rfl);exact hKB),(by(repeat apply ak rfl);exact hKE),?_⟩
   cases e;cases f;simp only[Ex.mk.injEq];exact⟨ha (by omega),hb (by omega),hc (by omega),hd (by omega)⟩
 ·rintro x τ β ε π hK hKB hKE h;rcases h with⟨rfl,rfl⟩|⟨rfl,h⟩
  ·simp -dsimp -implicitDefEqProofs only[go_sem];rw[aj (by rw[(iX e e).2 rfl];omega)]
  ·simp -dsimp -implicitDefEqProofs only[go_sem,h]
theorem FN {x y:Operand} {e f:Ex} {K:Value->Prop} (h:K (.bool (!decide (e=f)))):d7 Tryz.prog .neq 100 x y (.agg #[.int .i64 e.a,.int .i64 e.b,.int .i64 e.c,.int .i64 e.d]) (.agg #[.int .i64 f.a,.int .i64 f.b,.int .i64 f.c,.int .i64 f.d]) K:=by
 refine⟨.bool (!decide (e=f)),fun w=>?_,rfl,h⟩;have h1:(eqGuard .neq 100 x y e.v f.v).run Tryz.prog w = .ok () w:=by rfl
 have h2:(binOp .neq 100 e.v f.v).run Tryz.prog w = .ok (.bool (!decide (e=f))) w:=by
  show(do pure (.bool (!(← Op.equal 100 e.v f.v))):Sem Value).run Tryz.prog w=_
  rw[Sem.run_bind,mt.eq e f w];rfl
 show(do eqGuard .neq 100 x y e.v f.v;binOp .neq 100 e.v f.v:Sem Value).run Tryz.prog w=_
 rw[Sem.run_bind,h1,Result.andThen_ok,h2]
theorem qm (a b:List Tm) (hl:a.length<=1099511627776) (hx:∀ t∈a,QB 17179869184 t.2) (hy:∀ t∈b,QB 17179869184 t.2):Fn Tryz.prog 93 [iM a,iM b] [iB (decide (a=b))]:=by
 refine ao kd (fn:=Tryz.f93) (by rfl) rfl rfl rfl (by rfl) (by simp) (by rfl) ?_;by_cases hab:a.length=b.length
 ·have e1:decide ((a.length:Int)=(b.length:Int))=true:=ai (by omega);simp -dsimp -implicitDefEqProofs only[go_sem,e1,af];refine aH [(4,5),(11,41)] [] [] (fun n τ β ε=>∃ i:Nat,n=a.length-i/\i<=a.length/\a.take i=b.take i/\τ 5 = .i (iN i))
   (fun e τ β ε=>(e = .exit 0/\a=b)\/(e = .ret/\¬ a=b/\τ 4 = .i (.c (.v (.bool false))))) a.length ?_ ?_ ?_
  ·exact⟨0,by omega,by omega,rfl,rfl⟩
  ·rintro n τ β ε π hK hKB hKE ⟨i,hn,hi,he,h5⟩;have k0:τ 0 = .i (iM a):=(hK 0 rfl).trans rfl;have k1:τ 1 = .i (iM b):=(hK 1 rfl).trans rfl;by_cases hlt:i<a.length
   ·have hA:(i:Int)<(a.length:Int):=by omega
    have hlb:i<b.length:=by omega
    have ga:a[i]?=some a[i]:=by simp[hlt]
    have gb:b[i]?=some b[i]:=by simp[hlb]
    simp -dsimp -implicitDefEqProofs only[go_sem,h5,k0,k1,hA,af];refine an (by rfl) 25 [] false true (by rfl) (by rfl) (by decide +kernel) ?_;simp -dsimp -implicitDefEqProofs only[go_sem,h5,k0,k1];refine av ga ?_;simp -dsimp -implicitDefEqProofs only[go_sem,h5,k0,k1,Int.reduceToNat,Int.reduceLE,ag];refine av gb ?_;simp -dsimp -implicitDefEqProofs only[go_sem,h5,k0,k1,Int.reduceToNat,Int.reduceLE,ag];refine FN ?_;by_cases hex:a[i].1=b[i].1
    ·have e2:decide (a[i].1=b[i].1)=true:=ai hex;simp -dsimp -implicitDefEqProofs only[go_sem,e2];refine av ga ?_;simp -dsimp -implicitDefEqProofs only[go_sem,h5,k0,k1,Int.reduceToNat,Int.reduceLE,ag];refine av gb ?_;simp -dsimp -implicitDefEqProofs only[go_sem,h5,k0,k1,Int.reduceToNat,Int.reduceLE,ag];refine ar (args':=[iQ a[i].2,iQ b[i].2]) rfl (Fk _ _ (hx _ (List.getElem_mem _)) (hy _ (List.getElem_mem _))) ?_;by_cases hc:a[i].2=b[i].2
     ·simp -dsimp -implicitDefEqProofs only[go_sem,hc,h5]
      repeat(refine And.intro (by omega) ?_)
      refine again (a.length-(i+1)) (by omega) ⟨(by(repeat apply ak rfl);exact hK),(by(repeat apply ak rfl);exact hKB),(by(repeat apply ak rfl);exact hKE),i+1,rfl,by omega,?_,rfl⟩
      rw[ab hlt,ab hlb,he,show a[i]=b[i]from Prod.ext hex hc]
     ·simp -dsimp -implicitDefEqProofs only[go_sem,hc];exact⟨(by(repeat apply ak rfl);exact hK),(by(repeat apply ak rfl);exact hKB),(by(repeat apply ak rfl);exact hKE),fun e=>hc (by simp[e])⟩
    ·have e2:decide (a[i].1=b[i].1)=false:=aj hex;simp -dsimp -implicitDefEqProofs only[go_sem,e2];exact⟨(by(repeat apply ak rfl);exact hK),(by(repeat apply ak rfl);exact hKB),(by(repeat apply ak rfl);exact hKE),fun e=>hex (by simp[e])⟩
   ·have hA:¬ (i:Int)<(a.length:Int):=by omega
    obtain rfl:i=a.length:=by omega
    simp -dsimp -implicitDefEqProofs only[go_sem,h5,k0,hA,af];have:a=b:=by rw[List.take_length,List.take_of_length_le (by omega)]at he;exact he
    exact⟨(by(repeat apply ak rfl);exact hK),(by(repeat apply ak rfl);exact hKB),(by(repeat apply ak rfl);exact hKE),this⟩
  ·rintro e τ β ε π hK hKB hKE h;rcases h with⟨rfl,h⟩|⟨rfl,h,h6⟩
   ·simp -dsimp -implicitDefEqProofs only[go_sem,h]
   ·simp -dsimp -implicitDefEqProofs only[go_sem,h,h6]
 ·have e1:decide ((a.length:Int)=(b.length:Int))=false:=aj (by omega);simp -dsimp -implicitDefEqProofs only[go_sem,e1,af];have:¬ a=b:=fun e=>hab (by rw[e]);rw[aj this]
end Go.AM
