/- Lemmas, part 18 of 23. No condition. -/
import Derived.Test.YtcmfkhicjhliaaaGreatPZ816
set_option maxRecDepth 65536
set_option linter.unusedSimpArgs false
set_option linter.unusedVariables false
set_option linter.unusedSectionVars false
namespace Go.AM
open Alg
open Go.Proofs
open Classical
theorem gh:ku (0:KP)=kl []:=by show kl (aj 0)=_;rw[pN]
def wD (w v:Nat):Nat->Nat
 | 0=>w
 | n+1=>2*wD w v n+2*v+1
theorem rO (w v:Nat):∀{m n:Nat},m<=n->wD w v m<=wD w v n:=by
 intro m n h
 induction n with
 | zero=>rw[Nat.le_zero.1 h];exact ay _
 | succ n ih =>
  rcases Nat.lt_or_ge n m with h1|h1
  ·rw[show m=n+1 by omega];exact ay _
  ·have:=ih h1;simp only[wD];omega
theorem C4 {n:Nat} {p:KP} (h:aa p<=n):dF (dO n p)=aj p:=by
 rw[fX];congr 1;refine Alg.P.ext fun i=>?_;rw[qv,List.getD_eq_getElem?_getD];rcases Nat.lt_or_ge i n with hi|hi
 ·rw[kN p hi];rfl
 ·rw[List.getElem?_eq_none (by rw[d8];exact hi),aP aw];rfl
theorem E3 {n j:Nat} {p p':KP} {x:KQ} (h:∀ i,i≠j->p'.c i=p.c i) (hx:p'.c j=x):(dO n p).set j x=dO n p':=by
 refine List.ext_getElem (by simp[dO]) fun i h1 h2=>?_;rw[List.getElem_set];simp only[dO,List.getElem_map,List.getElem_range];by_cases e:j=i
 ·subst e;rw[if_pos rfl,hx]
 ·rw[if_neg e,h i fun e'=>e e'.symm]
theorem xS (p:KP):Fn Tryz.prog 18 [ku p,ku 0] [ku 0,ku 0,iN 3]:=by
 have e1:decide (((0:Nat):Int)=0)=true:=rfl;rw[gh];refine aJ (fn:=Tryz.f18) ?_;simp -dsimp only[go_sem,az,e1];rfl
theorem xU {p q:KP} {v:Nat} (hq0:q≠0) (hlt:aa p<aa q) (hq:PW v q) (hv:v<=1000) (hs:aa p<=1000) (hs':aa q<=1000):Fn Tryz.prog 18 [ku p,ku q] [ku 0,ku p,iN 0]:=by
 have e1:decide ((aa q:Int)=0)=false:=aG aw;have sq:=aV hq0;have hlast:(aj q)[aa q-1]?=some (lc q):=by rw[aD (by rw[aZ];omega),fB];rfl
 have el:(aa q:Int)-1=((aa q-1:Nat):Int):=aw;rw[gh];refine aJ (fn:=Tryz.f18) ?_;simp -dsimp only[go_sem,az,aZ,e1];refine co (oV ((aj p).map kr) (rW _) (by simp[aZ];omega)) ?_;simp -dsimp only[go_sem,az,aZ];refine aK (cx 0 aH) ?_;simp -dsimp only[go_sem,az,aZ]
 repeat(refine And.intro aw ?_)
 rw[show max (0:Int) ((aa p:Int)-(aa q:Int)+1)=0 by omega];refine co (Cu (kr (kn 0))) ?_;simp -dsimp only[go_sem,az,aZ];refine ap 12 [9] false true ?_;simp -dsimp only[go_sem];refine aK (cx 1 aH) ?_;simp -dsimp only[go_sem,az,aZ,el]
 repeat(refine And.intro aw ?_)
 refine aQ hlast ?_;simp -dsimp only[go_sem];have hl0:=bP hq0;have hlw:FB v (Alg.inv (lc q)):=(hq _).inv hl0;have hc:kn 1*Alg.inv (lc q)=Alg.inv (lc q):=by rw[ff,one_mul]
 refine aO (args':=[iK (kn 1),iK (lc q)]) rfl (uY gV ((iY (w:=0) aH).mono aw) ((hq _).mono hv) hl0 (by rw[hc];exact hlw.mono hv)) ?_;rw[hc];simp -dsimp only[go_sem];refine aO (args':=[iK (Alg.inv (lc q)),iN 0]) rfl (p7 _ 0) ?_;simp -dsimp only[go_sem];refine⟨aH,?_⟩;refine br [(10,12),(42,84)] [(12,12)] [] (fun m τ β ε=>m=0/\τ 10 = .i (iN (-1))) (fun e τ β ε=>e = .exit 0) 0 ?_ ?_ ?_
 ·exact⟨rfl,rfl⟩
 ·rintro m τ β ε π hK hKB hKE ⟨rfl,h10⟩;have hA:decide ((0:Int) <= -1)=false:=rfl;simp -dsimp only[go_sem,h10,hA];exact⟨(aA hK),hKB,hKE⟩
 ·rintro e τ β ε π hK hKB hKE rfl;have k8:τ 8 = .sl 27 1 0:=(hK 8 rfl).trans rfl;have k7:τ 7 = .sl 17 1 (aa p):=by rw[hK 7 aH];simp -dsimp only[go_sem,az,aZ]
  have r27:ε 27=⟨1,2,[],false,true⟩:=by rw[hKE 27 aH];simp -dsimp only[go_sem];rfl
  have r17:∃ m,ε 17=⟨1,2,(aj p).map kr,m,true⟩:=⟨_,by rw[hKE 17 aH];simp -dsimp only[go_sem];rfl⟩;obtain⟨mm,r17⟩:=r17;refine⟨_,bA.refl _,?_⟩;simp -dsimp only[go_sem,k8,k7,r27,r17];refine ao (iS [] au) rfl ?_;simp -dsimp only[go_sem,k7,r17];refine aO (args':=[kl (aj p)]) ?_ (iS (aj p) (by rw[aZ];omega)) ?_
  ·rw[List.take_of_length_le (by simp[aZ])]
  have e5:dF (aj p)=aj p:=by rw[fX,Ht]
  rw[e5];simp -dsimp only[go_sem];rfl
structure DvS (p q:KP) (w v n r:Nat) (Q R:KP):Prop where
 eq:p=Q*q+R
 szR:aa R<=r+aa q-1
 szQ:aa Q<=n
 low:∀ j,j<r->Q.c j=0
 w:PW (wD w v (n-r)) R
set_option maxHeartbeats 2000000 in
theorem xT {p q:KP} {w v n:Nat} (hq0:q≠0) (hle:aa q<=aa p) (hn:n=aa p-aa q+1) (hp:PW w p) (hq:PW v q) (hb:wD w v n<=1000) (hs:aa p<=1000) (hs':aa q<=1000):Fn Tryz.prog 18 [ku p,ku q] [ku (qu p q),ku (ab p q),iN 0]:=by
 have e1:decide ((aa q:Int)=0)=false:=aG (by have:=aV hq0;omega);have sq:=aV hq0;have hw:w<=1000:=ax (rO w v (Nat.zero_le n)) hb;have hv1:2*v+1<=1000:=by
  have:=rO w v (show 1<=n by omega);simp only[wD]at this;omega
 have hlast:(aj q)[aa q-1]?=some (lc q):=by rw[aD (by rw[aZ];omega),fB];rfl
 have el:(aa q:Int)-1=((aa q-1:Nat):Int):=aw;have hrep:=v6 (kr (kn 0)) rfl n aw aw;have erep:List.replicate n (kr (kn 0))=(dO n (0:KP)).map kr:=by
  rw[fi];refine List.ext_getElem (by simp[dO]) fun i h1 h2=>?_;simp[dO];rfl
 have eem:∀(m:Nat) (r:KP),0<m->(!(List.map kr (dO m r)).isEmpty)=true:=by
  intro m r hm;obtain⟨m,rfl⟩:∃ m',m=m'+1:=⟨m-1,aw⟩;simp[dO,List.range_succ]
 have eem2:(!(List.map kr (aj p)).isEmpty)=true:=by rw[<-wX rfl];exact eem _ _ aw
 rw[erep]at hrep;have hl0:=bP hq0;have hlw:FB v (Alg.inv (lc q)):=(hq _).inv hl0;have hc:kn 1*Alg.inv (lc q)=Alg.inv (lc q):=by rw[ff,one_mul]
 refine aJ (fn:=Tryz.f18) ?_;simp -dsimp only[go_sem,az,aZ,e1];refine co (oV ((aj p).map kr) (rW _) (by simp[aZ];omega)) ?_;simp -dsimp only[go_sem,az,aZ];refine aK (cx 0 aH) ?_;simp -dsimp only[go_sem,az,aZ]
 repeat(refine And.intro aw ?_)
 rw[show max (0:Int) ((aa p:Int)-(aa q:Int)+1)=(n:Int)by omega];refine co hrep ?_;simp -dsimp only[go_sem,az,aZ,d8];refine ap 12 [9] false true ?_;simp -dsimp only[go_sem];refine aK (cx 1 aH) ?_;simp -dsimp only[go_sem,az,aZ,el]
 repeat(refine And.intro aw ?_)
 refine aQ hlast ?_;simp -dsimp only[go_sem];refine aO (args':=[iK (kn 1),iK (lc q)]) rfl (uY gV ((iY (w:=0) aH).mono aw) ((hq _).mono aw) hl0 (by rw[hc];exact hlw.mono aw)) ?_;rw[hc];simp -dsimp only[go_sem];refine aO (args':=[iK (Alg.inv (lc q)),iN 0]) rfl (p7 _ 0) ?_;simp -dsimp only[go_sem,d8,az]
 repeat(refine And.intro aw ?_)
 refine br [(10,12),(42,84)] [(12,12)] [(17,17),(27,27)] (fun m τ β ε=>∃(r:Nat) (Q R:KP),m=r/\r<=n/\τ 10 = .i (iN ((r:Int)-1))/\DvS p q w v n r Q R/\ε 17=⟨1,2,(dO (aa p) R).map kr,true,true⟩/\ε 27=⟨1,2,(dO n Q).map kr,true,true⟩)
  (fun e τ β ε=>e = .exit 0/\∃ Q R:KP,DvS p q w v n 0 Q R/\ε 17=⟨1,2,(dO (aa p) R).map kr,true,true⟩/\ε 27=⟨1,2,(dO n Q).map kr,true,true⟩) n ?_ ?_ ?_
 ·refine⟨n,0,p,rfl,ay _,by simp -dsimp only[go_sem,d8,az],⟨by rw[zero_mul,zero_add],aw,by rw[aM.2 rfl];omega,fun _ _=>rfl,by rw[Nat.sub_self];exact hp⟩,?_,?_⟩
  ·simp -dsimp only[go_sem];rw[eem2,wX rfl]
  ·simp -dsimp only[go_sem];rw[eem n 0 aw]
 ·rintro m τ β ε π hK hKB hKE ⟨r,Q,R,rfl,hr,h10,hD,h17,h27⟩;have k8:τ 8 = .sl 27 1 n:=by rw[hK 8 aH];simp -dsimp only[go_sem,d8,az]
  have k7:τ 7 = .sl 17 1 (aa p):=by rw[hK 7 aH];simp -dsimp only[go_sem,az,aZ]
  have k9:τ 9 = .bp 9 1 0:=(hK 9 rfl).trans rfl;have b9:β 9=⟨1,kr (Alg.inv (lc q))⟩:=(hKB 9 rfl).trans rfl;have k1:τ 1 = .i (ku q):=(hK 1 rfl).trans rfl;cases m with
  | zero =>
   have hA:decide ((0:Int)<=((0:Nat):Int)-1)=false:=rfl;simp -dsimp only[go_sem,h10,hA];exact⟨(aA hK),hKB,hKE,Q,R,hD,h17,h27⟩
  | succ i =>
   have er:((i+1:Nat):Int)-1=(i:Int):=aw;rw[er]at h10;have hA:decide ((0:Int)<=(i:Int))=true:=aF aw;have ei:((i+aa q:Nat):Int)-1=((i+aa q-1:Nat):Int):=aw;have hg:=kN (n:=aa p) (j:=i+aa q-1) R aw;obtain⟨W,hW⟩:∃ W,W=wD w v (n-(i+1)):=⟨_,rfl⟩;have hWn:2*W+2*v+1<=1000:=by
    have h1:=rO w v (show n-(i+1)+1<=n by omega);simp only[wD]at h1;omega
   have hRw:=hD.w;rw[<-hW]at hRw;obtain⟨c,hcd⟩:∃ c,c=R.c (i+aa q-1)*Alg.inv (lc q):=⟨_,rfl⟩;have hcw:FB (W+v) c:=by rw[hcd];exact(hRw _).mul hlw
   simp -dsimp only[go_sem,h10,hA];refine ap 13 [] false true ?_;simp -dsimp only[go_sem,h10,k8,k7,k9,b9,k1,h17,h27,az,aZ,ei]
   repeat(refine And.intro aw ?_)
   refine aQ hg ?_;simp -dsimp only[go_sem,h10,k8,k7,k9,b9,k1,h17,h27];refine aO (args':=[iK (R.c (i+aa q-1)),iK (Alg.inv (lc q))]) rfl (j0 gV ((hRw _).mono aw) (hlw.mono aw) (by rw[<-hcd];exact hcw.mono aw)) ?_;rw[<-hcd];have hgq:=kN (n:=n) (j:=i) Q aw;simp -dsimp only[go_sem,h10,k8,k7,k9,b9,k1,h17,h27];refine⟨aw,aQ hgq ?_⟩;simp -dsimp only[go_sem,h10,k8,k7,k9,b9,k1,h17,h27,az,aZ];have hQ0:Q.c i=0:=hD.low i aw;obtain⟨Q',hQ'⟩:∃ Q',Q'=Q+mon i c:=⟨_,rfl⟩;have eQ:(dO n Q).set i c=dO n Q':=by
    rw[hQ',<-yG,hQ0,zero_add]
   have hQc:Q'.c i=c:=by rw[hQ',cj,ce,if_pos rfl,hQ0,zero_add]
   have eset:∀ x,((dO n Q).map kr).set i (kr x)=((dO n Q).set i x).map kr:=fun x=>by rw[List.map_set]
   refine be [(11,12),(61,84)] [(12,12)] [(17,17)] (fun m τ β ε=>∃ k:Nat,m=aa q-k/\k<=aa q/\τ 61 = .i (iN k)/\ε 17=⟨1,2,(dO (aa p) (R-mon i c*tk q k)).map kr,true,true⟩)
    (fun e τ β ε=>e = .exit 2/\ε 17=⟨1,2,(dO (aa p) (R-mon i c*q)).map kr,true,true⟩) (aa q) ?_ ?_ ?_
   ·exact⟨0,aw,aw,rfl,by simp -dsimp only[go_sem,h17];rw[lu,mul_zero,sub_zero]⟩
   ·rintro m2 τ2 β2 ε2 π2 hK2 hKB2 hKE2 ⟨k,hm2,hk,h61,h17'⟩;have q60:τ2 60 = .i (iN (aa q)):=by rw[hK2 60 aH];simp -dsimp only[go_sem,az,aZ]
    have q59:τ2 59 = .i (ku q):=by rw[hK2 59 aH];simp -dsimp only[go_sem,k1]
    have q7:τ2 7 = .sl 17 1 (aa p):=(hK2 7 rfl).trans k7;have q8:τ2 8 = .sl 27 1 n:=(hK2 8 rfl).trans k8;have q10:τ2 10 = .i (iN i):=(hK2 10 rfl).trans h10;have q27:ε2 27=⟨1,2,(dO n Q').map kr,true,true⟩:=by
     rw[hKE2 27 aH];simp -dsimp only[go_sem];rw[<-eQ,List.map_set];rfl
    by_cases hlt2:k<aa q
    ·have hA2:(k:Int)<(aa q:Int):=aw;have hg2:(aj q)[k]?=some (q.c k):=by rw[aD (by rw[aZ];exact hlt2),fB]
     have eik:(i:Int)+(k:Int)=((i+k:Nat):Int):=aw;have hg3:=kN (n:=aa p) (j:=i+k) (R-mon i c*tk q k) aw;have hg4:=kN (n:=n) (j:=i) Q' aw;have hPw:∀ k,PW (2*W+2*v+1) (R-mon i c*tk q k):=fun k=>(hRw.sub (vD hcw (Pa hq))).mono aw;have hcq:FB (W+v+v) (c*q.c k):=hcw.mul (hq k);have estep:(R-mon i c*tk q k).c (i+k)-c*q.c k=(R-mon i c*tk q (k+1)).c (i+k):=by
      rw[nG,mul_add,dS,jf,jf,cj,ce,if_pos rfl];exact ring [R.c (i+k),(mon i c*tk q k).c (i+k),c,q.c k]
     simp -dsimp only[go_sem,h61,q60,q59,hA2];refine aQ hg2 ?_;simp -dsimp only[go_sem,h61,q60,q59,hA2];refine ap 18 [] false true ?_;simp -dsimp only[go_sem,h61,q60,q59,hA2,q7,q8,q10,h17',q27,eik]
     repeat(refine And.intro aw ?_)
     refine aQ hg3 ?_;simp -dsimp only[go_sem,h61,q60,q59,hA2,q7,q8,q10,h17',q27,eik];refine⟨aw,aQ hg4 ?_⟩;simp -dsimp only[go_sem,h61,q60,q59,hA2,q7,q8,q10,h17',q27,eik];refine aO (args':=[iK (Q'.c i),iK (q.c k)]) rfl (j0 gV (by rw[hQc];exact hcw.mono aw) ((hq _).mono aw) (by rw[hQc];exact hcq.mono aw)) ?_;rw[hQc];simp -dsimp only[go_sem,h61,q60,q59,hA2,q7,q8,q10,h17',q27,eik];refine aO (args':=[iK ((R-mon i c*tk q k).c (i+k)),iK (c*q.c k)]) rfl (JO gV ((hPw k _).mono hWn) (hcq.mono aw) (by rw[estep];exact(hPw (k+1) _).mono hWn)) ?_;rw[estep];simp -dsimp only[go_sem,h61,q60,q59,hA2,q7,q8,q10,h17',q27,eik];refine⟨aw,aQ hg3 ?_⟩;simp -dsimp only[go_sem,h61]
     repeat(refine And.intro aw ?_)
     refine again (aa q-(k+1)) aw ⟨(aA hK2),(aA hKB2),(aA hKE2),k+1,rfl,aw,rfl,?_⟩;simp -dsimp only[go_sem,h17'];have e6:(dO (aa p) (R-mon i c*tk q k)).set (i+k) ((R-mon i c*tk q (k+1)).c (i+k))=dO (aa p) (R-mon i c*tk q (k+1)):=by
      refine E3 (fun j hj=>?_) rfl;rw[nG,mul_add,dS,jf,jf,cj,ce,if_neg hj,add_zero]
     rw[<-e6,List.map_set];rfl
    ·have hA2:¬ (k:Int)<(aa q:Int):=aw;obtain rfl:k=aa q:=aw;simp -dsimp only[go_sem,h61,q60,hA2];exact⟨(aA hK2),hKB2,hKE2,by rw[h17',sM (ay _)]⟩
   ·rintro e τ2 β2 ε2 π2 hK2 hKB2 hKE2 ⟨rfl,h17'⟩;have q10:τ2 10 = .i (iN i):=(hK2 10 rfl).trans h10;have q27:ε2 27=⟨1,2,(dO n Q').map kr,true,true⟩:=by
     rw[hKE2 27 aH];simp -dsimp only[go_sem];rw[<-eQ,List.map_set];rfl
    have kO:=Kp.step2 hK hK2 (by intro n;simp[inR]<;>omega) (aA hK);have kB:=Kp.step2 hKB hKB2 (by intro n;simp[inR]<;>omega) hKB;have kE:=Kp.step2 hKE hKE2 (by intro n;simp[inR]<;>omega) (aA hKE);simp -dsimp only[go_sem,q10]
    repeat(refine And.intro aw ?_)
    refine again i aw ⟨(aA kO),kB,kE,i,Q',R-mon i c*q,rfl,aw,rfl,?_,h17',q27⟩;refine⟨?_,?_,?_,fun j hj=>?_,?_⟩
    ·rw[hQ',add_mul];exact lc1 1 hD.eq (ring [p,Q,q,R,mon i c])
    ·refine cI fun j hj=>?_;rw[jf,cy,if_pos aw];by_cases ej:j=i+aa q-1
     ·subst ej;rw[show i+aa q-1-i=aa q-1 by omega,hcd,mul_assoc];show _-_*(_*lc q)=0;rw[cV hl0,mul_one,sub_self]
     ·have:=hD.szR;rw[aP (by omega:aa R<=j),aP (p:=q) aw,mul_zero,sub_self]
    ·rw[hQ'];refine dh hD.szQ (cI fun j hj=>?_);rw[ce,if_neg aw]
    ·rw[hQ',cj,ce,if_neg aw,hD.low j aw,add_zero]
    ·rw[show n-i=n-(i+1)+1 by omega];simp only[wD];rw[<-hW];exact(hRw.sub (vD hcw hq)).mono aw
 ·rintro e τ β ε π hK hKB hKE ⟨rfl,Q,R,hD,h17,h27⟩;have k8:τ 8 = .sl 27 1 n:=by rw[hK 8 aH];simp -dsimp only[go_sem,d8,az]
  have k7:τ 7 = .sl 17 1 (aa p):=by rw[hK 7 aH];simp -dsimp only[go_sem,az,aZ]
  have hszR:=hD.szR;obtain⟨eQ,eR⟩:=pf hD.eq aw;refine⟨_,bA.refl _,?_⟩;simp -dsimp only[go_sem,k8,k7,h17,h27];rw[List.take_of_length_le (by simp[d8])];refine ao (iS (dO n Q) (by rw[d8];omega)) rfl ?_;rw[C4 hD.szQ];simp -dsimp only[go_sem,k8,k7,h17,h27];rw[List.take_of_length_le (by simp[d8])];refine ao (iS (dO (aa p) R) (by rw[d8];omega)) rfl ?_;rw[C4 aw];simp -dsimp only[go_sem,eQ,eR]
theorem DvS.step {p q:KP} {w v n i:Nat} {Q R:KP} (hD:DvS p q w v n (i+1) Q R) (hi:i+1<=n) (hn:n=aa p+1-aa q) (hq0:q≠0) (hq:PW v q) :
  DvS p q w v n i (Q+mon i (R.c (i+aa q-1)*Alg.inv (lc q))) (R-mon i (R.c (i+aa q-1)*Alg.inv (lc q))*q):=by
 have sq:=aV hq0;have hl0:=bP hq0;have hlw:FB v (Alg.inv (lc q)):=(hq _).inv hl0;have hcw:FB (wD w v (n-(i+1))+v) (R.c (i+aa q-1)*Alg.inv (lc q)):=(hD.w _).mul hlw;refine⟨?_,?_,?_,fun j hj=>?_,?_⟩
 ·rw[add_mul];exact lc1 1 hD.eq (ring [p,Q,q,R,mon i (R.c (i+aa q-1)*Alg.inv (lc q))])
 ·refine cI fun j hj=>?_;rw[jf,cy,if_pos aw];by_cases ej:j=i+aa q-1
  ·subst ej;rw[show i+aa q-1-i=aa q-1 by omega,mul_assoc];show _-_*(_*lc q)=0;rw[cV hl0,mul_one,sub_self]
  ·have:=hD.szR;rw[aP (by omega:aa R<=j),aP (p:=q) aw,mul_zero,sub_self]
 ·refine dh hD.szQ (cI fun j hj=>?_);rw[ce,if_neg aw]
 ·rw[cj,ce,if_neg aw,hD.low j aw,add_zero]
 ·rw[show n-i=n-(i+1)+1 by omega];simp only[wD];exact(hD.w.sub (vD hcw hq)).mono aw
theorem zG {p q:KP} (h:aa p<aa q):qu p q=0/\ab p q=p:=pf (by rw[zero_mul,zero_add]) h
theorem uU {p q:KP} {w v:Nat} (hq0:q≠0) (hp:PW w p) (hq:PW v q) (hb:wD w v (aa p+1-aa q)<=1000) (hv:v<=1000) (hs:aa p<=1000) (hs':aa q<=1000):Fn Tryz.prog 18 [ku p,ku q] [ku (qu p q),ku (ab p q),iN 0]:=by
 rcases Nat.lt_or_ge (aa p) (aa q)with h|h
 ·obtain⟨h1,h2⟩:=zG h;rw[h1,h2];exact xU hq0 h hq hv hs hs'
 ·exact xT hq0 h aw hp hq hb hs hs'
theorem OY {p q:KP} {w v:Nat} (hq0:q≠0) (hp:PW w p) (hq:PW v q) (hb:wD w v (aa p+1-aa q)<=1000) (hv:v<=1000) (hs:aa p<=1000) (hs':aa q<=1000):Fn Tryz.prog 81 [ku p,ku q] [ku (qu p q)]:=JF (uU hq0 hp hq hb hv hs hs')
theorem KReP {p q:KP} {w v:Nat} (hq0:q≠0) (hp:PW w p) (hq:PW v q) (hb:wD w v (aa p+1-aa q)<=1000) (hv:v<=1000) (hs:aa p<=1000) (hs':aa q<=1000):Fn Tryz.prog 82 [ku p,ku q] [ku (ab p q)]:=Mb (uU hq0 hp hq hb hv hs hs')
theorem Ii (l:Nat) (c d:List C):dG l [c,d]=⟨upd (upd (upd (fun _ => .any) 0 (sc (.func (.yield l) #[] #[]))) 1 (.bp 1000 1 0)) 2 (.bp 1001 1 0),upd (upd mi 1000 ⟨1,c⟩) 1001 ⟨1,d⟩,oa,m5⟩:=by
 have e1:(dG l [c,d]).t=upd (upd (upd (fun _ => .any) 0 (sc (.func (.yield l) #[] #[]))) 1 (.bp 1000 1 0)) 2 (.bp 1001 1 0):=by
  funext n
  match n with
  | 0=>rfl
  | 1=>rfl
  | 2=>rfl
  | n+3=>rw[aS _ _ aw,aS _ _ aw,aS _ _ aw];rfl
 have e2:(dG l [c,d]).b=upd (upd mi 1000 ⟨1,c⟩) 1001 ⟨1,d⟩:=by
  funext n;by_cases e:n=1001
  ·subst e;rfl
  ·rw[aS _ _ e];by_cases e':n=1000
   ·subst e';rfl
   ·rw[aS _ _ e'];simp only[dG];split
    ·rw[List.getElem?_eq_none ar];rfl
    ·rfl
 show St.mk (dG l [c,d]).t (dG l [c,d]).b _ _=_;rw[e1,e2];rfl
def two (β:Nat->BX) (c d:List C):Prop:=β 1000=⟨1,c⟩/\β 1001=⟨1,d⟩/\∀ t,t≠1000->t≠1001->(β t).gen=0
theorem two.lone {τ:Nat->AV} {β:Nat->BX} {c d:List C} {n:Nat} (h:two β c d) (hn:n=2):lone n ⟨τ,β,oa,m5⟩:=by
 subst hn;refine⟨fun t ht=>?_,fun _=>rfl,fun _=>rfl⟩;by_cases e:t=1000
 ·subst e;exact⟨aw,aw,by show(β 1000).gen=1;rw[h.1]⟩
 ·by_cases e':t=1001
  ·subst e';exact⟨aw,aw,by show(β 1001).gen=1;rw[h.2.1]⟩
  ·have:=h.2.2 t e e';have ht':0<(β t).gen:=ht;omega
theorem GQ (c d:List C):two (upd (upd mi 1000 ⟨1,c⟩) 1001 ⟨1,d⟩) c d :=
 ⟨by rw[aS _ _ aw,aN],aN _ _ _,fun t h h'=>by rw[aS _ _ h',aS _ _ h];rfl⟩
theorem pS (x y:C):FnC Tryz.prog 77 [.c x,.c y] 117 [[y],[x]]:=by
 refine qU kd (fn:=Tryz.f77) av rfl rfl rfl av au av ?_;simp -dsimp only[go_sem,jT];refine lL (ts:=[(3,1),(2,1)]) (by simp -dsimp only[go_sem]) (by simp -dsimp only[go_sem]) ?_;simp -dsimp only[go_sem,xn];exact⟨[(3,1),(2,1)],rfl,au,au,rfl⟩
noncomputable abbrev kc (p:KP):C := .lst ((aj p).map kr)
noncomputable def euI (a b:KP):List (List IV):=(eu a b).map fun x=>[ku x.1,ku x.2]
theorem od (a0 b0:KP) (hE:∀ x∈eu a0 b0,Fn Tryz.prog 82 [ku x.1,ku x.2] [ku (ab x.1 x.2)]):JH Tryz.prog 117 [[kc b0],[kc a0]] (euI a0 b0):=by
 refine oS (fn:=Tryz.f117) av rfl rfl rfl av au av ?_;intro c hc hbl hL;rw[Ii];have hb2:c.bs.length=2:=hbl;refine WPi.block (WPi.loop (fun n s k=>∃ τ β a b,s=⟨τ,β,oa,m5⟩/\τ 0=sc (.func (.yield c.l) #[] #[])/\τ 1 = .bp 1000 1 0/\τ 2 = .bp 1001 1 0/\two β [kc b] [kc a]/\n=aa b/\∃ j,k=some j/\j<=(eu a0 b0).length/\(eu a0 b0).drop j=eu a b) (n:=aa b0) ⟨_,_,a0,b0,rfl,rfl,rfl,rfl,GQ _ _,rfl,0,rfl,Nat.zero_le _,rfl⟩ ?_);rintro n s k ⟨τ,β,a,b,rfl,h0,h1,h2,hT,rfl,j,rfl,hjle,hj⟩;obtain⟨t1,t2,t3⟩:=id hT;by_cases hb:b=0
 ·subst hb;refine WPi.seq ?_;refine WPi.seq ?_;refine WPi.yreg_no hc kd 7 11 rfl rfl rfl fun K1 hK1=>?_;have e1:decide ((0:Int)<((0:Nat):Int))=false:=rfl;simp -dsimp only[go_sem,h0,h1,h2,t1,t2,pN,az,e1];refine⟨hT.lone hb2,rfl,hK1 _ (hT.lone hb2) ?_⟩;refine WPi.end_k hc kd fun K hK=>?_;simp -dsimp only[go_sem];refine hK _ _ (hT.lone hb2) ?_;refine⟨.inl rfl,.inl ?_⟩;rw[jo]at hj;have hlen:=congrArg List.length hj;simp only[List.length_drop,List.length_nil]at hlen;have hjl:j<=(eu a0 b0).length:=hjle;simp only[euI,az];congr 1;omega
 ·have hb0:=aV hb;have e1:decide ((0:Int)<(aa b:Int))=true:=aF aw;rw[kk hb]at hj;have hjlt:j<(eu a0 b0).length:=by
   have hlen:=congrArg List.length hj;simp only[List.length_drop,List.length_cons]at hlen;omega
  have hjg:(eu a0 b0)[j]?=some (a,b):=by
   have:=congrArg (fun l=>l[0]?) hj;simpa using this
  refine WPi.seq ?_;refine WPi.seq ?_;refine WPi.yreg_k hc kd 7 11 j [ku a,ku b] rfl rfl rfl rfl (by rw[hL,euI,List.getElem?_map,hjg];rfl) fun K1 K2 hK1 hK2=>?_;simp -dsimp only[go_sem,h0,h1,h2,t1,t2,aZ,az,e1];refine⟨hT.lone hb2,rfl,?_⟩;refine⟨hK1 _ (hT.lone hb2) ?_,hK2 _ (hT.lone hb2) ?_⟩
  ·refine WPi.end_k hc kd fun K hK=>?_;simp -dsimp only[go_sem];refine hK _ _ (hT.lone hb2) ?_;refine WPi.end_k hc kd fun K hK=>?_;simp -dsimp only[go_sem,h1,h2,t1,t2];refine ap 4 [] false true ?_;simp -dsimp only[go_sem,h1,h2,t1,t2];refine ao (hE (a,b) (List.mem_of_getElem? hjg)) rfl ?_;simp -dsimp only[go_sem,h1,h2,t1,t2];have hT2:two (upd (upd β 1001 ⟨1,[kc b]⟩) 1000 ⟨1,[kc (ab a b)]⟩) [kc (ab a b)] [kc b] :=
    ⟨aN _ _ _,by rw[aS _ _ aw,aN],fun t h h'=>by rw[aS _ _ h,aS _ _ h'];exact t3 t h h'⟩
   refine hK _ _ (hT2.lone hb2) ⟨aa (ab a b),(qure hb).2,_,_,b,ab a b,rfl,h0,h1,h2,hT2,rfl,j+1,rfl,hjlt,?_⟩;rw[<-List.drop_drop,hj];rfl
  ·refine WPi.end_k hc kd fun K hK=>?_;simp -dsimp only[go_sem];refine hK _ _ (hT.lone hb2) ?_;exact⟨.inl rfl,.inr rfl⟩
theorem DD (a b:KP):(euI a b).length=(eu a b).length:=by simp[euI]
theorem DE {a b:KP} {k:Nat} {x:List IV} (h:(euI a b)[k]?=some x):∃ y,(eu a b)[k]?=some y/\x=[ku y.1,ku y.2]:=by
 rw[euI,List.getElem?_map]at h;cases hy:(eu a b)[k]? with
 | none=>rw[hy]at h;simp at h
 | some y=>rw[hy]at h;exact⟨y,rfl,(Option.some.inj h).symm⟩
noncomputable def euK (a b:KP) (k:Nat):KP:=((((eu a b).take k).getLast?).map (·.2)).getD a
theorem II {a b:KP} {k:Nat} {y:KP×KP} (h:(eu a b)[k]?=some y):euK a b (k+1)=y.2:=by
 have hk:=(List.getElem?_eq_some_iff.1 h);rw[euK,aq hk.1,hk.2,List.getLast?_concat];rfl
theorem xQ {a b:KP} (hE:∀ x∈eu a b,Fn Tryz.prog 82 [ku x.1,ku x.2] [ku (ab x.1 x.2)]) (hM:Fn Tryz.prog 53 [ku (euL a b)] [ku (mn (euL a b))]):Fn Tryz.prog 24 [ku a,ku b] [ku (ai a b)]:=by
 rw[<-Ok _ a b (ay _)];refine lg (fn:=Tryz.f24) av rfl rfl rfl av au av ?_;refine WPn.seq_k kd fun K hK _=>?_;simp -dsimp only[go_sem];refine hK _ ?_;refine WPn.seq_k kd fun K hK _=>?_;simp -dsimp only[go_sem];refine hK _ ?_;refine WPn.seq ?_;refine WPn.seq_k kd fun K hK _=>?_;simp -dsimp only[go_sem];refine nU [1000,1001] rfl rfl rfl (pS (kc a) (kc b)) au rfl ?_;rw[zP _ _ _ _ _ aH];simp -dsimp only[go_sem];refine hK _ (WPn.block (WPn.rangeFunc (ts:=[(1000,1),(1001,1)]) [5] (fun k cs=>cs=[[kc (euK a b k)]]) (fun _ _=>False) (by simp -dsimp only[go_sem]) (by simp -dsimp only[go_sem]) au (by simp -dsimp only[go_sem]) (od a b hE) au (by simp -dsimp only[go_sem];decide) ?_ ?_ ?_ ?_ ?_))
 ·simp -dsimp only[go_sem];rfl
 ·intro x hx;obtain⟨p,-,rfl⟩:=List.mem_map.1 hx;rfl
 ·rintro k x cs hx rfl -;obtain⟨y,hy,rfl⟩:=DE hx;generalize hs:bW _ _ _ _ _=s;obtain⟨τ,β,ε,π⟩:=s;have h13:τ 13 = .i (ku y.2):=by
   rw[rF hs];simp -dsimp only[go_sem,bW,jd]
  have h5:τ 5 = .bp 5 1 0:=by
   rw[rF hs];simp -dsimp only[go_sem,bW,jd];rw[oy]<;>simp -dsimp only[go_sem]
  have b5:β 5=⟨1,[kc (euK a b k)]⟩:=by
   rw[Cp hs];simp -dsimp only[go_sem,bW,eJ]
  clear hs;refine WP.end_k kd fun K hK=>?_;simp -dsimp only[go_sem,h13];refine hK _ _ ⟨rfl,?_⟩;refine WP.end_k kd fun K hK=>?_;simp -dsimp only[go_sem,h13,h5,b5];refine hK _ _ ⟨by simp -dsimp only[go_sem],?_⟩;simp -dsimp only[go_sem];rw[II hy]
 ·rintro cs γs rfl-hγ;obtain⟨g,g',rfl⟩:∃ g g',γs=[g,g']:=by
   match γs,hγ with
   | [g,g'],_=>exact⟨g,g',rfl⟩
  rw[iy,jl];refine WPn.end_k kd fun K hK=>?_;dsimp only[List.map,setB];have e6:euK a b (euI a b).length=euL a b:=by
   rw[euK,DD,List.take_length];rfl
  rw[e6];simp -dsimp only[go_sem];refine ao hM rfl ?_;simp -dsimp only[go_sem];refine hK _ _ ⟨.inr rfl,?_⟩;simp -dsimp only[go_sem]
 ·intro e cs γs _ h;exact h.elim
theorem NS {R:Type} [CR R] (b:R) (k:Nat):Alg.pw b k=(if k % 2=1 then b else 1)*Alg.pw (b*b) (k/2):=by
 have h1:∀ m,Alg.pw (b*b) m=Alg.pw b (m+m):=fun m=>by rw[HT,w6]
 rw[h1];by_cases h:k % 2=1
 ·rw[if_pos h];have e:Alg.pw b k=Alg.pw b (1+(k/2+k/2)):=congrArg _ aw;rw[e,w6,Bh]
 ·rw[if_neg h,one_mul];exact congrArg _ aw
theorem IT (c:Rat):gt c=U (an c):=by
 rw[gt];split
 ·rename_i h;rw[h,show an (0:Rat)=0 from cS,cp]
 ·rename_i h;rw[U_C h]
structure PwS (p a o:PQ) (h n m:Nat) (ha ho sa so:Nat):Prop where
 eq:Alg.pw p n=o*Alg.pw a m
 bo:am ho o
 zo:aa o<=so+1
 lo:ho<=h*n
 ls:so<=aa p*n
 ba:m≠0->am ha a/\aa a<=sa+1/\ho+ha*m<=h*n/\so+sa*m<=aa p*n
theorem Dw (x m:Nat):x*m=2*(x*(m/2))+x*(m % 2):=by
 have h:m=2*(m/2)+m % 2:=aw
 conv=>lhs;rw[h,Nat.mul_add]
 rw[<-Nat.mul_assoc,Nat.mul_comm x 2,Nat.mul_assoc]
theorem Ap {p:PQ} {h n:Nat} (hp:am h p) (hn:n<=64) (hb:h<=1000000000) (hs:aa p<=10000):Fn Tryz.prog 160 [iUp p,iN n] [iUp (Alg.pw p n)]:=by
 have e0:decide ((n:Int)<0)=false:=aG aw;have hhn:h*n<=64000000000:=by have:=Nat.mul_le_mul hb hn;omega
 have hsn:aa p*n<=640000:=by have:=Nat.mul_le_mul hs hn;omega
 refine aJ (fn:=Tryz.f160) ?_;simp -dsimp only[go_sem,e0];refine aK (gU 1 aH) ?_;simp -dsimp only[go_sem];refine ao (qd 1) rfl ?_;rw[IT];simp -dsimp only[go_sem];refine be [(0,1),(5,5),(10,24)] [] [] (fun k τ β ε=>∃(a o:PQ) (m ha ho sa so:Nat),k=m/\m<=n/\τ 0 = .i (iUp a)/\τ 1 = .i (iN m)/\τ 5 = .i (iUp o)/\PwS p a o h n m ha ho sa so)
  (fun e τ β ε=>e = .exit 0/\τ 5 = .i (iUp (Alg.pw p n))) n ?_ ?_ ?_
 ·refine⟨p,1,n,h,0,aa p,0,rfl,ay _,rfl,rfl,rfl,⟨(one_mul _).symm,dm _,?_,Nat.zero_le _,Nat.zero_le _,fun _=>⟨hp,aw,aw,aw⟩⟩⟩;rw[cD];omega
 ·rintro k τ β ε π hK hKB hKE ⟨a,o,m,ha,ho,sa,so,rfl,hm,h0,h1,h5,hS⟩;by_cases hk0:k=0
  ·have hA:¬ (0:Int)<(k:Int):=aw;simp -dsimp only[go_sem,h1,hA];refine⟨(aA hK),hKB,hKE,?_⟩;rw[h5,hS.eq,hk0];show AV.i (iUp o)=AV.i (iUp (o*1));rw[mul_one]
  ·have hA:(0:Int)<(k:Int):=aw;have hand:=DS k aw;obtain⟨a1,a2,a3,a4⟩:=hS.ba hk0;have hho:=hS.bo;have hso:=hS.zo;have lo:=hS.lo;have ls:=hS.ls;have x1:ha<=ha*k:=Nat.le_mul_of_pos_right _ aw;have x2:sa<=sa*k:=Nat.le_mul_of_pos_right _ aw;have y1:=Dw ha k;have y2:=Dw sa k;have e1:decide (((k % 2:Nat):Int)=1)=decide (k % 2=1):=by rw[decide_eq_decide];omega
   have mo:=dw hho a1 aw aw aw aw;have ma:=dw a1 a1 aw aw aw aw;have so':=bg o a;have sa':=bg a a;have step:∀(o':PQ) (hx sx:Nat),o'=o*(if k % 2=1 then a else 1)->am hx o'->aa o'<=sx+1->hx=ho+ha*(k % 2)->sx=so+sa*(k % 2)->PwS p (a*a) o' h n (k/2) (ha+ha) hx (sa+sa) sx:=by
    intro o' hx sx e1 e2 e3 e4 e5;refine⟨by rw[hS.eq,NS a k,e1,mul_assoc],e2,e3,aw,aw,fun _=>⟨a1.mul a1,aw,?_,?_⟩⟩
    ·rw[Nat.add_mul];omega
    ·rw[Nat.add_mul];omega
   have step1:k=1->∀(o':PQ) (hx sx:Nat),o'=o*a->am hx o'->aa o'<=sx+1->hx=ho+ha->sx=so+sa->PwS p a o' h n (k/2) ha hx sa sx:=by
    intro ek o' hx sx eo e2 e3 e4 e5;subst ek;refine⟨by rw[hS.eq,eo];show _=o*a*1;rw[Bh,mul_one],e2,e3,aw,aw,fun h=>absurd rfl h⟩
   by_cases h2:k % 2=1
   ·rw[aF h2]at e1;by_cases h3:k=1
    ·have e2:decide ((1:Int)<(k:Int))=false:=aG aw;simp -dsimp only[go_sem,h1,hA,hand,e1,h5,h0,fF];refine aK mo ?_;simp -dsimp only[go_sem,h1,hA,hand,e1,e2,h5,h0,fF];refine again (k/2) aw ⟨(aA hK),hKB,hKE,a,o*a,k/2,ha,ho+ha,sa,so+sa,rfl,aw,h0,rfl,rfl,step1 h3 _ _ _ rfl (hho.mul a1) aw rfl rfl⟩
    ·have e2:decide ((1:Int)<(k:Int))=true:=aF aw;simp -dsimp only[go_sem,h1,hA,hand,e1,h5,h0,fF];refine aK mo ?_;simp -dsimp only[go_sem,h1,hA,hand,e1,e2,h5,h0,fF];refine aK ma ?_;simp -dsimp only[go_sem,h1,hA,hand,e1,e2,h5,h0,fF];refine again (k/2) aw ⟨(aA hK),hKB,hKE,a*a,o*a,k/2,ha+ha,ho+ha,sa+sa,so+sa,rfl,aw,rfl,rfl,rfl,step _ _ _ (by rw[if_pos h2]) (hho.mul a1) aw (by rw[h2];omega) (by rw[h2];omega)⟩
   ·rw[aG h2]at e1;have e2:decide ((1:Int)<(k:Int))=true:=aF aw;have h20:k % 2=0:=aw;simp -dsimp only[go_sem,h1,hA,hand,e1,e2,h5,h0,fF];refine aK ma ?_;simp -dsimp only[go_sem,h1,hA,hand,e1,e2,h5,h0,fF];refine again (k/2) aw ⟨(aA hK),hKB,hKE,a*a,o,k/2,ha+ha,ho,sa+sa,so,rfl,aw,rfl,rfl,h5,step _ _ _ (by rw[if_neg h2,mul_one]) hho hso (by rw[h20];omega) (by rw[h20];omega)⟩
 ·rintro e τ β ε π hK hKB hKE ⟨rfl,h5⟩;simp -dsimp only[go_sem,h5]
theorem Cb {a b:PQ} (h:Cop a b):∀ n,Cop a (Alg.pw b n)
 | 0=>fun _ _ h1=>h1
 | n+1=>(Cb h n).mul h
theorem Lx {a b:PQ} (h:Cop a b) (n:Nat):Cop (Alg.pw a n) (Alg.pw b n):=(Cb (Cb h n).symm n).symm
theorem MI (a:PQ) (h:lc a=1):∀ n,lc (Alg.pw a n)=1
 | 0=>tO
 | n+1=>by show lc (Alg.pw a n*a)=1;rw[gM,MI a h n,h,mul_one]
theorem MO {a b:PQ} (hb:b≠0):∀ n,Alg.pw (Alg.fr a b) n=Alg.fr (Alg.pw a n) (Alg.pw b n)
 | 0=>rfl
 | n+1=>by
  show Alg.pw (Alg.fr a b) n*Alg.fr a b=_;rw[MO hb n,eO (C9 hb n) hb];rfl
theorem MC (f:KQ) (n:Nat):nN (Alg.pw f n)=Alg.pw (nN f) n/\ae (Alg.pw f n)=Alg.pw (ae f) n:=by
 obtain⟨h1,h2,h3,h4⟩:=cU f;refine po (C9 h1 n) (MI _ h2 n) (Lx h3 n) ?_
 conv=>lhs;rw[h4]
 exact MO h1 n
theorem JP {f:KQ} {n:Nat} (hf:FW f) (hn:n<=64):Fn Tryz.prog 119 [iK f,iN n] [iK (Alg.pw f n),iN 0]:=by
 obtain⟨a1,a2,a3,a4⟩:=dP hf;have e1:decide ((n:Int) < -256)=false:=aG aw;have e2:decide ((256:Int)<(n:Int))=false:=aG aw;have e3:decide ((n:Int)<0)=false:=aG aw;have eK:iF (U (Alg.pw (nN f) n)) (U (Alg.pw (ae f) n))=iK (Alg.pw f n):=by rw[<-(MC f n).1,<-(MC f n).2]
 refine aJ (fn:=Tryz.f119) ?_;simp -dsimp only[go_sem,e1,e2,e3];refine ap 9 [] false true ?_;simp -dsimp only[go_sem];refine ao (Ap a1 hn aw aw) rfl ?_;simp -dsimp only[go_sem];refine ao (Ap a2 hn aw aw) rfl ?_;simp -dsimp only[go_sem];rw[<-eK]
theorem wv {f:KQ} {n:Nat} (hf:FW f) (hn:n<=64):Fn Tryz.prog 83 [iK f,iN n] [iK (Alg.pw f n)]:=by
 refine aJ (fn:=Tryz.f83) ?_;simp -dsimp only[go_sem];refine ao (JP hf hn) rfl ?_;simp -dsimp only[go_sem];refine aO (args':=[iK (Alg.pw f n),iN 0]) rfl (p7 _ 0) ?_;simp -dsimp only[go_sem]
noncomputable def sgR (p q:KP) (x:KQ):KQ:=if aa p % 2=0/\aa q % 2=0 then -x else x
noncomputable def mq (a b:KP):Nat->KQ
 | 0=>1
 | k+1=>match (eu a b)[k]? with
  | some x=>sgR x.1 x.2 (mq a b k*Alg.pw (lc x.2) (aa x.1-aa (ab x.1 x.2)))
  | none=>mq a b k
theorem qw {a b:KP} {k:Nat} {x:KP×KP} (h:(eu a b)[k]?=some x):mq a b (k+1)=sgR x.1 x.2 (mq a b k*Alg.pw (lc x.2) (aa x.1-aa (ab x.1 x.2))):=by
 show(match (eu a b)[k]? with
  | some x=>sgR x.1 x.2 (mq a b k*Alg.pw (lc x.2) (aa x.1-aa (ab x.1 x.2)))
  | none=>mq a b k)=_
 rw[h]
theorem DC (n:Nat):∀(a b:KP),aa b<=n->∀(k:Nat) x,(eu a b)[k]?=some x->x.2≠0/\(ab x.1 x.2≠0->(eu a b)[k+1]?=some (x.2,ab x.1 x.2))/\(ab x.1 x.2=0->(eu a b).length=k+1):=by
 induction n with
 | zero =>
  intro a b hb k x hx;have:b=0:=aM.1 aw;rw[this,jo]at hx;simp at hx
 | succ n ih =>
  intro a b hb k x hx;by_cases h0:b=0
  ·rw[h0,jo]at hx;simp at hx
  ·rw[kk h0]at hx ⊢;cases k with
   | zero =>
    simp only[List.getElem?_cons_zero,Option.some.injEq]at hx;subst hx;refine⟨h0,fun h=>?_,fun h=>?_⟩
    ·rw[List.getElem?_cons_succ,kk h];rfl
    ·rw[h,jo];rfl
   | succ k =>
    rw[List.getElem?_cons_succ]at hx;obtain⟨h1,h2,h3⟩:=ih b (ab a b) (by have:=(qure (a:=a) h0).2;omega) k x hx;exact⟨h1,fun h=>by rw[List.getElem?_cons_succ];exact h2 h,fun h=>by rw[List.length_cons,h3 h]⟩
theorem Oj (n:Nat):∀(a b:KP),aa b<=n->a≠0->∀(k:Nat) x,(eu a b)[k]?=some x->x.1≠0:=by
 induction n with
 | zero =>
  intro a b hb _ k x hx;have:b=0:=aM.1 aw;rw[this,jo]at hx;simp at hx
 | succ n ih =>
  intro a b hb ha k x hx;by_cases h0:b=0
  ·rw[h0,jo]at hx;simp at hx
  ·rw[kk h0]at hx;cases k with
   | zero =>
    simp only[List.getElem?_cons_zero,Option.some.injEq]at hx;subst hx;exact ha
   | succ k =>
    rw[List.getElem?_cons_succ]at hx;exact ih b (ab a b) (by have:=(qure (a:=a) h0).2;omega) h0 k x hx
theorem jJ {p q:KP} (h:aa q=1):ab p q=0:=by
 have hq:q≠0:=fun e=>by rw[e,aM.2 rfl]at h;omega
 have:=(qure (a:=p) hq).2;exact aM.1 aw
theorem JE {a b:KP} (h:a=0\/b=0):Fn Tryz.prog 35 [ku a,ku b] [iK (kn 0)]:=by
 have e1:decide (((0:Nat):Int)=0)=true:=rfl;by_cases ha:a=0
 ·rw[ha,gh];refine aJ (fn:=Tryz.f35) ?_;simp -dsimp only[go_sem,az,e1];refine aK (cx 0 aH) ?_;simp -dsimp only[go_sem]
 ·have hb:b=0:=h.resolve_left ha;have e2:decide ((aa a:Int)=0)=false:=aG (by have:=aV ha;omega);rw[hb,gh];refine aJ (fn:=Tryz.f35) ?_;simp -dsimp only[go_sem,az,aZ,e1,e2];refine aK (cx 0 aH) ?_;simp -dsimp only[go_sem]
structure ResH (a b:KP) (k:Nat) (x:KP×KP):Prop where
 re:Fn Tryz.prog 82 [ku x.1,ku x.2] [ku (ab x.1 x.2)]
 s1:aa x.1<=60
 s2:aa x.2<=60
 lw:FW (lc x.2)
 ow:FW (mq a b k)
 pw:FW (Alg.pw (lc x.2) (aa x.1-aa (ab x.1 x.2)))
 mw:FW (mq a b k*Alg.pw (lc x.2) (aa x.1-aa (ab x.1 x.2)))
 ew:aa x.2=1->FW (Alg.pw (lc x.2) (aa x.1-1))/\FW (mq a b k*Alg.pw (lc x.2) (aa x.1-1))
noncomputable def E6 (a b:KP) (m:Nat) (x:KP×KP):KQ:=if aa x.2=1 then mq a b m*Alg.pw (lc x.2) (aa x.1-1)else 0
theorem Ma {a b:KP} {m:Nat} {z:KP×KP} (ha:a≠0) (hb:b≠0) (hs:aa a<=60) (hs':aa b<=60) (hm:(eu a b).length=m+1) (hz:(eu a b)[m]?=some z) (H:∀ k x,(eu a b)[k]?=some x->ResH a b k x):Fn Tryz.prog 35 [ku a,ku b] [iK (E6 a b m z)]:=by
 have e1:decide ((aa a:Int)=0)=false:=aG (by have:=aV ha;omega);have e2:decide ((aa b:Int)=0)=false:=aG (by have:=aV hb;omega);refine lg (fn:=Tryz.f35) av rfl rfl rfl av au av ?_;refine WPn.seq_k kd fun K hK _=>?_;simp -dsimp only[go_sem];refine hK _ ?_;refine WPn.seq_k kd fun K hK _=>?_;simp -dsimp only[go_sem,az,aZ,e1,e2];refine hK _ ?_;refine WPn.seq_k kd fun K hK _=>?_;simp -dsimp only[go_sem];refine aK (cx 1 aH) ?_;simp -dsimp only[go_sem];refine hK _ ?_;refine WPn.seq_k kd fun K hK _=>?_;simp -dsimp only[go_sem,az,aZ]
 repeat(refine And.intro aw ?_)
 refine hK _ ?_;refine WPn.seq_k kd fun K hK _=>?_;simp -dsimp only[go_sem];refine hK _ ?_;refine WPn.seq ?_;refine WPn.seq_k kd fun K hK _=>?_;simp -dsimp only[go_sem];refine nU [1000,1001] rfl rfl rfl (pS (kc a) (kc b)) au rfl ?_;rw[zP _ _ _ _ _ aH];simp -dsimp only[go_sem];refine hK _ (WPn.block (WPn.rangeFunc (ts:=[(1000,1),(1001,1)]) [5,6,7] (fun k cs=>k<=m/\∃ d l,cs=[kr (mq a b k),[C.v (.int .i64 d)],[l]])
  (fun e cs=>e = .exit 0/\cs=[kr (mq a b m),[C.v (.int .i64 ((aa z.1:Int)-1))],[kc z.2]]) (by simp -dsimp only[go_sem]) (by simp -dsimp only[go_sem]) au (by simp -dsimp only[go_sem]) (od a b fun x hx=>by
   obtain⟨k,hk,e⟩:=List.getElem_of_mem hx;exact(H k x (by rw[aD hk,e])).re) au (by simp -dsimp only[go_sem];decide) ?_ ?_ ?_ ?_ ?_))
 ·refine⟨Nat.zero_le _,(aa a:Int)-1,.lst [],?_⟩;simp -dsimp only[go_sem];rfl
 ·intro x hx;obtain⟨p,-,rfl⟩:=List.mem_map.1 hx;rfl
 ·rintro k x cs hx ⟨hkm,d,l,rfl⟩ -;obtain⟨y,hy,rfl⟩:=DE hx;obtain⟨hy0,hy1,hy2⟩:=DC _ a b (ay _) k y hy;have Hy:=H k y hy;have hs1:=Hy.s1;have hs2:=Hy.s2;generalize hst:bW _ _ _ _ _=s;obtain⟨τ,β,ε,π⟩:=s;have h27:τ 27 = .i (ku y.1):=by
   rw[rF hst];simp -dsimp only[go_sem,bW,jd]
  have h28:τ 28 = .i (ku y.2):=by
   rw[rF hst];simp -dsimp only[go_sem,bW,jd]
  have h5:τ 5 = .bp 5 1 0:=by
   rw[rF hst];simp -dsimp only[go_sem,bW,jd];rw[oy]<;>simp -dsimp only[go_sem]
  have h6:τ 6 = .bp 6 1 0:=by
   rw[rF hst];simp -dsimp only[go_sem,bW,jd];rw[oy]<;>simp -dsimp only[go_sem]
  have h7:τ 7 = .bp 7 1 0:=by
   rw[rF hst];simp -dsimp only[go_sem,bW,jd];rw[oy]<;>simp -dsimp only[go_sem]
  have b5:β 5=⟨1,kr (mq a b k)⟩:=by
   rw[Cp hst];simp -dsimp only[go_sem,bW,eJ]
  have b6:β 6=⟨1,[C.v (.int .i64 d)]⟩:=by
   rw[Cp hst];simp -dsimp only[go_sem,bW,eJ]
  have b7:β 7=⟨1,[l]⟩:=by
   rw[Cp hst];simp -dsimp only[go_sem,bW,eJ]
  clear hst;have sy:=aV hy0;refine WP.end_k kd fun K hK=>?_;simp -dsimp only[go_sem,h27,h28];refine hK _ _ ⟨rfl,?_⟩;refine WP.end_k kd fun K hK=>?_;simp -dsimp only[go_sem,h27,h28,h5,h6,h7,b5,b6,b7,az,aZ]
  repeat(refine And.intro aw ?_)
  refine ao Hy.re rfl ?_;by_cases hr:ab y.1 y.2=0
  ·have hl:=hy2 hr;obtain rfl:k=m:=aw;have hzy:y=z:=by rw[hy]at hz;exact Option.some.inj hz
   subst hzy;have er:decide (((0:Nat):Int)=0)=true:=rfl;rw[hr,gh];have key:∀ s:St,s.b 5=⟨1,kr (mq a b k)⟩->s.b 6=⟨1,[C.v (.int .i64 ((aa y.1:Int)-1))]⟩->s.b 7=⟨1,[kc y.2]⟩->K (.exit 0) s:=fun s q5 q6 q7=>by
    refine hK _ _ ⟨?_,rfl,?_⟩
    ·intro t ht;simp only[List.mem_cons,List.not_mem_nil,or_false]at ht;rcases ht with rfl|rfl|rfl
     ·rw[q5]
     ·rw[q6]
     ·rw[q7]
    ·simp only[List.map,q5,q6,q7]
   by_cases h1:aa y.2=1
   ·have e3:decide ((aa y.2:Int)=1)=true:=aF aw;simp -dsimp only[go_sem,h27,h28,h5,h6,h7,b5,b6,b7,az,aZ,e3];refine key _ ?_ ?_ ?_<;>simp -dsimp only[go_sem,b5]
   ·have e3:decide ((aa y.2:Int)=1)=false:=aG aw;simp -dsimp only[go_sem,h27,h28,h5,h6,h7,b5,b6,b7,az,aZ,e3,er];refine key _ ?_ ?_ ?_<;>simp -dsimp only[go_sem,b5]
  ·have hk1:k+1<=m:=by
    have:=(List.getElem?_eq_some_iff.1 (hy1 hr)).1;omega
   have sr:=aV hr;have srl:=(qure (a:=y.1) hy0).2;have e3:decide ((aa y.2:Int)=1)=false:=aG fun h=>hr (jJ aw);have e4:decide ((aa (ab y.1 y.2):Int)=0)=false:=aG aw;have el:(aa y.2:Int)-1=((aa y.2-1:Nat):Int):=aw;have hlast:(aj y.2)[aa y.2-1]?=some (lc y.2):=by rw[aD (by rw[aZ];omega),fB];rfl
   simp -dsimp only[go_sem,h27,h28,h5,h6,h7,b5,b6,b7,az,aZ,e3,e4];refine ap 14 [] false true ?_;simp -dsimp only[go_sem,h27,h28,h5,h6,h7,b5,b6,b7,az,aZ,el]
   repeat(refine And.intro aw ?_)
   refine aQ hlast ?_;have hsub:(aa y.1:Int)-(aa (ab y.1 y.2):Int)=((aa y.1-aa (ab y.1 y.2):Nat):Int):=by
    have:aa (ab y.1 y.2)<=aa y.1:=by
     rcases Nat.lt_or_ge (aa y.1) (aa y.2)with h|h
     ·rw[(zG h).2];exact ay _
     ·omega
    omega
   simp -dsimp only[go_sem,h27,h28,h5,h6,h7,b5,b6,b7,az,aZ,el,hsub]
   repeat(refine And.intro aw ?_)
   refine ao (wv Hy.lw aw) rfl ?_;simp -dsimp only[go_sem];refine ao (j0 gV Hy.ow Hy.pw Hy.mw) rfl ?_;simp -dsimp only[go_sem,h27,h28,h5,h6,h7,b5,b6,b7,az,aZ];have tm:∀ n:Nat,((n:Int).tmod 2)=((n % 2:Nat):Int):=fun n=>by rw[Int.tmod_eq_emod_of_nonneg aw];omega
   have key:∀ s:St,s.b 5=⟨1,kr (mq a b (k+1))⟩->s.b 6=⟨1,[C.v (.int .i64 ((aa y.1:Int)-1))]⟩->s.b 7=⟨1,[kc y.2]⟩->K .normal s:=fun s q5 q6 q7=>by
    refine hK _ _ ⟨?_,hk1,(aa y.1:Int)-1,kc y.2,?_⟩
    ·intro t ht;simp only[List.mem_cons,List.not_mem_nil,or_false]at ht;rcases ht with rfl|rfl|rfl
     ·rw[q5]
     ·rw[q6]
     ·rw[q7]
    ·simp only[List.map,q5,q6,q7]
   rw[qw hy]at key;refine⟨aH,?_⟩;by_cases p1:aa y.1 % 2=0
   ·have d1:decide (((aa y.1:Int).tmod 2)=0)=true:=aF (by rw[tm,p1];rfl);by_cases p2:aa y.2 % 2=0
    ·have d2:decide (((aa y.2:Int).tmod 2)=0)=true:=aF (by rw[tm,p2];rfl);rw[sgR,if_pos ⟨p1,p2⟩]at key;simp -dsimp only[go_sem,h27,h28,h5,h6,h7,b5,b6,b7,az,aZ,d1,d2];refine⟨aH,?_⟩;refine ao (JR Hy.mw) rfl ?_;simp -dsimp only[go_sem,h27,h28,h5,h6,h7,b5,b6,b7];refine key _ ?_ ?_ ?_<;>simp -dsimp only[go_sem]
    ·have d2:decide (((aa y.2:Int).tmod 2)=0)=false:=aG (by rw[tm];omega);rw[sgR,if_neg (fun h=>p2 h.2)]at key;simp -dsimp only[go_sem,h27,h28,h5,h6,h7,b5,b6,b7,az,aZ,d1,d2];refine⟨aH,?_⟩;refine key _ ?_ ?_ ?_<;>simp -dsimp only[go_sem]
   ·have d1:decide (((aa y.1:Int).tmod 2)=0)=false:=aG (by rw[tm];omega);rw[sgR,if_neg (fun h=>p1 h.1)]at key;simp -dsimp only[go_sem,h27,h28,h5,h6,h7,b5,b6,b7,az,aZ,d1];refine key _ ?_ ?_ ?_<;>simp -dsimp only[go_sem]
 ·rintro cs γs ⟨h,-⟩;rw[DD]at h;omega
 ·rintro e cs γs-⟨rfl,rfl⟩-hγ;obtain⟨g,g',rfl⟩:∃ g g',γs=[g,g']:=by
   match γs,hγ with
   | [g,g'],_=>exact⟨g,g',rfl⟩
  have hz0:=(DC _ a b (ay _) m z hz).1;have sz0:=aV hz0;have Hz:=H m z hz;have hz1:=Hz.s1;have hz2:=Hz.s2;show WPn _ _ _ _;refine WPn.end_k kd fun K hK=>?_;dsimp only[List.map,setB];by_cases h1:aa z.2=1
  ·have e3:decide ((1:Int)<(aa z.2:Int))=false:=aG aw;obtain⟨w1,w2⟩:=Hz.ew h1;have hg:(aj z.2)[0]?=some (lc z.2):=by
    rw[aD (by rw[aZ];omega),fB];show some (z.2.c 0)=some (z.2.c (aa z.2-1));rw[h1]
   have eR:E6 a b m z=mq a b m*Alg.pw (lc z.2) (aa z.1-1):=by unfold E6;rw[if_pos h1]
   have esz:(aa z.1:Int)-1=((aa z.1-1:Nat):Int)\/aa z.1=0:=aw;rcases esz with esz|esz
   ·simp -dsimp only[go_sem,az,aZ,e3];refine ap 7 [] false true ?_;simp -dsimp only[go_sem,az,aZ,esz];refine⟨Int.le_refl _,aQ hg ?_⟩;simp -dsimp only[go_sem,az,aZ,esz];refine ao (wv Hz.lw aw) rfl ?_;simp -dsimp only[go_sem];refine ao (j0 gV Hz.ow w1 w2) rfl ?_;simp -dsimp only[go_sem];refine hK _ _ ⟨.inr rfl,?_⟩;rw[eR];simp -dsimp only[go_sem]
   ·exact absurd (aM.1 esz) (Oj _ a b (ay _) ha m z hz)
  ·have e3:decide ((1:Int)<(aa z.2:Int))=true:=aF aw;have eR:E6 a b m z=0:=by unfold E6;rw[if_neg h1]
   simp -dsimp only[go_sem,az,aZ,e3];refine aK (cx 0 aH) ?_;simp -dsimp only[go_sem];refine hK _ _ ⟨.inr rfl,?_⟩;rw[eR,<-fi];simp -dsimp only[go_sem]
theorem Lz:aj (1:KP)=[1]:=cl_C (R:=KQ) one_ne
theorem Dp:ku (1:KP)=kl [kn 1]:=by show kl (aj 1)=_;rw[Lz,ff]
theorem Gc {a b c:KP} (hG:Fn Tryz.prog 24 [ku a,ku b] [ku (ai a b)]) (h:aa (ai a b)≠1):Fn Tryz.prog 28 [ku a,ku b,ku c] [ku 0,ku 0,iN 60]:=by
 have e1:decide ((aa (ai a b):Int)=1)=false:=aG aw;rw[gh];refine aJ (fn:=Tryz.f28) ?_;simp -dsimp only[go_sem];refine ao hG rfl ?_;simp -dsimp only[go_sem,az,aZ,e1,Bool.not_false,Bool.not_true];rfl
theorem OX {a b c:KP} (hG:Fn Tryz.prog 24 [ku a,ku b] [ku (ai a b)]) (h:aa (ai a b)=1) (hb:aa b=1) (hM:Fn Tryz.prog 14 [ku 0,ku a] [ku 0]) (hS:Fn Tryz.prog 50 [ku c,ku 0] [ku c]) (hQ:Fn Tryz.prog 81 [ku c,ku b] [ku (qu c b)]) :
  Fn Tryz.prog 28 [ku a,ku b,ku c] [ku 0,ku (qu c b),iN 0]:=by
 have e1:decide ((aa (ai a b):Int)=1)=true:=aF aw;have e2:decide ((aa b:Int)=0)=false:=aG aw;have e3:decide ((1:Int)<(aa b:Int))=false:=aG aw;rw[gh]at hM hS ⊢;refine aJ (fn:=Tryz.f28) ?_;simp -dsimp only[go_sem];refine ao hG rfl ?_;simp -dsimp only[go_sem,az,aZ,e1,e2,e3,Bool.not_false,Bool.not_true];refine ao hM rfl ?_;simp -dsimp only[go_sem];refine ao hS rfl ?_;simp -dsimp only[go_sem];refine ao hQ rfl ?_;simp -dsimp only[go_sem];rfl
theorem CC {a b c s t:KP} (hG:Fn Tryz.prog 24 [ku a,ku b] [ku (ai a b)]) (h:aa (ai a b)=1) (hb:aa b=2) (hr:aa (ab a b)=1) (hR:Fn Tryz.prog 82 [ku a,ku b] [ku (ab a b)])
  (hq1:Fn Tryz.prog 81 [ku 1,ku (ab a b)] [ku (qu 1 (ab a b))]) (hm:Fn Tryz.prog 14 [ku c,ku (qu 1 (ab a b))] [ku (c*qu 1 (ab a b))]) (hr2:Fn Tryz.prog 82 [ku (c*qu 1 (ab a b)),ku b] [ku s])
  (hm2:Fn Tryz.prog 14 [ku s,ku a] [ku (s*a)]) (hs:Fn Tryz.prog 50 [ku c,ku (s*a)] [ku (c-s*a)]) (hq:Fn Tryz.prog 81 [ku (c-s*a),ku b] [ku t]):Fn Tryz.prog 28 [ku a,ku b,ku c] [ku s,ku t,iN 0]:=by
 have e1:decide ((aa (ai a b):Int)=1)=true:=aF aw;have e2:decide ((aa b:Int)=0)=false:=aG aw;have e3:decide ((1:Int)<(aa b:Int))=true:=aF aw;have e4:decide ((1:Int)<(aa (ab a b):Int))=false:=aG aw;rw[Dp]at hq1;refine aJ (fn:=Tryz.f28) ?_;simp -dsimp only[go_sem];refine ao hG rfl ?_;simp -dsimp only[go_sem,az,aZ,e1,e2,e3,Bool.not_false,Bool.not_true];refine ao hR rfl ?_;simp -dsimp only[go_sem];refine aK (cx 1 aH) ?_;simp -dsimp only[go_sem];refine be [(10,14),(35,52)] [] [] (fun m τ β ε=>m=0/\τ 10 = .i (ku (ab a b))/\τ 11 = .fl [kr (kn 1)]) (fun e τ β ε=>e = .exit 0/\τ 10 = .i (ku (ab a b))/\τ 11 = .fl [kr (kn 1)]) 0 ?_ ?_ ?_
 ·exact⟨rfl,rfl,rfl⟩
 ·rintro m τ β ε π hK hKB hKE ⟨rfl,h10,h11⟩;simp -dsimp only[go_sem,h10,h11,az,aZ,e4];exact⟨(aA hK),hKB,hKE⟩
 ·rintro e τ β ε π hK hKB hKE ⟨rfl,h10,h11⟩;have k0:τ 0 = .i (ku a):=(hK 0 rfl).trans rfl;have k1:τ 1 = .i (ku b):=(hK 1 rfl).trans rfl;have k2:τ 2 = .i (ku c):=(hK 2 rfl).trans rfl;simp -dsimp only[go_sem,h10,h11,k0,k1,k2];refine ao hq1 rfl ?_;simp -dsimp only[go_sem,k0,k1,k2];refine ao hm rfl ?_;simp -dsimp only[go_sem,k0,k1,k2];refine ao hr2 rfl ?_;simp -dsimp only[go_sem,k0,k1,k2];refine ao hm2 rfl ?_;simp -dsimp only[go_sem,k0,k1,k2];refine ao hs rfl ?_;simp -dsimp only[go_sem,k0,k1,k2];refine ao hq rfl ?_;simp -dsimp only[go_sem]
noncomputable def sqr (x:KP×Nat):List C:=[kc x.1,C.v (.int .i64 (x.2:Int))]
inductive SqR:Nat->Nat->KP->KP->List (KP×Nat)->Prop
 | stop {n:Nat} {b c:KP} (h:aa b<=1):SqR 0 n b c []
 | step {m n:Nat} {b c:KP} {out:List (KP×Nat)} (h:1<aa b) (h1:Fn Tryz.prog 17 [ku b] [ku (der b)]) (h2:Fn Tryz.prog 50 [ku c,ku (der b)] [ku (c-der b)])
   (h3:Fn Tryz.prog 24 [ku b,ku (c-der b)] [ku (ai b (c-der b))]) (h4:Fn Tryz.prog 81 [ku b,ku (ai b (c-der b))] [ku (qu b (ai b (c-der b)))])
   (h5:Fn Tryz.prog 81 [ku (c-der b),ku (ai b (c-der b))] [ku (qu (c-der b) (ai b (c-der b)))]) (h6:SqR m (n+1) (qu b (ai b (c-der b))) (qu (c-der b) (ai b (c-der b))) out) :
   SqR (m+1) n b c ((if 1<aa (ai b (c-der b))then[(ai b (c-der b),n)]else[])++out)
theorem CB {a:KP} {m:Nat} {out:List (KP×Nat)} (h:2<=aa a) (hm:m<=1000) (hM:Fn Tryz.prog 53 [ku a] [ku (mn a)]) (hD:Fn Tryz.prog 17 [ku (mn a)] [ku (der (mn a))])
  (hG:Fn Tryz.prog 24 [ku (mn a),ku (der (mn a))] [ku (ai (mn a) (der (mn a)))]) (hq:Fn Tryz.prog 81 [ku (mn a),ku (ai (mn a) (der (mn a)))] [ku (qu (mn a) (ai (mn a) (der (mn a))))])
  (hq2:Fn Tryz.prog 81 [ku (der (mn a)),ku (ai (mn a) (der (mn a)))] [ku (qu (der (mn a)) (ai (mn a) (der (mn a))))])
  (hR:SqR m 1 (qu (mn a) (ai (mn a) (der (mn a)))) (qu (der (mn a)) (ai (mn a) (der (mn a)))) out):Fn Tryz.prog 31 [ku a] [.c (.lst (out.map sqr))]:=by
 have e1:decide ((aa a:Int)<2)=false:=aG aw;refine aJ (fn:=Tryz.f31) ?_;simp -dsimp only[go_sem,az,aZ,e1];refine ao hM rfl ?_;simp -dsimp only[go_sem];refine ao hD rfl ?_;simp -dsimp only[go_sem];refine ao hG rfl ?_;simp -dsimp only[go_sem];refine ao hq rfl ?_;simp -dsimp only[go_sem];refine ao hD rfl ?_;simp -dsimp only[go_sem];refine ao hq2 rfl ?_;simp -dsimp only[go_sem];refine cf 6 6 2 (rs:=[]) rfl au ?_;refine br [(4,9),(26,52)] [] [(46,46),(6,6)] (fun k τ β ε=>∃(n:Nat) (b c:KP) (o1 o2:List (KP×Nat)),n+k=1+m/\o1.length+1<=n/\SqR k n b c o2/\out=o1++o2/\τ 4 = .i (ku b)/\τ 5 = .i (ku c)/\τ 7 = .i (iN n)/\Own 2 (o1.map sqr) 6 6 τ ε)
  (fun e τ β ε=>e = .exit 0/\Own 2 (out.map sqr) 6 6 τ ε) m ?_ ?_ ?_
 ·exact⟨1,_,_,[],out,aw,au,hR,rfl,rfl,rfl,rfl,Own.mk (g:=1) (mm:=false) (len:=0) aw rfl rfl rfl⟩
 ·rintro k τ β ε π hK hKB hKE ⟨n,b,c,o1,o2,hn,ho1,hS,rfl,h4,h5,h7,g,mm,hg,h6,hrow⟩;cases hS with
  | stop hb =>
   have e2:decide ((1:Int)<(aa b:Int))=false:=aG aw;simp only[List.append_nil];simp -dsimp only[go_sem,h4,az,aZ,e2];exact⟨(aA hK),hKB,hKE,Own.mk hg h6 rfl hrow⟩
  | @step k' _ _ _ o3 hb c1 c2 c3 c4 c5 hS' =>
   have e2:decide ((1:Int)<(aa b:Int))=true:=aF aw;simp -dsimp only[go_sem,h4,h5,h7,az,aZ,e2];refine ao c1 rfl ?_;simp -dsimp only[go_sem,h4,h5,h7];refine ao c2 rfl ?_;simp -dsimp only[go_sem,h4,h5,h7];refine ao c3 rfl ?_;by_cases hf:1<aa (ai b (c-der b))
   ·have e3:decide ((1:Int)<(aa (ai b (c-der b)):Int))=true:=aF aw;simp -dsimp only[go_sem,h4,h5,h6,h7,hrow,hg,az,aZ,e3]
    repeat(refine And.intro aw ?_)
    refine ao c4 rfl ?_;simp -dsimp only[go_sem,h4,h5,h7];refine ao c5 rfl ?_;simp -dsimp only[go_sem,h4,h5,h7]
    repeat(refine And.intro aw ?_)
    refine bc k' 6 46 6 aw rfl rfl aw aH ⟨(aA hK),hKB,(aA hKE),n+1,_,_,o1++[(ai b (c-der b),n)],o3,aw,ar,hS',?_,rfl,rfl,rfl,?_⟩
    ·rw[if_pos hf,List.append_assoc]
    ·exact Own.mk2 (Nat.succ_pos _) (by simp -dsimp only[go_sem];rfl) (by simp -dsimp only[go_sem];rfl) au (by simp;rfl)
   ·have e3:decide ((1:Int)<(aa (ai b (c-der b)):Int))=false:=aG aw;simp -dsimp only[go_sem,h4,h5,h6,h7,az,aZ,e3];refine ao c4 rfl ?_;simp -dsimp only[go_sem,h4,h5,h7];refine ao c5 rfl ?_;simp -dsimp only[go_sem,h4,h5,h7]
    repeat(refine And.intro aw ?_)
    refine again k' aw ⟨(aA hK),hKB,hKE,n+1,_,_,o1,o3,aw,aw,hS',?_,rfl,rfl,rfl,Own.mk hg (by simp -dsimp only[go_sem,h6]) rfl hrow⟩;rw[if_neg hf];rfl
 ·rintro e τ β ε π hK hKB hKE ⟨rfl,g,mm,hg,h6,hrow⟩;refine⟨_,bA.refl _,?_⟩;simp -dsimp only[go_sem,h6,hrow,hg]
end Go.AM
namespace Go.AM
open Go.Proofs
theorem gC (e:Ex):Fn Tryz.prog 125 [iE e] [iB (decide (cP e))]:=by
 refine aJ (fn:=Tryz.f125) ?_;by_cases h0:0<=e.a
 ·by_cases h1:0<=e.b
  ·by_cases h2:0<=e.c
   ·by_cases h3:0<=e.d
    ·simp -dsimp only[go_sem,Int.reduceToNat,Int.reduceLE,aC,h0,h1,h2,h3];rw[aF (show cP e from⟨h0,h1,h2,h3⟩)]
    ·simp -dsimp only[go_sem,Int.reduceToNat,Int.reduceLE,aC,h0,h1,h2,h3];rw[aG (show¬ cP e from fun h=>h3 h.2.2.2)]
   ·simp -dsimp only[go_sem,Int.reduceToNat,Int.reduceLE,aC,h0,h1,h2];rw[aG (show¬ cP e from fun h=>h2 h.2.2.1)]
  ·simp -dsimp only[go_sem,Int.reduceToNat,Int.reduceLE,aC,h0,h1];rw[aG (show¬ cP e from fun h=>h1 h.2.1)]
 ·simp -dsimp only[go_sem,Int.reduceToNat,Int.reduceLE,aC,h0];rw[aG (show¬ cP e from fun h=>h0 h.1)]
theorem ko (e f:Ex):Fn Tryz.prog 100 [iE e,iE f] [iB (decide (0<cm e f))]:=by
 refine aJ (fn:=Tryz.f100) ?_;simp -dsimp only[go_sem];refine be [(4,23)] [] [] (fun n τ β ε=>∃ i:Int,n=(i+1).toNat /\ -1<=i/\i<=3/\(i<3->e.d=f.d)/\(i<2->e.c=f.c)/\(i<1->e.b=f.b)/\(i<0->e.a=f.a)/\τ 5 = .i (iN i))
  (fun x τ β ε=>(x = .exit 0/\e=f)\/(x = .ret/\τ 4 = .i (iB (decide (0<cm e f))))) 4 ?_ ?_ ?_
 ·exact⟨3,aw,aw,aw,aw,aw,aw,aw,rfl⟩
 ·rintro n τ β ε π hK hKB hKE ⟨i,hn,hi0,hi,hd,hc,hb,ha,h5⟩;have k2:τ 2 = .bp 2 1 0:=(hK 2 rfl).trans rfl;have k3:τ 3 = .bp 3 1 0:=(hK 3 rfl).trans rfl;have b2:β 2=⟨1,e.cs⟩:=(hKB 2 rfl).trans rfl;have b3:β 3=⟨1,f.cs⟩:=(hKB 3 rfl).trans rfl;obtain rfl|rfl|rfl|rfl|rfl:i=3\/i=2\/i=1\/i=0\/i = -1:=aw
  ·simp -dsimp only[go_sem,h5,Int.reduceLE,decide_true,decide_false];refine ap 7 [] false true ?_;simp -dsimp only[go_sem,Int.reduceToNat,Int.reduceLE,aC,h5,k2,k3,b2,b3];by_cases hx:e.d=f.d
   ·have e1:decide (e.d=f.d)=true:=aF hx;simp -dsimp only[go_sem,Int.reduceToNat,Int.reduceLE,aC,e1,h5]
    repeat(refine And.intro aw ?_)
    exact again 3 aw ⟨(aA hK),hKB,hKE,2,rfl,aw,aw,aw,aw,aw,aw,rfl⟩
   ·have e1:decide (e.d=f.d)=false:=aG hx;simp -dsimp only[go_sem,Int.reduceToNat,Int.reduceLE,aC,e1];refine ap 8 [] false true ?_;simp -dsimp only[go_sem,Int.reduceToNat,Int.reduceLE,aC,h5,k2,k3,b2,b3];refine⟨(aA hK),hKB,hKE,?_⟩;have e2:decide (f.d<e.d)=decide (0<cm e f):=by rw[decide_eq_decide,iO];omega
    rw[e2]
  ·simp -dsimp only[go_sem,h5,Int.reduceLE,decide_true,decide_false];refine ap 7 [] false true ?_;simp -dsimp only[go_sem,Int.reduceToNat,Int.reduceLE,aC,h5,k2,k3,b2,b3];by_cases hx:e.c=f.c
   ·have e1:decide (e.c=f.c)=true:=aF hx;simp -dsimp only[go_sem,Int.reduceToNat,Int.reduceLE,aC,e1,h5]
    repeat(refine And.intro aw ?_)
    exact again 2 aw ⟨(aA hK),hKB,hKE,1,rfl,aw,aw,aw,aw,aw,aw,rfl⟩
   ·have e1:decide (e.c=f.c)=false:=aG hx;simp -dsimp only[go_sem,Int.reduceToNat,Int.reduceLE,aC,e1];refine ap 8 [] false true ?_;simp -dsimp only[go_sem,Int.reduceToNat,Int.reduceLE,aC,h5,k2,k3,b2,b3];refine⟨(aA hK),hKB,hKE,?_⟩;have e2:decide (f.c<e.c)=decide (0<cm e f):=by rw[decide_eq_decide,iO];omega
    rw[e2]
  ·simp -dsimp only[go_sem,h5,Int.reduceLE,decide_true,decide_false];refine ap 7 [] false true ?_;simp -dsimp only[go_sem,Int.reduceToNat,Int.reduceLE,aC,h5,k2,k3,b2,b3];by_cases hx:e.b=f.b
   ·have e1:decide (e.b=f.b)=true:=aF hx;simp -dsimp only[go_sem,Int.reduceToNat,Int.reduceLE,aC,e1,h5]
    repeat(refine And.intro aw ?_)
    exact again 1 aw ⟨(aA hK),hKB,hKE,0,rfl,aw,aw,aw,aw,aw,aw,rfl⟩
   ·have e1:decide (e.b=f.b)=false:=aG hx;simp -dsimp only[go_sem,Int.reduceToNat,Int.reduceLE,aC,e1];refine ap 8 [] false true ?_;simp -dsimp only[go_sem,Int.reduceToNat,Int.reduceLE,aC,h5,k2,k3,b2,b3];refine⟨(aA hK),hKB,hKE,?_⟩;have e2:decide (f.b<e.b)=decide (0<cm e f):=by rw[decide_eq_decide,iO];omega
    rw[e2]
  ·simp -dsimp only[go_sem,h5,Int.reduceLE,decide_true,decide_false];refine ap 7 [] false true ?_;simp -dsimp only[go_sem,Int.reduceToNat,Int.reduceLE,aC,h5,k2,k3,b2,b3];by_cases hx:e.a=f.a
   ·have e1:decide (e.a=f.a)=true:=aF hx;simp -dsimp only[go_sem,Int.reduceToNat,Int.reduceLE,aC,e1,h5]
    repeat(refine And.intro aw ?_)
    exact again 0 aw ⟨(aA hK),hKB,hKE,-1,rfl,aw,aw,aw,aw,aw,aw,rfl⟩
   ·have e1:decide (e.a=f.a)=false:=aG hx;simp -dsimp only[go_sem,Int.reduceToNat,Int.reduceLE,aC,e1];refine ap 8 [] false true ?_;simp -dsimp only[go_sem,Int.reduceToNat,Int.reduceLE,aC,h5,k2,k3,b2,b3];refine⟨(aA hK),hKB,hKE,?_⟩;have e2:decide (f.a<e.a)=decide (0<cm e f):=by rw[decide_eq_decide,iO];omega
    rw[e2]
  ·simp -dsimp only[go_sem,h5,Int.reduceLE,decide_true,decide_false];refine⟨(aA hK),hKB,hKE,?_⟩;cases e;cases f;simp only[Ex.mk.injEq];exact⟨ha aw,hb aw,hc aw,hd aw⟩
 ·rintro x τ β ε π hK hKB hKE h;rcases h with⟨rfl,rfl⟩|⟨rfl,h⟩
  ·simp -dsimp only[go_sem];rw[aG (by rw[(jz e e).2 rfl];omega)]
  ·simp -dsimp only[go_sem,h]
theorem GG {x y:Operand} {e f:Ex} {K:Value->Prop} (h:K (.bool (!decide (e=f)))):eV Tryz.prog .neq 100 x y (.agg #[.int .i64 e.a,.int .i64 e.b,.int .i64 e.c,.int .i64 e.d]) (.agg #[.int .i64 f.a,.int .i64 f.b,.int .i64 f.c,.int .i64 f.d]) K:=by
 refine⟨.bool (!decide (e=f)),fun w=>?_,rfl,h⟩;have h1:(eqGuard .neq 100 x y e.v f.v).run Tryz.prog w = .ok () w:=av;have h2:(binOp .neq 100 e.v f.v).run Tryz.prog w = .ok (.bool (!decide (e=f))) w:=by
  show(do pure (.bool (!(← Op.equal 100 e.v f.v))):Sem Value).run Tryz.prog w=_
  rw[Sem.run_bind,mt.eq e f w];rfl
 show(do eqGuard .neq 100 x y e.v f.v;binOp .neq 100 e.v f.v:Sem Value).run Tryz.prog w=_
 rw[Sem.run_bind,h1,Result.andThen_ok,h2]
theorem qP (a b:List Tm) (hl:a.length<=1099511627776) (hx:∀ t∈a,QB 17179869184 t.2) (hy:∀ t∈b,QB 17179869184 t.2):Fn Tryz.prog 93 [iM a,iM b] [iB (decide (a=b))]:=by
 refine aJ (fn:=Tryz.f93) ?_;by_cases hab:a.length=b.length
 ·have e1:decide ((a.length:Int)=(b.length:Int))=true:=aF aw;simp -dsimp only[go_sem,e1,az];refine be [(4,5),(11,41)] [] [] (fun n τ β ε=>∃ i:Nat,n=a.length-i/\i<=a.length/\a.take i=b.take i/\τ 5 = .i (iN i))
   (fun e τ β ε=>(e = .exit 0/\a=b)\/(e = .ret/\¬ a=b/\τ 4 = .i (.c (.v (.bool false))))) a.length ?_ ?_ ?_
  ·exact⟨0,aw,aw,rfl,rfl⟩
  ·rintro n τ β ε π hK hKB hKE ⟨i,hn,hi,he,h5⟩;have k0:τ 0 = .i (iM a):=(hK 0 rfl).trans rfl;have k1:τ 1 = .i (iM b):=(hK 1 rfl).trans rfl;by_cases hlt:i<a.length
   ·have hA:(i:Int)<(a.length:Int):=aw;have hlb:i<b.length:=aw;have ga:a[i]?=some a[i]:=by simp[hlt]
    have gb:b[i]?=some b[i]:=by simp[hlb]
    simp -dsimp only[go_sem,h5,k0,k1,hA,az];refine ap 25 [] false true ?_;simp -dsimp only[go_sem,h5,k0,k1];refine aQ ga ?_;simp -dsimp only[go_sem,h5,k0,k1,Int.reduceToNat,Int.reduceLE,aC];refine aQ gb ?_;simp -dsimp only[go_sem,h5,k0,k1,Int.reduceToNat,Int.reduceLE,aC];refine GG ?_;by_cases hex:a[i].1=b[i].1
    ·have e2:decide (a[i].1=b[i].1)=true:=aF hex;simp -dsimp only[go_sem,e2];refine aQ ga ?_;simp -dsimp only[go_sem,h5,k0,k1,Int.reduceToNat,Int.reduceLE,aC];refine aQ gb ?_;simp -dsimp only[go_sem,h5,k0,k1,Int.reduceToNat,Int.reduceLE,aC];refine aO (args':=[iQ a[i].2,iQ b[i].2]) rfl (Gb _ _ (hx _ (List.getElem_mem _)) (hy _ (List.getElem_mem _))) ?_;by_cases hc:a[i].2=b[i].2
     ·simp -dsimp only[go_sem,hc,h5]
      repeat(refine And.intro aw ?_)
      refine again (a.length-(i+1)) aw ⟨(aA hK),hKB,hKE,i+1,rfl,aw,?_,rfl⟩;rw[aq hlt,aq hlb,he,show a[i]=b[i]from Prod.ext hex hc]
     ·simp -dsimp only[go_sem,hc];exact⟨(aA hK),hKB,hKE,fun e=>hc (by simp[e])⟩
    ·have e2:decide (a[i].1=b[i].1)=false:=aG hex;simp -dsimp only[go_sem,e2];exact⟨(aA hK),hKB,hKE,fun e=>hex (by simp[e])⟩
   ·have hA:¬ (i:Int)<(a.length:Int):=aw;obtain rfl:i=a.length:=aw;simp -dsimp only[go_sem,h5,k0,hA,az];have:a=b:=by rw[List.take_length,List.take_of_length_le aw]at he;exact he
    exact⟨(aA hK),hKB,hKE,this⟩
  ·rintro e τ β ε π hK hKB hKE h;rcases h with⟨rfl,h⟩|⟨rfl,h,h6⟩
   ·simp -dsimp only[go_sem,h]
   ·simp -dsimp only[go_sem,h,h6]
 ·have e1:decide ((a.length:Int)=(b.length:Int))=false:=aG aw;simp -dsimp only[go_sem,e1,az];have:¬ a=b:=fun e=>hab (by rw[e]);rw[aG this]
theorem um {α:Type} {l:List α} {i:Nat} (h:i<l.length):l.drop i=l[i]::l.drop (i+1):=by rw[List.drop_eq_getElem_cons h]
set_option maxHeartbeats 1000000 in
theorem pU (a b:List Tm) (hl:a.length+b.length<=1099511627776) (ha:∀ t∈a,QB 8589934592 t.2) (hb:∀ t∈b,QB 8589934592 t.2):Fn Tryz.prog 56 [iM a,iM b] [iM (gu a b)]:=by
 refine aJ (fn:=Tryz.f56) ?_;simp -dsimp only[go_sem];refine cf 5 9 8 (rs:=[]) rfl au ?_;refine br [(5,8),(10,105)] [(8,8)] [(9,9),(49,49),(75,75),(101,101)] (fun n τ β ε=>∃(out:List Tm) (i k:Nat),n=(a.length-i)+(b.length-k)/\i<=a.length/\k<=b.length/\gu a b=out++gu (a.drop i) (b.drop k)/\out.length<=i+k /\
   τ 6 = .i (iN i)/\τ 7 = .i (iN k)/\Own 8 (out.map eT) 5 9 τ ε)
  (fun e τ β ε=>e = .exit 0/\Own 8 ((gu a b).map eT) 5 9 τ ε) (a.length+b.length) ?_ ?_ ?_
 ·exact⟨[],0,0,aw,aw,aw,au,au,rfl,rfl,Own.mk (g:=1) (mm:=false) aw rfl rfl rfl⟩
 ·rintro n τ β ε π hK hKB hKE ⟨out,i,k,hn,hi,hk,he,hlen,h6,h7,g,mm,hg,h5,h9⟩;have h5':τ 5 = .sl 9 g out.length:=by rw[h5,az]
  have k0:τ 0 = .i (iM a):=(hK 0 rfl).trans rfl;have k1:τ 1 = .i (iM b):=(hK 1 rfl).trans rfl;by_cases hA:i<a.length
  ·have dA:decide ((i:Int)<(a.length:Int))=true:=aF aw;have dA':decide ((i:Int)=(a.length:Int))=false:=aG aw;have ga:a[i]?=some a[i]:=by simp[hA]
   have tA:=um hA;by_cases hB:k<b.length
   ·have dB:decide ((k:Int)=(b.length:Int))=false:=aG aw;have gb:b[k]?=some b[k]:=by simp[hB]
    have tB:=um hB;rw[tA,tB,jC]at he;simp -dsimp only[go_sem,h6,h7,k0,k1,dA,dB,az];refine ap 23 [] false true ?_;simp -dsimp only[go_sem,h6,h7,k0,k1,dA,dB,az,Int.reduceToNat,Int.reduceLE,aC];refine aQ ga ?_;simp -dsimp only[go_sem,h6,h7,k0,k1,dA,dB,az,Int.reduceToNat,Int.reduceLE,aC];refine aQ gb ?_;simp -dsimp only[go_sem,h6,h7,k0,k1,dA,dB,az,Int.reduceToNat,Int.reduceLE,aC];refine aO (args':=[iE a[i].1,iE b[k].1]) rfl (ko _ _) ?_;by_cases c1:0<cm a[i].1 b[k].1
    ·rw[if_pos c1,<-tB]at he;have e1:decide (0<cm a[i].1 b[k].1)=true:=aF c1;simp -dsimp only[go_sem,e1,h5',h9,hg,h6,h7,k0,k1,Int.reduceToNat,Int.reduceLE,aC];refine aQ ga ?_;simp -dsimp only[go_sem,e1,h5',h9,hg,h6,h7,k0,k1,Int.reduceToNat,Int.reduceLE,aC]
     repeat(refine And.intro aw ?_)
     refine bc ((a.length-(i+1))+(b.length-k)) 5 49 9 aw rfl rfl aw aH ⟨(aA hK),hKB,(aA hKE),out++[a[i]],i+1,k,rfl,aw,hk,?_,ar,rfl,h7,?_⟩
     ·rw[he,List.append_assoc];rfl
     ·exact Own.mk2 (Nat.succ_pos _) (by simp -dsimp only[go_sem];rfl) (by simp -dsimp only[go_sem];rfl) au (by simp;rfl)
    ·rw[if_neg c1]at he;have e1:decide (0<cm a[i].1 b[k].1)=false:=aG c1;simp -dsimp only[go_sem,e1];refine ap 17 [] false true ?_;simp -dsimp only[go_sem,h6,h7,k0,k1,dA,dB,az,dA',Int.reduceToNat,Int.reduceLE,aC];refine aQ gb ?_;simp -dsimp only[go_sem,h6,h7,k0,k1,dA,dB,az,dA',Int.reduceToNat,Int.reduceLE,aC];refine aQ ga ?_;simp -dsimp only[go_sem,h6,h7,k0,k1,dA,dB,az,dA',Int.reduceToNat,Int.reduceLE,aC];refine aO (args':=[iE b[k].1,iE a[i].1]) rfl (ko _ _) ?_;by_cases c2:cm a[i].1 b[k].1<0
     ·rw[if_pos c2,<-tA]at he;have e2:decide (0<cm b[k].1 a[i].1)=true:=aF (by rw[nT];omega);simp -dsimp only[go_sem,e2,h5',h9,hg,h6,h7,k0,k1,Int.reduceToNat,Int.reduceLE,aC];refine aQ gb ?_;simp -dsimp only[go_sem,e2,h5',h9,hg,h6,h7,k0,k1,Int.reduceToNat,Int.reduceLE,aC]
      repeat(refine And.intro aw ?_)
      refine bc ((a.length-i)+(b.length-(k+1))) 5 75 9 aw rfl rfl aw aH ⟨(aA hK),hKB,(aA hKE),out++[b[k]],i,k+1,rfl,hi,aw,?_,ar,h6,rfl,?_⟩
      ·rw[he,List.append_assoc];rfl
      ·exact Own.mk2 (Nat.succ_pos _) (by simp -dsimp only[go_sem];rfl) (by simp -dsimp only[go_sem];rfl) au (by simp;rfl)
     ·rw[if_neg c2]at he;have e2:decide (0<cm b[k].1 a[i].1)=false:=aG (by rw[nT];omega);simp -dsimp only[go_sem,e2];refine ap 12 [8] false true ?_;simp -dsimp only[go_sem,h6,h7,k0,k1,dA,dB,az,Int.reduceToNat,Int.reduceLE,aC];refine aQ ga ?_;simp -dsimp only[go_sem,h6,h7,k0,k1,dA,dB,az,Int.reduceToNat,Int.reduceLE,aC];refine aQ gb ?_;simp -dsimp only[go_sem,h6,h7,k0,k1,dA,dB,az,Int.reduceToNat,Int.reduceLE,aC];refine aO (args':=[iQ a[i].2,iQ b[k].2]) rfl (uO _ _ (ha _ (List.getElem_mem hA)) (hb _ (List.getElem_mem hB))) ?_;simp -dsimp only[go_sem];refine ao (ir (a[i].2+b[k].2)) rfl ?_;by_cases c3:a[i].2+b[k].2=0
      ·rw[if_pos c3]at he;have e3:decide ((a[i].2+b[k].2).num.sign=0)=true:=by rw[bQ];exact aF c3
       simp -dsimp only[go_sem,e3,h6,h7,Int.reduceToNat,Int.reduceLE,aC]
       repeat(refine And.intro aw ?_)
       refine again ((a.length-(i+1))+(b.length-(k+1))) aw ⟨(aA hK),(aA hKB),hKE,out,i+1,k+1,rfl,aw,aw,he,aw,rfl,rfl,Own.mk hg h5' au h9⟩
      ·rw[if_neg c3]at he;have e3:decide ((a[i].2+b[k].2).num.sign=0)=false:=by rw[bQ];exact aG c3
       simp -dsimp only[go_sem,e3,h6,h7,Int.reduceToNat,Int.reduceLE,aC];refine ap 11 [] true false ?_;simp -dsimp only[go_sem,h5',h9,hg,h6,h7,k0,k1,Int.reduceToNat,Int.reduceLE,aC];refine aQ ga ?_;simp -dsimp only[go_sem,h5',h9,hg,h6,h7,k0,k1,Int.reduceToNat,Int.reduceLE,aC]
       repeat(refine And.intro aw ?_)
       refine bc ((a.length-(i+1))+(b.length-(k+1))) 5 101 9 aw rfl rfl aw aH ⟨(aA hK),(aA hKB),(aA hKE),out++[(a[i].1,a[i].2+b[k].2)],i+1,k+1,rfl,aw,aw,?_,ar,rfl,rfl,?_⟩
       ·rw[he,List.append_assoc];rfl
       ·exact Own.mk2 (Nat.succ_pos _) (by simp -dsimp only[go_sem];rfl) (by simp -dsimp only[go_sem];rfl) au (by simp;rfl)
   ·obtain rfl:k=b.length:=aw;have dB:decide ((b.length:Int)=(b.length:Int))=true:=aF rfl;rw[tA,List.drop_length,jB]at he;simp -dsimp only[go_sem,h6,h7,k0,k1,dA,dB,az];refine ap 23 [] false true ?_;simp -dsimp only[go_sem,dB,dA,az,h5',h9,hg,h6,h7,k0,k1,Int.reduceToNat,Int.reduceLE,aC];refine aQ ga ?_;simp -dsimp only[go_sem,dB,dA,az,h5',h9,hg,h6,h7,k0,k1,Int.reduceToNat,Int.reduceLE,aC]
    repeat(refine And.intro aw ?_)
    refine bc ((a.length-(i+1))+(b.length-b.length)) 5 49 9 aw rfl rfl aw aH ⟨(aA hK),hKB,(aA hKE),out++[a[i]],i+1,b.length,rfl,aw,hk,?_,ar,rfl,h7,?_⟩
    ·rw[he,List.append_assoc,List.drop_length,jB];rfl
    ·exact Own.mk2 (Nat.succ_pos _) (by simp -dsimp only[go_sem];rfl) (by simp -dsimp only[go_sem];rfl) au (by simp;rfl)
  ·obtain rfl:i=a.length:=aw;have dA:decide ((a.length:Int)<(a.length:Int))=false:=aG aw;have dA':decide ((a.length:Int)=(a.length:Int))=true:=aF rfl;by_cases hB:k<b.length
   ·have dB:decide ((k:Int)=(b.length:Int))=false:=aG aw;have dB':decide ((k:Int)<(b.length:Int))=true:=aF aw;have gb:b[k]?=some b[k]:=by simp[hB]
    have tB:=um hB;rw[tB,List.drop_length,gT]at he;simp -dsimp only[go_sem,h6,h7,k0,k1,dA,dB,az,dB'];refine ap 23 [] false true ?_;simp -dsimp only[go_sem,h6,h7,k0,k1,dA,dB,az,Int.reduceToNat,Int.reduceLE,aC];refine ap 17 [] false true ?_;simp -dsimp only[go_sem,h6,h7,k0,k1,dA,dB,az,dA',Int.reduceToNat,Int.reduceLE,aC];refine aQ gb ?_;simp -dsimp only[go_sem,dB,dA,az,h5',h9,hg,h6,h7,k0,k1,Int.reduceToNat,Int.reduceLE,aC]
    repeat(refine And.intro aw ?_)
    refine bc ((a.length-a.length)+(b.length-(k+1))) 5 75 9 aw rfl rfl aw aH ⟨(aA hK),hKB,(aA hKE),out++[b[k]],a.length,k+1,rfl,hi,aw,?_,ar,h6,rfl,?_⟩
    ·rw[he,List.append_assoc,List.drop_length,gT];rfl
    ·exact Own.mk2 (Nat.succ_pos _) (by simp -dsimp only[go_sem];rfl) (by simp -dsimp only[go_sem];rfl) au (by simp;rfl)
   ·obtain rfl:k=b.length:=aw;have dB:decide ((b.length:Int)<(b.length:Int))=false:=aG aw;simp -dsimp only[go_sem,h6,h7,k0,k1,dA,dB,az];rw[List.drop_length,List.drop_length,gT,List.append_nil]at he;exact⟨(aA hK),hKB,hKE,Own.mk hg h5' (by simp[he]) (by rw[he];exact h9)⟩
 ·rintro e τ β ε π hK hKB hKE ⟨rfl,g,mm,hg,h5,h9⟩;rw[az]at h5;refine⟨_,bA.refl _,?_⟩;simp -dsimp only[go_sem,h5,h9,hg]
end Go.AM
