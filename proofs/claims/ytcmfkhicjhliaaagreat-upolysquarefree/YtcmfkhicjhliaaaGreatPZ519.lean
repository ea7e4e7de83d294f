/- Lemmas, part 20 of 23. No condition. -/
import Derived.Test.YtcmfkhicjhliaaaGreatPZ518
set_option maxRecDepth 65536
set_option linter.unusedSimpArgs false
set_option linter.unusedVariables false
set_option linter.unusedSectionVars false
namespace Go.AM
open Alg
open Go.Proofs
open Classical
def yQ (n d p q:PQ):Prop:=(∃ a b:Rat,a≠0/\b≠0/\p=an a*n/\q=an b*d)\/∃ s t s' t',Row n d p s t q s' t'
theorem zC {n d p q:PQ} {k:Nat} (hk':am k p) (hk:am k q) (hc:yQ n d p q) (hq:q≠0) (hle:aa q<=aa p) :
  (∃ s t s' t',Row n d q s t (psr q (aa p) p) s' t')/\aa (psr q (aa p) p)<aa q/\(∃(c:Rat) (S:PQ),c≠0/\an c*p=S*q+psr q (aa p) p)/\am (k+aa p*(k+1)) (psr q (aa p) p):=by
 obtain⟨_,h2,_,h4,c,S,h5,h6⟩:=nx hq hk (aa p) p k (ay _) hk';refine⟨?_,h2 hle,⟨c,S,h5,h6⟩,h4⟩;have hlt:=h2 hle;generalize psr q (aa p) p=r at *
 rcases hc with⟨a,b,ha,hb,rfl,rfl⟩|⟨s,t,s',t',row⟩
 ·rw[bW hb]at hlt;rw[bW hb,bW ha]at hle;have hd:d≠0:=fun e=>hq (by rw[e,mul_zero]);have e:an (c*a)*n=(S*an b)*d+r:=by rw[bC,mul_assoc,h6,mul_assoc]
  have:=(Row.first (a6 h5 ha) hd hle e hlt).scale hb (b:=(1:Rat)) aH
  rw[bP,one_mul,one_mul,one_mul]at this;exact⟨_,_,_,_,this⟩
 ·exact⟨_,_,_,_,row.next h5 hq h6 hlt⟩
theorem wO {n d q r s t s' t':PQ} (row:Row n d q s t r s' t') (hr:r≠0):yQ n d q (ag r):=by
 rcases qv hr row with⟨h1,h2⟩|h
 ·have:=row.scale (a:=(1:Rat)) (b:=Alg.inv (lc r)) aH (fC (bN hr));rw[bP,one_mul,one_mul,one_mul]at this;exact .inr ⟨_,_,_,_,this⟩
 ·exact .inr h
theorem s9 {g x y:PQ} (hx:x≠0) (hy:y≠0) (h:IsG g (ag x) (ag y)):IsG g x y:=(uE hx (uE hy h).symm).symm
theorem nI {g g' x y:PQ} (h:IsG g x y) (h':IsG g' x y):ag g=ag g':=by
 have h1:=qk h;have h2:=qk h';exact h1.trans h2.symm
theorem mq:ag (1:PQ)=1:=IM (mV (R:=Rat) 1)
theorem uu {p:PQ} (h:aa p=1):ag p=1:=by
 have h1:=dS (Nat.le_of_eq h);have h2:p.c 0≠0:=fun e=>by
  rw[e,show an (0:Rat)=0 from cC]at h1;rw[h1,aM.2 rfl]at h;omega
 rw[h1,ag,mV,<-bC,cA h2];rfl
theorem Ei {x y g:PQ} (hx:x≠0) (hy:y≠0) (hle:aa (ag y)<=aa (ag x)) (hbig:2<=aa (ag x)) (h:rbnd (ag x) (ag y)=0) (hg:IsG g x y):ag g=ag 1:=by
 refine nI hg ?_;by_cases hy2:2<=aa (ag y)
 ·exact s9 hx hy ⟨Dv.one _,Dv.one _,H9 hbig hy2 hle h⟩
 ·have h1:=aR (jn hy);have h2:ag y=1:=by rw[<-QU,uu aw]
  refine s9 hx hy ?_;rw[h2];exact⟨Dv.one _,Dv.refl _,fun x _ hx=>hx⟩
set_option maxHeartbeats 1600000 in
theorem A2 {n d g:PQ} {w h N:Nat} (hs:Sm w n d) (Hn:am h n) (Hd:am h d) (n0:n≠0) (d0:d≠0) (hnd:¬ (aa n=1/\aa d=1)) (tn:aa n<=N) (td:aa d<=N) (hN:N<=250000) (hgnd:IsG g n d)
  (hb:(2*(ah w+h)+1)+(N+2)*((2*(ah w+h)+1)+1)+2*(2*(ah w+h)+1)+2*N<=68719476000):Fn Tryz.prog 94 [iUp n,iUp d] [iUp (ag g)]:=by
 have hgdn:=hgnd.symm;have n1:=aR n0;have d1:=aR d0;have Hnm:=Hn.mo;have Hdm:=Hd.mo;have sn:aa (ag n)=aa n:=fV;have sd:aa (ag d)=aa d:=fV;have e1:=hzU n;rw[aG n0]at e1;have e2:=hzU d;rw[aG d0]at e2;have tp:=EI n0 d0 aw aw;rw[if_neg hnd]at tp;have g11:lI 1 1=(1:PQ):=by rw[lI,if_neg fQ,if_neg fQ]
 have base:=n5 (p:=1) (q:=1) (dK 0) (dK 0) aw aw (by rw[cS];omega) (by rw[cS];omega) (.inr (.inr ⟨cS,cS⟩));rw[g11]at base;refine aJ (fn:=Tryz.f94) ?_;simp -dsimp only[go_sem,e1,e2,az];refine ao tp rfl ?_;simp -dsimp only[go_sem,Int.reduceLT,decide_false];refine ao (mI Hn aw n0 aw) rfl ?_;simp -dsimp only[go_sem];refine ao (mI Hd aw d0 aw) rfl ?_;simp -dsimp only[go_sem];refine aK base ?_;simp -dsimp only[go_sem];refine ao (ii Hn aw aw) rfl ?_;simp -dsimp only[go_sem];refine aK (cF Hn aw aw) ?_;simp -dsimp only[go_sem];refine ao (ii Hd aw aw) rfl ?_;simp -dsimp only[go_sem];refine aK (cF Hd aw aw) ?_;simp -dsimp only[go_sem];refine aK (gk _ aw) ?_;simp -dsimp only[go_sem];refine aK (gk _ aw) ?_;by_cases hlt:aa n<aa d
 ·have e3:decide ((aa (ag n):Int)-1<(aa (ag d):Int)-1)=true:=aF aw;have hle:aa (ag n)<=aa (ag d):=aw;have hbig:2<=aa (ag d):=aw;simp -dsimp only[go_sem,e3];refine ao (vp Hdm Hnm aw aw (jn d0) (jn n0) aw aw) rfl ?_;by_cases hr:rbnd (ag d) (ag n)=0
  ·have e5:decide (rbnd (ag d) (ag n)=0)=true:=aF hr;simp -dsimp only[go_sem,e5];refine aK (cF (dK 0) aw (by rw[cS];omega)) ?_;simp -dsimp only[go_sem];rw[mq,<-mq,Ei d0 n0 hle hbig hr hgdn]
  ·have e5:decide (rbnd (ag d) (ag n)=0)=false:=aG hr;simp -dsimp only[go_sem,e5];refine a8 [(7,10),(58,72)] [] [] (fun m τ β ε=>∃ p q:PQ,m=aa q/\p≠0/\aa p<=N/\am (2*(ah w+h)+1) p/\am (2*(ah w+h)+1) q/\(q≠0->yQ d n p q/\aa q<=aa p)/\aa q<=N/\(∀ g,IsG g p q->IsG g d n)/\τ 7 = .i (iUp p)/\τ 8 = .i (iUp q))
    (fun e τ β ε=>e = .exit 0/\∃ p:PQ,p≠0/\aa p<=N/\am (2*(ah w+h)+1) p/\IsG p d n/\τ 7 = .i (iUp p)) (aa (ag n)) ?_ ?_ ?_
   ·exact⟨ag d,ag n,rfl,jn d0,aw,Hdm.mono aw,Hnm.mono aw,fun _=>⟨.inl ⟨_,_,fC (bN d0),fC (bN n0),rfl,rfl⟩,aw⟩,aw,fun g hg=>s9 d0 n0 hg,rfl,rfl⟩
   ·rintro m τ β ε π hK hKB hKE ⟨p,q,hm,hp0,hpN,hp,hq,hc,hqN,hG,h7,h8⟩;have k5:τ 5 = .i (iN 0):=(hK 5 rfl).trans rfl;by_cases hq0:q=0
    ·have dA:decide ((0:Int)<((U q).length:Int))=false:=aG (by rw[hq0,cq];decide);simp -dsimp only[go_sem,h8,dA,az];refine⟨(aA hK),hKB,hKE,p,hp0,hpN,hp,hG p ?_,h7⟩;rw[hq0];exact⟨Dv.refl _,Dv.zero _,fun x hx _=>hx⟩
    ·obtain⟨hch,hle'⟩:=hc hq0;have hq1:=aR hq0;have dA:decide ((0:Int)<((U q).length:Int))=true:=aF (by obtain⟨R,hR⟩:=gy hq0;rw[hR];simp);obtain⟨⟨s,t,s',t',row⟩,hlt,⟨c,S,hc0,e⟩,hrH⟩:=zC hp hq hch hq0 hle';have hmul:aa p*((2*(ah w+h)+1)+1)<=N*((2*(ah w+h)+1)+1):=Nat.mul_le_mul_right _ hpN;have hmul2:(aa p+2)*((2*(ah w+h)+1)+1)<=(N+2)*((2*(ah w+h)+1)+1):=Nat.mul_le_mul_right _ aw;have hmul3:N*((2*(ah w+h)+1)+1)<=(N+2)*((2*(ah w+h)+1)+1):=Nat.mul_le_mul_right _ aw;simp -dsimp only[go_sem,h7,h8,k5,dA,az];refine aK (sI hp hq hq0 aw aw aw) ?_;simp -dsimp only[go_sem,h7,h8,k5];refine aK (ii hrH aw aw) ?_;simp -dsimp only[go_sem,h7,h8,k5];refine aK (cF hrH aw aw) ?_;simp -dsimp only[go_sem];have hms:aa (ag (psr q (aa p) p))=aa (psr q (aa p) p):=fV;refine again (aa (ag (psr q (aa p) p))) aw ⟨(aA hK),hKB,hKE,q,ag (psr q (aa p) p),rfl,hq0,hqN,hq,?_,fun hr0=>⟨?_,aw⟩,aw,fun g hg=>hG g (nH hc0 e ?_),rfl,rfl⟩
     ·by_cases hr0:psr q (aa p) p=0
      ·rw[hr0,fR];exact am.zero _
      ·exact s5 row hs.symm Hd Hn
     ·have hr1:psr q (aa p) p≠0:=fun e=>hr0 (by rw[e,fR]);exact wO row hr1
     ·by_cases hr0:psr q (aa p) p=0
      ·rw[hr0,fR]at hg;rw[hr0];exact hg
      ·exact uE hr0 hg
   ·rintro e τ β ε π hK hKB hKE ⟨rfl,p,hp0,hpN,hp,hG,h7⟩;have k5:τ 5 = .i (iN 0):=(hK 5 rfl).trans rfl;have k6:τ 6 = .i (iUp 1):=(hK 6 rfl).trans rfl;have hp1:=aR hp0;have hfin:ag g=ag p:=(nI hG hgdn).symm;simp -dsimp only[go_sem,h7,k5];refine aK (gk p aw) ?_;by_cases h1:aa p=1
    ·have e6:decide ((aa p:Int)-1<1)=true:=aF aw;simp -dsimp only[go_sem,e6,k6];refine aK (cF (dK 0) aw (by rw[cS];omega)) ?_;simp -dsimp only[go_sem];rw[hfin,uu h1,mq]
    ·have e6:decide ((aa p:Int)-1<1)=false:=aG aw;simp -dsimp only[go_sem,e6,k6,h7];have mul:=eI (dK 0) hp aw (by rw[cS];omega) aw;rw[one_mul]at mul;refine aK mul ?_;simp -dsimp only[go_sem];refine aK (cF hp aw aw) ?_;simp -dsimp only[go_sem];rw[hfin]
 ·have e3:decide ((aa (ag n):Int)-1<(aa (ag d):Int)-1)=false:=aG aw;have hle:aa (ag d)<=aa (ag n):=aw;have hbig:2<=aa (ag n):=aw;simp -dsimp only[go_sem,e3];refine ao (vp Hnm Hdm aw aw (jn n0) (jn d0) aw aw) rfl ?_;by_cases hr:rbnd (ag n) (ag d)=0
  ·have e5:decide (rbnd (ag n) (ag d)=0)=true:=aF hr;simp -dsimp only[go_sem,e5];refine aK (cF (dK 0) aw (by rw[cS];omega)) ?_;simp -dsimp only[go_sem];rw[mq,<-mq,Ei n0 d0 hle hbig hr hgnd]
  ·have e5:decide (rbnd (ag n) (ag d)=0)=false:=aG hr;simp -dsimp only[go_sem,e5];refine a8 [(7,10),(58,72)] [] [] (fun m τ β ε=>∃ p q:PQ,m=aa q/\p≠0/\aa p<=N/\am (2*(ah w+h)+1) p/\am (2*(ah w+h)+1) q/\(q≠0->yQ n d p q/\aa q<=aa p)/\aa q<=N/\(∀ g,IsG g p q->IsG g n d)/\τ 7 = .i (iUp p)/\τ 8 = .i (iUp q))
    (fun e τ β ε=>e = .exit 0/\∃ p:PQ,p≠0/\aa p<=N/\am (2*(ah w+h)+1) p/\IsG p n d/\τ 7 = .i (iUp p)) (aa (ag d)) ?_ ?_ ?_
   ·exact⟨ag n,ag d,rfl,jn n0,aw,Hnm.mono aw,Hdm.mono aw,fun _=>⟨.inl ⟨_,_,fC (bN n0),fC (bN d0),rfl,rfl⟩,aw⟩,aw,fun g hg=>s9 n0 d0 hg,rfl,rfl⟩
   ·rintro m τ β ε π hK hKB hKE ⟨p,q,hm,hp0,hpN,hp,hq,hc,hqN,hG,h7,h8⟩;have k5:τ 5 = .i (iN 0):=(hK 5 rfl).trans rfl;by_cases hq0:q=0
    ·have dA:decide ((0:Int)<((U q).length:Int))=false:=aG (by rw[hq0,cq];decide);simp -dsimp only[go_sem,h8,dA,az];refine⟨(aA hK),hKB,hKE,p,hp0,hpN,hp,hG p ?_,h7⟩;rw[hq0];exact⟨Dv.refl _,Dv.zero _,fun x hx _=>hx⟩
    ·obtain⟨hch,hle'⟩:=hc hq0;have hq1:=aR hq0;have dA:decide ((0:Int)<((U q).length:Int))=true:=aF (by obtain⟨R,hR⟩:=gy hq0;rw[hR];simp);obtain⟨⟨s,t,s',t',row⟩,hlt,⟨c,S,hc0,e⟩,hrH⟩:=zC hp hq hch hq0 hle';have hmul:aa p*((2*(ah w+h)+1)+1)<=N*((2*(ah w+h)+1)+1):=Nat.mul_le_mul_right _ hpN;have hmul2:(aa p+2)*((2*(ah w+h)+1)+1)<=(N+2)*((2*(ah w+h)+1)+1):=Nat.mul_le_mul_right _ aw;have hmul3:N*((2*(ah w+h)+1)+1)<=(N+2)*((2*(ah w+h)+1)+1):=Nat.mul_le_mul_right _ aw;simp -dsimp only[go_sem,h7,h8,k5,dA,az];refine aK (sI hp hq hq0 aw aw aw) ?_;simp -dsimp only[go_sem,h7,h8,k5];refine aK (ii hrH aw aw) ?_;simp -dsimp only[go_sem,h7,h8,k5];refine aK (cF hrH aw aw) ?_;simp -dsimp only[go_sem];have hms:aa (ag (psr q (aa p) p))=aa (psr q (aa p) p):=fV;refine again (aa (ag (psr q (aa p) p))) aw ⟨(aA hK),hKB,hKE,q,ag (psr q (aa p) p),rfl,hq0,hqN,hq,?_,fun hr0=>⟨?_,aw⟩,aw,fun g hg=>hG g (nH hc0 e ?_),rfl,rfl⟩
     ·by_cases hr0:psr q (aa p) p=0
      ·rw[hr0,fR];exact am.zero _
      ·exact s5 row hs Hn Hd
     ·have hr1:psr q (aa p) p≠0:=fun e=>hr0 (by rw[e,fR]);exact wO row hr1
     ·by_cases hr0:psr q (aa p) p=0
      ·rw[hr0,fR]at hg;rw[hr0];exact hg
      ·exact uE hr0 hg
   ·rintro e τ β ε π hK hKB hKE ⟨rfl,p,hp0,hpN,hp,hG,h7⟩;have k5:τ 5 = .i (iN 0):=(hK 5 rfl).trans rfl;have k6:τ 6 = .i (iUp 1):=(hK 6 rfl).trans rfl;have hp1:=aR hp0;have hfin:ag g=ag p:=(nI hG hgnd).symm;simp -dsimp only[go_sem,h7,k5];refine aK (gk p aw) ?_;by_cases h1:aa p=1
    ·have e6:decide ((aa p:Int)-1<1)=true:=aF aw;simp -dsimp only[go_sem,e6,k6];refine aK (cF (dK 0) aw (by rw[cS];omega)) ?_;simp -dsimp only[go_sem];rw[hfin,uu h1,mq]
    ·have e6:decide ((aa p:Int)-1<1)=false:=aG aw;simp -dsimp only[go_sem,e6,k6,h7];have mul:=eI (dK 0) hp aw (by rw[cS];omega) aw;rw[one_mul]at mul;refine aK mul ?_;simp -dsimp only[go_sem];refine aK (cF hp aw aw) ?_;simp -dsimp only[go_sem];rw[hfin]
theorem Ae {n d:PQ} (h:aa n=1\/aa d=1):IsG 1 n d:=by
 have unit:∀ x:PQ,aa x=1->Dv x 1:=fun x hx=>by
  have h3:=dS (Nat.le_of_eq hx);have h4:x.c 0≠0:=fun e9=>by
   rw[e9,show an (0:Rat)=0 from cC]at h3;rw[h3,aM.2 rfl]at hx;omega
  exact⟨an (Alg.inv (x.c 0)),by rw[h3];simp only[nV];rw[<-bC,mul_inv h4];rfl⟩
 refine⟨Dv.one _,Dv.one _,fun x h1 h2=>?_⟩;rcases h with h3|h3
 ·exact h1.trans (unit n h3)
 ·exact h2.trans (unit d h3)
theorem Kh {n d:PQ} {w h N:Nat} (hd0:d≠0) (hn:am h n) (hd:am h d) (tn:aa n<=N) (td:aa d<=N) (hN:N<=250000) (hf:FB w (Alg.fr n d))
  (hb:(2*(ah w+h)+1)+(N+2)*((2*(ah w+h)+1)+1)+2*(2*(ah w+h)+1)+2*N<=68719476000) :
  ∃ g:PQ,IsG g n d/\am (2*(ah w+h)+1) g/\aa g<=aa d/\g≠0/\lc g=1/\Fn Tryz.prog 94 [iUp n,iUp d] [iUp g]:=by
 have p2:=aR hd0;by_cases hn0:n=0
 ·have call:=n5 hn hd aw aw aw aw (.inl hn0);rw[lI,if_pos hn0]at call;refine⟨ag d,?_,hd.mo.mono aw,Nat.le_of_eq fV,jn hd0,D6 hd0,call⟩;rw[hn0];exact x5 hd0 ⟨Dv.zero _,Dv.refl _,fun x _ hx=>hx⟩
 have p1:=aR hn0;have hf0:Alg.fr n d≠0:=fun e=>hn0 ((cE hd0).1 e);have hs:Sm w n d:=by
  obtain⟨A,B,h1,h2,h3,h4,h5,h6⟩:=hf;have hA:A≠0:=fun e=>hf0 (by rw[h2,e,cK];exact(cE (dy h1)).2 rfl);exact⟨A,B,hA,h1,by rw[(fG hd0 (dy h1)).1 h2,mul_comm],h3,h4,h5,h6⟩
 by_cases h11:aa n=1/\aa d=1
 ·have call:=n5 hn hd aw aw aw aw (.inr (.inr h11));rw[lI,if_neg hn0,if_neg hd0]at call;exact⟨1,Ae (.inl h11.1),dK _,by rw[cS];omega,fQ,uA,call⟩
 by_cases hbig:2<=aa n/\2<=aa d
 ·obtain⟨h1,h2,h3,h4⟩:=qU hs hn hd hbig.1 hbig.2;exact⟨_,x5 h4 h1,h2.mo,by rw[fV];exact h3,jn h4,D6 h4,A2 hs hn hd hn0 hd0 h11 tn td hN h1 hb⟩
 ·have hu:=Ae (n:=n) (d:=d) aw;have call:=A2 hs hn hd hn0 hd0 h11 tn td hN hu hb;rw[mq]at call;exact⟨1,hu,dK _,by rw[cS];omega,fQ,uA,call⟩
theorem LA {f:KQ} {w:Nat} (h:FB w f):am (ah w) (nN f)/\am (ah w) (ae f)/\aa (nN f)<=w+1/\aa (ae f)<=w+1:=by
 by_cases hf:f=0
 ·rw[hf,mi.1,mi.2,cS,aM.2 rfl];exact⟨am.zero _,dK _,aw,aw⟩
 ·exact xO h hf
theorem EL {n d:PQ} {h N w:Nat} (hd0:d≠0) (hn:am h n) (hd:am h d) (tn:aa n<=N) (td:aa d<=N) (hN:N<=250000) (hf:FB w (Alg.fr n d))
  (hb:(2*(ah w+h)+1)+(N+2)*((2*(ah w+h)+1)+1)+2*(2*(ah w+h)+1)+2*N<=68719476000):Fn Tryz.prog 116 [iUp n,iUp d] [iK (Alg.fr n d),iN 0]:=by
 obtain⟨zN,zD,_,_⟩:=LA hf;obtain⟨g,hg,hgH,hgs,hg0,hgl,hG⟩:=Kh hd0 hn hd tn td hN hf hb;obtain⟨n1,e1⟩:=hg.1;obtain⟨d1,e2⟩:=hg.2.1;rw[mul_comm]at e1 e2;have hd1:d1≠0:=fun e=>hd0 (by rw[e2,e,zero_mul]);have hl:lc d1=lc d:=by rw[e2,gU,hgl,mul_one]
 have hl0:lc d1≠(0:Rat):=bN hd1;obtain⟨f1,f2⟩:=II hd0 hg e1 e2;have back:∀ x:PQ,x=x*an (1/lc d1)*an (lc d1):=fun x=>by
  rw[mul_assoc,<-bC];have:(1:Rat)/lc d1*lc d1=1:=Rat.div_mul_cancel hl0;rw[show((1:Rat)/lc d1*lc d1:Rat)=1 from this,bP,mul_one]
 have hC:am h (an (lc d1)):=by rw[hl];exact mX hd _
 have bn:am (ah w+h) n1:=by rw[back n1,<-f1];exact zN.mul hC
 have bd:am (ah w+h) d1:=by rw[back d1,<-f2];exact zD.mul hC
 have s1:aa n1<=aa n:=by
  by_cases hn1:n1=0
  ·rw[hn1,aM.2 rfl];omega
  ·have:=dz hn1 hg0;rw[<-e1]at this;have:=aR hg0;omega
 have s2:=dz hd1 hg0;rw[<-e2]at s2;have pg:=aR hg0;have hH1:(aa n+2)*((2*(ah w+h)+1)+1)<=(N+2)*((2*(ah w+h)+1)+1):=Nat.mul_le_mul_right _ aw;have hH2:(aa d+2)*((2*(ah w+h)+1)+1)<=(N+2)*((2*(ah w+h)+1)+1):=Nat.mul_le_mul_right _ aw;obtain⟨L,hL⟩:=gy hd1;obtain⟨b1,b2⟩:=jJ (x:=1) (h:=0) hl0 ⟨aH,aH⟩ (bd.coef (aa d1-1));have dn:=vn hn hgH hg0 aw aw aw;rw[gY hg0 e1]at dn;have dd:=vn hd hgH hg0 aw aw aw;rw[gY hg0 e2]at dd;have hc:=ir b1 b2 (k:=17179869184) aw;have sn:=mH bn aw aw hc;have sd:=mH bd aw aw hc;have cL:(U d1)[0]?=some (⟨((aa d1-1:Nat):Int),0,0,0⟩,lc d1):=by rw[hL];rfl
 have e3:=hzU d;rw[aG hd0]at e3;rw[<-f1]at sn;rw[<-f2]at sd;refine aJ (fn:=Tryz.f116) ?_;simp -dsimp only[go_sem,e3,az];refine ao hG rfl ?_;simp -dsimp only[go_sem];refine ao dn rfl ?_;simp -dsimp only[go_sem];refine ao dd rfl ?_;simp -dsimp only[go_sem];refine ap 7 [11] false true ?_;simp -dsimp only[go_sem];refine aK (d8 1 aH) ?_;simp -dsimp only[go_sem,Int.reduceToNat,Int.reduceLE,aC];refine aP cL ?_;simp -dsimp only[go_sem,Int.reduceToNat,Int.reduceLE,aC];refine aQ (args':=[iQ 1,iQ (lc d1)]) rfl (xb 1 _ hl0 n6 (ir (bd.coef _).1 (bd.coef _).2 aw)) ?_;simp -dsimp only[go_sem];refine ap 7 [] false true ?_;simp -dsimp only[go_sem,Int.reduceToNat,Int.reduceLE,aC];refine ao sn rfl ?_;simp -dsimp only[go_sem,Int.reduceToNat,Int.reduceLE,aC];refine ao sd rfl ?_;simp -dsimp only[go_sem,Int.reduceToNat,Int.reduceLE,aC]
theorem MX {n d:PQ} {h N w:Nat} (hd0:d≠0) (hn:am h n) (hd:am h d) (tn:aa n<=N) (td:aa d<=N) (hN:N<=250000) (hf:FB w (Alg.fr n d))
  (hb:(2*(ah w+h)+1)+(N+2)*((2*(ah w+h)+1)+1)+2*(2*(ah w+h)+1)+2*N<=68719476000):Fn Tryz.prog 76 [iUp n,iUp d] [iK (Alg.fr n d)]:=by
 have:=EL hd0 hn hd tn td hN hf hb;refine aJ (fn:=Tryz.f76) ?_;simp -dsimp only[go_sem];refine aK this ?_;simp -dsimp only[go_sem]
theorem MY {n d:PQ} (hd0:d≠0) (hn:am 8024009 n) (hd:am 8024009 d) (tn:aa n<=2003) (td:aa d<=2003) (hf:FW (Alg.fr n d)):Fn Tryz.prog 116 [iUp n,iUp d] [iK (Alg.fr n d),iN 0] :=
 EL hd0 hn hd tn td aw hf (by rw[L9];omega)
theorem yu {n d:PQ} (hd0:d≠0) (hn:am 8024009 n) (hd:am 8024009 d) (tn:aa n<=2003) (td:aa d<=2003) (hf:FW (Alg.fr n d)):Fn Tryz.prog 76 [iUp n,iUp d] [iK (Alg.fr n d)] :=
 MX hd0 hn hd tn td aw hf (by rw[L9];omega)
theorem AW:Fn Tryz.prog 75 [] [iUp 1]:=by
 refine aJ (fn:=Tryz.f75) ?_;simp -dsimp only[go_sem];refine aK (d8 1 aH) ?_;simp -dsimp only[go_sem];refine aQ (args':=[iQ ((1:Int):Rat)]) rfl (oH _ (vr (n:=1) aH _ aH)) ?_;simp -dsimp only[go_sem];rw[nT,du];rfl
theorem w7 (N:List Tm):Fn Tryz.prog 49 [iM N] [iF N (U 1)]:=by
 refine aJ (fn:=Tryz.f49) ?_;simp -dsimp only[go_sem];refine aK AW ?_;simp -dsimp only[go_sem]
theorem w8 (n:PQ):Fn Tryz.prog 49 [iUp n] [iK (Alg.em n)]:=by
 have:=w7 (U n);rwa [NJ]at this
theorem GF (c:Rat):gv c=U (an c):=by
 rw[gv];split
 ·rename_i h;rw[h,show an (0:Rat)=0 from cC,cq]
 ·rename_i h;rw[U_C h]
noncomputable abbrev kz (n:Int):KQ:=Alg.em (an (n:Rat))
theorem Di (c:Rat) (hc:QB 8589934592 c):Fn Tryz.prog 114 [iQ c] [iK (Alg.em (an c))]:=by
 have h1:=oH c hc;rw[GF]at h1;refine aJ (fn:=Tryz.f114) ?_;simp -dsimp only[go_sem];refine ao h1 rfl ?_;simp -dsimp only[go_sem];refine aK (w8 _) ?_;simp -dsimp only[go_sem]
theorem fj (n:Int) (h : -9223372036854775808<=n/\n<9223372036854775808):Fn Tryz.prog 73 [iN n] [iK (kz n)]:=by
 refine aJ (fn:=Tryz.f73) ?_;simp -dsimp only[go_sem];refine aK (d8 n h) ?_;simp -dsimp only[go_sem];refine aQ (args':=[iQ (n:Rat)]) rfl (Di (n:Rat) (vr h _ aH)) ?_;simp -dsimp only[go_sem]
theorem J9:Fn Tryz.prog 47 [iN 0] [iK (Alg.em ak)]:=by
 have h1:=iR 0 aw;rw[show[((e0.to 0 1:Ex),(1:Rat))]=U ak from U_X.symm]at h1;refine aJ (fn:=Tryz.f47) ?_;simp -dsimp only[go_sem];refine ao h1 rfl ?_;simp -dsimp only[go_sem];refine aK (w8 _) ?_;simp -dsimp only[go_sem]
theorem vh {p q:PQ} {h k:Nat} (hp:am h p) (hq:am k q) (hb:h<=137438953000) (hb':k<=137438953000) (sp:aa p<=1048576):Fn Tryz.prog 93 [iUp p,iUp q] [iB (decide (p=q))]:=by
 have:=rO (U p) (U q) (by have:=dF p;omega) (HB.qb hp aw) (HB.qb hq aw);have e:decide (U p=U q)=decide (p=q):=by
  rw[decide_eq_decide];exact⟨fun h=>by rw[<-im p,<-im q,h],fun h=>by rw[h]⟩
 rwa [e]at this
theorem vm {f g:KQ} (hf:FW f) (hg:FW g):Fn Tryz.prog 87 [iK f,iK g] [iB (decide (f=g))]:=by
 obtain⟨a1,a2,a3,a4⟩:=ff hf;obtain⟨b1,b2,b3,b4⟩:=ff hg;refine aJ (fn:=Tryz.f87) ?_;simp -dsimp only[go_sem,Int.reduceToNat,Int.reduceLE,aC];refine ao (vh a1 b1 aw aw aw) rfl ?_;by_cases h:nN f=nN g
 ·rw[aF h];simp -dsimp only[go_sem,Int.reduceToNat,Int.reduceLE,aC];refine ao (vh a2 b2 aw aw aw) rfl ?_;simp -dsimp only[go_sem];have e:decide (ae f=ae g)=decide (f=g):=by
   rw[decide_eq_decide,Q5];exact⟨fun h'=>⟨h,h'⟩,fun h'=>h'.2⟩
  rw[e]
 ·rw[aG h];simp -dsimp only[go_sem];rw[aG (fun e=>h (Q5.1 e).1)]
theorem GT {f g:KQ} (hf:FW f) (hg:FW g):Fn Tryz.prog 41 [iK f,iK g] [iB (decide (f=g))]:=by
 refine aJ (fn:=Tryz.f41) ?_;simp -dsimp only[go_sem];refine ao (vm hf hg) rfl ?_;simp -dsimp only[go_sem]
theorem w4 (f:KQ):Fn Tryz.prog 34 [iK f] [iB (decide (f=0))]:=by
 refine aJ (fn:=Tryz.f34) ?_;have e:decide (((U (nN f)).length:Int)=0)=decide (f=0):=by rw[hzU,decide_eq_decide,nB]
 simp -dsimp only[go_sem,az,Int.reduceToNat,Int.reduceLE,aC,e]
theorem AZ {f:KQ} (hf:FW f):Fn Tryz.prog 40 [iK f] [iK (-f)]:=by
 obtain⟨a1,a2,a3,a4⟩:=ff hf;have sc:=mH (c:=((-1:Int):Rat)) a1 aw aw (vr (n := -1) aH _ aH);rw[show nN f*an ((-1:Int):Rat) = -nN f by rw[show an ((-1:Int):Rat) = -(1:PQ)from kM (1:Rat),mul_neg,mul_one],<-(xP f).1]at sc;have e:iF (U (nN (-f))) (U (ae f))=iK (-f):=by rw[<-(xP f).2]
 refine aJ (fn:=Tryz.f40) ?_;simp -dsimp only[go_sem];refine ap 7 [] false true ?_;simp -dsimp only[go_sem,Int.reduceToNat,Int.reduceLE,aC];refine aK (d8 (-1) aH) ?_;simp -dsimp only[go_sem,Int.reduceToNat,Int.reduceLE,aC];refine ao sc rfl ?_;simp -dsimp only[go_sem,Int.reduceToNat,Int.reduceLE,aC];exact congrArg (fun x=>some [x]) e
theorem vk {f g:KQ} (hf:FW f) (hg:FW g) (h:FW (f*g)):Fn Tryz.prog 37 [iK f,iK g] [iK (f*g)]:=by
 obtain⟨a1,a2,a3,a4⟩:=ff hf;obtain⟨b1,b2,b3,b4⟩:=ff hg;have d1:=(dj f).1;have d2:=(dj g).1;have e:f*g=Alg.fr (nN f*nN g) (ae f*ae g):=by
  conv=>lhs;rw[<-fY f,<-fY g]
  exact fi d1 d2
 have s1:=bf (nN f) (nN g);have s2:=bf (ae f) (ae g);have of:=yu (a6 d1 d2) ((a1.mul b1).mono aw) ((a2.mul b2).mono aw) aw aw (by rw[<-e];exact h);rw[<-e]at of;refine aJ (fn:=Tryz.f37) ?_;simp -dsimp only[go_sem];refine ap 11 [] false true ?_;simp -dsimp only[go_sem,Int.reduceToNat,Int.reduceLE,aC];refine ao (eI a1 b1 aw aw aw) rfl ?_;simp -dsimp only[go_sem,Int.reduceToNat,Int.reduceLE,aC];refine ao (eI a2 b2 aw aw aw) rfl ?_;simp -dsimp only[go_sem,Int.reduceToNat,Int.reduceLE,aC];refine aK of ?_;simp -dsimp only[go_sem]
theorem Ki {f g:KQ} (hf:FW f) (hg:FW g) (hg0:g≠0) (h:FW (f*Alg.inv g)):Fn Tryz.prog 118 [iK f,iK g] [iK (f*Alg.inv g),iN 0]:=by
 obtain⟨a1,a2,a3,a4⟩:=ff hf;obtain⟨b1,b2,b3,b4⟩:=ff hg;have d1:=(dj f).1;have d2:=(dj g).1;have n2:nN g≠0:=fun e=>hg0 (nB.1 e);have e:f*Alg.inv g=Alg.fr (nN f*ae g) (ae f*nN g):=by
  conv=>lhs;rw[<-fY f,<-fY g,x6 n2 d2]
  exact fi d1 n2
 have s1:=bf (nN f) (ae g);have s2:=bf (ae f) (nN g);have of:=MY (a6 d1 n2) ((a1.mul b2).mono aw) ((a2.mul b1).mono aw) aw aw (by rw[<-e];exact h);rw[<-e]at of;refine aJ (fn:=Tryz.f118) ?_;simp -dsimp only[go_sem];refine ap 13 [] false true ?_;simp -dsimp only[go_sem,Int.reduceToNat,Int.reduceLE,aC];refine ao (eI a1 b2 aw aw aw) rfl ?_;simp -dsimp only[go_sem,Int.reduceToNat,Int.reduceLE,aC];refine ao (eI a2 b1 aw aw aw) rfl ?_;simp -dsimp only[go_sem,Int.reduceToNat,Int.reduceLE,aC];refine aK of ?_;simp -dsimp only[go_sem]
theorem rN {f g:KQ} (hf:FW f) (hg:FW g) (hg0:g≠0) (h:FW (f*Alg.inv g)):Fn Tryz.prog 78 [iK f,iK g] [iK (f*Alg.inv g)]:=by
 refine aJ (fn:=Tryz.f78) ?_;simp -dsimp only[go_sem];refine ao (Ki hf hg hg0 h) rfl ?_;simp -dsimp only[go_sem]
theorem vq {f g:KQ} (hf:FW f) (hg:FW g) (h:FW (f+g)):Fn Tryz.prog 46 [iK f,iK g] [iK (f+g)]:=by
 obtain⟨a1,a2,a3,a4⟩:=ff hf;obtain⟨b1,b2,b3,b4⟩:=ff hg;have d1:=(dj f).1;have d2:=(dj g).1;have e:f+g=Alg.fr (nN f*ae g+nN g*ae f) (ae f*ae g):=by
  conv=>lhs;rw[<-fY f,<-fY g]
  rw[fZ d1 d2]
 have s1:=bf (nN f) (ae g);have s2:=bf (nN g) (ae f);have s3:=bf (ae f) (ae g);have s4:aa (nN f*ae g+nN g*ae f)<=2003:=dh aw aw;have of:=yu (a6 d1 d2) (((a1.mul b2).add (b1.mul a2)).mono aw) ((a2.mul b2).mono aw) s4 aw (by rw[<-e];exact h);rw[<-e]at of;refine aJ (fn:=Tryz.f46) ?_;simp -dsimp only[go_sem];refine ap 17 [] false true ?_;simp -dsimp only[go_sem,Int.reduceToNat,Int.reduceLE,aC];refine ao (eI a1 b2 aw aw aw) rfl ?_;simp -dsimp only[go_sem,Int.reduceToNat,Int.reduceLE,aC];refine ao (eI b1 a2 aw aw aw) rfl ?_;simp -dsimp only[go_sem,Int.reduceToNat,Int.reduceLE,aC];refine aK (Kj (a1.mul b2) (b1.mul a2) aw aw aw aw) ?_;simp -dsimp only[go_sem,Int.reduceToNat,Int.reduceLE,aC];refine ao (eI a2 b2 aw aw aw) rfl ?_;simp -dsimp only[go_sem,Int.reduceToNat,Int.reduceLE,aC];refine aK of ?_;simp -dsimp only[go_sem]
theorem yv (a b:List KQ) (hl:a.length<=1099511627776) (hx:∀ f∈a,FW f) (hy:∀ f∈b,FW f):Fn Tryz.prog 112 [kl a,kl b] [iB (decide (a=b))]:=by
 refine aJ (fn:=Tryz.f112) ?_;by_cases hab:a.length=b.length
 ·have e1:decide ((a.length:Int)=(b.length:Int))=true:=aF aw;simp -dsimp only[go_sem,e1,az];refine a8 [(4,5),(11,26)] [] [] (fun n τ β ε=>∃ i:Nat,n=a.length-i/\i<=a.length/\a.take i=b.take i/\τ 5 = .i (iN i))
   (fun e τ β ε=>(e = .exit 0/\a=b)\/(e = .ret/\¬ a=b/\τ 4 = .i (.c (.v (.bool false))))) a.length ?_ ?_ ?_
  ·exact⟨0,aw,aw,rfl,rfl⟩
  ·rintro n τ β ε π hK hKB hKE ⟨i,hn,hi,he,h5⟩;have k0:τ 0 = .i (kl a):=(hK 0 rfl).trans rfl;have k1:τ 1 = .i (kl b):=(hK 1 rfl).trans rfl;by_cases hlt:i<a.length
   ·have dA:decide ((i:Int)<(a.length:Int))=true:=aF aw;have hlb:i<b.length:=aw;have ga:a[i]?=some a[i]:=by simp[hlt]
    have gb:b[i]?=some b[i]:=by simp[hlb]
    simp -dsimp only[go_sem,h5,k0,dA,az];refine ap 10 [] false true ?_;simp -dsimp only[go_sem,h5,k0,k1];refine aP ga ?_;simp -dsimp only[go_sem,h5,k0,k1];refine aP gb ?_;simp -dsimp only[go_sem,h5,k0,k1];refine aQ (args':=[iK a[i],iK b[i]]) rfl (vm (hx _ (List.getElem_mem _)) (hy _ (List.getElem_mem _))) ?_;by_cases hc:a[i]=b[i]
    ·have e2:decide (a[i]=b[i])=true:=aF hc;simp -dsimp only[go_sem,e2,h5]
     repeat(refine And.intro aw ?_)
     refine again (a.length-(i+1)) aw ⟨(aA hK),hKB,hKE,i+1,rfl,aw,?_,rfl⟩;rw[aq hlt,aq hlb,he,hc]
    ·have e2:decide (a[i]=b[i])=false:=aG hc;simp -dsimp only[go_sem,e2];exact⟨(aA hK),hKB,hKE,fun e=>hc (by simp[e])⟩
   ·have dA:decide ((i:Int)<(a.length:Int))=false:=aG aw;obtain rfl:i=a.length:=aw;simp -dsimp only[go_sem,h5,k0,dA,az];have:a=b:=by rw[List.take_length,List.take_of_length_le aw]at he;exact he
    exact⟨(aA hK),hKB,hKE,this⟩
  ·rintro e τ β ε π hK hKB hKE h;rcases h with⟨rfl,h⟩|⟨rfl,h,h6⟩
   ·simp -dsimp only[go_sem,h]
   ·simp -dsimp only[go_sem,h,h6]
 ·have e1:decide ((a.length:Int)=(b.length:Int))=false:=aG aw;simp -dsimp only[go_sem,e1,az];have:¬ a=b:=fun e=>hab (by rw[e]);rw[aG this]
theorem vj (a b:List KQ) (hl:a.length<=1099511627776) (hx:∀ f∈a,FW f) (hy:∀ f∈b,FW f):Fn Tryz.prog 15 [kl a,kl b] [iB (decide (a=b))]:=by
 have h66:Fn Tryz.prog 66 [kl a,kl b] [iB (decide (a=b))]:=by
  refine aJ (fn:=Tryz.f66) ?_;simp -dsimp only[go_sem];refine aK (yv a b hl hx hy) ?_;simp -dsimp only[go_sem]
 refine aJ (fn:=Tryz.f15) ?_;simp -dsimp only[go_sem];refine aK h66 ?_;simp -dsimp only[go_sem]
theorem lS (l:List KQ) (hl:l.length<=1048576):Fn Tryz.prog 61 [kl l] [kl (dO l)]:=by
 refine aJ (fn:=Tryz.f61) ?_;simp -dsimp only[go_sem,az];refine a8 [(3,3),(6,17)] [] [] (fun n τ β ε=>∃ t:Nat,n=t/\t<=l.length/\(∀ j (hj:j<l.length),t<=j->l[j]=0)/\τ 3 = .i (iN t))
  (fun e τ β ε=>e = .exit 0/\∃ t:Nat,t<=l.length/\dO l=l.take t/\τ 3 = .i (iN t)) l.length ?_ ?_ ?_
 ·exact⟨l.length,rfl,ay _,fun j hj h=>by omega,rfl⟩
 ·rintro n τ β ε π hK hKB hKE ⟨t,hn,ht,hz,h3⟩;have k0:τ 0 = .i (kl l):=(hK 0 rfl).trans rfl;by_cases ht0:t=0
  ·have dA:decide ((0:Int)<(t:Int))=false:=aG aw;simp -dsimp only[go_sem,h3,dA];exact⟨(aA hK),hKB,hKE,t,ht,iu ht hz (fun _ h=>by omega),rfl⟩
  ·have dA:decide ((0:Int)<(t:Int))=true:=aF aw;have ei:(t:Int)-1=((t-1:Nat):Int):=aw;have gl:l[t-1]?=some l[t-1]:=aD aw;simp -dsimp only[go_sem,h3,k0,dA,ei]
   repeat(refine And.intro aw ?_)
   refine aP gl ?_;simp -dsimp only[go_sem,h3];refine aQ (args':=[iK l[t-1]]) rfl (w4 _) ?_;by_cases hc:l[t-1]=0
   ·have e2:decide (l[t-1]=0)=true:=aF hc;simp -dsimp only[go_sem,e2,h3,ei]
    repeat(refine And.intro aw ?_)
    refine again (t-1) aw ⟨(aA hK),hKB,hKE,t-1,rfl,aw,fun j hj h=>?_,rfl⟩;by_cases e:j=t-1
    ·subst e;exact hc
    ·exact hz j hj aw
   ·have e2:decide (l[t-1]=0)=false:=aG hc;simp -dsimp only[go_sem,e2];exact⟨(aA hK),hKB,hKE,t,ht,iu ht hz (fun _ _=>hc),h3⟩
 ·rintro e τ β ε π hK hKB hKE ⟨rfl,t,ht,he,h3⟩;have k0:τ 0 = .i (kl l):=(hK 0 rfl).trans rfl;simp -dsimp only[go_sem,h3,k0,Int.reduceToNat,Int.reduceLE,aC,az];refine⟨ht,fun r hr=>?_,aw,?_⟩
  ·obtain⟨f,-,rfl⟩:=List.mem_map.1 (List.mem_of_mem_take hr);rfl
  ·rw[List.take_of_length_le au,he,<-List.map_take]
theorem pz (l:List KQ) (i:Int):Fn Tryz.prog 72 [kl l,iN i] [iK (if i<0 then 0 else l.getD i.toNat 0)]:=by
 refine aJ (fn:=Tryz.f72) ?_;by_cases h0:i<0
 ·have d0:decide (i<0)=true:=aF h0;simp -dsimp only[go_sem,d0];refine aK (fj 0 aH) ?_;simp -dsimp only[go_sem];rw[if_pos h0,show kz 0=0 from fS]
 ·have d0:decide (i<0)=false:=aG h0;rw[if_neg h0];by_cases h1:i<l.length
  ·have d1:decide ((l.length:Int)<=i)=false:=aG aw;obtain⟨j,rfl⟩:∃ j:Nat,i=j:=⟨i.toNat,aw⟩;have gl:l[j]?=some l[j]:=aD aw;simp -dsimp only[go_sem,d0,d1,az];refine aP gl ?_;simp -dsimp only[go_sem];rw[List.getD_eq_getElem?_getD,gl];rfl
  ·have d1:decide ((l.length:Int)<=i)=true:=aF aw;simp -dsimp only[go_sem,d0,d1,az];refine aK (fj 0 aH) ?_;simp -dsimp only[go_sem];rw[show kz 0=0 from fS,List.getD_eq_getElem?_getD,List.getElem?_eq_none aw];rfl
theorem pM {f:Nat->KQ} {n:Nat} {r:KP} (h1:∀ i,i<n->f i=r.c i) (h2:aa r<=n):dO ((List.range n).map f)=aj r:=by
 rw[gL];congr 1;refine Alg.P.ext fun i=>?_;rw[uk];by_cases h:i<n
 ·rw[<-h1 i h];simp[List.getD,h]
 ·rw[aO (by omega:aa r<=i)];simp[List.getD,h]
theorem gO (f:Nat->KQ) (n:Nat):((List.range n).map f).length=n:=au
theorem nv (f:Nat->KQ) (n:Nat):(List.range (n+1)).map f=(List.range n).map f++[f n]:=by rw[List.range_succ,List.map_append];rfl
theorem Eg (p:KP) (i:Nat):(if((i:Nat):Int)<0 then(0:KQ)else(aj p).getD ((i:Nat):Int).toNat 0)=p.c i:=by
 rw[if_neg aw,Int.toNat_natCast,mC]
theorem Kg {p q:KP} {w v:Nat} (hp:PW w p) (hq:PW v q) (hb:w+v+1<=1000) (hs:aa p<=1000) (hs':aa q<=1000):Fn Tryz.prog 21 [ku p,ku q] [ku (p+q)]:=by
 have lp:=aZ p;have lq:=aZ q;refine aJ (fn:=Tryz.f21) ?_;simp -dsimp only[go_sem];refine cv 5 7 2 (rs:=[]) rfl au ?_;refine bt [(5,6),(8,29)] [] [(7,7),(29,29)] (fun n τ β ε=>∃ i:Nat,n=max (aa p) (aa q)-i/\i<=max (aa p) (aa q)/\τ 6 = .i (iN i)/\Own 2 (((List.range i).map fun j=>p.c j+q.c j).map kr) 5 7 τ ε)
  (fun e τ β ε=>e = .exit 0/\Own 2 (((List.range (max (aa p) (aa q))).map fun j=>p.c j+q.c j).map kr) 5 7 τ ε) (max (aa p) (aa q)) ?_ ?_ ?_
 ·exact⟨0,aw,aw,rfl,Own.mk (g:=1) (mm:=false) aw rfl rfl rfl⟩
 ·rintro n τ β ε π hK hKB hKE ⟨i,hn,hi,h6,g,mm,hg,h5,h7⟩;rw[az,gO]at h5;have k0:τ 0 = .i (ku p):=(hK 0 rfl).trans rfl;have k1:τ 1 = .i (ku q):=(hK 1 rfl).trans rfl;by_cases hlt:i<max (aa p) (aa q)
  ·have go:∀ K:Prop,K->K:=fun _ h=>h;have c1:=pz (aj p) (i:Int);have c2:=pz (aj q) (i:Int);rw[Eg]at c1 c2;by_cases hip:i<aa p
   ·have dA:decide ((i:Int)<(aa p:Int))=true:=aF aw;simp -dsimp only[go_sem,h6,k0,k1,dA,az,lp,lq,h5];refine aK c1 ?_;simp -dsimp only[go_sem,h6,k0,k1];refine aK c2 ?_;simp -dsimp only[go_sem,h6,k0,k1];refine ao (vq ((hp i).mono aw) ((hq i).mono aw) (((hp i).add (hq i)).mono aw)) rfl ?_;simp -dsimp only[go_sem,h5,h7,hg,h6,az,List.length_range]
    repeat(refine And.intro aw ?_)
    refine be (max (aa p) (aa q)-(i+1)) 5 29 7 aw rfl rfl aw aH ⟨(aA hK),hKB,(aA hKE),i+1,rfl,aw,rfl,?_⟩;exact Own.mk2 (Nat.succ_pos _) (by simp -dsimp only[go_sem];rfl) (by simp -dsimp only[go_sem];rfl) au (by rw[nv,List.map_append];rfl)
   ·have dA:decide ((i:Int)<(aa p:Int))=false:=aG aw;have dB:decide ((i:Int)<(aa q:Int))=true:=aF aw;simp -dsimp only[go_sem,h6,k0,k1,dA,dB,az,lp,lq,h5];refine aK c1 ?_;simp -dsimp only[go_sem,h6,k0,k1];refine aK c2 ?_;simp -dsimp only[go_sem,h6,k0,k1];refine ao (vq ((hp i).mono aw) ((hq i).mono aw) (((hp i).add (hq i)).mono aw)) rfl ?_;simp -dsimp only[go_sem,h5,h7,hg,h6,az,List.length_range]
    repeat(refine And.intro aw ?_)
    refine be (max (aa p) (aa q)-(i+1)) 5 29 7 aw rfl rfl aw aH ⟨(aA hK),hKB,(aA hKE),i+1,rfl,aw,rfl,?_⟩;exact Own.mk2 (Nat.succ_pos _) (by simp -dsimp only[go_sem];rfl) (by simp -dsimp only[go_sem];rfl) au (by rw[nv,List.map_append];rfl)
  ·obtain rfl:i=max (aa p) (aa q):=aw;have dA:decide (((max (aa p) (aa q):Nat):Int)<(aa p:Int))=false:=aG aw;have dB:decide (((max (aa p) (aa q):Nat):Int)<(aa q:Int))=false:=aG aw;simp -dsimp only[go_sem,h6,k0,k1,dA,dB,az,lp,lq];exact⟨(aA hK),hKB,hKE,Own.mk hg h5 au h7⟩
 ·rintro e τ β ε π hK hKB hKE ⟨rfl,g,mm,hg,h5,h7⟩;rw[az,gO]at h5;refine⟨_,bA.freeze _ 7,?_⟩;simp -dsimp only[go_sem,h5,h7,hg];refine aQ (args':=[kl ((List.range (max (aa p) (aa q))).map fun j=>p.c j+q.c j)]) (by rw[List.take_of_length_le au]) (lS _ (by rw[gO];omega)) ?_;simp -dsimp only[go_sem];rw[pM (r:=p+q) (fun i _=>(ce p q i).symm) (dh aw aw)]
theorem yy {p:KP} {c:KQ} {w v:Nat} (hp:PW w p) (hc:FB v c) (hb:w+v<=1000) (hs:aa p<=1000):Fn Tryz.prog 36 [ku p,iK c] [ku (p*an c)]:=by
 have lp:=aZ p;refine aJ (fn:=Tryz.f36) ?_;simp -dsimp only[go_sem];refine cv 5 7 2 (rs:=[]) rfl au ?_;refine bt [(5,6),(8,22)] [] [(7,7),(22,22)] (fun n τ β ε=>∃ i:Nat,n=aa p-i/\i<=aa p/\τ 6 = .i (iN i)/\Own 2 (((List.range i).map fun j=>p.c j*c).map kr) 5 7 τ ε)
  (fun e τ β ε=>e = .exit 0/\Own 2 (((List.range (aa p)).map fun j=>p.c j*c).map kr) 5 7 τ ε) (aa p) ?_ ?_ ?_
 ·exact⟨0,aw,aw,rfl,Own.mk (g:=1) (mm:=false) aw rfl rfl rfl⟩
 ·rintro n τ β ε π hK hKB hKE ⟨i,hn,hi,h6,g,mm,hg,h5,h7⟩;rw[az,gO]at h5;have k0:τ 0 = .i (ku p):=(hK 0 rfl).trans rfl;have k3:τ 3 = .bp 3 1 0:=(hK 3 rfl).trans rfl;have b3:β 3=⟨1,kr c⟩:=(hKB 3 rfl).trans rfl;by_cases hlt:i<aa p
  ·have dA:decide ((i:Int)<(aa p:Int))=true:=aF aw;have gp:(aj p)[i]?=some (p.c i):=by rw[aD aw,hO]
   simp -dsimp only[go_sem,h6,k0,k3,dA,az,lp,h5,b3];refine ap 10 [] true false ?_;simp -dsimp only[go_sem,h6,k0,k3,dA,az,lp,h5,b3];refine aP gp ?_;simp -dsimp only[go_sem,h6,k0,k3,dA,az,lp,h5,b3,Int.reduceToNat,Int.reduceLE,aC];refine ao (vk ((hp i).mono aw) (hc.mono aw) (((hp i).mul hc).mono aw)) rfl ?_;simp -dsimp only[go_sem,h5,h7,hg,h6,az,List.length_range]
   repeat(refine And.intro aw ?_)
   refine be (aa p-(i+1)) 5 22 7 aw rfl rfl aw aH ⟨(aA hK),hKB,(aA hKE),i+1,rfl,aw,rfl,?_⟩;exact Own.mk2 (Nat.succ_pos _) (by simp -dsimp only[go_sem];rfl) (by simp -dsimp only[go_sem];rfl) au (by rw[nv,List.map_append];rfl)
  ·obtain rfl:i=aa p:=aw;have dA:decide ((aa p:Int)<(aa p:Int))=false:=aG aw;simp -dsimp only[go_sem,h6,k0,dA,az,lp];exact⟨(aA hK),hKB,hKE,Own.mk hg h5 au h7⟩
 ·rintro e τ β ε π hK hKB hKE ⟨rfl,g,mm,hg,h5,h7⟩;rw[az,gO]at h5;refine⟨_,bA.freeze _ 7,?_⟩;simp -dsimp only[go_sem,h5,h7,hg];refine aQ (args':=[kl ((List.range (aa p)).map fun j=>p.c j*c)]) (by rw[List.take_of_length_le au]) (lS _ (by rw[gO];omega)) ?_;simp -dsimp only[go_sem];rw[pM (r:=p*an c) (fun i _=>(ol ..).symm) (cm fun i hi=>by rw[ol,aO hi,zero_mul])]
theorem RC {p q:KP} {w v:Nat} (hp:PW w p) (hq:PW v q) (hb:w+v+1<=1000) (hs:aa p<=1000) (hs':aa q<=1000):Fn Tryz.prog 51 [ku p,ku q] [ku (p-q)]:=by
 have hn:PW v (-q):=fun i=>(hq i).neg;have sc:=yy (c:=kn (-1)) hq (gG (w:=0) aH) aw hs';rw[jG]at sc;have ad:=Kg hp hn hb hs (by rw[kQ];exact hs');rw[<-sub_eq]at ad;refine aJ (fn:=Tryz.f51) ?_;simp -dsimp only[go_sem];refine aK (fj (-1) aH) ?_;simp -dsimp only[go_sem];refine ao sc rfl ?_;simp -dsimp only[go_sem];refine aK ad ?_;simp -dsimp only[go_sem]
theorem PV {p:KP} {w:Nat} (hp:PW w p) (hb:w+10<=1000) (hs:aa p<=1000):Fn Tryz.prog 32 [ku p] [ku (der p)]:=by
 have lp:=aZ p;refine aJ (fn:=Tryz.f32) ?_;simp -dsimp only[go_sem];refine cv 3 5 2 (rs:=[]) rfl au ?_;refine bt [(3,4),(6,21)] [] [(5,5),(21,21)] (fun n τ β ε=>∃ i:Nat,n=aa p-i/\(i=0\/i+1<=aa p)/\τ 4 = .i (iN (i+1:Nat))/\Own 2 (((List.range i).map fun j=>kn (j+1:Nat)*p.c (j+1)).map kr) 3 5 τ ε)
  (fun e τ β ε=>e = .exit 0/\Own 2 (((List.range (aa p-1)).map fun j=>kn (j+1:Nat)*p.c (j+1)).map kr) 3 5 τ ε) (aa p) ?_ ?_ ?_
 ·exact⟨0,aw,.inl rfl,rfl,Own.mk (g:=1) (mm:=false) aw rfl rfl rfl⟩
 ·rintro n τ β ε π hK hKB hKE ⟨i,hn,hi,h4,g,mm,hg,h3,h5⟩;rw[az,gO]at h3;have k0:τ 0 = .i (ku p):=(hK 0 rfl).trans rfl;by_cases hlt:i+1<aa p
  ·have dA:decide (((i+1:Nat):Int)<(aa p:Int))=true:=aF aw;have gp:(aj p)[i+1]?=some (p.c (i+1)):=by rw[aD aw,hO]
   have hw:FB 10 (kn ((i+1:Nat):Int)):=gG (by rw[show(2:Nat) ^ 10=1024 from rfl];omega);simp -dsimp only[go_sem,h4,k0,dA,az,lp,h3];refine ap 11 [] true false ?_;simp -dsimp only[go_sem,h4,k0,dA,az,lp,h3];refine aK (fj ((i+1:Nat):Int) aw) ?_;simp -dsimp only[go_sem,h4,k0,dA,az,lp,h3];refine aP gp ?_;simp -dsimp only[go_sem,h4,k0,dA,az,lp,h3];refine aQ (args':=[iK (kn ((i+1:Nat):Int)),iK (p.c (i+1))]) rfl (vk (hw.mono aw) ((hp _).mono aw) ((hw.mul (hp _)).mono aw)) ?_;simp -dsimp only[go_sem,h3,h5,hg,h4,az,List.length_range]
   repeat(refine And.intro aw ?_)
   refine be (aa p-(i+1)) 3 21 5 aw rfl rfl aw aH ⟨(aA hK),hKB,(aA hKE),i+1,rfl,aw,rfl,?_⟩;exact Own.mk2 (Nat.succ_pos _) (by simp -dsimp only[go_sem];rfl) (by simp -dsimp only[go_sem];rfl) au (by rw[nv,List.map_append];rfl)
  ·have dA:decide (((i+1:Nat):Int)<(aa p:Int))=false:=aG aw;have ei:aa p-1=i:=aw;simp -dsimp only[go_sem,h4,k0,dA,az,lp];rw[ei];exact⟨(aA hK),hKB,hKE,Own.mk hg h3 au h5⟩
 ·rintro e τ β ε π hK hKB hKE ⟨rfl,g,mm,hg,h3,h5⟩;rw[az,gO]at h3;refine⟨_,bA.freeze _ 5,?_⟩;simp -dsimp only[go_sem,h3,h5,hg];refine aQ (args':=[kl ((List.range (aa p-1)).map fun j=>kn (j+1:Nat)*p.c (j+1))]) (by rw[List.take_of_length_le au]) (lS _ (by rw[gO];omega)) ?_;simp -dsimp only[go_sem];have ht:=pM (r:=der p) (f:=fun j=>kn ((j+1:Nat):Int)*p.c (j+1)) (n:=aa p-1) (fun i _=>by rw[kf,Eb]) (cm fun i hi=>by rw[kf,aO aw,mul_zero]);rw[ht]
theorem PR:Fn Tryz.prog 73 [iN 0] [iK 0]:=by
 have:=fj 0 aH;rwa [show kz 0=0 from fS]at this
theorem EM {p:KP} (n:Nat) (hn:n<=1000) (hs:aa p<=1000):Fn Tryz.prog 71 [ku p,iN n] [ku (mon n 1*p)]:=by
 have lp:=aZ p;refine aJ (fn:=Tryz.f71) ?_;simp -dsimp only[go_sem];refine cv 5 7 2 (rs:=[]) rfl au ?_;refine bt [(5,6),(8,16)] [] [(7,7),(16,16)] (fun m τ β ε=>∃ i:Nat,m=n-i/\i<=n/\τ 6 = .i (iN i)/\Own 2 (((List.range i).map fun _=>(0:KQ)).map kr) 5 7 τ ε)
  (fun e τ β ε=>e = .exit 0/\Own 2 (((List.range n).map fun _=>(0:KQ)).map kr) 5 7 τ ε) n ?_ ?_ ?_
 ·exact⟨0,aw,aw,rfl,Own.mk (g:=1) (mm:=false) aw rfl rfl rfl⟩
 ·rintro m τ β ε π hK hKB hKE ⟨i,hm,hi,h6,g,mm,hg,h5,h7⟩;rw[az,gO]at h5;have k1:τ 1 = .i (iN n):=(hK 1 rfl).trans rfl;by_cases hlt:i<n
  ·have dA:decide ((i:Int)<(n:Int))=true:=aF aw;simp -dsimp only[go_sem,h6,k1,dA,h5];refine aK PR ?_;simp -dsimp only[go_sem,h5,h7,hg,h6,az,List.length_range]
   repeat(refine And.intro aw ?_)
   refine be (n-(i+1)) 5 16 7 aw rfl rfl aw aH ⟨(aA hK),hKB,(aA hKE),i+1,rfl,aw,rfl,?_⟩;exact Own.mk2 (Nat.succ_pos _) (by simp -dsimp only[go_sem];rfl) (by simp -dsimp only[go_sem];rfl) au (by rw[nv,List.map_append];rfl)
  ·obtain rfl:i=n:=aw;have dA:decide ((i:Int)<(i:Int))=false:=aG aw;simp -dsimp only[go_sem,h6,k1,dA];exact⟨(aA hK),hKB,hKE,Own.mk hg h5 au h7⟩
 ·rintro e τ β ε π hK hKB hKE ⟨rfl,g,mm,hg,h5,h7⟩;rw[az,gO]at h5;have k0:τ 0 = .i (ku p):=(hK 0 rfl).trans rfl;refine⟨_,bA.refl _,?_⟩;simp -dsimp only[go_sem,h5,h7,hg,k0,az,List.length_range,lp];refine⟨aw,?_⟩;refine aQ (args':=[kl ((List.range n).map (fun _=>(0:KQ))++aj p)]) (by rw[List.take_of_length_le (by simp[lp]),<-List.map_append]) (lS _ (by simp[lp];omega)) ?_;simp -dsimp only[go_sem];have e:ac ((List.range n).map (fun _=>(0:KQ))++aj p)=mon n 1*p:=Alg.P.ext fun i=>by
   rw[uk,cu,List.getD_eq_getElem?_getD];by_cases h:n<=i
   ·rw[if_pos h,one_mul,List.getElem?_append_right (by simp;exact h),<-mC,List.getD_eq_getElem?_getD];simp
   ·rw[if_neg h,List.getElem?_append_left ar];simp[show i<n by omega]
  rw[gL,e]
theorem yB (c:KQ):Fn Tryz.prog 29 [iK c] [ku (an c)]:=by
 have h:dO [c]=aj (an c):=by
  have:=pM (f:=fun _=>c) (n:=1) (r:=an c) (fun i hi=>by cases i with|zero=>rfl|succ i=>omega) (cm (n:=1) fun i hi=>by cases i with|zero=>omega|succ i=>rfl)
  exact this
 refine aJ (fn:=Tryz.f29) ?_;simp -dsimp only[go_sem];refine ao (lS [c] au) rfl ?_;simp -dsimp only[go_sem];rw[h]
theorem Df (p:KP) (hp:p≠0) (hs:aa p<=1000):Fn Tryz.prog 79 [ku p] [iK (lc p)]:=by
 have lp:=aZ p;have h0:=aR hp;have c1:=pz (aj p) ((aa p-1:Nat):Int);rw[Eg]at c1;have ei:(aa p:Int)-1=((aa p-1:Nat):Int):=aw;refine aJ (fn:=Tryz.f79) ?_;simp -dsimp only[go_sem,az,lp,ei]
 repeat(refine And.intro aw ?_)
 refine aK c1 ?_;simp -dsimp only[go_sem];rfl
theorem tr {p:KP} {w:Nat} (hp:PW w p) (hb:2*w<=1000) (hs:aa p<=1000):Fn Tryz.prog 26 [ku p] [ku (mn p)]:=by
 have lp:=aZ p;refine aJ (fn:=Tryz.f26) ?_;by_cases h0:p=0
 ·have e1:decide ((aa p:Int)=0)=true:=aF (by rw[h0,aM.2 rfl];rfl);simp -dsimp only[go_sem,az,lp,e1];rw[h0,iJ,fF];rfl
 ·have h1:=aR h0;have e1:decide ((aa p:Int)=0)=false:=aG aw;have hlw:FB w (Alg.inv (lc p)):=(hp _).inv (bN h0);have ov:=rN (f:=kn 1) (g:=lc p) ((gG (w:=0) aH).mono aw) ((hp _).mono aw) (bN h0) (by rw[d7,one_mul];exact hlw.mono aw);rw[d7,one_mul]at ov;have sc:=yy hp hlw aw hs;rw[mul_comm]at sc;simp -dsimp only[go_sem,az,lp,e1];refine aK (fj 1 aH) ?_;simp -dsimp only[go_sem];refine ao (Df p h0 hs) rfl ?_;simp -dsimp only[go_sem];refine ao ov rfl ?_;simp -dsimp only[go_sem];refine ao sc rfl ?_;simp -dsimp only[go_sem];rfl
theorem Qu (p:KP) (n:Nat):aa (tk p n)<=n:=cm fun i hi=>by rw[FE,if_neg aw]
theorem ND (n:Nat) (c:KQ):mon n 1*an c=mon n c:=by
 rw[<-du,dV,Nat.add_zero,one_mul]
theorem Qw (c:KQ):aa (an c)<=1:=cm fun i hi=>by cases i with|zero=>omega|succ i=>rfl
theorem EO {p q:KP} {w v:Nat} (hp:PW w p) (hq:PW v q) (hb:aa q*(v+w+1)<=1000) (hs:aa p+aa q<=1000):Fn Tryz.prog 19 [ku p,ku q] [ku (p*q)]:=by
 have lq:=aZ q;refine aJ (fn:=Tryz.f19) ?_;simp -dsimp only[go_sem];refine lA (bA.imm _ 5 (x:=kl []) rfl) ?_;refine a8 [(5,6),(8,23)] [] [] (fun n τ β ε=>∃ i:Nat,n=aa q-i/\i<=aa q/\τ 6 = .i (iN i)/\τ 5 = .i (ku (tk q i*p)))
  (fun e τ β ε=>e = .exit 0/\τ 5 = .i (ku (p*q))) (aa q) ?_ ?_ ?_
 ·exact⟨0,aw,aw,rfl,by simp -dsimp only[go_sem];rw[l5,zero_mul,fF]⟩
 ·rintro n τ β ε π hK hKB hKE ⟨i,hn,hi,h6,h5⟩;have k0:τ 0 = .i (ku p):=(hK 0 rfl).trans rfl;have k1:τ 1 = .i (ku q):=(hK 1 rfl).trans rfl;by_cases hlt:i<aa q
  ·have dA:decide ((i:Int)<(aa q:Int))=true:=aF aw;have gq:(aj q)[i]?=some (q.c i):=by rw[aD aw,hO]
   have hm:(i+1)*(v+w+1)<=aa q*(v+w+1):=Nat.mul_le_mul_right _ aw;have hm1:1*(v+w+1)<=aa q*(v+w+1):=Nat.mul_le_mul_right _ aw;have e1:mon i 1*(p*an (q.c i))=mon i (q.c i)*p:=by rw[mul_comm p,<-mul_assoc,ND]
   have e2:tk q i*p+mon i (q.c i)*p=tk q (i+1)*p:=by rw[oh,add_mul]
   have s1:=bf (tk q i) p;have s2:=Qu q i;have s3:aa (p*an (q.c i))<=aa p:=cm fun j hj=>by rw[ol,aO hj,zero_mul]
   have s4:aa (mon i (q.c i)*p)<=i+aa p:=cm fun j hj=>by
    rw[cu];split
    ·rw[aO (p:=p) aw,mul_zero]
    ·rfl
   have ad:=Kg (DB hq hp i) (ut (i:=i) (hq i) hp) (by rw[Nat.succ_mul]at hm;omega) aw aw;rw[e2]at ad;have ra:=EM (p:=p*an (q.c i)) i aw aw;rw[e1]at ra;simp -dsimp only[go_sem,h6,h5,k0,k1,dA,az,lq];refine aP gq ?_;simp -dsimp only[go_sem,h6,h5,k0,k1];refine ao (yy hp (hq i) aw aw) rfl ?_;simp -dsimp only[go_sem,h6,h5,k0,k1];refine aK ra ?_;simp -dsimp only[go_sem,h6,h5,k0,k1];refine aK ad ?_;simp -dsimp only[go_sem,h6]
   repeat(refine And.intro aw ?_)
   exact again (aa q-(i+1)) aw ⟨(aA hK),hKB,hKE,i+1,rfl,aw,rfl,rfl⟩
  ·obtain rfl:i=aa q:=aw;have dA:decide ((aa q:Int)<(aa q:Int))=false:=aG aw;rw[tN (ay _),mul_comm]at h5;simp -dsimp only[go_sem,h6,k1,dA,az,lq];exact⟨(aA hK),hKB,hKE,h5⟩
 ·rintro e τ β ε π hK hKB hKE ⟨rfl,h5⟩;simp -dsimp only[go_sem,h5]
theorem PT (p:KP) (hs:aa p<=1000):Fn Tryz.prog 61 [ku p] [ku p]:=by
 have:=lS (aj p) (by rw[aZ];omega);rwa [gL,DX]at this
theorem PU {p q:KP} {w v:Nat} (hp:PW w p) (hq:PW v q) (hw:w<=1000) (hv:v<=1000) (hs:aa p<=1000):Fn Tryz.prog 15 [ku p,ku q] [iB (decide (p=q))]:=by
 have:=vj (aj p) (aj q) (by rw[aZ];omega) (hp.fw hw) (hq.fw hv);have e:decide (aj p=aj q)=decide (p=q):=by rw[decide_eq_decide];exact⟨Pr,fun h=>by rw[h]⟩
 rwa [e]at this
def wR (w v:Nat):Nat->Nat
 | 0=>w
 | n+1=>2*wR w v n+2*v+1
theorem pJ (w v:Nat) {m n:Nat} (h:m<=n):wR w v m<=wR w v n:=by
 induction n with
 | zero=>rw[show m=0 by omega];exact ay _
 | succ n ih =>
  by_cases e:m=n+1
  ·rw[e];exact ay _
  ·have:=ih aw;simp only[wR];omega
theorem Kf {p q:KP} {w v:Nat} (hq0:q≠0) (hp:PW w p) (hq:PW v q) (hb:(aa q+2)*(wR w v (aa p+1-aa q)+2*v+1)<=1000) (hs:2*aa p<=1000) (hs':2*aa q<=1000) :
  Fn Tryz.prog 80 [ku p,ku q] [ku (qu p q),ku (ab p q),iN 0]:=by
 have lq:=aZ q;have hq1:=aR hq0;have e1:decide ((aa q:Int)=0)=false:=aG aw;have hb3:3*(wR w v (aa p+1-aa q)+2*v+1)<=1000:=ax (Nat.mul_le_mul_right _ aw) hb;refine aJ (fn:=Tryz.f80) ?_;simp -dsimp only[go_sem,az,lq,e1];refine lA (bA.imm _ 7 (x:=kl []) rfl) ?_;refine a8 [(7,9),(17,42)] [] [] (fun n τ β ε=>∃(k:Nat) (Q r:KP),n=aa r/\k+aa r<=aa p/\p=Q*q+r/\PW (wR w v k) r/\PW (wR w v k) Q/\aa Q<=aa p/\τ 7 = .i (ku Q)/\τ 8 = .i (ku r))
  (fun e τ β ε=>e = .exit 0/\τ 7 = .i (ku (qu p q))/\τ 8 = .i (ku (ab p q))) (aa p) ?_ ?_ ?_
 ·exact⟨0,0,p,rfl,aw,by rw[zero_mul,zero_add],hp,fun i=>dY _,by rw[aM.2 rfl];omega,by simp -dsimp only[go_sem];rw[fF],rfl⟩
 ·rintro n τ β ε π hK hKB hKE ⟨k,Q,r,hn,hk,he,hr,hQ,sQ,h7,h8⟩;have k1:τ 1 = .i (ku q):=(hK 1 rfl).trans rfl;have lr:=aZ r;by_cases hlt:aa q<=aa r
  ·have dA:decide ((aa q:Int)<=(aa r:Int))=true:=aF aw;have ed:(aa r:Int)-(aa q:Int)=((aa r-aa q:Nat):Int):=aw;have hr0:r≠0:=fun e=>by rw[e,aM.2 rfl]at hlt;omega
   have hwk:wR w v (k+1)<=wR w v (aa p+1-aa q):=pJ w v aw;have hwk':2*wR w v k+2*v+1<=wR w v (aa p+1-aa q):=hwk;have hc:FB (wR w v k+v) (lc r*Alg.inv (lc q)):=(hr _).mul ((hq _).inv (bN hq0));generalize hcc:lc r*Alg.inv (lc q)=c at hc;generalize hdd:aa r-aa q=d at ed;have hst:PW (wR w v k+v) (mon d c):=fun i=>by
    rw[bY];split
    ·exact hc
    ·exact dY _
   have hmq:PW (wR w v k+v+v) (mon d c*q):=ut hc hq;have sst:aa (mon d c)<=d+1:=cm fun i hi=>by rw[bY,if_neg aw]
   have smq:=bf (mon d c) q;have hlow:aa (r-mon d c*q)<=aa r-1:=cm fun i hi=>by
    rw[i9,cu,if_pos aw];by_cases e:i=aa r-1
    ·have e2:i-d=aa q-1:=aw;rw[e2,e,<-hcc,mul_assoc,show q.c (aa q-1)=lc q from rfl,cA (bN hq0),mul_one,show r.c (aa r-1)=lc r from rfl,sub_self]
    ·rw[aO aw,aO (p:=q) aw,mul_zero,sub_self]
   have ov:=rN ((hr (aa r-1)).mono aw) ((hq (aa q-1)).mono aw) (bN hq0) (by rw[show r.c (aa r-1)=lc r from rfl,show q.c (aa q-1)=lc q from rfl,hcc];exact hc.mono aw);rw[show r.c (aa r-1)=lc r from rfl,show q.c (aa q-1)=lc q from rfl,hcc]at ov;have ra:=EM (p:=an c) d aw (by have:=Qw c;omega);rw[ND]at ra;have hbm:aa q*(v+(wR w v k+v)+1)<=1000:=ax (Nat.mul_le_mul aw aw) hb;simp -dsimp only[go_sem,h7,h8,k1,dA,az,lq,lr,ed];refine aK (Df r hr0 aw) ?_;simp -dsimp only[go_sem,h7,h8,k1];refine aK (Df q hq0 aw) ?_;simp -dsimp only[go_sem,h7,h8,k1];refine ao ov rfl ?_;simp -dsimp only[go_sem,h7,h8,k1];refine ao (yB c) rfl ?_;simp -dsimp only[go_sem,h7,h8,k1,az,lq,lr,ed]
   repeat(refine And.intro aw ?_)
   refine aK ra ?_;simp -dsimp only[go_sem,h7,h8,k1];refine aK (Kg hQ hst aw aw aw) ?_;simp -dsimp only[go_sem,h7,h8,k1];refine aK (EO hst hq hbm aw) ?_;simp -dsimp only[go_sem,h7,h8,k1];refine aK (RC hr hmq aw aw aw) ?_;simp -dsimp only[go_sem,h7,h8,k1];refine aK (PT _ aw) ?_;simp -dsimp only[go_sem];refine again (aa (r-mon d c*q)) aw ⟨(aA hK),hKB,hKE,k+1,Q+mon d c,r-mon d c*q,rfl,aw,?_,?_,?_,dh sQ aw,rfl,rfl⟩
   ·rw[add_mul,he];exact ring [Q*q,mon d c*q,r]
   ·exact(hr.sub hmq).mono (by simp only[wR];omega)
   ·exact(hQ.add hst).mono (by simp only[wR];omega)
  ·have dA:decide ((aa q:Int)<=(aa r:Int))=false:=aG aw;obtain⟨u1,u2⟩:=md he aw;simp -dsimp only[go_sem,h7,h8,k1,dA,az,lq,lr];rw[u1,u2];exact⟨(aA hK),hKB,hKE,rfl,rfl⟩
 ·rintro e τ β ε π hK hKB hKE ⟨rfl,h7,h8⟩;simp -dsimp only[go_sem,h7,h8]
theorem yz {p q:KP} {w v:Nat} (hq0:q≠0) (hp:PW w p) (hq:PW v q) (hb:(aa q+2)*(wR w v (aa p+1-aa q)+2*v+1)<=1000) (hs:2*aa p<=1000) (hs':2*aa q<=1000):Fn Tryz.prog 27 [ku p,ku q] [ku (ab p q)]:=by
 refine aJ (fn:=Tryz.f27) ?_;simp -dsimp only[go_sem];refine aK (Kf hq0 hp hq hb hs hs') ?_;simp -dsimp only[go_sem]
theorem qB {c:KQ} {w:Nat} (hc:FB w c) (hw:w<=1000):Fn Tryz.prog 22 [iK c] [ku (ak-an c)]:=by
 have e:aj (ak-an c)=[-c,1]:=by
  refine(Ey (l:=[-c,1]) (fun i hi=>?_) (fun i hi=>?_) (fun h=>?_)).symm
  ·match i,hi with
   | 0,_=>show -c=(0:KQ)-c;rw[sub_eq,zero_add]
   | 1,_=>show(1:KQ)=1-0;rw[sub_zero]
  ·match i,hi with
   | i+2,_=>show(0:KQ)-0=0;rw[sub_zero]
  ·exact one_ne
 refine aJ (fn:=Tryz.f22) ?_;simp -dsimp only[go_sem];refine ao (AZ (hc.mono hw)) rfl ?_;simp -dsimp only[go_sem];refine aK (fj 1 aH) ?_;simp -dsimp only[go_sem];have e2:ku (ak-an c)=kl [-c,1]:=by show kl (aj _)=_;rw[e]
 rw[e2,show kz 1=1 from d7];rfl
noncomputable def gP (p q:KP):Nat->KP×KP
 | 0=>(p,q)
 | n+1=>((gP p q n).2,mn (ab (gP p q n).1 (gP p q n).2))
theorem qC {p q:KP} {w:Nat->Nat} (N:Nat) (hN:(gP p q N).2=0) (hlt:∀ i,i<N->(gP p q i).2≠0)
  (h1:∀ i,i<N->Fn Tryz.prog 27 [ku (gP p q i).1,ku (gP p q i).2] [ku (ab (gP p q i).1 (gP p q i).2)])
  (hw:∀ i,i<N->PW (w i) (ab (gP p q i).1 (gP p q i).2)/\2*w i<=1000/\aa (ab (gP p q i).1 (gP p q i).2)<=1000)
  (he:PW (w N) (gP p q N).1/\2*w N<=1000/\aa (gP p q N).1<=1000):Fn Tryz.prog 25 [ku p,ku q] [ku (ai p q)]:=by
 have hg:∀ i,i<=N->ai (gP p q i).1 (gP p q i).2=ai p q:=by
  intro i
  induction i with
  | zero=>intro _;rfl
  | succ i ih =>
   intro hi;rw[<-ih aw,<-Eh (a:=(gP p q i).1) (hlt i aw)];show ai (gP p q i).2 (mn _)=_;have h2:=ql (gP p q i).2 (ab (gP p q i).1 (gP p q i).2);have h3:IsG (ai (gP p q i).2 (ab (gP p q i).1 (gP p q i).2)) (gP p q i).2 (mn (ab (gP p q i).1 (gP p q i).2)) :=
    ⟨h2.1,h2.2.1.trans (NS _),fun x hx hx'=>h2.2.2 x hx (hx'.trans (IP _))⟩
   rw[<-qk h3,IN]
 have hfin:mn (gP p q N).1=ai p q:=by
  rw[<-hg N (ay _),hN,ot]
 refine aJ (fn:=Tryz.f25) ?_;simp -dsimp only[go_sem];refine a8 [(0,1),(5,12)] [] [] (fun n τ β ε=>∃ i:Nat,n=N-i/\i<=N/\τ 0 = .i (ku (gP p q i).1)/\τ 1 = .i (ku (gP p q i).2))
  (fun e τ β ε=>e = .exit 0/\τ 0 = .i (ku (gP p q N).1)) N ?_ ?_ ?_
 ·exact⟨0,aw,aw,rfl,rfl⟩
 ·rintro n τ β ε π hK hKB hKE ⟨i,hn,hi,h0,h1'⟩;have lq:=aZ (gP p q i).2;by_cases hi2:i<N
  ·have hz:=aR (hlt i hi2);have dA:decide ((0:Int)<(aa (gP p q i).2:Int))=true:=aF aw;obtain⟨w1,w2,w3⟩:=hw i hi2;simp -dsimp only[go_sem,h0,h1',dA,az,lq];refine aK (h1 i hi2) ?_;simp -dsimp only[go_sem,h0,h1'];refine aK (tr w1 w2 w3) ?_;simp -dsimp only[go_sem];exact again (N-(i+1)) aw ⟨(aA hK),hKB,hKE,i+1,rfl,aw,rfl,rfl⟩
  ·obtain rfl:i=N:=aw;have dA:decide ((0:Int)<(aa (gP p q i).2:Int))=false:=aG (by rw[hN,aM.2 rfl];decide);simp -dsimp only[go_sem,h0,h1',dA,az,lq];exact⟨(aA hK),hKB,hKE⟩
 ·rintro e τ β ε π hK hKB hKE ⟨rfl,h0⟩;simp -dsimp only[go_sem,h0];refine aK (tr he.1 he.2.1 he.2.2) ?_;rw[hfin];simp -dsimp only[go_sem]
noncomputable def hr (p:KP) (c:KQ):Nat->KQ
 | 0=>0
 | n+1=>hr p c n*c+p.c (aa p-(n+1))
theorem L4 {x m:Tm} {L:List Tm} (h:0<cp x.1 m.1):oM (x::L) m=x::oM L m:=by
 unfold oM;rw[atR,if_pos h];rfl
theorem L3 {x m:Tm} {L:List Tm} (h:¬ 0<cp x.1 m.1):oM (x::L) m=(if(rj m (x::L)).1≠0/\dc m.1 then[(m.1,(rj m (x::L)).1)]else[])++(rj m (x::L)).2:=by
 unfold oM;rw[atR,if_neg h];rfl
theorem BL {e:Ex} (h:Uv1 e):dc e:=by unfold Uv1 at h;unfold dc;omega
theorem Je {m:Tm} (hm:Uv1 m.1):∀{L:List Tm},Cn L->Cn (oM L m)/\toP (oM L m)=toP L+mon m.1.a.toNat m.2/\∀ t∈oM L m,t.1=m.1\/∃ u∈L,u.1=t.1
 | [],_=>by
  have e:oM [] m=if m.2=0 then[]else[m]:=by
   show(if m.2≠0/\dc m.1 then[(m.1,m.2)]else[])++[]=_
   by_cases h:m.2=0<;>simp[h,BL hm]
  rw[e];by_cases h:m.2=0
  ·rw[if_pos h,h,jH,cI,add_zero];exact⟨⟨List.Pairwise.nil,au,by intro t ht;simp at ht⟩,rfl,au⟩
  ·rw[if_neg h,bc,cI,add_zero,zero_add];exact⟨⟨List.pairwise_singleton _ _,by simpa using h,by intro t ht;simp at ht;subst ht;exact hm⟩,rfl,au⟩
 | x::L,hc=>by
  have hx:=hc.uv x au;by_cases h:0<cp x.1 m.1
  ·rw[L4 h];obtain⟨i1,i2,i3⟩:=Je hm (dN hc);refine⟨⟨List.pairwise_cons.2 ⟨fun t ht=>?_,i1.srt⟩,fun t ht=>?_,fun t ht=>?_⟩,?_,fun t ht=>?_⟩
   ·rcases i3 t ht with e|⟨u,hu,e⟩
    ·rw[e];exact h
    ·rw[<-e];exact(List.pairwise_cons.1 hc.srt).1 u hu
   ·rcases List.mem_cons.1 ht with rfl|ht
    ·exact hc.nz _ au
    ·exact i1.nz t ht
   ·rcases List.mem_cons.1 ht with rfl|ht
    ·exact hx
    ·exact i1.uv t ht
   ·rw[bc,bc,i2,add_assoc]
   ·rcases List.mem_cons.1 ht with rfl|ht
    ·exact .inr ⟨_,au,rfl⟩
    ·rcases i3 t ht with e|⟨u,hu,e⟩
     ·exact .inl e
     ·exact .inr ⟨u,by simp[hu],e⟩
  ·rw[L3 h];by_cases he:x.1=m.1
   ·rw[show rj m (x::L)=(m.2+x.2,L)from if_pos he];have key:toP (x::L)+mon m.1.a.toNat m.2=mon m.1.a.toNat (m.2+x.2)+toP L:=by
     rw[bc,he,show mon m.1.a.toNat (m.2+x.2)=mon m.1.a.toNat m.2+mon m.1.a.toNat x.2 from xS _ _ _];exact ring [mon m.1.a.toNat x.2,mon m.1.a.toNat m.2,toP L]
    by_cases h0:m.2+x.2=0
    ·simp only[h0,ne_eq,not_true,false_and,if_false,List.nil_append];refine⟨dN hc,?_,fun t ht => .inr ⟨t,by simp[ht],rfl⟩⟩;rw[key,h0,jH,zero_add]
    ·simp only[ne_eq,h0,not_false_eq_true,BL hm,and_self,if_true,List.singleton_append];refine⟨⟨List.pairwise_cons.2 ⟨fun t ht=>?_,(dN hc).srt⟩,fun t ht=>?_,fun t ht=>?_⟩,?_,fun t ht=>?_⟩
     ·show 0<cp m.1 t.1;rw[<-he];exact(List.pairwise_cons.1 hc.srt).1 t ht
     ·rcases List.mem_cons.1 ht with rfl|ht
      ·exact h0
      ·exact(dN hc).nz t ht
     ·rcases List.mem_cons.1 ht with rfl|ht
      ·exact hm
      ·exact(dN hc).uv t ht
     ·rw[key,bc]
     ·rcases List.mem_cons.1 ht with rfl|ht
      ·exact .inl rfl
      ·exact .inr ⟨t,by simp[ht],rfl⟩
   ·rw[show rj m (x::L)=(m.2,x::L)from if_neg he];have hlt:0<cp m.1 x.1:=by
     have h1:cp x.1 m.1≠0:=fun e=>he ((jK _ _).1 e);have h2:=oA x.1 m.1;omega
    by_cases h0:m.2=0
    ·simp only[h0,ne_eq,not_true,false_and,if_false,List.nil_append];exact⟨hc,by rw[jH,add_zero],fun t ht => .inr ⟨t,ht,rfl⟩⟩
    ·simp only[ne_eq,h0,not_false_eq_true,BL hm,and_self,if_true,List.singleton_append];refine⟨⟨List.pairwise_cons.2 ⟨fun t ht=>?_,hc.srt⟩,fun t ht=>?_,fun t ht=>?_⟩,?_,fun t ht=>?_⟩
     ·show 0<cp m.1 t.1;rcases List.mem_cons.1 ht with rfl|ht
      ·exact hlt
      ·refine(jS hm (hc.uv t (by simp[ht]))).2 ?_;have h3:=(jS hm hx).1 hlt;have h4:=sE hc t ht;omega
     ·rcases List.mem_cons.1 ht with rfl|ht
      ·exact h0
      ·exact hc.nz t ht
     ·rcases List.mem_cons.1 ht with rfl|ht
      ·exact hm
      ·exact hc.uv t ht
     ·rw[bc,add_comm]
     ·rcases List.mem_cons.1 ht with rfl|ht
      ·exact .inl rfl
      ·exact .inr ⟨t,ht,rfl⟩
theorem O8 (p:PQ) {m:Tm} (hm:Uv1 m.1):oM (U p) m=U (p+mon m.1.a.toNat m.2):=by
 obtain⟨h1,h2,_⟩:=Je hm (ky p);exact vR h1 (by rw[h2,im])
theorem uw:∀(L:List Tm) (p:PQ),Uv L->L.foldl oM (U p)=U (p+toP L)
 | [],p,_=>by rw[cI,add_zero];rfl
 | t::L,p,h=>by
  rw[List.foldl_cons,O8 p (h t au),uw L _ (fun u hu=>h u (by simp[hu])),bc,add_assoc]
theorem D2 {L:List Tm} (h:Uv L):nF L=U (toP L):=by
 have:=uw L 0 h;rw[cq,zero_add]at this;exact this
def Sml (t:Tm):Prop:=Uv1 t.1/\t.1.a<=2/\t.2.num.natAbs<=2 ^ 8/\t.2.den<=2 ^ 8
theorem Nw:∀{L:List Tm},(∀ t∈L,Sml t)->am (9*L.length) (toP L)/\aa (toP L)<=3
 | [],_=>⟨am.zero _,by rw[cI,aM.2 rfl];omega⟩
 | t::L,h=>by
  obtain⟨h1,h2,h3,h4⟩:=h t au;obtain⟨i1,i2⟩:=Nw (L:=L) fun u hu=>h u (by simp[hu]);rw[bc];unfold Uv1 at h1;refine⟨((am.mon _ h3 h4).add i1).mono (by simp only[List.length_cons];omega),dh (cm fun i hi=>by rw[bY,if_neg aw]) i2⟩
theorem GV {L:List Tm} (h:∀ t∈L,Sml t) (hl:L.length<=100):Fn Tryz.prog 88 [iM L] [iUp (toP L)]:=by
 have hu:Uv L:=fun t ht=>(h t ht).1;have:=A1 L aw (fun t ht=>ir (h t ht).2.2.1 (h t ht).2.2.2 aw) fun i hi=>by
  have hu':Uv (L.take i):=fun t ht=>hu t (List.mem_of_mem_take ht);obtain⟨s1,s2⟩:=Nw (L:=L.take i) fun t ht=>h t (List.mem_of_mem_take ht);rw[D2 hu'];have hl':(L.take i).length<=100:=by simp;omega
  exact⟨HB.qb s1 aw,by have:=dF (toP (L.take i));omega⟩
 rwa [D2 hu]at this
structure T5 where
 a:Int
 b:Int
 c:Int
 d:Int
 e:Int
def T5.row (t:T5):List C:=[.v (.int .i8 t.a),.v (.int .i8 t.b),.v (.int .i8 t.c),.v (.int .i8 t.d),.v (.int .i8 t.e)]
def T5.ok (t:T5):Prop:=(-128<=t.a/\t.a<128) /\ -128<=t.e/\t.e<128
def T5.tm (t:T5):Tm:=(⟨t.a % 3,0,0,0⟩,(t.e:Rat))
abbrev tl (l:List T5):IV := .c (.lst (l.map T5.row))
theorem T5.sml {t:T5} (h:t.ok):Sml t.tm:=by
 unfold T5.ok at h;refine⟨⟨?_,rfl,rfl,rfl⟩,?_,?_,?_⟩
 ·show 0<=t.a % 3;omega
 ·show t.a % 3<=2;omega
 ·show(t.e:Rat).num.natAbs<=_;rw[Rat.num_intCast];omega
 ·show(t.e:Rat).den<=_;rw[Rat.den_intCast];decide
noncomputable def lu (l:List T5) (n:Nat):PQ:=toP ((l.take n).map T5.tm)
theorem wr64 {n:Int} (h : -9223372036854775808<=n/\n<9223372036854775808):IntKind.wrap .i64 n=n:=by
 simp[IntKind.wrap,IntKind.bits,IntKind.signed];omega
def tmR (l:List T5) (i:Nat):List (List C):=((l.take i).map T5.tm).map eT
theorem HJ {l:List T5} {i:Nat} (h:i<l.length):tmR l (i+1)=tmR l i++[eT l[i].tm]:=by
 unfold tmR;rw[aq h,List.map_append,List.map_append];rfl
theorem Lb {l:List T5} {i:Nat} (h:i<=l.length):(tmR l i).length=i:=by simp[tmR];omega
theorem rM (l:List T5) (n:Nat) (hn:n<=2) (hl:l.length<=9223372036854775807) (h:∀ t∈l,t.ok):Fn Tryz.prog 74 [tl l,iN n,iN 1] [iUp (lu l n)]:=by
 have hmk:=GV (L:=(l.take n).map T5.tm) (fun t ht=>by
  obtain⟨u,hu,rfl⟩:=List.mem_map.1 ht;exact T5.sml (h u (List.mem_of_mem_take hu))) ar
 refine aJ (fn:=Tryz.f74) ?_;simp -dsimp only[go_sem];refine cv 7 11 8 (rs:=[]) rfl au ?_;refine bt [(7,10),(12,52)] [(9,9)] [(11,11),(52,52)] (fun m τ β ε=>∃ i:Nat,m=n-i/\i<=n/\i<=l.length/\τ 8 = .i (iN i)/\Own 8 (tmR l i) 7 11 τ ε)
  (fun e τ β ε=>e = .exit 0/\Own 8 (tmR l n) 7 11 τ ε) n ?_ ?_ ?_
 ·exact⟨0,aw,aw,aw,rfl,Own.mk (g:=1) (mm:=false) aw rfl rfl rfl⟩
 ·rintro m τ β ε π hK hKB hKE ⟨i,hm,hi,hil,h8,g,mm,hg,h7,h11⟩;have hlen:(tmR l i).length=i:=Lb hil;rw[hlen]at h7;have k0:τ 0 = .i (tl l):=(hK 0 rfl).trans rfl;have k1:τ 1 = .i (iN n):=(hK 1 rfl).trans rfl;have k2:τ 2 = .i (iN 1):=(hK 2 rfl).trans rfl;by_cases hA:i<l.length
  ·have dA:decide ((i:Int)<(l.length:Int))=true:=aF aw;have gl:l[i]?=some l[i]:=by simp[hA]
   by_cases hB:i<n
   ·have dB:decide ((i:Int)<(n:Int))=true:=aF aw;have ht:=h _ (List.getElem_mem hA);unfold T5.ok at ht;simp -dsimp only[go_sem,h8,k0,k1,dA,dB,az];refine aP gl ?_;simp -dsimp only[go_sem,T5.row,Int.reduceToNat,Int.reduceLE,aC,h8,k0];rw[wr64 aw];refine ao (d8 l[i].e aw) rfl ?_;simp -dsimp only[go_sem,Int.reduceToNat,Int.reduceLE,aC];refine a8 [(10,10),(31,48)] [(9,9)] [] (fun m τ' β' ε'=>∃ k:Nat,m=1-k/\k<=1/\τ' 10 = .i (iN k)/\β' 9=⟨(β 9).gen+1,eT (if k=0 then(e0,(l[i].e:Rat))else l[i].tm)⟩)
     (fun e τ' β' ε'=>e = .exit 2/\β' 9=⟨(β 9).gen+1,eT l[i].tm⟩) 1 ?_ ?_ ?_
    ·exact⟨0,aw,aw,rfl,rfl⟩
    ·rintro m2 τ2 β2 ε2 π2 hK2 hKB2 hKE2 ⟨k,hm2,hk,h10,b9⟩;have q0:τ2 0 = .i (tl l):=(hK2 0 rfl).trans k0;have q2:τ2 2 = .i (iN 1):=(hK2 2 rfl).trans k2;have q8:τ2 8 = .i (iN i):=(hK2 8 rfl).trans h8;have q9:τ2 9 = .bp 9 ((β 9).gen+1) 0:=(hK2 9 rfl).trans rfl;obtain rfl|rfl:k=0\/k=1:=aw
     ·have h10':τ2 10 = .i (iN 0):=h10;rw[if_pos rfl]at b9;have em:(((IntKind.i64.wrap l[i].a).tmod 3)+3).tmod 3=l[i].a % 3:=by
       rw[wr64 aw];rcases Int.le_total 0 l[i].a with hp|hp
       ·rw[Int.tmod_eq_emod_of_nonneg hp,Int.tmod_eq_emod_of_nonneg aw];omega
       ·have:l[i].a.tmod 3 = -((-l[i].a) % 3):=by
         rw[<-Int.tmod_eq_emod_of_nonneg aw,Int.neg_tmod,Int.neg_neg]
        rw[this,Int.tmod_eq_emod_of_nonneg aw];omega
      simp -dsimp only[go_sem,h10',q0,q2,q8,q9,b9,Int.reduceToNat,Int.reduceLE,aC,Int.reduceLT,decide_true];refine aP gl ?_;simp -dsimp only[go_sem,T5.row,h10',q0,q2,q8,q9,b9,Int.reduceToNat,Int.reduceLE,aC,em];have eb : -3<=(IntKind.i64.wrap l[i].a).tmod 3/\(IntKind.i64.wrap l[i].a).tmod 3<=3:=by
       rw[wr64 aw];rcases Int.le_total 0 l[i].a with hp|hp
       ·rw[Int.tmod_eq_emod_of_nonneg hp];omega
       ·have:l[i].a.tmod 3 = -((-l[i].a) % 3):=by
         rw[<-Int.tmod_eq_emod_of_nonneg aw,Int.neg_tmod,Int.neg_neg]
        omega
      repeat(refine And.intro aw ?_)
      refine again 0 aw ⟨(aA hK2),(aA hKB2),hKE2,1,rfl,aw,rfl,?_⟩;rw[if_neg aH];simp -dsimp only[go_sem];rfl
     ·have h10':τ2 10 = .i (iN 1):=h10;rw[if_neg aH]at b9;simp -dsimp only[go_sem,h10',q2,Int.reduceLT,decide_false];exact⟨(aA hK2),hKB2,hKE2,b9⟩
    ·rintro e τ2 β2 ε2 π2 hK2 hKB2 hKE2 ⟨rfl,b9⟩;have r9:τ2 9 = .bp 9 ((β 9).gen+1) 0:=(hK2 9 rfl).trans rfl;have r8:τ2 8 = .i (iN i):=(hK2 8 rfl).trans h8;have r7:τ2 7 = .sl 11 g i:=(hK2 7 rfl).trans h7;have f11:ε2 11=⟨g,8,tmR l i,mm,true⟩:=(hKE2 11 rfl).trans h11;have kO:=Kp.step2 hK hK2 (by intro n;simp[inR]<;>omega) (aA hK);have kB:=Kp.step2 hKB hKB2 (by intro n;simp[inR]<;>omega) (aA hKB);have kE:=Kp.step2 hKE hKE2 (by intro n;simp[inR]) hKE;simp -dsimp only[go_sem,r9,r8,r7,f11,b9,hg,hlen]
     repeat(refine And.intro aw ?_)
     refine be (n-(i+1)) 7 52 11 aw rfl rfl aw aH ⟨(aA kO),kB,(aA kE),i+1,rfl,aw,aw,rfl,?_⟩;refine Own.mk2 (Nat.succ_pos _) (by simp -dsimp only[go_sem];rfl) (by simp -dsimp only[go_sem];rfl) (by rw[List.length_append,hlen];rfl) (HJ hA).symm
   ·have dB:decide ((i:Int)<(n:Int))=false:=aG aw;obtain rfl:i=n:=aw;simp -dsimp only[go_sem,h8,k0,k1,dA,dB,az];exact⟨(aA hK),hKB,hKE,Own.mk hg h7 hlen.symm h11⟩
  ·have dA:decide ((i:Int)<(l.length:Int))=false:=aG aw;have et:tmR l n=tmR l i:=by unfold tmR;rw[List.take_of_length_le aw,List.take_of_length_le aw]
   simp -dsimp only[go_sem,h8,k0,k1,dA,az];rw[et];exact⟨(aA hK),hKB,hKE,Own.mk hg h7 hlen.symm h11⟩
 ·rintro e τ β ε π hK hKB hKE ⟨rfl,g,mm,hg,h7,h11⟩;refine⟨_,bA.freeze _ 11,?_⟩;simp -dsimp only[go_sem,h7,h11,hg];refine aQ (args':=[iM ((l.take n).map T5.tm)]) (by rw[List.take_of_length_le (ay _)];rfl) hmk ?_;simp -dsimp only[go_sem];rw[lu,List.map_take]
theorem pT (L:List T5) (h:∀ t∈L,t.ok):∃ A:Alg.P Int,toP (L.map T5.tm)=toQ A/\Alg.n1 A<=128*L.length/\aa A<=3:=by
 induction L with
 | nil=>exact⟨0,by rw[cK];rfl,by rw[iI];omega,by rw[aM.2 rfl];omega⟩
 | cons t L ih =>
  obtain⟨A,h1,h2,h3⟩:=ih fun u hu=>h u (by simp[hu]);have ht:=h t au;unfold T5.ok at ht;refine⟨mon (t.a % 3).toNat t.e+A,?_,?_,?_⟩
  ·rw[List.map_cons,bc,h1,kC,og];rfl
  ·have e:=iw (t.a % 3).toNat t.e 1;rw[mul_one]at e;have e1:Alg.n1 (1:Alg.P Int)<=1:=by
    refine p9 (n:=1) (H:=1) (Nat.le_of_eq (by rw[<-bP];exact jf aH)) (fun i=>?_);rw[<-bP];cases i with
    | zero=>exact ay 1
    | succ i=>exact Nat.zero_le 1
   have e2:t.e.natAbs*Alg.n1 (1:Alg.P Int)<=t.e.natAbs*1:=Nat.mul_le_mul_left _ e1;have:=ml (mon (t.a % 3).toNat t.e) A;simp only[List.length_cons];omega
  ·exact dh (cm fun i hi=>by rw[bY,if_neg aw]) h3
noncomputable def den1 (p:PQ):PQ:=if p=0 then 1 else p
theorem Mr (p:PQ):den1 p≠0:=by
 unfold den1;split
 ·exact fQ
 ·assumption
noncomputable def mQ (N D:List T5) (n:Nat):KQ:=Alg.fr (lu N n) (den1 (lu D n))
theorem OQ {N D:List T5} {n:Nat} (hn:n<=2) (hN:∀ t∈N,t.ok) (hD:∀ t∈D,t.ok):FB 8 (mQ N D n):=by
 obtain⟨A,a1,a2,a3⟩:=pT (N.take n) fun t ht=>hN t (List.mem_of_mem_take ht);obtain⟨B,b1,b2,b3⟩:=pT (D.take n) fun t ht=>hD t (List.mem_of_mem_take ht);have la:(N.take n).length<=n:=by simp;omega
 have lb:(D.take n).length<=n:=by simp;omega
 have s1:aa (1:Alg.P Int)=1:=jf (R:=Int) aH;have e8:(2:Nat) ^ 8=256:=rfl;by_cases h:lu D n=0
 ·refine⟨A,1,d9 (R:=Int) aH,?_,aw,aw,aw,?_⟩
  ·rw[mQ,den1,if_pos h,oe,<-a1];rfl
  ·rw[ge (n:=1) aw];show 0+Int.natAbs 1<=_;omega
 ·refine⟨A,B,fun e=>h (by rw[lu,b1,e,cK]),?_,aw,aw,aw,aw⟩;rw[mQ,den1,if_neg h,<-a1,<-b1];rfl
theorem Ia {N:List T5} {n:Nat} (hn:n<=2) (hN:∀ t∈N,t.ok):am 8 (lu N n)/\aa (lu N n)<=3:=by
 obtain⟨A,a1,a2,a3⟩:=pT (N.take n) fun t ht=>hN t (List.mem_of_mem_take ht);have la:(N.take n).length<=n:=by simp;omega
 have e8:(2:Nat) ^ 8=256:=rfl;rw[lu,a1];exact⟨am.of aw,by rw[gr];exact a3⟩
theorem xa (N D:List T5) (n:Nat) (hn:n<=2) (lN:N.length<=9223372036854775807) (lD:D.length<=9223372036854775807) (hN:∀ t∈N,t.ok) (hD:∀ t∈D,t.ok) :
  Fn Tryz.prog 23 [.g [.lst (N.map T5.row),.lst (D.map T5.row)],iN n,iN 1] [iK (mQ N D n)]:=by
 obtain⟨n1,n2⟩:=Ia hn hN;obtain⟨d1,d2⟩:=Ia hn hD;have d3:am 8 (den1 (lu D n))/\aa (den1 (lu D n))<=3:=by
  unfold den1;split
  ·exact⟨dK _,by rw[cS];omega⟩
  ·exact⟨d1,d2⟩
 have of:=yu (Mr (lu D n)) (n1.mono aw) (d3.1.mono aw) aw aw ((OQ hn hN hD).mono aw);have hz:=hzU (lu D n);refine aJ (fn:=Tryz.f23) ?_;simp -dsimp only[go_sem,Int.reduceToNat,Int.reduceLE,aC];refine ao (rM D n hn lD hD) rfl ?_;by_cases h:lu D n=0
 ·rw[aF h]at hz;simp -dsimp only[go_sem,az,hz];refine aK AW ?_;simp -dsimp only[go_sem,Int.reduceToNat,Int.reduceLE,aC];refine ao (rM N n hn lN hN) rfl ?_;simp -dsimp only[go_sem];refine aQ (args':=[iUp (lu N n),iUp (den1 (lu D n))]) (by rw[den1,if_pos h]) of ?_;simp -dsimp only[go_sem];rfl
 ·rw[aG h]at hz;simp -dsimp only[go_sem,az,hz,Int.reduceToNat,Int.reduceLE,aC];refine ao (rM N n hn lN hN) rfl ?_;simp -dsimp only[go_sem];refine aQ (args':=[iUp (lu N n),iUp (den1 (lu D n))]) (by rw[den1,if_neg h]) of ?_;simp -dsimp only[go_sem];rfl
structure pu where
 N:List T5
 D:List T5
def pu.row (x:pu):List C:=[.lst (x.N.map T5.row),.lst (x.D.map T5.row)]
def pu.ok (x:pu):Prop:=(x.N.length<=9223372036854775807/\x.D.length<=9223372036854775807)/\(∀ t∈x.N,t.ok)/\∀ t∈x.D,t.ok
noncomputable def pu.k (x:pu) (n:Nat):KQ:=mQ x.N x.D n
abbrev rl (l:List pu):IV := .c (.lst (l.map pu.row))
theorem mJ (n:Int) (h : -9223372036854775808<=n/\n<9223372036854775808):Fn Tryz.prog 30 [iN n] [iK (kn n)]:=by
 refine aJ (fn:=Tryz.f30) ?_;simp -dsimp only[go_sem];refine aK (fj n h) ?_;simp -dsimp only[go_sem]
theorem lU:Fn Tryz.prog 59 [] [iK (Alg.em ak)]:=by
 refine aJ (fn:=Tryz.f59) ?_;simp -dsimp only[go_sem];refine aK J9 ?_;simp -dsimp only[go_sem]
theorem qK {f g:KQ} (hf:FW f) (hg:FW g) (hg0:g≠0) (h:FW (f*Alg.inv g)):Fn Tryz.prog 60 [iK f,iK g] [iK (f*Alg.inv g)]:=by
 refine aJ (fn:=Tryz.f60) ?_;simp -dsimp only[go_sem];refine ao (rN hf hg hg0 h) rfl ?_;simp -dsimp only[go_sem]
end Go.AM
