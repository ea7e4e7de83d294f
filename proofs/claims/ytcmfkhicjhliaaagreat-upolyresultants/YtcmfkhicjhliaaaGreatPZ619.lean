/- Lemmas, part 20 of 23. No condition. -/
import Derived.Test.YtcmfkhicjhliaaaGreatPZ618
set_option maxRecDepth 65536
set_option linter.unusedSimpArgs false
set_option linter.unusedVariables false
set_option linter.unusedSectionVars false
namespace Go.AM
open Alg
open Go.Proofs
open Classical
def yk (n d p q:PQ):Prop:=(∃ a b:Rat,a≠0/\b≠0/\p=an a*n/\q=an b*d)\/∃ s t s' t',Row n d p s t q s' t'
theorem yY {n d p q:PQ} {k:Nat} (hk':am k p) (hk:am k q) (hc:yk n d p q) (hq:q≠0) (hle:aa q<=aa p) :
  (∃ s t s' t',Row n d q s t (psr q (aa p) p) s' t')/\aa (psr q (aa p) p)<aa q/\(∃(c:Rat) (S:PQ),c≠0/\an c*p=S*q+psr q (aa p) p)/\am (k+aa p*(k+1)) (psr q (aa p) p):=by
 obtain⟨_,h2,_,h4,c,S,h5,h6⟩:=nl hq hk (aa p) p k (ay _) hk';refine⟨?_,h2 hle,⟨c,S,h5,h6⟩,h4⟩;have hlt:=h2 hle;generalize psr q (aa p) p=r at *
 rcases hc with⟨a,b,ha,hb,rfl,rfl⟩|⟨s,t,s',t',row⟩
 ·rw[bS hb]at hlt;rw[bS hb,bS ha]at hle;have hd:d≠0:=fun e=>hq (by rw[e,mul_zero]);have e:an (c*a)*n=(S*an b)*d+r:=by rw[bB,mul_assoc,h6,mul_assoc]
  have:=(Row.first (a6 h5 ha) hd hle e hlt).scale hb (b:=(1:Rat)) aH
  rw[co,one_mul,one_mul,one_mul]at this;exact⟨_,_,_,_,this⟩
 ·exact⟨_,_,_,_,row.next h5 hq h6 hlt⟩
theorem ws {n d q r s t s' t':PQ} (row:Row n d q s t r s' t') (hr:r≠0):yk n d q (ag r):=by
 rcases qj hr row with⟨h1,h2⟩|h
 ·have:=row.scale (a:=(1:Rat)) (b:=Alg.inv (lc r)) aH (fK (bI hr));rw[co,one_mul,one_mul,one_mul]at this;exact .inr ⟨_,_,_,_,this⟩
 ·exact .inr h
theorem sL {g x y:PQ} (hx:x≠0) (hy:y≠0) (h:IsG g (ag x) (ag y)):IsG g x y:=(um hx (um hy h).symm).symm
theorem nw {g g' x y:PQ} (h:IsG g x y) (h':IsG g' x y):ag g=ag g':=by
 have h1:=p8 h;have h2:=p8 h';exact h1.trans h2.symm
theorem mg:ag (1:PQ)=1:=Ia (jf (R:=Rat) 1)
theorem uc {p:PQ} (h:aa p=1):ag p=1:=by
 have h1:=ef (Nat.le_of_eq h);have h2:p.c 0≠0:=fun e=>by
  rw[e,show an (0:Rat)=0 from bR]at h1;rw[h1,aM.2 rfl]at h;omega
 rw[h1,ag,jf,<-bB,cJ h2];rfl
theorem DP {x y g:PQ} (hx:x≠0) (hy:y≠0) (hle:aa (ag y)<=aa (ag x)) (hbig:2<=aa (ag x)) (h:rbnd (ag x) (ag y)=0) (hg:IsG g x y):ag g=ag 1:=by
 refine nw hg ?_;by_cases hy2:2<=aa (ag y)
 ·exact sL hx hy ⟨Dv.one _,Dv.one _,HE hbig hy2 hle h⟩
 ·have h1:=aT (jk hy);have h2:ag y=1:=by rw[<-Qn,uc aw]
  refine sL hx hy ?_;rw[h2];exact⟨Dv.one _,Dv.refl _,fun x _ hx=>hx⟩
set_option maxHeartbeats 1600000 in
theorem AA {n d g:PQ} {w h N:Nat} (hs:Sm w n d) (Hn:am h n) (Hd:am h d) (n0:n≠0) (d0:d≠0) (hnd:¬ (aa n=1/\aa d=1)) (tn:aa n<=N) (td:aa d<=N) (hN:N<=250000) (hgnd:IsG g n d)
  (hb:(2*(ah w+h)+1)+(N+2)*((2*(ah w+h)+1)+1)+2*(2*(ah w+h)+1)+2*N<=68719476000):Fn Tryz.prog 94 [iUp n,iUp d] [iUp (ag g)]:=by
 have hgdn:=hgnd.symm;have n1:=aT n0;have d1:=aT d0;have Hnm:=Hn.mo;have Hdm:=Hd.mo;have sn:aa (ag n)=aa n:=fW;have sd:aa (ag d)=aa d:=fW;have e1:=hzU n;rw[aG n0]at e1;have e2:=hzU d;rw[aG d0]at e2;have tp:=Ed n0 d0 aw aw;rw[if_neg hnd]at tp;have g11:lB 1 1=(1:PQ):=by rw[lB,if_neg fS,if_neg fS]
 have base:=nQ (p:=1) (q:=1) (dI 0) (dI 0) aw aw (by rw[cP];omega) (by rw[cP];omega) (.inr (.inr ⟨cP,cP⟩));rw[g11]at base;refine aJ (fn:=Tryz.f94) ?_;simp -dsimp only[go_sem,e1,e2,az];refine ao tp rfl ?_;simp -dsimp only[go_sem,Int.reduceLT,decide_false];refine ao (mD Hn aw n0 aw) rfl ?_;simp -dsimp only[go_sem];refine ao (mD Hd aw d0 aw) rfl ?_;simp -dsimp only[go_sem];refine aK base ?_;simp -dsimp only[go_sem];refine ao (ia Hn aw aw) rfl ?_;simp -dsimp only[go_sem];refine aK (cE Hn aw aw) ?_;simp -dsimp only[go_sem];refine ao (ia Hd aw aw) rfl ?_;simp -dsimp only[go_sem];refine aK (cE Hd aw aw) ?_;simp -dsimp only[go_sem];refine aK (gr _ aw) ?_;simp -dsimp only[go_sem];refine aK (gr _ aw) ?_;by_cases hlt:aa n<aa d
 ·have e3:decide ((aa (ag n):Int)-1<(aa (ag d):Int)-1)=true:=aF aw;have hle:aa (ag n)<=aa (ag d):=aw;have hbig:2<=aa (ag d):=aw;simp -dsimp only[go_sem,e3];refine ao (u9 Hdm Hnm aw aw (jk d0) (jk n0) aw aw) rfl ?_;by_cases hr:rbnd (ag d) (ag n)=0
  ·have e5:decide (rbnd (ag d) (ag n)=0)=true:=aF hr;simp -dsimp only[go_sem,e5];refine aK (cE (dI 0) aw (by rw[cP];omega)) ?_;simp -dsimp only[go_sem];rw[mg,<-mg,DP d0 n0 hle hbig hr hgdn]
  ·have e5:decide (rbnd (ag d) (ag n)=0)=false:=aG hr;simp -dsimp only[go_sem,e5];refine be [(7,10),(58,72)] [] [] (fun m τ β ε=>∃ p q:PQ,m=aa q/\p≠0/\aa p<=N/\am (2*(ah w+h)+1) p/\am (2*(ah w+h)+1) q/\(q≠0->yk d n p q/\aa q<=aa p)/\aa q<=N/\(∀ g,IsG g p q->IsG g d n)/\τ 7 = .i (iUp p)/\τ 8 = .i (iUp q))
    (fun e τ β ε=>e = .exit 0/\∃ p:PQ,p≠0/\aa p<=N/\am (2*(ah w+h)+1) p/\IsG p d n/\τ 7 = .i (iUp p)) (aa (ag n)) ?_ ?_ ?_
   ·exact⟨ag d,ag n,rfl,jk d0,aw,Hdm.mono aw,Hnm.mono aw,fun _=>⟨.inl ⟨_,_,fK (bI d0),fK (bI n0),rfl,rfl⟩,aw⟩,aw,fun g hg=>sL d0 n0 hg,rfl,rfl⟩
   ·rintro m τ β ε π hK hKB hKE ⟨p,q,hm,hp0,hpN,hp,hq,hc,hqN,hG,h7,h8⟩;have k5:τ 5 = .i (iN 0):=(hK 5 rfl).trans rfl;by_cases hq0:q=0
    ·have dA:decide ((0:Int)<((U q).length:Int))=false:=aG (by rw[hq0,cu];decide);simp -dsimp only[go_sem,h8,dA,az];refine⟨(aA hK),hKB,hKE,p,hp0,hpN,hp,hG p ?_,h7⟩;rw[hq0];exact⟨Dv.refl _,Dv.zero _,fun x hx _=>hx⟩
    ·obtain⟨hch,hle'⟩:=hc hq0;have hq1:=aT hq0;have dA:decide ((0:Int)<((U q).length:Int))=true:=aF (by obtain⟨R,hR⟩:=gD hq0;rw[hR];simp);obtain⟨⟨s,t,s',t',row⟩,hlt,⟨c,S,hc0,e⟩,hrH⟩:=yY hp hq hch hq0 hle';have hmul:aa p*((2*(ah w+h)+1)+1)<=N*((2*(ah w+h)+1)+1):=Nat.mul_le_mul_right _ hpN;have hmul2:(aa p+2)*((2*(ah w+h)+1)+1)<=(N+2)*((2*(ah w+h)+1)+1):=Nat.mul_le_mul_right _ aw;have hmul3:N*((2*(ah w+h)+1)+1)<=(N+2)*((2*(ah w+h)+1)+1):=Nat.mul_le_mul_right _ aw;simp -dsimp only[go_sem,h7,h8,k5,dA,az];refine aK (rZ hp hq hq0 aw aw aw) ?_;simp -dsimp only[go_sem,h7,h8,k5];refine aK (ia hrH aw aw) ?_;simp -dsimp only[go_sem,h7,h8,k5];refine aK (cE hrH aw aw) ?_;simp -dsimp only[go_sem];have hms:aa (ag (psr q (aa p) p))=aa (psr q (aa p) p):=fW;refine again (aa (ag (psr q (aa p) p))) aw ⟨(aA hK),hKB,hKE,q,ag (psr q (aa p) p),rfl,hq0,hqN,hq,?_,fun hr0=>⟨?_,aw⟩,aw,fun g hg=>hG g (nv hc0 e ?_),rfl,rfl⟩
     ·by_cases hr0:psr q (aa p) p=0
      ·rw[hr0,fT];exact am.zero _
      ·exact sH row hs.symm Hd Hn
     ·have hr1:psr q (aa p) p≠0:=fun e=>hr0 (by rw[e,fT]);exact ws row hr1
     ·by_cases hr0:psr q (aa p) p=0
      ·rw[hr0,fT]at hg;rw[hr0];exact hg
      ·exact um hr0 hg
   ·rintro e τ β ε π hK hKB hKE ⟨rfl,p,hp0,hpN,hp,hG,h7⟩;have k5:τ 5 = .i (iN 0):=(hK 5 rfl).trans rfl;have k6:τ 6 = .i (iUp 1):=(hK 6 rfl).trans rfl;have hp1:=aT hp0;have hfin:ag g=ag p:=(nw hG hgdn).symm;simp -dsimp only[go_sem,h7,k5];refine aK (gr p aw) ?_;by_cases h1:aa p=1
    ·have e6:decide ((aa p:Int)-1<1)=true:=aF aw;simp -dsimp only[go_sem,e6,k6];refine aK (cE (dI 0) aw (by rw[cP];omega)) ?_;simp -dsimp only[go_sem];rw[hfin,uc h1,mg]
    ·have e6:decide ((aa p:Int)-1<1)=false:=aG aw;simp -dsimp only[go_sem,e6,k6,h7];have mul:=eE (dI 0) hp aw (by rw[cP];omega) aw;rw[one_mul]at mul;refine aK mul ?_;simp -dsimp only[go_sem];refine aK (cE hp aw aw) ?_;simp -dsimp only[go_sem];rw[hfin]
 ·have e3:decide ((aa (ag n):Int)-1<(aa (ag d):Int)-1)=false:=aG aw;have hle:aa (ag d)<=aa (ag n):=aw;have hbig:2<=aa (ag n):=aw;simp -dsimp only[go_sem,e3];refine ao (u9 Hnm Hdm aw aw (jk n0) (jk d0) aw aw) rfl ?_;by_cases hr:rbnd (ag n) (ag d)=0
  ·have e5:decide (rbnd (ag n) (ag d)=0)=true:=aF hr;simp -dsimp only[go_sem,e5];refine aK (cE (dI 0) aw (by rw[cP];omega)) ?_;simp -dsimp only[go_sem];rw[mg,<-mg,DP n0 d0 hle hbig hr hgnd]
  ·have e5:decide (rbnd (ag n) (ag d)=0)=false:=aG hr;simp -dsimp only[go_sem,e5];refine be [(7,10),(58,72)] [] [] (fun m τ β ε=>∃ p q:PQ,m=aa q/\p≠0/\aa p<=N/\am (2*(ah w+h)+1) p/\am (2*(ah w+h)+1) q/\(q≠0->yk n d p q/\aa q<=aa p)/\aa q<=N/\(∀ g,IsG g p q->IsG g n d)/\τ 7 = .i (iUp p)/\τ 8 = .i (iUp q))
    (fun e τ β ε=>e = .exit 0/\∃ p:PQ,p≠0/\aa p<=N/\am (2*(ah w+h)+1) p/\IsG p n d/\τ 7 = .i (iUp p)) (aa (ag d)) ?_ ?_ ?_
   ·exact⟨ag n,ag d,rfl,jk n0,aw,Hnm.mono aw,Hdm.mono aw,fun _=>⟨.inl ⟨_,_,fK (bI n0),fK (bI d0),rfl,rfl⟩,aw⟩,aw,fun g hg=>sL n0 d0 hg,rfl,rfl⟩
   ·rintro m τ β ε π hK hKB hKE ⟨p,q,hm,hp0,hpN,hp,hq,hc,hqN,hG,h7,h8⟩;have k5:τ 5 = .i (iN 0):=(hK 5 rfl).trans rfl;by_cases hq0:q=0
    ·have dA:decide ((0:Int)<((U q).length:Int))=false:=aG (by rw[hq0,cu];decide);simp -dsimp only[go_sem,h8,dA,az];refine⟨(aA hK),hKB,hKE,p,hp0,hpN,hp,hG p ?_,h7⟩;rw[hq0];exact⟨Dv.refl _,Dv.zero _,fun x hx _=>hx⟩
    ·obtain⟨hch,hle'⟩:=hc hq0;have hq1:=aT hq0;have dA:decide ((0:Int)<((U q).length:Int))=true:=aF (by obtain⟨R,hR⟩:=gD hq0;rw[hR];simp);obtain⟨⟨s,t,s',t',row⟩,hlt,⟨c,S,hc0,e⟩,hrH⟩:=yY hp hq hch hq0 hle';have hmul:aa p*((2*(ah w+h)+1)+1)<=N*((2*(ah w+h)+1)+1):=Nat.mul_le_mul_right _ hpN;have hmul2:(aa p+2)*((2*(ah w+h)+1)+1)<=(N+2)*((2*(ah w+h)+1)+1):=Nat.mul_le_mul_right _ aw;have hmul3:N*((2*(ah w+h)+1)+1)<=(N+2)*((2*(ah w+h)+1)+1):=Nat.mul_le_mul_right _ aw;simp -dsimp only[go_sem,h7,h8,k5,dA,az];refine aK (rZ hp hq hq0 aw aw aw) ?_;simp -dsimp only[go_sem,h7,h8,k5];refine aK (ia hrH aw aw) ?_;simp -dsimp only[go_sem,h7,h8,k5];refine aK (cE hrH aw aw) ?_;simp -dsimp only[go_sem];have hms:aa (ag (psr q (aa p) p))=aa (psr q (aa p) p):=fW;refine again (aa (ag (psr q (aa p) p))) aw ⟨(aA hK),hKB,hKE,q,ag (psr q (aa p) p),rfl,hq0,hqN,hq,?_,fun hr0=>⟨?_,aw⟩,aw,fun g hg=>hG g (nv hc0 e ?_),rfl,rfl⟩
     ·by_cases hr0:psr q (aa p) p=0
      ·rw[hr0,fT];exact am.zero _
      ·exact sH row hs Hn Hd
     ·have hr1:psr q (aa p) p≠0:=fun e=>hr0 (by rw[e,fT]);exact ws row hr1
     ·by_cases hr0:psr q (aa p) p=0
      ·rw[hr0,fT]at hg;rw[hr0];exact hg
      ·exact um hr0 hg
   ·rintro e τ β ε π hK hKB hKE ⟨rfl,p,hp0,hpN,hp,hG,h7⟩;have k5:τ 5 = .i (iN 0):=(hK 5 rfl).trans rfl;have k6:τ 6 = .i (iUp 1):=(hK 6 rfl).trans rfl;have hp1:=aT hp0;have hfin:ag g=ag p:=(nw hG hgnd).symm;simp -dsimp only[go_sem,h7,k5];refine aK (gr p aw) ?_;by_cases h1:aa p=1
    ·have e6:decide ((aa p:Int)-1<1)=true:=aF aw;simp -dsimp only[go_sem,e6,k6];refine aK (cE (dI 0) aw (by rw[cP];omega)) ?_;simp -dsimp only[go_sem];rw[hfin,uc h1,mg]
    ·have e6:decide ((aa p:Int)-1<1)=false:=aG aw;simp -dsimp only[go_sem,e6,k6,h7];have mul:=eE (dI 0) hp aw (by rw[cP];omega) aw;rw[one_mul]at mul;refine aK mul ?_;simp -dsimp only[go_sem];refine aK (cE hp aw aw) ?_;simp -dsimp only[go_sem];rw[hfin]
theorem zF {n d:PQ} (h:aa n=1\/aa d=1):IsG 1 n d:=by
 have unit:∀ x:PQ,aa x=1->Dv x 1:=fun x hx=>by
  have h3:=ef (Nat.le_of_eq hx);have h4:x.c 0≠0:=fun e9=>by
   rw[e9,show an (0:Rat)=0 from bR]at h3;rw[h3,aM.2 rfl]at hx;omega
  exact⟨an (Alg.inv (x.c 0)),by rw[h3];simp only[nJ];rw[<-bB,mul_inv h4];rfl⟩
 refine⟨Dv.one _,Dv.one _,fun x h1 h2=>?_⟩;rcases h with h3|h3
 ·exact h1.trans (unit n h3)
 ·exact h2.trans (unit d h3)
theorem JK {n d:PQ} {w h N:Nat} (hd0:d≠0) (hn:am h n) (hd:am h d) (tn:aa n<=N) (td:aa d<=N) (hN:N<=250000) (hf:FB w (Alg.fr n d))
  (hb:(2*(ah w+h)+1)+(N+2)*((2*(ah w+h)+1)+1)+2*(2*(ah w+h)+1)+2*N<=68719476000) :
  ∃ g:PQ,IsG g n d/\am (2*(ah w+h)+1) g/\aa g<=aa d/\g≠0/\lc g=1/\Fn Tryz.prog 94 [iUp n,iUp d] [iUp g]:=by
 have p2:=aT hd0;by_cases hn0:n=0
 ·have call:=nQ hn hd aw aw aw aw (.inl hn0);rw[lB,if_pos hn0]at call;refine⟨ag d,?_,hd.mo.mono aw,Nat.le_of_eq fW,jk hd0,DD hd0,call⟩;rw[hn0];exact xA hd0 ⟨Dv.zero _,Dv.refl _,fun x _ hx=>hx⟩
 have p1:=aT hn0;have hf0:Alg.fr n d≠0:=fun e=>hn0 ((cD hd0).1 e);have hs:Sm w n d:=by
  obtain⟨A,B,h1,h2,h3,h4,h5,h6⟩:=hf;have hA:A≠0:=fun e=>hf0 (by rw[h2,e,cK];exact(cD (dv h1)).2 rfl);exact⟨A,B,hA,h1,by rw[(fG hd0 (dv h1)).1 h2,mul_comm],h3,h4,h5,h6⟩
 by_cases h11:aa n=1/\aa d=1
 ·have call:=nQ hn hd aw aw aw aw (.inr (.inr h11));rw[lB,if_neg hn0,if_neg hd0]at call;exact⟨1,zF (.inl h11.1),dI _,by rw[cP];omega,fS,ui,call⟩
 by_cases hbig:2<=aa n/\2<=aa d
 ·obtain⟨h1,h2,h3,h4⟩:=qG hs hn hd hbig.1 hbig.2;exact⟨_,xA h4 h1,h2.mo,by rw[fW];exact h3,jk h4,DD h4,AA hs hn hd hn0 hd0 h11 tn td hN h1 hb⟩
 ·have hu:=zF (n:=n) (d:=d) aw;have call:=AA hs hn hd hn0 hd0 h11 tn td hN hu hb;rw[mg]at call;exact⟨1,hu,dI _,by rw[cP];omega,fS,ui,call⟩
theorem KY {f:KQ} {w:Nat} (h:FB w f):am (ah w) (nN f)/\am (ah w) (ae f)/\aa (nN f)<=w+1/\aa (ae f)<=w+1:=by
 by_cases hf:f=0
 ·rw[hf,md.1,md.2,cP,aM.2 rfl];exact⟨am.zero _,dI _,aw,aw⟩
 ·exact xo h hf
theorem Eg {n d:PQ} {h N w:Nat} (hd0:d≠0) (hn:am h n) (hd:am h d) (tn:aa n<=N) (td:aa d<=N) (hN:N<=250000) (hf:FB w (Alg.fr n d))
  (hb:(2*(ah w+h)+1)+(N+2)*((2*(ah w+h)+1)+1)+2*(2*(ah w+h)+1)+2*N<=68719476000):Fn Tryz.prog 116 [iUp n,iUp d] [iK (Alg.fr n d),iN 0]:=by
 obtain⟨zN,zD,_,_⟩:=KY hf;obtain⟨g,hg,hgH,hgs,hg0,hgl,hG⟩:=JK hd0 hn hd tn td hN hf hb;obtain⟨n1,e1⟩:=hg.1;obtain⟨d1,e2⟩:=hg.2.1;rw[mul_comm]at e1 e2;have hd1:d1≠0:=fun e=>hd0 (by rw[e2,e,zero_mul]);have hl:lc d1=lc d:=by rw[e2,gy,hgl,mul_one]
 have hl0:lc d1≠(0:Rat):=bI hd1;obtain⟨f1,f2⟩:=H6 hd0 hg e1 e2;have back:∀ x:PQ,x=x*an (1/lc d1)*an (lc d1):=fun x=>by
  rw[mul_assoc,<-bB];have:(1:Rat)/lc d1*lc d1=1:=Rat.div_mul_cancel hl0;rw[show((1:Rat)/lc d1*lc d1:Rat)=1 from this,co,mul_one]
 have hC:am h (an (lc d1)):=by rw[hl];exact mN hd _
 have bn:am (ah w+h) n1:=by rw[back n1,<-f1];exact zN.mul hC
 have bd:am (ah w+h) d1:=by rw[back d1,<-f2];exact zD.mul hC
 have s1:aa n1<=aa n:=by
  by_cases hn1:n1=0
  ·rw[hn1,aM.2 rfl];omega
  ·have:=dw hn1 hg0;rw[<-e1]at this;have:=aT hg0;omega
 have s2:=dw hd1 hg0;rw[<-e2]at s2;have pg:=aT hg0;have hH1:(aa n+2)*((2*(ah w+h)+1)+1)<=(N+2)*((2*(ah w+h)+1)+1):=Nat.mul_le_mul_right _ aw;have hH2:(aa d+2)*((2*(ah w+h)+1)+1)<=(N+2)*((2*(ah w+h)+1)+1):=Nat.mul_le_mul_right _ aw;obtain⟨L,hL⟩:=gD hd1;obtain⟨b1,b2⟩:=jF (x:=1) (h:=0) hl0 ⟨aH,aH⟩ (bd.coef (aa d1-1));have dn:=u6 hn hgH hg0 aw aw aw;rw[gX hg0 e1]at dn;have dd:=u6 hd hgH hg0 aw aw aw;rw[gX hg0 e2]at dd;have hc:=iq b1 b2 (k:=17179869184) aw;have sn:=mC bn aw aw hc;have sd:=mC bd aw aw hc;have cL:(U d1)[0]?=some (⟨((aa d1-1:Nat):Int),0,0,0⟩,lc d1):=by rw[hL];rfl
 have e3:=hzU d;rw[aG hd0]at e3;rw[<-f1]at sn;rw[<-f2]at sd;refine aJ (fn:=Tryz.f116) ?_;simp -dsimp only[go_sem,e3,az];refine ao hG rfl ?_;simp -dsimp only[go_sem];refine ao dn rfl ?_;simp -dsimp only[go_sem];refine ao dd rfl ?_;simp -dsimp only[go_sem];refine ap 7 [11] false true ?_;simp -dsimp only[go_sem];refine aK (dY 1 aH) ?_;simp -dsimp only[go_sem,Int.reduceToNat,Int.reduceLE,aC];refine aQ cL ?_;simp -dsimp only[go_sem,Int.reduceToNat,Int.reduceLE,aC];refine aP (args':=[iQ 1,iQ (lc d1)]) rfl (wJ 1 _ hl0 nR (iq (bd.coef _).1 (bd.coef _).2 aw)) ?_;simp -dsimp only[go_sem];refine ap 7 [] false true ?_;simp -dsimp only[go_sem,Int.reduceToNat,Int.reduceLE,aC];refine ao sn rfl ?_;simp -dsimp only[go_sem,Int.reduceToNat,Int.reduceLE,aC];refine ao sd rfl ?_;simp -dsimp only[go_sem,Int.reduceToNat,Int.reduceLE,aC]
theorem Ml {n d:PQ} {h N w:Nat} (hd0:d≠0) (hn:am h n) (hd:am h d) (tn:aa n<=N) (td:aa d<=N) (hN:N<=250000) (hf:FB w (Alg.fr n d))
  (hb:(2*(ah w+h)+1)+(N+2)*((2*(ah w+h)+1)+1)+2*(2*(ah w+h)+1)+2*N<=68719476000):Fn Tryz.prog 76 [iUp n,iUp d] [iK (Alg.fr n d)]:=by
 have:=Eg hd0 hn hd tn td hN hf hb;refine aJ (fn:=Tryz.f76) ?_;simp -dsimp only[go_sem];refine aK this ?_;simp -dsimp only[go_sem]
theorem Mn {n d:PQ} (hd0:d≠0) (hn:am 8024009 n) (hd:am 8024009 d) (tn:aa n<=2003) (td:aa d<=2003) (hf:FW (Alg.fr n d)):Fn Tryz.prog 116 [iUp n,iUp d] [iK (Alg.fr n d),iN 0] :=
 Eg hd0 hn hd tn td aw hf (by rw[Lx];omega)
theorem xZ {n d:PQ} (hd0:d≠0) (hn:am 8024009 n) (hd:am 8024009 d) (tn:aa n<=2003) (td:aa d<=2003) (hf:FW (Alg.fr n d)):Fn Tryz.prog 76 [iUp n,iUp d] [iK (Alg.fr n d)] :=
 Ml hd0 hn hd tn td aw hf (by rw[Lx];omega)
theorem Au:Fn Tryz.prog 75 [] [iUp 1]:=by
 refine aJ (fn:=Tryz.f75) ?_;simp -dsimp only[go_sem];refine aK (dY 1 aH) ?_;simp -dsimp only[go_sem];refine aP (args':=[iQ ((1:Int):Rat)]) rfl (ox _ (va (n:=1) aH _ aH)) ?_;simp -dsimp only[go_sem];rw[nH,dj];rfl
theorem wF (N:List Tm):Fn Tryz.prog 49 [iM N] [iF N (U 1)]:=by
 refine aJ (fn:=Tryz.f49) ?_;simp -dsimp only[go_sem];refine aK Au ?_;simp -dsimp only[go_sem]
theorem wH (n:PQ):Fn Tryz.prog 49 [iUp n] [iK (Alg.em n)]:=by
 have:=wF (U n);rwa [M8]at this
theorem Ga (c:Rat):gA c=U (an c):=by
 rw[gA];split
 ·rename_i h;rw[h,show an (0:Rat)=0 from bR,cu]
 ·rename_i h;rw[U_C h]
noncomputable abbrev kz (n:Int):KQ:=Alg.em (an (n:Rat))
theorem CQ (c:Rat) (hc:QB 8589934592 c):Fn Tryz.prog 114 [iQ c] [iK (Alg.em (an c))]:=by
 have h1:=ox c hc;rw[Ga]at h1;refine aJ (fn:=Tryz.f114) ?_;simp -dsimp only[go_sem];refine ao h1 rfl ?_;simp -dsimp only[go_sem];refine aK (wH _) ?_;simp -dsimp only[go_sem]
theorem fa (n:Int) (h : -9223372036854775808<=n/\n<9223372036854775808):Fn Tryz.prog 73 [iN n] [iK (kz n)]:=by
 refine aJ (fn:=Tryz.f73) ?_;simp -dsimp only[go_sem];refine aK (dY n h) ?_;simp -dsimp only[go_sem];refine aP (args':=[iQ (n:Rat)]) rfl (CQ (n:Rat) (va h _ aH)) ?_;simp -dsimp only[go_sem]
theorem JB:Fn Tryz.prog 47 [iN 0] [iK (Alg.em ak)]:=by
 have h1:=iP 0 aw;rw[show[((e0.to 0 1:Ex),(1:Rat))]=U ak from U_X.symm]at h1;refine aJ (fn:=Tryz.f47) ?_;simp -dsimp only[go_sem];refine ao h1 rfl ?_;simp -dsimp only[go_sem];refine aK (wH _) ?_;simp -dsimp only[go_sem]
theorem uW {p q:PQ} {h k:Nat} (hp:am h p) (hq:am k q) (hb:h<=137438953000) (hb':k<=137438953000) (sp:aa p<=1048576):Fn Tryz.prog 93 [iUp p,iUp q] [iB (decide (p=q))]:=by
 have:=rt (U p) (U q) (by have:=dC p;omega) (HB.qb hp aw) (HB.qb hq aw);have e:decide (U p=U q)=decide (p=q):=by
  rw[decide_eq_decide];exact⟨fun h=>by rw[<-il p,<-il q,h],fun h=>by rw[h]⟩
 rwa [e]at this
theorem u5 {f g:KQ} (hf:FW f) (hg:FW g):Fn Tryz.prog 87 [iK f,iK g] [iB (decide (f=g))]:=by
 obtain⟨a1,a2,a3,a4⟩:=eV hf;obtain⟨b1,b2,b3,b4⟩:=eV hg;refine aJ (fn:=Tryz.f87) ?_;simp -dsimp only[go_sem,Int.reduceToNat,Int.reduceLE,aC];refine ao (uW a1 b1 aw aw aw) rfl ?_;by_cases h:nN f=nN g
 ·rw[aF h];simp -dsimp only[go_sem,Int.reduceToNat,Int.reduceLE,aC];refine ao (uW a2 b2 aw aw aw) rfl ?_;simp -dsimp only[go_sem];have e:decide (ae f=ae g)=decide (f=g):=by
   rw[decide_eq_decide,Qv];exact⟨fun h'=>⟨h,h'⟩,fun h'=>h'.2⟩
  rw[e]
 ·rw[aG h];simp -dsimp only[go_sem];rw[aG (fun e=>h (Qv.1 e).1)]
theorem wE {f g:KQ} (hf:FW f) (hg:FW g):Fn Tryz.prog 41 [iK f,iK g] [iB (decide (f=g))]:=by
 refine aJ (fn:=Tryz.f41) ?_;simp -dsimp only[go_sem];refine ao (u5 hf hg) rfl ?_;simp -dsimp only[go_sem]
theorem jK (f:KQ):Fn Tryz.prog 34 [iK f] [iB (decide (f=0))]:=by
 refine aJ (fn:=Tryz.f34) ?_;have e:decide (((U (nN f)).length:Int)=0)=decide (f=0):=by rw[hzU,decide_eq_decide,np]
 simp -dsimp only[go_sem,az,Int.reduceToNat,Int.reduceLE,aC,e]
theorem uZ {f:KQ} (hf:FW f):Fn Tryz.prog 40 [iK f] [iK (-f)]:=by
 obtain⟨a1,a2,a3,a4⟩:=eV hf;have sc:=mC (c:=((-1:Int):Rat)) a1 aw aw (va (n := -1) aH _ aH);rw[show nN f*an ((-1:Int):Rat) = -nN f by rw[show an ((-1:Int):Rat) = -(1:PQ)from kJ (1:Rat),mul_neg,mul_one],<-(xp f).1]at sc;have e:iF (U (nN (-f))) (U (ae f))=iK (-f):=by rw[<-(xp f).2]
 refine aJ (fn:=Tryz.f40) ?_;simp -dsimp only[go_sem];refine ap 7 [] false true ?_;simp -dsimp only[go_sem,Int.reduceToNat,Int.reduceLE,aC];refine aK (dY (-1) aH) ?_;simp -dsimp only[go_sem,Int.reduceToNat,Int.reduceLE,aC];refine ao sc rfl ?_;simp -dsimp only[go_sem,Int.reduceToNat,Int.reduceLE,aC];exact congrArg (fun x=>some [x]) e
theorem j9 {f g:KQ} (hf:FW f) (hg:FW g) (h:FW (f*g)):Fn Tryz.prog 37 [iK f,iK g] [iK (f*g)]:=by
 obtain⟨a1,a2,a3,a4⟩:=eV hf;obtain⟨b1,b2,b3,b4⟩:=eV hg;have d1:=(dc f).1;have d2:=(dc g).1;have e:f*g=Alg.fr (nN f*nN g) (ae f*ae g):=by
  conv=>lhs;rw[<-fZ f,<-fZ g]
  exact eY d1 d2
 have s1:=bg (nN f) (nN g);have s2:=bg (ae f) (ae g);have of:=xZ (a6 d1 d2) ((a1.mul b1).mono aw) ((a2.mul b2).mono aw) aw aw (by rw[<-e];exact h);rw[<-e]at of;refine aJ (fn:=Tryz.f37) ?_;simp -dsimp only[go_sem];refine ap 11 [] false true ?_;simp -dsimp only[go_sem,Int.reduceToNat,Int.reduceLE,aC];refine ao (eE a1 b1 aw aw aw) rfl ?_;simp -dsimp only[go_sem,Int.reduceToNat,Int.reduceLE,aC];refine ao (eE a2 b2 aw aw aw) rfl ?_;simp -dsimp only[go_sem,Int.reduceToNat,Int.reduceLE,aC];refine aK of ?_;simp -dsimp only[go_sem]
theorem JL {f g:KQ} (hf:FW f) (hg:FW g) (hg0:g≠0) (h:FW (f*Alg.inv g)):Fn Tryz.prog 118 [iK f,iK g] [iK (f*Alg.inv g),iN 0]:=by
 obtain⟨a1,a2,a3,a4⟩:=eV hf;obtain⟨b1,b2,b3,b4⟩:=eV hg;have d1:=(dc f).1;have d2:=(dc g).1;have n2:nN g≠0:=fun e=>hg0 (np.1 e);have e:f*Alg.inv g=Alg.fr (nN f*ae g) (ae f*nN g):=by
  conv=>lhs;rw[<-fZ f,<-fZ g,xB n2 d2]
  exact eY d1 n2
 have s1:=bg (nN f) (ae g);have s2:=bg (ae f) (nN g);have of:=Mn (a6 d1 n2) ((a1.mul b2).mono aw) ((a2.mul b1).mono aw) aw aw (by rw[<-e];exact h);rw[<-e]at of;refine aJ (fn:=Tryz.f118) ?_;simp -dsimp only[go_sem];refine ap 13 [] false true ?_;simp -dsimp only[go_sem,Int.reduceToNat,Int.reduceLE,aC];refine ao (eE a1 b2 aw aw aw) rfl ?_;simp -dsimp only[go_sem,Int.reduceToNat,Int.reduceLE,aC];refine ao (eE a2 b1 aw aw aw) rfl ?_;simp -dsimp only[go_sem,Int.reduceToNat,Int.reduceLE,aC];refine aK of ?_;simp -dsimp only[go_sem]
theorem rp {f g:KQ} (hf:FW f) (hg:FW g) (hg0:g≠0) (h:FW (f*Alg.inv g)):Fn Tryz.prog 78 [iK f,iK g] [iK (f*Alg.inv g)]:=by
 refine aJ (fn:=Tryz.f78) ?_;simp -dsimp only[go_sem];refine ao (JL hf hg hg0 h) rfl ?_;simp -dsimp only[go_sem]
theorem qr {f g:KQ} (hf:FW f) (hg:FW g) (h:FW (f+g)):Fn Tryz.prog 46 [iK f,iK g] [iK (f+g)]:=by
 obtain⟨a1,a2,a3,a4⟩:=eV hf;obtain⟨b1,b2,b3,b4⟩:=eV hg;have d1:=(dc f).1;have d2:=(dc g).1;have e:f+g=Alg.fr (nN f*ae g+nN g*ae f) (ae f*ae g):=by
  conv=>lhs;rw[<-fZ f,<-fZ g]
  rw[f6 d1 d2]
 have s1:=bg (nN f) (ae g);have s2:=bg (nN g) (ae f);have s3:=bg (ae f) (ae g);have s4:aa (nN f*ae g+nN g*ae f)<=2003:=c8 aw aw;have of:=xZ (a6 d1 d2) (((a1.mul b2).add (b1.mul a2)).mono aw) ((a2.mul b2).mono aw) s4 aw (by rw[<-e];exact h);rw[<-e]at of;refine aJ (fn:=Tryz.f46) ?_;simp -dsimp only[go_sem];refine ap 17 [] false true ?_;simp -dsimp only[go_sem,Int.reduceToNat,Int.reduceLE,aC];refine ao (eE a1 b2 aw aw aw) rfl ?_;simp -dsimp only[go_sem,Int.reduceToNat,Int.reduceLE,aC];refine ao (eE b1 a2 aw aw aw) rfl ?_;simp -dsimp only[go_sem,Int.reduceToNat,Int.reduceLE,aC];refine aK (JM (a1.mul b2) (b1.mul a2) aw aw aw aw) ?_;simp -dsimp only[go_sem,Int.reduceToNat,Int.reduceLE,aC];refine ao (eE a2 b2 aw aw aw) rfl ?_;simp -dsimp only[go_sem,Int.reduceToNat,Int.reduceLE,aC];refine aK of ?_;simp -dsimp only[go_sem]
theorem x5 (a b:List KQ) (hl:a.length<=1099511627776) (hx:∀ f∈a,FW f) (hy:∀ f∈b,FW f):Fn Tryz.prog 112 [kl a,kl b] [iB (decide (a=b))]:=by
 refine aJ (fn:=Tryz.f112) ?_;by_cases hab:a.length=b.length
 ·have e1:decide ((a.length:Int)=(b.length:Int))=true:=aF aw;simp -dsimp only[go_sem,e1,az];refine be [(4,5),(11,26)] [] [] (fun n τ β ε=>∃ i:Nat,n=a.length-i/\i<=a.length/\a.take i=b.take i/\τ 5 = .i (iN i))
   (fun e τ β ε=>(e = .exit 0/\a=b)\/(e = .ret/\¬ a=b/\τ 4 = .i (.c (.v (.bool false))))) a.length ?_ ?_ ?_
  ·exact⟨0,aw,aw,rfl,rfl⟩
  ·rintro n τ β ε π hK hKB hKE ⟨i,hn,hi,he,h5⟩;have k0:τ 0 = .i (kl a):=(hK 0 rfl).trans rfl;have k1:τ 1 = .i (kl b):=(hK 1 rfl).trans rfl;by_cases hlt:i<a.length
   ·have dA:decide ((i:Int)<(a.length:Int))=true:=aF aw;have hlb:i<b.length:=aw;have ga:a[i]?=some a[i]:=by simp[hlt]
    have gb:b[i]?=some b[i]:=by simp[hlb]
    simp -dsimp only[go_sem,h5,k0,dA,az];refine ap 10 [] false true ?_;simp -dsimp only[go_sem,h5,k0,k1];refine aQ ga ?_;simp -dsimp only[go_sem,h5,k0,k1];refine aQ gb ?_;simp -dsimp only[go_sem,h5,k0,k1];refine aP (args':=[iK a[i],iK b[i]]) rfl (u5 (hx _ (List.getElem_mem _)) (hy _ (List.getElem_mem _))) ?_;by_cases hc:a[i]=b[i]
    ·have e2:decide (a[i]=b[i])=true:=aF hc;simp -dsimp only[go_sem,e2,h5]
     repeat(refine And.intro aw ?_)
     refine again (a.length-(i+1)) aw ⟨(aA hK),hKB,hKE,i+1,rfl,aw,?_,rfl⟩;rw[aq hlt,aq hlb,he,hc]
    ·have e2:decide (a[i]=b[i])=false:=aG hc;simp -dsimp only[go_sem,e2];exact⟨(aA hK),hKB,hKE,fun e=>hc (by simp[e])⟩
   ·have dA:decide ((i:Int)<(a.length:Int))=false:=aG aw;obtain rfl:i=a.length:=aw;simp -dsimp only[go_sem,h5,k0,dA,az];have:a=b:=by rw[List.take_length,List.take_of_length_le aw]at he;exact he
    exact⟨(aA hK),hKB,hKE,this⟩
  ·rintro e τ β ε π hK hKB hKE h;rcases h with⟨rfl,h⟩|⟨rfl,h,h6⟩
   ·simp -dsimp only[go_sem,h]
   ·simp -dsimp only[go_sem,h,h6]
 ·have e1:decide ((a.length:Int)=(b.length:Int))=false:=aG aw;simp -dsimp only[go_sem,e1,az];have:¬ a=b:=fun e=>hab (by rw[e]);rw[aG this]
theorem uY (a b:List KQ) (hl:a.length<=1099511627776) (hx:∀ f∈a,FW f) (hy:∀ f∈b,FW f):Fn Tryz.prog 15 [kl a,kl b] [iB (decide (a=b))]:=by
 have h66:Fn Tryz.prog 66 [kl a,kl b] [iB (decide (a=b))]:=by
  refine aJ (fn:=Tryz.f66) ?_;simp -dsimp only[go_sem];refine aK (x5 a b hl hx hy) ?_;simp -dsimp only[go_sem]
 refine aJ (fn:=Tryz.f15) ?_;simp -dsimp only[go_sem];refine aK h66 ?_;simp -dsimp only[go_sem]
theorem j7 (l:List KQ) (hl:l.length<=1048576):Fn Tryz.prog 61 [kl l] [kl (dE l)]:=by
 refine aJ (fn:=Tryz.f61) ?_;simp -dsimp only[go_sem,az];refine be [(3,3),(6,17)] [] [] (fun n τ β ε=>∃ t:Nat,n=t/\t<=l.length/\(∀ j (hj:j<l.length),t<=j->l[j]=0)/\τ 3 = .i (iN t))
  (fun e τ β ε=>e = .exit 0/\∃ t:Nat,t<=l.length/\dE l=l.take t/\τ 3 = .i (iN t)) l.length ?_ ?_ ?_
 ·exact⟨l.length,rfl,ay _,fun j hj h=>by omega,rfl⟩
 ·rintro n τ β ε π hK hKB hKE ⟨t,hn,ht,hz,h3⟩;have k0:τ 0 = .i (kl l):=(hK 0 rfl).trans rfl;by_cases ht0:t=0
  ·have dA:decide ((0:Int)<(t:Int))=false:=aG aw;simp -dsimp only[go_sem,h3,dA];exact⟨(aA hK),hKB,hKE,t,ht,it ht hz (fun _ h=>by omega),rfl⟩
  ·have dA:decide ((0:Int)<(t:Int))=true:=aF aw;have ei:(t:Int)-1=((t-1:Nat):Int):=aw;have gl:l[t-1]?=some l[t-1]:=aD aw;simp -dsimp only[go_sem,h3,k0,dA,ei]
   repeat(refine And.intro aw ?_)
   refine aQ gl ?_;simp -dsimp only[go_sem,h3];refine aP (args':=[iK l[t-1]]) rfl (jK _) ?_;by_cases hc:l[t-1]=0
   ·have e2:decide (l[t-1]=0)=true:=aF hc;simp -dsimp only[go_sem,e2,h3,ei]
    repeat(refine And.intro aw ?_)
    refine again (t-1) aw ⟨(aA hK),hKB,hKE,t-1,rfl,aw,fun j hj h=>?_,rfl⟩;by_cases e:j=t-1
    ·subst e;exact hc
    ·exact hz j hj aw
   ·have e2:decide (l[t-1]=0)=false:=aG hc;simp -dsimp only[go_sem,e2];exact⟨(aA hK),hKB,hKE,t,ht,it ht hz (fun _ _=>hc),h3⟩
 ·rintro e τ β ε π hK hKB hKE ⟨rfl,t,ht,he,h3⟩;have k0:τ 0 = .i (kl l):=(hK 0 rfl).trans rfl;simp -dsimp only[go_sem,h3,k0,Int.reduceToNat,Int.reduceLE,aC,az];refine⟨ht,fun r hr=>?_,aw,?_⟩
  ·obtain⟨f,-,rfl⟩:=List.mem_map.1 (List.mem_of_mem_take hr);rfl
  ·rw[List.take_of_length_le au,he,<-List.map_take]
theorem ph (l:List KQ) (i:Int):Fn Tryz.prog 72 [kl l,iN i] [iK (if i<0 then 0 else l.getD i.toNat 0)]:=by
 refine aJ (fn:=Tryz.f72) ?_;by_cases h0:i<0
 ·have d0:decide (i<0)=true:=aF h0;simp -dsimp only[go_sem,d0];refine aK (fa 0 aH) ?_;simp -dsimp only[go_sem];rw[if_pos h0,show kz 0=0 from fF]
 ·have d0:decide (i<0)=false:=aG h0;rw[if_neg h0];by_cases h1:i<l.length
  ·have d1:decide ((l.length:Int)<=i)=false:=aG aw;obtain⟨j,rfl⟩:∃ j:Nat,i=j:=⟨i.toNat,aw⟩;have gl:l[j]?=some l[j]:=aD aw;simp -dsimp only[go_sem,d0,d1,az];refine aQ gl ?_;simp -dsimp only[go_sem];rw[List.getD_eq_getElem?_getD,gl];rfl
  ·have d1:decide ((l.length:Int)<=i)=true:=aF aw;simp -dsimp only[go_sem,d0,d1,az];refine aK (fa 0 aH) ?_;simp -dsimp only[go_sem];rw[show kz 0=0 from fF,List.getD_eq_getElem?_getD,List.getElem?_eq_none aw];rfl
theorem pC {f:Nat->KQ} {n:Nat} {r:KP} (h1:∀ i,i<n->f i=r.c i) (h2:aa r<=n):dE ((List.range n).map f)=aj r:=by
 rw[gc];congr 1;refine Alg.P.ext fun i=>?_;rw[si];by_cases h:i<n
 ·rw[<-h1 i h];simp[List.getD,h]
 ·rw[aO (by omega:aa r<=i)];simp[List.getD,h]
theorem gS (f:Nat->KQ) (n:Nat):((List.range n).map f).length=n:=au
theorem ng (f:Nat->KQ) (n:Nat):(List.range (n+1)).map f=(List.range n).map f++[f n]:=by rw[List.range_succ,List.map_append];rfl
theorem DN (p:KP) (i:Nat):(if((i:Nat):Int)<0 then(0:KQ)else(aj p).getD ((i:Nat):Int).toNat 0)=p.c i:=by
 rw[if_neg aw,Int.toNat_natCast,my]
theorem JJ {p q:KP} {w v:Nat} (hp:PW w p) (hq:PW v q) (hb:w+v+1<=1000) (hs:aa p<=1000) (hs':aa q<=1000):Fn Tryz.prog 21 [ku p,ku q] [ku (p+q)]:=by
 have lp:=aX p;have lq:=aX q;refine aJ (fn:=Tryz.f21) ?_;simp -dsimp only[go_sem];refine cj 5 7 2 (rs:=[]) rfl au ?_;refine br [(5,6),(8,29)] [] [(7,7),(29,29)] (fun n τ β ε=>∃ i:Nat,n=max (aa p) (aa q)-i/\i<=max (aa p) (aa q)/\τ 6 = .i (iN i)/\Own 2 (((List.range i).map fun j=>p.c j+q.c j).map kr) 5 7 τ ε)
  (fun e τ β ε=>e = .exit 0/\Own 2 (((List.range (max (aa p) (aa q))).map fun j=>p.c j+q.c j).map kr) 5 7 τ ε) (max (aa p) (aa q)) ?_ ?_ ?_
 ·exact⟨0,aw,aw,rfl,Own.mk (g:=1) (mm:=false) aw rfl rfl rfl⟩
 ·rintro n τ β ε π hK hKB hKE ⟨i,hn,hi,h6,g,mm,hg,h5,h7⟩;rw[az,gS]at h5;have k0:τ 0 = .i (ku p):=(hK 0 rfl).trans rfl;have k1:τ 1 = .i (ku q):=(hK 1 rfl).trans rfl;by_cases hlt:i<max (aa p) (aa q)
  ·have go:∀ K:Prop,K->K:=fun _ h=>h;have c1:=ph (aj p) (i:Int);have c2:=ph (aj q) (i:Int);rw[DN]at c1 c2;by_cases hip:i<aa p
   ·have dA:decide ((i:Int)<(aa p:Int))=true:=aF aw;simp -dsimp only[go_sem,h6,k0,k1,dA,az,lp,lq,h5];refine aK c1 ?_;simp -dsimp only[go_sem,h6,k0,k1];refine aK c2 ?_;simp -dsimp only[go_sem,h6,k0,k1];refine ao (qr ((hp i).mono aw) ((hq i).mono aw) (((hp i).add (hq i)).mono aw)) rfl ?_;simp -dsimp only[go_sem,h5,h7,hg,h6,az,List.length_range]
    repeat(refine And.intro aw ?_)
    refine bc (max (aa p) (aa q)-(i+1)) 5 29 7 aw rfl rfl aw aH ⟨(aA hK),hKB,(aA hKE),i+1,rfl,aw,rfl,?_⟩;exact Own.mk2 (Nat.succ_pos _) (by simp -dsimp only[go_sem];rfl) (by simp -dsimp only[go_sem];rfl) au (by rw[ng,List.map_append];rfl)
   ·have dA:decide ((i:Int)<(aa p:Int))=false:=aG aw;have dB:decide ((i:Int)<(aa q:Int))=true:=aF aw;simp -dsimp only[go_sem,h6,k0,k1,dA,dB,az,lp,lq,h5];refine aK c1 ?_;simp -dsimp only[go_sem,h6,k0,k1];refine aK c2 ?_;simp -dsimp only[go_sem,h6,k0,k1];refine ao (qr ((hp i).mono aw) ((hq i).mono aw) (((hp i).add (hq i)).mono aw)) rfl ?_;simp -dsimp only[go_sem,h5,h7,hg,h6,az,List.length_range]
    repeat(refine And.intro aw ?_)
    refine bc (max (aa p) (aa q)-(i+1)) 5 29 7 aw rfl rfl aw aH ⟨(aA hK),hKB,(aA hKE),i+1,rfl,aw,rfl,?_⟩;exact Own.mk2 (Nat.succ_pos _) (by simp -dsimp only[go_sem];rfl) (by simp -dsimp only[go_sem];rfl) au (by rw[ng,List.map_append];rfl)
  ·obtain rfl:i=max (aa p) (aa q):=aw;have dA:decide (((max (aa p) (aa q):Nat):Int)<(aa p:Int))=false:=aG aw;have dB:decide (((max (aa p) (aa q):Nat):Int)<(aa q:Int))=false:=aG aw;simp -dsimp only[go_sem,h6,k0,k1,dA,dB,az,lp,lq];exact⟨(aA hK),hKB,hKE,Own.mk hg h5 au h7⟩
 ·rintro e τ β ε π hK hKB hKE ⟨rfl,g,mm,hg,h5,h7⟩;rw[az,gS]at h5;refine⟨_,bA.freeze _ 7,?_⟩;simp -dsimp only[go_sem,h5,h7,hg];refine aP (args':=[kl ((List.range (max (aa p) (aa q))).map fun j=>p.c j+q.c j)]) (by rw[List.take_of_length_le au]) (j7 _ (by rw[gS];omega)) ?_;simp -dsimp only[go_sem];rw[pC (r:=p+q) (fun i _=>(cf p q i).symm) (c8 aw aw)]
theorem sS {p:KP} {c:KQ} {w v:Nat} (hp:PW w p) (hc:FB v c) (hb:w+v<=1000) (hs:aa p<=1000):Fn Tryz.prog 36 [ku p,iK c] [ku (p*an c)]:=by
 have lp:=aX p;refine aJ (fn:=Tryz.f36) ?_;simp -dsimp only[go_sem];refine cj 5 7 2 (rs:=[]) rfl au ?_;refine br [(5,6),(8,22)] [] [(7,7),(22,22)] (fun n τ β ε=>∃ i:Nat,n=aa p-i/\i<=aa p/\τ 6 = .i (iN i)/\Own 2 (((List.range i).map fun j=>p.c j*c).map kr) 5 7 τ ε)
  (fun e τ β ε=>e = .exit 0/\Own 2 (((List.range (aa p)).map fun j=>p.c j*c).map kr) 5 7 τ ε) (aa p) ?_ ?_ ?_
 ·exact⟨0,aw,aw,rfl,Own.mk (g:=1) (mm:=false) aw rfl rfl rfl⟩
 ·rintro n τ β ε π hK hKB hKE ⟨i,hn,hi,h6,g,mm,hg,h5,h7⟩;rw[az,gS]at h5;have k0:τ 0 = .i (ku p):=(hK 0 rfl).trans rfl;have k3:τ 3 = .bp 3 1 0:=(hK 3 rfl).trans rfl;have b3:β 3=⟨1,kr c⟩:=(hKB 3 rfl).trans rfl;by_cases hlt:i<aa p
  ·have dA:decide ((i:Int)<(aa p:Int))=true:=aF aw;have gp:(aj p)[i]?=some (p.c i):=by rw[aD aw,gB]
   simp -dsimp only[go_sem,h6,k0,k3,dA,az,lp,h5,b3];refine ap 10 [] true false ?_;simp -dsimp only[go_sem,h6,k0,k3,dA,az,lp,h5,b3];refine aQ gp ?_;simp -dsimp only[go_sem,h6,k0,k3,dA,az,lp,h5,b3,Int.reduceToNat,Int.reduceLE,aC];refine ao (j9 ((hp i).mono aw) (hc.mono aw) (((hp i).mul hc).mono aw)) rfl ?_;simp -dsimp only[go_sem,h5,h7,hg,h6,az,List.length_range]
   repeat(refine And.intro aw ?_)
   refine bc (aa p-(i+1)) 5 22 7 aw rfl rfl aw aH ⟨(aA hK),hKB,(aA hKE),i+1,rfl,aw,rfl,?_⟩;exact Own.mk2 (Nat.succ_pos _) (by simp -dsimp only[go_sem];rfl) (by simp -dsimp only[go_sem];rfl) au (by rw[ng,List.map_append];rfl)
  ·obtain rfl:i=aa p:=aw;have dA:decide ((aa p:Int)<(aa p:Int))=false:=aG aw;simp -dsimp only[go_sem,h6,k0,dA,az,lp];exact⟨(aA hK),hKB,hKE,Own.mk hg h5 au h7⟩
 ·rintro e τ β ε π hK hKB hKE ⟨rfl,g,mm,hg,h5,h7⟩;rw[az,gS]at h5;refine⟨_,bA.freeze _ 7,?_⟩;simp -dsimp only[go_sem,h5,h7,hg];refine aP (args':=[kl ((List.range (aa p)).map fun j=>p.c j*c)]) (by rw[List.take_of_length_le au]) (j7 _ (by rw[gS];omega)) ?_;simp -dsimp only[go_sem];rw[pC (r:=p*an c) (fun i _=>(n8 ..).symm) (cn fun i hi=>by rw[n8,aO hi,zero_mul])]
theorem QZ {p q:KP} {w v:Nat} (hp:PW w p) (hq:PW v q) (hb:w+v+1<=1000) (hs:aa p<=1000) (hs':aa q<=1000):Fn Tryz.prog 51 [ku p,ku q] [ku (p-q)]:=by
 have hn:PW v (-q):=fun i=>(hq i).neg;have sc:=sS (c:=kn (-1)) hq (ig (w:=0) aH) aw hs';rw[jC]at sc;have ad:=JJ hp hn hb hs (by rw[kM];exact hs');rw[<-sub_eq]at ad;refine aJ (fn:=Tryz.f51) ?_;simp -dsimp only[go_sem];refine aK (fa (-1) aH) ?_;simp -dsimp only[go_sem];refine ao sc rfl ?_;simp -dsimp only[go_sem];refine aK ad ?_;simp -dsimp only[go_sem]
theorem RKDiff {p:KP} {w:Nat} (hp:PW w p) (hb:w+10<=1000) (hs:aa p<=1000):Fn Tryz.prog 32 [ku p] [ku (der p)]:=by
 have lp:=aX p;refine aJ (fn:=Tryz.f32) ?_;simp -dsimp only[go_sem];refine cj 3 5 2 (rs:=[]) rfl au ?_;refine br [(3,4),(6,21)] [] [(5,5),(21,21)] (fun n τ β ε=>∃ i:Nat,n=aa p-i/\(i=0\/i+1<=aa p)/\τ 4 = .i (iN (i+1:Nat))/\Own 2 (((List.range i).map fun j=>kn (j+1:Nat)*p.c (j+1)).map kr) 3 5 τ ε)
  (fun e τ β ε=>e = .exit 0/\Own 2 (((List.range (aa p-1)).map fun j=>kn (j+1:Nat)*p.c (j+1)).map kr) 3 5 τ ε) (aa p) ?_ ?_ ?_
 ·exact⟨0,aw,.inl rfl,rfl,Own.mk (g:=1) (mm:=false) aw rfl rfl rfl⟩
 ·rintro n τ β ε π hK hKB hKE ⟨i,hn,hi,h4,g,mm,hg,h3,h5⟩;rw[az,gS]at h3;have k0:τ 0 = .i (ku p):=(hK 0 rfl).trans rfl;by_cases hlt:i+1<aa p
  ·have dA:decide (((i+1:Nat):Int)<(aa p:Int))=true:=aF aw;have gp:(aj p)[i+1]?=some (p.c (i+1)):=by rw[aD aw,gB]
   have hw:FB 10 (kn ((i+1:Nat):Int)):=ig (by rw[show(2:Nat) ^ 10=1024 from rfl];omega);simp -dsimp only[go_sem,h4,k0,dA,az,lp,h3];refine ap 11 [] true false ?_;simp -dsimp only[go_sem,h4,k0,dA,az,lp,h3];refine aK (fa ((i+1:Nat):Int) aw) ?_;simp -dsimp only[go_sem,h4,k0,dA,az,lp,h3];refine aQ gp ?_;simp -dsimp only[go_sem,h4,k0,dA,az,lp,h3];refine aP (args':=[iK (kn ((i+1:Nat):Int)),iK (p.c (i+1))]) rfl (j9 (hw.mono aw) ((hp _).mono aw) ((hw.mul (hp _)).mono aw)) ?_;simp -dsimp only[go_sem,h3,h5,hg,h4,az,List.length_range]
   repeat(refine And.intro aw ?_)
   refine bc (aa p-(i+1)) 3 21 5 aw rfl rfl aw aH ⟨(aA hK),hKB,(aA hKE),i+1,rfl,aw,rfl,?_⟩;exact Own.mk2 (Nat.succ_pos _) (by simp -dsimp only[go_sem];rfl) (by simp -dsimp only[go_sem];rfl) au (by rw[ng,List.map_append];rfl)
  ·have dA:decide (((i+1:Nat):Int)<(aa p:Int))=false:=aG aw;have ei:aa p-1=i:=aw;simp -dsimp only[go_sem,h4,k0,dA,az,lp];rw[ei];exact⟨(aA hK),hKB,hKE,Own.mk hg h3 au h5⟩
 ·rintro e τ β ε π hK hKB hKE ⟨rfl,g,mm,hg,h3,h5⟩;rw[az,gS]at h3;refine⟨_,bA.freeze _ 5,?_⟩;simp -dsimp only[go_sem,h3,h5,hg];refine aP (args':=[kl ((List.range (aa p-1)).map fun j=>kn (j+1:Nat)*p.c (j+1))]) (by rw[List.take_of_length_le au]) (j7 _ (by rw[gS];omega)) ?_;simp -dsimp only[go_sem];have ht:=pC (r:=der p) (f:=fun j=>kn ((j+1:Nat):Int)*p.c (j+1)) (n:=aa p-1) (fun i _=>by rw[jZ,DJ]) (cn fun i hi=>by rw[jZ,aO aw,mul_zero]);rw[ht]
theorem JA:Fn Tryz.prog 73 [iN 0] [iK 0]:=by
 have:=fa 0 aH;rwa [show kz 0=0 from fF]at this
theorem Ei {p:KP} (n:Nat) (hn:n<=1000) (hs:aa p<=1000):Fn Tryz.prog 71 [ku p,iN n] [ku (mon n 1*p)]:=by
 have lp:=aX p;refine aJ (fn:=Tryz.f71) ?_;simp -dsimp only[go_sem];refine cj 5 7 2 (rs:=[]) rfl au ?_;refine br [(5,6),(8,16)] [] [(7,7),(16,16)] (fun m τ β ε=>∃ i:Nat,m=n-i/\i<=n/\τ 6 = .i (iN i)/\Own 2 (((List.range i).map fun _=>(0:KQ)).map kr) 5 7 τ ε)
  (fun e τ β ε=>e = .exit 0/\Own 2 (((List.range n).map fun _=>(0:KQ)).map kr) 5 7 τ ε) n ?_ ?_ ?_
 ·exact⟨0,aw,aw,rfl,Own.mk (g:=1) (mm:=false) aw rfl rfl rfl⟩
 ·rintro m τ β ε π hK hKB hKE ⟨i,hm,hi,h6,g,mm,hg,h5,h7⟩;rw[az,gS]at h5;have k1:τ 1 = .i (iN n):=(hK 1 rfl).trans rfl;by_cases hlt:i<n
  ·have dA:decide ((i:Int)<(n:Int))=true:=aF aw;simp -dsimp only[go_sem,h6,k1,dA,h5];refine aK JA ?_;simp -dsimp only[go_sem,h5,h7,hg,h6,az,List.length_range]
   repeat(refine And.intro aw ?_)
   refine bc (n-(i+1)) 5 16 7 aw rfl rfl aw aH ⟨(aA hK),hKB,(aA hKE),i+1,rfl,aw,rfl,?_⟩;exact Own.mk2 (Nat.succ_pos _) (by simp -dsimp only[go_sem];rfl) (by simp -dsimp only[go_sem];rfl) au (by rw[ng,List.map_append];rfl)
  ·obtain rfl:i=n:=aw;have dA:decide ((i:Int)<(i:Int))=false:=aG aw;simp -dsimp only[go_sem,h6,k1,dA];exact⟨(aA hK),hKB,hKE,Own.mk hg h5 au h7⟩
 ·rintro e τ β ε π hK hKB hKE ⟨rfl,g,mm,hg,h5,h7⟩;rw[az,gS]at h5;have k0:τ 0 = .i (ku p):=(hK 0 rfl).trans rfl;refine⟨_,bA.refl _,?_⟩;simp -dsimp only[go_sem,h5,h7,hg,k0,az,List.length_range,lp];refine⟨aw,?_⟩;refine aP (args':=[kl ((List.range n).map (fun _=>(0:KQ))++aj p)]) (by rw[List.take_of_length_le (by simp[lp]),<-List.map_append]) (j7 _ (by simp[lp];omega)) ?_;simp -dsimp only[go_sem];have e:ac ((List.range n).map (fun _=>(0:KQ))++aj p)=mon n 1*p:=Alg.P.ext fun i=>by
   rw[si,cw,List.getD_eq_getElem?_getD];by_cases h:n<=i
   ·rw[if_pos h,one_mul,List.getElem?_append_right (by simp;exact h),<-my,List.getD_eq_getElem?_getD];simp
   ·rw[if_neg h,List.getElem?_append_left ar];simp[show i<n by omega]
  rw[gc,e]
theorem Ek (c:KQ):Fn Tryz.prog 29 [iK c] [ku (an c)]:=by
 have h:dE [c]=aj (an c):=by
  have:=pC (f:=fun _=>c) (n:=1) (r:=an c) (fun i hi=>by cases i with|zero=>rfl|succ i=>omega) (cn (n:=1) fun i hi=>by cases i with|zero=>omega|succ i=>rfl)
  exact this
 refine aJ (fn:=Tryz.f29) ?_;simp -dsimp only[go_sem];refine ao (j7 [c] au) rfl ?_;simp -dsimp only[go_sem];rw[h]
theorem CM (p:KP) (hp:p≠0) (hs:aa p<=1000):Fn Tryz.prog 79 [ku p] [iK (lc p)]:=by
 have lp:=aX p;have h0:=aT hp;have c1:=ph (aj p) ((aa p-1:Nat):Int);rw[DN]at c1;have ei:(aa p:Int)-1=((aa p-1:Nat):Int):=aw;refine aJ (fn:=Tryz.f79) ?_;simp -dsimp only[go_sem,az,lp,ei]
 repeat(refine And.intro aw ?_)
 refine aK c1 ?_;simp -dsimp only[go_sem];rfl
theorem Ej {p:KP} {w:Nat} (hp:PW w p) (hb:2*w<=1000) (hs:aa p<=1000):Fn Tryz.prog 26 [ku p] [ku (mn p)]:=by
 have lp:=aX p;refine aJ (fn:=Tryz.f26) ?_;by_cases h0:p=0
 ·have e1:decide ((aa p:Int)=0)=true:=aF (by rw[h0,aM.2 rfl];rfl);simp -dsimp only[go_sem,az,lp,e1];rw[h0,js,dx];rfl
 ·have h1:=aT h0;have e1:decide ((aa p:Int)=0)=false:=aG aw;have hlw:FB w (Alg.inv (lc p)):=(hp _).inv (bI h0);have ov:=rp (f:=kn 1) (g:=lc p) ((ig (w:=0) aH).mono aw) ((hp _).mono aw) (bI h0) (by rw[fC,one_mul];exact hlw.mono aw);rw[fC,one_mul]at ov;have sc:=sS hp hlw aw hs;rw[mul_comm]at sc;simp -dsimp only[go_sem,az,lp,e1];refine aK (fa 1 aH) ?_;simp -dsimp only[go_sem];refine ao (CM p h0 hs) rfl ?_;simp -dsimp only[go_sem];refine ao ov rfl ?_;simp -dsimp only[go_sem];refine ao sc rfl ?_;simp -dsimp only[go_sem];rfl
theorem PY (p:KP) (n:Nat):aa (tk p n)<=n:=cn fun i hi=>by rw[Fa,if_neg aw]
theorem MZ (n:Nat) (c:KQ):mon n 1*an c=mon n c:=by
 rw[<-dj,dK,Nat.add_zero,one_mul]
theorem P1 (c:KQ):aa (an c)<=1:=cn fun i hi=>by cases i with|zero=>omega|succ i=>rfl
theorem Np {p q:KP} {w v:Nat} (hp:PW w p) (hq:PW v q) (hb:aa q*(v+w+1)<=1000) (hs:aa p+aa q<=1000):Fn Tryz.prog 19 [ku p,ku q] [ku (p*q)]:=by
 have lq:=aX q;refine aJ (fn:=Tryz.f19) ?_;simp -dsimp only[go_sem];refine ln (bA.imm _ 5 (x:=kl []) rfl) ?_;refine be [(5,6),(8,23)] [] [] (fun n τ β ε=>∃ i:Nat,n=aa q-i/\i<=aa q/\τ 6 = .i (iN i)/\τ 5 = .i (ku (tk q i*p)))
  (fun e τ β ε=>e = .exit 0/\τ 5 = .i (ku (p*q))) (aa q) ?_ ?_ ?_
 ·exact⟨0,aw,aw,rfl,by simp -dsimp only[go_sem];rw[lU,zero_mul,dx]⟩
 ·rintro n τ β ε π hK hKB hKE ⟨i,hn,hi,h6,h5⟩;have k0:τ 0 = .i (ku p):=(hK 0 rfl).trans rfl;have k1:τ 1 = .i (ku q):=(hK 1 rfl).trans rfl;by_cases hlt:i<aa q
  ·have dA:decide ((i:Int)<(aa q:Int))=true:=aF aw;have gq:(aj q)[i]?=some (q.c i):=by rw[aD aw,gB]
   have hm:(i+1)*(v+w+1)<=aa q*(v+w+1):=Nat.mul_le_mul_right _ aw;have hm1:1*(v+w+1)<=aa q*(v+w+1):=Nat.mul_le_mul_right _ aw;have e1:mon i 1*(p*an (q.c i))=mon i (q.c i)*p:=by rw[mul_comm p,<-mul_assoc,MZ]
   have e2:tk q i*p+mon i (q.c i)*p=tk q (i+1)*p:=by rw[nZ,add_mul]
   have s1:=bg (tk q i) p;have s2:=PY q i;have s3:aa (p*an (q.c i))<=aa p:=cn fun j hj=>by rw[n8,aO hj,zero_mul]
   have s4:aa (mon i (q.c i)*p)<=i+aa p:=cn fun j hj=>by
    rw[cw];split
    ·rw[aO (p:=p) aw,mul_zero]
    ·rfl
   have ad:=JJ (Da hq hp i) (ub (i:=i) (hq i) hp) (by rw[Nat.succ_mul]at hm;omega) aw aw;rw[e2]at ad;have ra:=Ei (p:=p*an (q.c i)) i aw aw;rw[e1]at ra;simp -dsimp only[go_sem,h6,h5,k0,k1,dA,az,lq];refine aQ gq ?_;simp -dsimp only[go_sem,h6,h5,k0,k1];refine ao (sS hp (hq i) aw aw) rfl ?_;simp -dsimp only[go_sem,h6,h5,k0,k1];refine aK ra ?_;simp -dsimp only[go_sem,h6,h5,k0,k1];refine aK ad ?_;simp -dsimp only[go_sem,h6]
   repeat(refine And.intro aw ?_)
   exact again (aa q-(i+1)) aw ⟨(aA hK),hKB,hKE,i+1,rfl,aw,rfl,rfl⟩
  ·obtain rfl:i=aa q:=aw;have dA:decide ((aa q:Int)<(aa q:Int))=false:=aG aw;rw[tr (ay _),mul_comm]at h5;simp -dsimp only[go_sem,h6,k1,dA,az,lq];exact⟨(aA hK),hKB,hKE,h5⟩
 ·rintro e τ β ε π hK hKB hKE ⟨rfl,h5⟩;simp -dsimp only[go_sem,h5]
theorem Pm (p:KP) (hs:aa p<=1000):Fn Tryz.prog 61 [ku p] [ku p]:=by
 have:=j7 (aj p) (by rw[aX];omega);rwa [gc,Du]at this
theorem Pn {p q:KP} {w v:Nat} (hp:PW w p) (hq:PW v q) (hw:w<=1000) (hv:v<=1000) (hs:aa p<=1000):Fn Tryz.prog 15 [ku p,ku q] [iB (decide (p=q))]:=by
 have:=uY (aj p) (aj q) (by rw[aX];omega) (hp.fw hw) (hq.fw hv);have e:decide (aj p=aj q)=decide (p=q):=by rw[decide_eq_decide];exact⟨OV,fun h=>by rw[h]⟩
 rwa [e]at this
def wR (w v:Nat):Nat->Nat
 | 0=>w
 | n+1=>2*wR w v n+2*v+1
theorem sB (w v:Nat) {m n:Nat} (h:m<=n):wR w v m<=wR w v n:=by
 induction n with
 | zero=>rw[show m=0 by omega];exact ay _
 | succ n ih =>
  by_cases e:m=n+1
  ·rw[e];exact ay _
  ·have:=ih aw;simp only[wR];omega
theorem JI {p q:KP} {w v:Nat} (hq0:q≠0) (hp:PW w p) (hq:PW v q) (hb:(aa q+2)*(wR w v (aa p+1-aa q)+2*v+1)<=1000) (hs:2*aa p<=1000) (hs':2*aa q<=1000) :
  Fn Tryz.prog 80 [ku p,ku q] [ku (qu p q),ku (ab p q),iN 0]:=by
 have lq:=aX q;have hq1:=aT hq0;have e1:decide ((aa q:Int)=0)=false:=aG aw;have hb3:3*(wR w v (aa p+1-aa q)+2*v+1)<=1000:=ax (Nat.mul_le_mul_right _ aw) hb;refine aJ (fn:=Tryz.f80) ?_;simp -dsimp only[go_sem,az,lq,e1];refine ln (bA.imm _ 7 (x:=kl []) rfl) ?_;refine be [(7,9),(17,42)] [] [] (fun n τ β ε=>∃(k:Nat) (Q r:KP),n=aa r/\k+aa r<=aa p/\p=Q*q+r/\PW (wR w v k) r/\PW (wR w v k) Q/\aa Q<=aa p/\τ 7 = .i (ku Q)/\τ 8 = .i (ku r))
  (fun e τ β ε=>e = .exit 0/\τ 7 = .i (ku (qu p q))/\τ 8 = .i (ku (ab p q))) (aa p) ?_ ?_ ?_
 ·exact⟨0,0,p,rfl,aw,by rw[zero_mul,zero_add],hp,fun i=>dX _,by rw[aM.2 rfl];omega,by simp -dsimp only[go_sem];rw[dx],rfl⟩
 ·rintro n τ β ε π hK hKB hKE ⟨k,Q,r,hn,hk,he,hr,hQ,sQ,h7,h8⟩;have k1:τ 1 = .i (ku q):=(hK 1 rfl).trans rfl;have lr:=aX r;by_cases hlt:aa q<=aa r
  ·have dA:decide ((aa q:Int)<=(aa r:Int))=true:=aF aw;have ed:(aa r:Int)-(aa q:Int)=((aa r-aa q:Nat):Int):=aw;have hr0:r≠0:=fun e=>by rw[e,aM.2 rfl]at hlt;omega
   have hwk:wR w v (k+1)<=wR w v (aa p+1-aa q):=sB w v aw;have hwk':2*wR w v k+2*v+1<=wR w v (aa p+1-aa q):=hwk;have hc:FB (wR w v k+v) (lc r*Alg.inv (lc q)):=(hr _).mul ((hq _).inv (bI hq0));generalize hcc:lc r*Alg.inv (lc q)=c at hc;generalize hdd:aa r-aa q=d at ed;have hst:PW (wR w v k+v) (mon d c):=fun i=>by
    rw[bY];split
    ·exact hc
    ·exact dX _
   have hmq:PW (wR w v k+v+v) (mon d c*q):=ub hc hq;have sst:aa (mon d c)<=d+1:=cn fun i hi=>by rw[bY,if_neg aw]
   have smq:=bg (mon d c) q;have hlow:aa (r-mon d c*q)<=aa r-1:=cn fun i hi=>by
    rw[i7,cw,if_pos aw];by_cases e:i=aa r-1
    ·have e2:i-d=aa q-1:=aw;rw[e2,e,<-hcc,mul_assoc,show q.c (aa q-1)=lc q from rfl,cJ (bI hq0),mul_one,show r.c (aa r-1)=lc r from rfl,sub_self]
    ·rw[aO aw,aO (p:=q) aw,mul_zero,sub_self]
   have ov:=rp ((hr (aa r-1)).mono aw) ((hq (aa q-1)).mono aw) (bI hq0) (by rw[show r.c (aa r-1)=lc r from rfl,show q.c (aa q-1)=lc q from rfl,hcc];exact hc.mono aw);rw[show r.c (aa r-1)=lc r from rfl,show q.c (aa q-1)=lc q from rfl,hcc]at ov;have ra:=Ei (p:=an c) d aw (by have:=P1 c;omega);rw[MZ]at ra;have hbm:aa q*(v+(wR w v k+v)+1)<=1000:=ax (Nat.mul_le_mul aw aw) hb;simp -dsimp only[go_sem,h7,h8,k1,dA,az,lq,lr,ed];refine aK (CM r hr0 aw) ?_;simp -dsimp only[go_sem,h7,h8,k1];refine aK (CM q hq0 aw) ?_;simp -dsimp only[go_sem,h7,h8,k1];refine ao ov rfl ?_;simp -dsimp only[go_sem,h7,h8,k1];refine ao (Ek c) rfl ?_;simp -dsimp only[go_sem,h7,h8,k1,az,lq,lr,ed]
   repeat(refine And.intro aw ?_)
   refine aK ra ?_;simp -dsimp only[go_sem,h7,h8,k1];refine aK (JJ hQ hst aw aw aw) ?_;simp -dsimp only[go_sem,h7,h8,k1];refine aK (Np hst hq hbm aw) ?_;simp -dsimp only[go_sem,h7,h8,k1];refine aK (QZ hr hmq aw aw aw) ?_;simp -dsimp only[go_sem,h7,h8,k1];refine aK (Pm _ aw) ?_;simp -dsimp only[go_sem];refine again (aa (r-mon d c*q)) aw ⟨(aA hK),hKB,hKE,k+1,Q+mon d c,r-mon d c*q,rfl,aw,?_,?_,?_,c8 sQ aw,rfl,rfl⟩
   ·rw[add_mul,he];exact ring [Q*q,mon d c*q,r]
   ·exact(hr.sub hmq).mono (by simp only[wR];omega)
   ·exact(hQ.add hst).mono (by simp only[wR];omega)
  ·have dA:decide ((aa q:Int)<=(aa r:Int))=false:=aG aw;obtain⟨u1,u2⟩:=n7 he aw;simp -dsimp only[go_sem,h7,h8,k1,dA,az,lq,lr];rw[u1,u2];exact⟨(aA hK),hKB,hKE,rfl,rfl⟩
 ·rintro e τ β ε π hK hKB hKE ⟨rfl,h7,h8⟩;simp -dsimp only[go_sem,h7,h8]
theorem JH {p q:KP} {w v:Nat} (hq0:q≠0) (hp:PW w p) (hq:PW v q) (hb:(aa q+2)*(wR w v (aa p+1-aa q)+2*v+1)<=1000) (hs:2*aa p<=1000) (hs':2*aa q<=1000):Fn Tryz.prog 27 [ku p,ku q] [ku (ab p q)]:=by
 refine aJ (fn:=Tryz.f27) ?_;simp -dsimp only[go_sem];refine aK (JI hq0 hp hq hb hs hs') ?_;simp -dsimp only[go_sem]
theorem qp {c:KQ} {w:Nat} (hc:FB w c) (hw:w<=1000):Fn Tryz.prog 22 [iK c] [ku (ak-an c)]:=by
 have e:aj (ak-an c)=[-c,1]:=by
  refine(D4 (l:=[-c,1]) (fun i hi=>?_) (fun i hi=>?_) (fun h=>?_)).symm
  ·match i,hi with
   | 0,_=>show -c=(0:KQ)-c;rw[sub_eq,zero_add]
   | 1,_=>show(1:KQ)=1-0;rw[sub_zero]
  ·match i,hi with
   | i+2,_=>show(0:KQ)-0=0;rw[sub_zero]
  ·exact one_ne
 refine aJ (fn:=Tryz.f22) ?_;simp -dsimp only[go_sem];refine ao (uZ (hc.mono hw)) rfl ?_;simp -dsimp only[go_sem];refine aK (fa 1 aH) ?_;simp -dsimp only[go_sem];have e2:ku (ak-an c)=kl [-c,1]:=by show kl (aj _)=_;rw[e]
 rw[e2,show kz 1=1 from fC];rfl
noncomputable def gP (p q:KP):Nat->KP×KP
 | 0=>(p,q)
 | n+1=>((gP p q n).2,mn (ab (gP p q n).1 (gP p q n).2))
theorem Az {p q:KP} {w:Nat->Nat} (N:Nat) (hN:(gP p q N).2=0) (hlt:∀ i,i<N->(gP p q i).2≠0)
  (h1:∀ i,i<N->Fn Tryz.prog 27 [ku (gP p q i).1,ku (gP p q i).2] [ku (ab (gP p q i).1 (gP p q i).2)])
  (hw:∀ i,i<N->PW (w i) (ab (gP p q i).1 (gP p q i).2)/\2*w i<=1000/\aa (ab (gP p q i).1 (gP p q i).2)<=1000)
  (he:PW (w N) (gP p q N).1/\2*w N<=1000/\aa (gP p q N).1<=1000):Fn Tryz.prog 25 [ku p,ku q] [ku (ai p q)]:=by
 have hg:∀ i,i<=N->ai (gP p q i).1 (gP p q i).2=ai p q:=by
  intro i
  induction i with
  | zero=>intro _;rfl
  | succ i ih =>
   intro hi;rw[<-ih aw,<-DO (a:=(gP p q i).1) (hlt i aw)];show ai (gP p q i).2 (mn _)=_;have h2:=p9 (gP p q i).2 (ab (gP p q i).1 (gP p q i).2);have h3:IsG (ai (gP p q i).2 (ab (gP p q i).1 (gP p q i).2)) (gP p q i).2 (mn (ab (gP p q i).1 (gP p q i).2)) :=
    ⟨h2.1,h2.2.1.trans (Nh _),fun x hx hx'=>h2.2.2 x hx (hx'.trans (Ie _))⟩
   rw[<-p8 h3,Ic]
 have hfin:mn (gP p q N).1=ai p q:=by
  rw[<-hg N (ay _),hN,od]
 refine aJ (fn:=Tryz.f25) ?_;simp -dsimp only[go_sem];refine be [(0,1),(5,12)] [] [] (fun n τ β ε=>∃ i:Nat,n=N-i/\i<=N/\τ 0 = .i (ku (gP p q i).1)/\τ 1 = .i (ku (gP p q i).2))
  (fun e τ β ε=>e = .exit 0/\τ 0 = .i (ku (gP p q N).1)) N ?_ ?_ ?_
 ·exact⟨0,aw,aw,rfl,rfl⟩
 ·rintro n τ β ε π hK hKB hKE ⟨i,hn,hi,h0,h1'⟩;have lq:=aX (gP p q i).2;by_cases hi2:i<N
  ·have hz:=aT (hlt i hi2);have dA:decide ((0:Int)<(aa (gP p q i).2:Int))=true:=aF aw;obtain⟨w1,w2,w3⟩:=hw i hi2;simp -dsimp only[go_sem,h0,h1',dA,az,lq];refine aK (h1 i hi2) ?_;simp -dsimp only[go_sem,h0,h1'];refine aK (Ej w1 w2 w3) ?_;simp -dsimp only[go_sem];exact again (N-(i+1)) aw ⟨(aA hK),hKB,hKE,i+1,rfl,aw,rfl,rfl⟩
  ·obtain rfl:i=N:=aw;have dA:decide ((0:Int)<(aa (gP p q i).2:Int))=false:=aG (by rw[hN,aM.2 rfl];decide);simp -dsimp only[go_sem,h0,h1',dA,az,lq];exact⟨(aA hK),hKB,hKE⟩
 ·rintro e τ β ε π hK hKB hKE ⟨rfl,h0⟩;simp -dsimp only[go_sem,h0];refine aK (Ej he.1 he.2.1 he.2.2) ?_;rw[hfin];simp -dsimp only[go_sem]
theorem Mo {c:KQ} {w:Nat} (hc:FB w c) (n:Nat) (hb:(n+1)*w<=1000) (hn:n<=1000):Fn Tryz.prog 38 [iK c,iN n] [iK (Alg.pw c n)]:=by
 have hpw:∀ i,FB (i*w) (Alg.pw c i):=fun i=>by
  induction i with
  | zero=>rw[Nat.zero_mul];exact ig (z:=1) (w:=0) aH
  | succ i ih=>rw[Nat.succ_mul];exact ih.mul hc
 refine aJ (fn:=Tryz.f38) ?_;simp -dsimp only[go_sem];refine aK (fa 1 aH) ?_;simp -dsimp only[go_sem];refine be [(6,6),(8,15)] [(5,5)] [] (fun m τ β ε=>∃ i:Nat,m=n-i/\i<=n/\τ 6 = .i (iN i)/\β 5=⟨1,kr (Alg.pw c i)⟩)
  (fun e τ β ε=>e = .exit 0/\β 5=⟨1,kr (Alg.pw c n)⟩) n ?_ ?_ ?_
 ·exact⟨0,aw,aw,rfl,rfl⟩
 ·rintro m τ β ε π hK hKB hKE ⟨i,hm,hi,h6,b5⟩;have k1:τ 1 = .i (iN n):=(hK 1 rfl).trans rfl;have k2:τ 2 = .bp 2 1 0:=(hK 2 rfl).trans rfl;have k5:τ 5 = .bp 5 1 0:=(hK 5 rfl).trans rfl;have b2:β 2=⟨1,kr c⟩:=(hKB 2 rfl).trans rfl;by_cases hlt:i<n
  ·have dA:decide ((i:Int)<(n:Int))=true:=aF aw;have h1:(i+1)*w<=(n+1)*w:=Nat.mul_le_mul_right _ aw;have h2:i*w<=(n+1)*w:=Nat.mul_le_mul_right _ aw;have h3:1*w<=(n+1)*w:=Nat.mul_le_mul_right _ aw;have ml:=j9 ((hpw i).mono aw) (hc.mono aw) (((hpw i).mul hc).mono (by rw[Nat.succ_mul]at h1;omega));simp -dsimp only[go_sem,h6,k1,k2,k5,b2,b5,dA,Int.reduceToNat,Int.reduceLE,aC];refine ao ml rfl ?_;simp -dsimp only[go_sem,h6,k1,k2,k5,b2,b5,dA,Int.reduceToNat,Int.reduceLE,aC]
   repeat(refine And.intro aw ?_)
   exact again (n-(i+1)) aw ⟨(aA hK),(aA hKB),hKE,i+1,rfl,aw,rfl,rfl⟩
  ·obtain rfl:i=n:=aw;have dA:decide ((i:Int)<(i:Int))=false:=aG aw;simp -dsimp only[go_sem,h6,k1,dA];exact⟨(aA hK),hKB,hKE,b5⟩
 ·rintro e τ β ε π hK hKB hKE ⟨rfl,b5⟩;have k5:τ 5 = .bp 5 1 0:=(hK 5 rfl).trans rfl;have k4:τ 4 = .bp 4 1 0:=(hK 4 rfl).trans rfl;have b4:β 4=⟨1,[.lst [],.lst []]⟩:=(hKB 4 rfl).trans rfl;simp -dsimp only[go_sem,k5,k4,b5,b4]
noncomputable def hr (p:KP) (c:KQ):Nat->KQ
 | 0=>0
 | n+1=>hr p c n*c+p.c (aa p-(n+1))
theorem II {p:KP} {c:KQ} {w v:Nat} (hp:PW w p) (hc:FB v c):∀ n,FB (n*(w+v+1)) (hr p c n)
 | 0=>dX _
 | n+1=>by
  have:=((II hp hc n).mul hc).add (hp (aa p-(n+1)));exact this.mono (by rw[Nat.succ_mul];omega)
theorem Eh {p:KP} {c:KQ} {w v:Nat} (hp:PW w p) (hc:FB v c) (hb:(aa p+1)*(w+v+1)<=1000) (hs:aa p<=1000):Fn Tryz.prog 39 [ku p,iK c] [iK (hr p c (aa p))]:=by
 have lp:=aX p;have hv:1*(w+v+1)<=(aa p+1)*(w+v+1):=Nat.mul_le_mul_right _ aw;refine aJ (fn:=Tryz.f39) ?_;simp -dsimp only[go_sem];refine aK JA ?_;simp -dsimp only[go_sem,az,lp]
 repeat(refine And.intro aw ?_)
 refine be [(6,6),(11,22)] [(5,5)] [] (fun m τ β ε=>∃ i:Nat,m=aa p-i/\i<=aa p/\τ 6 = .i (iN ((aa p:Int)-1-(i:Int)))/\β 5=⟨1,kr (hr p c i)⟩)
  (fun e τ β ε=>e = .exit 0/\β 5=⟨1,kr (hr p c (aa p))⟩) (aa p) ?_ ?_ ?_
 ·exact⟨0,aw,aw,by simp -dsimp only[go_sem];rw[show(aa p:Int)-1-((0:Nat):Int)=(aa p:Int)-1 by omega],rfl⟩
 ·rintro m τ β ε π hK hKB hKE ⟨i,hm,hi,h6,b5⟩;have k0:τ 0 = .i (ku p):=(hK 0 rfl).trans rfl;have k3:τ 3 = .bp 3 1 0:=(hK 3 rfl).trans rfl;have k5:τ 5 = .bp 5 1 0:=(hK 5 rfl).trans rfl;have b3:β 3=⟨1,kr c⟩:=(hKB 3 rfl).trans rfl;by_cases hlt:i<aa p
  ·have ei:(aa p:Int)-1-(i:Int)=((aa p-(i+1):Nat):Int):=aw;rw[ei]at h6;have dA:decide ((0:Int)<=((aa p-(i+1):Nat):Int))=true:=aF aw;have gp:(aj p)[aa p-(i+1)]?=some (p.c (aa p-(i+1))):=by rw[aD aw,gB]
   have h1:(i+1)*(w+v+1)<=(aa p+1)*(w+v+1):=Nat.mul_le_mul_right _ aw;rw[Nat.succ_mul]at h1;have hw:=II hp hc i;have ml:=j9 (hw.mono aw) (hc.mono aw) ((hw.mul hc).mono aw);have ad:=qr ((hw.mul hc).mono aw) ((hp (aa p-(i+1))).mono aw) (((hw.mul hc).add (hp (aa p-(i+1)))).mono aw);simp -dsimp only[go_sem,h6,k0,k3,k5,b3,b5,dA,Int.reduceToNat,Int.reduceLE,aC];refine ap 8 [] false true ?_;simp -dsimp only[go_sem,h6,k0,k3,k5,b3,b5,Int.reduceToNat,Int.reduceLE,aC];refine ao ml rfl ?_;simp -dsimp only[go_sem,h6,k0,k3,k5,b3,b5,Int.reduceToNat,Int.reduceLE,aC];refine aQ gp ?_;simp -dsimp only[go_sem,h6,k0,k3,k5,b3,b5,Int.reduceToNat,Int.reduceLE,aC];refine ao ad rfl ?_;simp -dsimp only[go_sem,h6,k0,k3,k5,b3,b5,Int.reduceToNat,Int.reduceLE,aC]
   repeat(refine And.intro aw ?_)
   exact again (aa p-(i+1)) aw ⟨(aA hK),(aA hKB),hKE,i+1,rfl,aw,by simp -dsimp only[go_sem];rw[show((aa p-(i+1):Nat):Int)-1=(aa p:Int)-1-((i+1:Nat):Int)by omega],rfl⟩
  ·obtain rfl:i=aa p:=aw;have dA:decide ((0:Int)<=(aa p:Int)-1-(aa p:Int))=false:=aG aw;simp -dsimp only[go_sem,h6,dA];exact⟨(aA hK),hKB,hKE,b5⟩
 ·rintro e τ β ε π hK hKB hKE ⟨rfl,b5⟩;have k5:τ 5 = .bp 5 1 0:=(hK 5 rfl).trans rfl;have k4:τ 4 = .bp 4 1 0:=(hK 4 rfl).trans rfl;have b4:β 4=⟨1,[.lst [],.lst []]⟩:=(hKB 4 rfl).trans rfl;simp -dsimp only[go_sem,k5,k4,b5,b4]
theorem Ls {x m:Tm} {L:List Tm} (h:0<cr x.1 m.1):oB (x::L) m=x::oB L m:=by
 unfold oB;rw[atR,if_pos h];rfl
theorem Lr {x m:Tm} {L:List Tm} (h:¬ 0<cr x.1 m.1):oB (x::L) m=(if(qR m (x::L)).1≠0/\cZ m.1 then[(m.1,(qR m (x::L)).1)]else[])++(qR m (x::L)).2:=by
 unfold oB;rw[atR,if_neg h];rfl
theorem Bj {e:Ex} (h:Uv1 e):cZ e:=by unfold Uv1 at h;unfold cZ;omega
theorem IE {m:Tm} (hm:Uv1 m.1):∀{L:List Tm},Cn L->Cn (oB L m)/\toP (oB L m)=toP L+mon m.1.a.toNat m.2/\∀ t∈oB L m,t.1=m.1\/∃ u∈L,u.1=t.1
 | [],_=>by
  have e:oB [] m=if m.2=0 then[]else[m]:=by
   show(if m.2≠0/\cZ m.1 then[(m.1,m.2)]else[])++[]=_
   by_cases h:m.2=0<;>simp[h,Bj hm]
  rw[e];by_cases h:m.2=0
  ·rw[if_pos h,h,jD,cH,add_zero];exact⟨⟨List.Pairwise.nil,au,by intro t ht;simp at ht⟩,rfl,au⟩
  ·rw[if_neg h,a8,cH,add_zero,zero_add];exact⟨⟨List.pairwise_singleton _ _,by simpa using h,by intro t ht;simp at ht;subst ht;exact hm⟩,rfl,au⟩
 | x::L,hc=>by
  have hx:=hc.uv x au;by_cases h:0<cr x.1 m.1
  ·rw[Ls h];obtain⟨i1,i2,i3⟩:=IE hm (dM hc);refine⟨⟨List.pairwise_cons.2 ⟨fun t ht=>?_,i1.srt⟩,fun t ht=>?_,fun t ht=>?_⟩,?_,fun t ht=>?_⟩
   ·rcases i3 t ht with e|⟨u,hu,e⟩
    ·rw[e];exact h
    ·rw[<-e];exact(List.pairwise_cons.1 hc.srt).1 u hu
   ·rcases List.mem_cons.1 ht with rfl|ht
    ·exact hc.nz _ au
    ·exact i1.nz t ht
   ·rcases List.mem_cons.1 ht with rfl|ht
    ·exact hx
    ·exact i1.uv t ht
   ·rw[a8,a8,i2,add_assoc]
   ·rcases List.mem_cons.1 ht with rfl|ht
    ·exact .inr ⟨_,au,rfl⟩
    ·rcases i3 t ht with e|⟨u,hu,e⟩
     ·exact .inl e
     ·exact .inr ⟨u,by simp[hu],e⟩
  ·rw[Lr h];by_cases he:x.1=m.1
   ·rw[show qR m (x::L)=(m.2+x.2,L)from if_pos he];have key:toP (x::L)+mon m.1.a.toNat m.2=mon m.1.a.toNat (m.2+x.2)+toP L:=by
     rw[a8,he,show mon m.1.a.toNat (m.2+x.2)=mon m.1.a.toNat m.2+mon m.1.a.toNat x.2 from xt _ _ _];exact ring [mon m.1.a.toNat x.2,mon m.1.a.toNat m.2,toP L]
    by_cases h0:m.2+x.2=0
    ·simp only[h0,ne_eq,not_true,false_and,if_false,List.nil_append];refine⟨dM hc,?_,fun t ht => .inr ⟨t,by simp[ht],rfl⟩⟩;rw[key,h0,jD,zero_add]
    ·simp only[ne_eq,h0,not_false_eq_true,Bj hm,and_self,if_true,List.singleton_append];refine⟨⟨List.pairwise_cons.2 ⟨fun t ht=>?_,(dM hc).srt⟩,fun t ht=>?_,fun t ht=>?_⟩,?_,fun t ht=>?_⟩
     ·show 0<cr m.1 t.1;rw[<-he];exact(List.pairwise_cons.1 hc.srt).1 t ht
     ·rcases List.mem_cons.1 ht with rfl|ht
      ·exact h0
      ·exact(dM hc).nz t ht
     ·rcases List.mem_cons.1 ht with rfl|ht
      ·exact hm
      ·exact(dM hc).uv t ht
     ·rw[key,a8]
     ·rcases List.mem_cons.1 ht with rfl|ht
      ·exact .inl rfl
      ·exact .inr ⟨t,by simp[ht],rfl⟩
   ·rw[show qR m (x::L)=(m.2,x::L)from if_neg he];have hlt:0<cr m.1 x.1:=by
     have h1:cr x.1 m.1≠0:=fun e=>he ((jG _ _).1 e);have h2:=oi x.1 m.1;omega
    by_cases h0:m.2=0
    ·simp only[h0,ne_eq,not_true,false_and,if_false,List.nil_append];exact⟨hc,by rw[jD,add_zero],fun t ht => .inr ⟨t,ht,rfl⟩⟩
    ·simp only[ne_eq,h0,not_false_eq_true,Bj hm,and_self,if_true,List.singleton_append];refine⟨⟨List.pairwise_cons.2 ⟨fun t ht=>?_,hc.srt⟩,fun t ht=>?_,fun t ht=>?_⟩,?_,fun t ht=>?_⟩
     ·show 0<cr m.1 t.1;rcases List.mem_cons.1 ht with rfl|ht
      ·exact hlt
      ·refine(jO hm (hc.uv t (by simp[ht]))).2 ?_;have h3:=(jO hm hx).1 hlt;have h4:=rW hc t ht;omega
     ·rcases List.mem_cons.1 ht with rfl|ht
      ·exact h0
      ·exact hc.nz t ht
     ·rcases List.mem_cons.1 ht with rfl|ht
      ·exact hm
      ·exact hc.uv t ht
     ·rw[a8,add_comm]
     ·rcases List.mem_cons.1 ht with rfl|ht
      ·exact .inl rfl
      ·exact .inr ⟨t,ht,rfl⟩
theorem OE (p:PQ) {m:Tm} (hm:Uv1 m.1):oB (U p) m=U (p+mon m.1.a.toNat m.2):=by
 obtain⟨h1,h2,_⟩:=IE hm (kk p);exact vB h1 (by rw[h2,il])
theorem ud:∀(L:List Tm) (p:PQ),Uv L->L.foldl oB (U p)=U (p+toP L)
 | [],p,_=>by rw[cH,add_zero];rfl
 | t::L,p,h=>by
  rw[List.foldl_cons,OE p (h t au),ud L _ (fun u hu=>h u (by simp[hu])),a8,add_assoc]
theorem Dz {L:List Tm} (h:Uv L):nu L=U (toP L):=by
 have:=ud L 0 h;rw[cu,zero_add]at this;exact this
def Sml (t:Tm):Prop:=Uv1 t.1/\t.1.a<=2/\t.2.num.natAbs<=2 ^ 8/\t.2.den<=2 ^ 8
theorem MR:∀{L:List Tm},(∀ t∈L,Sml t)->am (9*L.length) (toP L)/\aa (toP L)<=3
 | [],_=>⟨am.zero _,by rw[cH,aM.2 rfl];omega⟩
 | t::L,h=>by
  obtain⟨h1,h2,h3,h4⟩:=h t au;obtain⟨i1,i2⟩:=MR (L:=L) fun u hu=>h u (by simp[hu]);rw[a8];unfold Uv1 at h1;refine⟨((am.mon _ h3 h4).add i1).mono (by simp only[List.length_cons];omega),c8 (cn fun i hi=>by rw[bY,if_neg aw]) i2⟩
theorem Gr {L:List Tm} (h:∀ t∈L,Sml t) (hl:L.length<=100):Fn Tryz.prog 88 [iM L] [iUp (toP L)]:=by
 have hu:Uv L:=fun t ht=>(h t ht).1;have:=Ay L aw (fun t ht=>iq (h t ht).2.2.1 (h t ht).2.2.2 aw) fun i hi=>by
  have hu':Uv (L.take i):=fun t ht=>hu t (List.mem_of_mem_take ht);obtain⟨s1,s2⟩:=MR (L:=L.take i) fun t ht=>h t (List.mem_of_mem_take ht);rw[Dz hu'];have hl':(L.take i).length<=100:=by simp;omega
  exact⟨HB.qb s1 aw,by have:=dC (toP (L.take i));omega⟩
 rwa [Dz hu]at this
structure T5 where
 a:Int
 b:Int
 c:Int
 d:Int
 e:Int
def T5.row (t:T5):List C:=[.v (.int .i8 t.a),.v (.int .i8 t.b),.v (.int .i8 t.c),.v (.int .i8 t.d),.v (.int .i8 t.e)]
def T5.ok (t:T5):Prop:=(-128<=t.a/\t.a<128) /\ -128<=t.e/\t.e<128
def T5.tm (t:T5):Tm:=(⟨t.a % 3,0,0,0⟩,(t.e:Rat))
abbrev tl (l:List T5):IV := .c (.lst (l.map T5.row))
theorem T5.sml {t:T5} (h:t.ok):Sml t.tm:=by
 unfold T5.ok at h;refine⟨⟨?_,rfl,rfl,rfl⟩,?_,?_,?_⟩
 ·show 0<=t.a % 3;omega
 ·show t.a % 3<=2;omega
 ·show(t.e:Rat).num.natAbs<=_;rw[Rat.num_intCast];omega
 ·show(t.e:Rat).den<=_;rw[Rat.den_intCast];decide
noncomputable def lj (l:List T5) (n:Nat):PQ:=toP ((l.take n).map T5.tm)
theorem wr64 {n:Int} (h : -9223372036854775808<=n/\n<9223372036854775808):IntKind.wrap .i64 n=n:=by
 simp[IntKind.wrap,IntKind.bits,IntKind.signed];omega
def tmR (l:List T5) (i:Nat):List (List C):=((l.take i).map T5.tm).map eT
theorem Hc {l:List T5} {i:Nat} (h:i<l.length):tmR l (i+1)=tmR l i++[eT l[i].tm]:=by
 unfold tmR;rw[aq h,List.map_append,List.map_append];rfl
theorem Kz {l:List T5} {i:Nat} (h:i<=l.length):(tmR l i).length=i:=by simp[tmR];omega
theorem ro (l:List T5) (n:Nat) (hn:n<=2) (hl:l.length<=9223372036854775807) (h:∀ t∈l,t.ok):Fn Tryz.prog 74 [tl l,iN n,iN 1] [iUp (lj l n)]:=by
 have hmk:=Gr (L:=(l.take n).map T5.tm) (fun t ht=>by
  obtain⟨u,hu,rfl⟩:=List.mem_map.1 ht;exact T5.sml (h u (List.mem_of_mem_take hu))) ar
 refine aJ (fn:=Tryz.f74) ?_;simp -dsimp only[go_sem];refine cj 7 11 8 (rs:=[]) rfl au ?_;refine br [(7,10),(12,52)] [(9,9)] [(11,11),(52,52)] (fun m τ β ε=>∃ i:Nat,m=n-i/\i<=n/\i<=l.length/\τ 8 = .i (iN i)/\Own 8 (tmR l i) 7 11 τ ε)
  (fun e τ β ε=>e = .exit 0/\Own 8 (tmR l n) 7 11 τ ε) n ?_ ?_ ?_
 ·exact⟨0,aw,aw,aw,rfl,Own.mk (g:=1) (mm:=false) aw rfl rfl rfl⟩
 ·rintro m τ β ε π hK hKB hKE ⟨i,hm,hi,hil,h8,g,mm,hg,h7,h11⟩;have hlen:(tmR l i).length=i:=Kz hil;rw[hlen]at h7;have k0:τ 0 = .i (tl l):=(hK 0 rfl).trans rfl;have k1:τ 1 = .i (iN n):=(hK 1 rfl).trans rfl;have k2:τ 2 = .i (iN 1):=(hK 2 rfl).trans rfl;by_cases hA:i<l.length
  ·have dA:decide ((i:Int)<(l.length:Int))=true:=aF aw;have gl:l[i]?=some l[i]:=by simp[hA]
   by_cases hB:i<n
   ·have dB:decide ((i:Int)<(n:Int))=true:=aF aw;have ht:=h _ (List.getElem_mem hA);unfold T5.ok at ht;simp -dsimp only[go_sem,h8,k0,k1,dA,dB,az];refine aQ gl ?_;simp -dsimp only[go_sem,T5.row,Int.reduceToNat,Int.reduceLE,aC,h8,k0];rw[wr64 aw];refine ao (dY l[i].e aw) rfl ?_;simp -dsimp only[go_sem,Int.reduceToNat,Int.reduceLE,aC];refine be [(10,10),(31,48)] [(9,9)] [] (fun m τ' β' ε'=>∃ k:Nat,m=1-k/\k<=1/\τ' 10 = .i (iN k)/\β' 9=⟨(β 9).gen+1,eT (if k=0 then(e0,(l[i].e:Rat))else l[i].tm)⟩)
     (fun e τ' β' ε'=>e = .exit 2/\β' 9=⟨(β 9).gen+1,eT l[i].tm⟩) 1 ?_ ?_ ?_
    ·exact⟨0,aw,aw,rfl,rfl⟩
    ·rintro m2 τ2 β2 ε2 π2 hK2 hKB2 hKE2 ⟨k,hm2,hk,h10,b9⟩;have q0:τ2 0 = .i (tl l):=(hK2 0 rfl).trans k0;have q2:τ2 2 = .i (iN 1):=(hK2 2 rfl).trans k2;have q8:τ2 8 = .i (iN i):=(hK2 8 rfl).trans h8;have q9:τ2 9 = .bp 9 ((β 9).gen+1) 0:=(hK2 9 rfl).trans rfl;obtain rfl|rfl:k=0\/k=1:=aw
     ·have h10':τ2 10 = .i (iN 0):=h10;rw[if_pos rfl]at b9;have em:(((IntKind.i64.wrap l[i].a).tmod 3)+3).tmod 3=l[i].a % 3:=by
       rw[wr64 aw];rcases Int.le_total 0 l[i].a with hp|hp
       ·rw[Int.tmod_eq_emod_of_nonneg hp,Int.tmod_eq_emod_of_nonneg aw];omega
       ·have:l[i].a.tmod 3 = -((-l[i].a) % 3):=by
         rw[<-Int.tmod_eq_emod_of_nonneg aw,Int.neg_tmod,Int.neg_neg]
        rw[this,Int.tmod_eq_emod_of_nonneg aw];omega
      simp -dsimp only[go_sem,h10',q0,q2,q8,q9,b9,Int.reduceToNat,Int.reduceLE,aC,Int.reduceLT,decide_true];refine aQ gl ?_;simp -dsimp only[go_sem,T5.row,h10',q0,q2,q8,q9,b9,Int.reduceToNat,Int.reduceLE,aC,em];have eb : -3<=(IntKind.i64.wrap l[i].a).tmod 3/\(IntKind.i64.wrap l[i].a).tmod 3<=3:=by
       rw[wr64 aw];rcases Int.le_total 0 l[i].a with hp|hp
       ·rw[Int.tmod_eq_emod_of_nonneg hp];omega
       ·have:l[i].a.tmod 3 = -((-l[i].a) % 3):=by
         rw[<-Int.tmod_eq_emod_of_nonneg aw,Int.neg_tmod,Int.neg_neg]
        omega
      repeat(refine And.intro aw ?_)
      refine again 0 aw ⟨(aA hK2),(aA hKB2),hKE2,1,rfl,aw,rfl,?_⟩;rw[if_neg aH];simp -dsimp only[go_sem];rfl
     ·have h10':τ2 10 = .i (iN 1):=h10;rw[if_neg aH]at b9;simp -dsimp only[go_sem,h10',q2,Int.reduceLT,decide_false];exact⟨(aA hK2),hKB2,hKE2,b9⟩
    ·rintro e τ2 β2 ε2 π2 hK2 hKB2 hKE2 ⟨rfl,b9⟩;have r9:τ2 9 = .bp 9 ((β 9).gen+1) 0:=(hK2 9 rfl).trans rfl;have r8:τ2 8 = .i (iN i):=(hK2 8 rfl).trans h8;have r7:τ2 7 = .sl 11 g i:=(hK2 7 rfl).trans h7;have f11:ε2 11=⟨g,8,tmR l i,mm,true⟩:=(hKE2 11 rfl).trans h11;have kO:=Kp.step2 hK hK2 (by intro n;simp[inR]<;>omega) (aA hK);have kB:=Kp.step2 hKB hKB2 (by intro n;simp[inR]<;>omega) (aA hKB);have kE:=Kp.step2 hKE hKE2 (by intro n;simp[inR]) hKE;simp -dsimp only[go_sem,r9,r8,r7,f11,b9,hg,hlen]
     repeat(refine And.intro aw ?_)
     refine bc (n-(i+1)) 7 52 11 aw rfl rfl aw aH ⟨(aA kO),kB,(aA kE),i+1,rfl,aw,aw,rfl,?_⟩;refine Own.mk2 (Nat.succ_pos _) (by simp -dsimp only[go_sem];rfl) (by simp -dsimp only[go_sem];rfl) (by rw[List.length_append,hlen];rfl) (Hc hA).symm
   ·have dB:decide ((i:Int)<(n:Int))=false:=aG aw;obtain rfl:i=n:=aw;simp -dsimp only[go_sem,h8,k0,k1,dA,dB,az];exact⟨(aA hK),hKB,hKE,Own.mk hg h7 hlen.symm h11⟩
  ·have dA:decide ((i:Int)<(l.length:Int))=false:=aG aw;have et:tmR l n=tmR l i:=by unfold tmR;rw[List.take_of_length_le aw,List.take_of_length_le aw]
   simp -dsimp only[go_sem,h8,k0,k1,dA,az];rw[et];exact⟨(aA hK),hKB,hKE,Own.mk hg h7 hlen.symm h11⟩
 ·rintro e τ β ε π hK hKB hKE ⟨rfl,g,mm,hg,h7,h11⟩;refine⟨_,bA.freeze _ 11,?_⟩;simp -dsimp only[go_sem,h7,h11,hg];refine aP (args':=[iM ((l.take n).map T5.tm)]) (by rw[List.take_of_length_le (ay _)];rfl) hmk ?_;simp -dsimp only[go_sem];rw[lj,List.map_take]
theorem pJ (L:List T5) (h:∀ t∈L,t.ok):∃ A:Alg.P Int,toP (L.map T5.tm)=toQ A/\Alg.n1 A<=128*L.length/\aa A<=3:=by
 induction L with
 | nil=>exact⟨0,by rw[cK];rfl,by rw[iI];omega,by rw[aM.2 rfl];omega⟩
 | cons t L ih =>
  obtain⟨A,h1,h2,h3⟩:=ih fun u hu=>h u (by simp[hu]);have ht:=h t au;unfold T5.ok at ht;refine⟨mon (t.a % 3).toNat t.e+A,?_,?_,?_⟩
  ·rw[List.map_cons,a8,h1,ko,nY];rfl
  ·have e:=iw (t.a % 3).toNat t.e 1;rw[mul_one]at e;have e1:Alg.n1 (1:Alg.P Int)<=1:=by
    refine pQ (n:=1) (H:=1) (Nat.le_of_eq (by rw[<-co];exact jd aH)) (fun i=>?_);rw[<-co];cases i with
    | zero=>exact ay 1
    | succ i=>exact Nat.zero_le 1
   have e2:t.e.natAbs*Alg.n1 (1:Alg.P Int)<=t.e.natAbs*1:=Nat.mul_le_mul_left _ e1;have:=mf (mon (t.a % 3).toNat t.e) A;simp only[List.length_cons];omega
  ·exact c8 (cn fun i hi=>by rw[bY,if_neg aw]) h3
noncomputable def den1 (p:PQ):PQ:=if p=0 then 1 else p
theorem LR (p:PQ):den1 p≠0:=by
 unfold den1;split
 ·exact fS
 ·assumption
noncomputable def kw (N D:List T5) (n:Nat):KQ:=Alg.fr (lj N n) (den1 (lj D n))
theorem HG {N D:List T5} {n:Nat} (hn:n<=2) (hN:∀ t∈N,t.ok) (hD:∀ t∈D,t.ok):FB 8 (kw N D n):=by
 obtain⟨A,a1,a2,a3⟩:=pJ (N.take n) fun t ht=>hN t (List.mem_of_mem_take ht);obtain⟨B,b1,b2,b3⟩:=pJ (D.take n) fun t ht=>hD t (List.mem_of_mem_take ht);have la:(N.take n).length<=n:=by simp;omega
 have lb:(D.take n).length<=n:=by simp;omega
 have s1:aa (1:Alg.P Int)=1:=jd (R:=Int) aH;have e8:(2:Nat) ^ 8=256:=rfl;by_cases h:lj D n=0
 ·refine⟨A,1,dP (R:=Int) aH,?_,aw,aw,aw,?_⟩
  ·rw[kw,den1,if_pos h,nX,<-a1];rfl
  ·rw[gh (n:=1) aw];show 0+Int.natAbs 1<=_;omega
 ·refine⟨A,B,fun e=>h (by rw[lj,b1,e,cK]),?_,aw,aw,aw,aw⟩;rw[kw,den1,if_neg h,<-a1,<-b1];rfl
theorem HF {N:List T5} {n:Nat} (hn:n<=2) (hN:∀ t∈N,t.ok):am 8 (lj N n)/\aa (lj N n)<=3:=by
 obtain⟨A,a1,a2,a3⟩:=pJ (N.take n) fun t ht=>hN t (List.mem_of_mem_take ht);have la:(N.take n).length<=n:=by simp;omega
 have e8:(2:Nat) ^ 8=256:=rfl;rw[lj,a1];exact⟨am.of aw,by rw[gu];exact a3⟩
theorem ou (N D:List T5) (n:Nat) (hn:n<=2) (lN:N.length<=9223372036854775807) (lD:D.length<=9223372036854775807) (hN:∀ t∈N,t.ok) (hD:∀ t∈D,t.ok) :
  Fn Tryz.prog 23 [.g [.lst (N.map T5.row),.lst (D.map T5.row)],iN n,iN 1] [iK (kw N D n)]:=by
 obtain⟨n1,n2⟩:=HF hn hN;obtain⟨d1,d2⟩:=HF hn hD;have d3:am 8 (den1 (lj D n))/\aa (den1 (lj D n))<=3:=by
  unfold den1;split
  ·exact⟨dI _,by rw[cP];omega⟩
  ·exact⟨d1,d2⟩
 have of:=xZ (LR (lj D n)) (n1.mono aw) (d3.1.mono aw) aw aw ((HG hn hN hD).mono aw);have hz:=hzU (lj D n);refine aJ (fn:=Tryz.f23) ?_;simp -dsimp only[go_sem,Int.reduceToNat,Int.reduceLE,aC];refine ao (ro D n hn lD hD) rfl ?_;by_cases h:lj D n=0
 ·rw[aF h]at hz;simp -dsimp only[go_sem,az,hz];refine aK Au ?_;simp -dsimp only[go_sem,Int.reduceToNat,Int.reduceLE,aC];refine ao (ro N n hn lN hN) rfl ?_;simp -dsimp only[go_sem];refine aP (args':=[iUp (lj N n),iUp (den1 (lj D n))]) (by rw[den1,if_pos h]) of ?_;simp -dsimp only[go_sem];rfl
 ·rw[aG h]at hz;simp -dsimp only[go_sem,az,hz,Int.reduceToNat,Int.reduceLE,aC];refine ao (ro N n hn lN hN) rfl ?_;simp -dsimp only[go_sem];refine aP (args':=[iUp (lj N n),iUp (den1 (lj D n))]) (by rw[den1,if_neg h]) of ?_;simp -dsimp only[go_sem];rfl
end Go.AM
