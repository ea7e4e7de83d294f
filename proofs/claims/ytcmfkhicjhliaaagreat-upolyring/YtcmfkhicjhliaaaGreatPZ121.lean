/- Lemmas, part 22 of 24: Reference R9: quotients in one variable; Reference R9: the field of rational functions in one variable; References R7, R9, R10: validity, equality of lists, trimming; Reference R10: sums, multiples; Reference R10: products, division; Reference R10: greatest common divisors, powers, values, validity; Reference R9: polynomials and fractions that are made of raw terms; Reference R9: raw terms; Reference R9: fractions that are made of raw terms; Reference R10: polynomials that are made of raw fractions; The law functions of chapter 10: made, number, x, over; UpolyRing under sanity; Packages mpoly, mgcd, frac in several variables: division by 1, quotients by 1. No condition. -/
import Derived.Test.YtcmfkhicjhliaaaGreatPZ120
set_option maxRecDepth 65536
set_option linter.unusedSimpArgs false
set_option linter.unusedVariables false
set_option linter.unusedSectionVars false
namespace Go.AM
open Alg
open Go.Proofs
open Classical
theorem yA {n d:PQ} (h:Alg.sz n=1\/Alg.sz d=1):IsG 1 n d:=by
 have unit:∀ x:PQ,Alg.sz x=1->Dv x 1:=fun x hx=>by
  have h3:=eU (Nat.le_of_eq hx);have h4:x.c 0≠0:=fun e9=>by
   rw[e9,show Alg.C (0:Rat)=0 from co]at h3;rw[h3,ap.2 rfl]at hx;omega
  exact⟨Alg.C (Alg.inv (x.c 0)),by rw[h3];simp only[mC];rw[<-bf,mul_inv h4];rfl⟩
 refine⟨Dv.one _,Dv.one _,fun x h1 h2=>?_⟩;rcases h with h3|h3
 ·exact h1.trans (unit n h3)
 ·exact h2.trans (unit d h3)
theorem Iz {n d:PQ} {w h N:Nat} (hd0:d≠0) (hn:Alg.HB h n) (hd:Alg.HB h d) (tn:Alg.sz n<=N) (td:Alg.sz d<=N) (hN:N<=250000) (hf:FB w (Alg.fr n d))
  (hb:(2*(Alg.hN w+h)+1)+(N+2)*((2*(Alg.hN w+h)+1)+1)+2*(2*(Alg.hN w+h)+1)+2*N<=68719476000) :
  ∃ g:PQ,IsG g n d/\Alg.HB (2*(Alg.hN w+h)+1) g/\Alg.sz g<=Alg.sz d/\g≠0/\lc g=1/\Fn Tryz.prog 94 [iUp n,iUp d] [iUp g]:=by
 have p2:=aA hd0;by_cases hn0:n=0
 ·have call:=mI hn hd (by omega) (by omega) (by omega) (by omega) (.inl hn0);rw[kj,if_pos hn0]at call;refine⟨Alg.mo d,?_,hd.mo.mono (by omega),Nat.le_of_eq fe,ik hd0,CA hd0,call⟩;rw[hn0];exact wz hd0 ⟨Dv.zero _,Dv.refl _,fun x _ hx=>hx⟩
 have p1:=aA hn0;have hf0:Alg.fr n d≠0:=fun e=>hn0 ((bY hd0).1 e);have hs:Sm w n d:=by
  obtain⟨A,B,h1,h2,h3,h4,h5,h6⟩:=hf;have hA:A≠0:=fun e=>hf0 (by rw[h2,e,cu];exact(bY (cJ h1)).2 rfl);exact⟨A,B,hA,h1,by rw[(eC hd0 (cJ h1)).1 h2,mul_comm],h3,h4,h5,h6⟩
 by_cases h11:Alg.sz n=1/\Alg.sz d=1
 ·have call:=mI hn hd (by omega) (by omega) (by omega) (by omega) (.inr (.inr h11));rw[kj,if_neg hn0,if_neg hd0]at call;exact⟨1,yA (.inl h11.1),cX _,by rw[ck];omega,eX,sS,call⟩
 by_cases hbig:2<=Alg.sz n/\2<=Alg.sz d
 ·obtain⟨h1,h2,h3,h4⟩:=pI hs hn hd hbig.1 hbig.2;exact⟨_,wz h4 h1,h2.mo,by rw[fe];exact h3,ik h4,CA h4,zy hs hn hd hn0 hd0 h11 tn td hN h1 hb⟩
 ·have hu:=yA (n:=n) (d:=d) (by omega);have call:=zy hs hn hd hn0 hd0 h11 tn td hN hu hb;rw[kP]at call;exact⟨1,hu,cX _,by rw[ck];omega,eX,sS,call⟩
theorem JO {f:KQ} {w:Nat} (h:FB w f):Alg.HB (Alg.hN w) (nN f)/\Alg.HB (Alg.hN w) (Alg.nD f)/\Alg.sz (nN f)<=w+1/\Alg.sz (Alg.nD f)<=w+1:=by
 by_cases hf:f=0
 ·rw[hf,kL.1,kL.2,ck,ap.2 rfl];exact⟨Alg.HB.zero _,cX _,by omega,by omega⟩
 ·exact wi h hf
theorem Da {n d:PQ} {h N w:Nat} (hd0:d≠0) (hn:Alg.HB h n) (hd:Alg.HB h d) (tn:Alg.sz n<=N) (td:Alg.sz d<=N) (hN:N<=250000) (hf:FB w (Alg.fr n d))
  (hb:(2*(Alg.hN w+h)+1)+(N+2)*((2*(Alg.hN w+h)+1)+1)+2*(2*(Alg.hN w+h)+1)+2*N<=68719476000):Fn Tryz.prog 116 [iUp n,iUp d] [iK (Alg.fr n d),iN 0]:=by
 obtain⟨zN,zD,_,_⟩:=JO hf;obtain⟨g,hg,hgH,hgs,hg0,hgl,hG⟩:=Iz hd0 hn hd tn td hN hf hb;obtain⟨n1,e1⟩:=hg.1;obtain⟨d1,e2⟩:=hg.2.1;rw[mul_comm]at e1 e2;have hd1:d1≠0:=fun e=>hd0 (by rw[e2,e,zero_mul]);have hl:lc d1=lc d:=by rw[e2,fV,hgl,mul_one]
 have hl0:lc d1≠(0:Rat):=bB hd1;obtain⟨f1,f2⟩:=GW hd0 hg e1 e2;have back:∀ x:PQ,x=x*Alg.C (1/lc d1)*Alg.C (lc d1):=fun x=>by
  rw[mul_assoc,<-bf];have:(1:Rat)/lc d1*lc d1=1:=Rat.div_mul_cancel hl0;rw[show((1:Rat)/lc d1*lc d1:Rat)=1 from this,bT,mul_one]
 have hC:Alg.HB h (Alg.C (lc d1)):=by rw[hl];exact lC hd _
 have bn:Alg.HB (Alg.hN w+h) n1:=by rw[back n1,<-f1];exact zN.mul hC
 have bd:Alg.HB (Alg.hN w+h) d1:=by rw[back d1,<-f2];exact zD.mul hC
 have s1:Alg.sz n1<=Alg.sz n:=by
  by_cases hn1:n1=0
  ·rw[hn1,ap.2 rfl];omega
  ·have:=cE hn1 hg0;rw[<-e1]at this;have:=aA hg0;omega
 have s2:=cE hd1 hg0;rw[<-e2]at s2;have pg:=aA hg0;have hH1:(Alg.sz n+2)*((2*(Alg.hN w+h)+1)+1)<=(N+2)*((2*(Alg.hN w+h)+1)+1):=Nat.mul_le_mul_right _ (by omega);have hH2:(Alg.sz d+2)*((2*(Alg.hN w+h)+1)+1)<=(N+2)*((2*(Alg.hN w+h)+1)+1):=Nat.mul_le_mul_right _ (by omega);obtain⟨L,hL⟩:=fJ hd1;obtain⟨b1,b2⟩:=iV (x:=1) (h:=0) hl0 ⟨by decide,by decide⟩ (bd.coef (Alg.sz d1-1));have dn:=ua hn hgH hg0 (by omega) (by omega) (by omega);rw[fZ hg0 e1]at dn;have dd:=ua hd hgH hg0 (by omega) (by omega) (by omega);rw[fZ hg0 e2]at dd;have hc:=gw b1 b2 (k:=17179869184) (by omega);have sn:=lh bn (by omega) (by omega) hc;have sd:=lh bd (by omega) (by omega) hc;have cL:(U d1)[0]?=some (⟨((Alg.sz d1-1:Nat):Int),0,0,0⟩,lc d1):=by rw[hL];rfl
 have e3:=hzU d;rw[aj hd0]at e3;rw[<-f1]at sn;rw[<-f2]at sd;refine ao kd (fn:=Tryz.f116) (by rfl) rfl rfl rfl (by rfl) (by simp) (by rfl) ?_;simp -dsimp -implicitDefEqProofs only[go_sem,e3,af];refine aa hG rfl ?_;simp -dsimp -implicitDefEqProofs only[go_sem];refine aa dn rfl ?_;simp -dsimp -implicitDefEqProofs only[go_sem];refine aa dd rfl ?_;simp -dsimp -implicitDefEqProofs only[go_sem];refine an (by rfl) 7 [11] false true (by rfl) (by rfl) (by decide +kernel) ?_;simp -dsimp -implicitDefEqProofs only[go_sem];refine am (dv 1 (by decide)) ?_;simp -dsimp -implicitDefEqProofs only[go_sem,Int.reduceToNat,Int.reduceLE,ag];refine av cL ?_;simp -dsimp -implicitDefEqProofs only[go_sem,Int.reduceToNat,Int.reduceLE,ag];refine ar (args':=[iQ 1,iQ (lc d1)]) rfl (vw 1 _ hl0 mJ (gw (bd.coef _).1 (bd.coef _).2 (by omega))) ?_;simp -dsimp -implicitDefEqProofs only[go_sem];refine an (by rfl) 7 [] false true (by rfl) (by rfl) (by decide +kernel) ?_;simp -dsimp -implicitDefEqProofs only[go_sem,Int.reduceToNat,Int.reduceLE,ag];refine aa sn rfl ?_;simp -dsimp -implicitDefEqProofs only[go_sem,Int.reduceToNat,Int.reduceLE,ag];refine aa sd rfl ?_;simp -dsimp -implicitDefEqProofs only[go_sem,Int.reduceToNat,Int.reduceLE,ag]
theorem K9 {n d:PQ} {h N w:Nat} (hd0:d≠0) (hn:Alg.HB h n) (hd:Alg.HB h d) (tn:Alg.sz n<=N) (td:Alg.sz d<=N) (hN:N<=250000) (hf:FB w (Alg.fr n d))
  (hb:(2*(Alg.hN w+h)+1)+(N+2)*((2*(Alg.hN w+h)+1)+1)+2*(2*(Alg.hN w+h)+1)+2*N<=68719476000):Fn Tryz.prog 76 [iUp n,iUp d] [iK (Alg.fr n d)]:=by
 have:=Da hd0 hn hd tn td hN hf hb;refine ao kd (fn:=Tryz.f76) (by rfl) rfl rfl rfl (by rfl) (by simp) (by rfl) ?_;simp -dsimp -implicitDefEqProofs only[go_sem];refine am this ?_;simp -dsimp -implicitDefEqProofs only[go_sem]
end Go.AM
namespace Go.AM
open Alg
open Go.Proofs
open Classical
theorem La {n d:PQ} (hd0:d≠0) (hn:Alg.HB 8024009 n) (hd:Alg.HB 8024009 d) (tn:Alg.sz n<=2003) (td:Alg.sz d<=2003) (hf:FW (Alg.fr n d)):Fn Tryz.prog 116 [iUp n,iUp d] [iK (Alg.fr n d),iN 0] :=
 Da hd0 hn hd tn td (by omega) hf (by rw[Kk];omega)
theorem wZ {n d:PQ} (hd0:d≠0) (hn:Alg.HB 8024009 n) (hd:Alg.HB 8024009 d) (tn:Alg.sz n<=2003) (td:Alg.sz d<=2003) (hf:FW (Alg.fr n d)):Fn Tryz.prog 76 [iUp n,iUp d] [iK (Alg.fr n d)] :=
 K9 hd0 hn hd tn td (by omega) hf (by rw[Kk];omega)
theorem zk:Fn Tryz.prog 75 [] [iUp 1]:=by
 refine ao kd (fn:=Tryz.f75) (by rfl) rfl rfl rfl (by rfl) (by simp) (by rfl) ?_;simp -dsimp -implicitDefEqProofs only[go_sem];refine am (dv 1 (by decide)) ?_;simp -dsimp -implicitDefEqProofs only[go_sem];refine ar (args':=[iQ ((1:Int):Rat)]) rfl (np _ (ud (n:=1) (by decide) _ (by decide))) ?_;simp -dsimp -implicitDefEqProofs only[go_sem];rw[mA,cT];rfl
theorem vt (N:List Tm):Fn Tryz.prog 49 [iM N] [iF N (U 1)]:=by
 refine ao kd (fn:=Tryz.f49) (by rfl) rfl rfl rfl (by rfl) (by simp) (by rfl) ?_;simp -dsimp -implicitDefEqProofs only[go_sem];refine am zk ?_;simp -dsimp -implicitDefEqProofs only[go_sem]
theorem vu (n:PQ):Fn Tryz.prog 49 [iUp n] [iK (Alg.em n)]:=by
 have:=vt (U n);rwa [LW]at this
theorem EZ (c:Rat):fH c=U (Alg.C c):=by
 rw[fH];split
 ·rename_i h;rw[h,show Alg.C (0:Rat)=0 from co,bQ]
 ·rename_i h;rw[U_C h]
noncomputable abbrev kz (n:Int):KQ:=Alg.em (Alg.C (n:Rat))
theorem BS (c:Rat) (hc:QB 8589934592 c):Fn Tryz.prog 114 [iQ c] [iK (Alg.em (Alg.C c))]:=by
 have h1:=np c hc;rw[EZ]at h1;refine ao kd (fn:=Tryz.f114) (by rfl) rfl rfl rfl (by rfl) (by simp) (by rfl) ?_;simp -dsimp -implicitDefEqProofs only[go_sem];refine aa h1 rfl ?_;simp -dsimp -implicitDefEqProofs only[go_sem];refine am (vu _) ?_;simp -dsimp -implicitDefEqProofs only[go_sem]
theorem tV (n:Int) (h : -9223372036854775808<=n/\n<9223372036854775808):Fn Tryz.prog 73 [iN n] [iK (kz n)]:=by
 refine ao kd (fn:=Tryz.f73) (by rfl) rfl rfl rfl (by rfl) (by simp) (by rfl) ?_;simp -dsimp -implicitDefEqProofs only[go_sem];refine am (dv n h) ?_;simp -dsimp -implicitDefEqProofs only[go_sem];refine ar (args':=[iQ (n:Rat)]) rfl (BS (n:Rat) (ud h _ (by decide))) ?_;simp -dsimp -implicitDefEqProofs only[go_sem]
theorem Iq:Fn Tryz.prog 47 [iN 0] [iK (Alg.em Alg.X)]:=by
 have h1:=gO 0 (by omega);rw[show[((e0.to 0 1:Ex),(1:Rat))]=U Alg.X from U_X.symm]at h1;refine ao kd (fn:=Tryz.f47) (by rfl) rfl rfl rfl (by rfl) (by simp) (by rfl) ?_;simp -dsimp -implicitDefEqProofs only[go_sem];refine aa h1 rfl ?_;simp -dsimp -implicitDefEqProofs only[go_sem];refine am (vu _) ?_;simp -dsimp -implicitDefEqProofs only[go_sem]
theorem tW {p q:PQ} {h k:Nat} (hp:Alg.HB h p) (hq:Alg.HB k q) (hb:h<=137438953000) (hb':k<=137438953000) (sp:Alg.sz p<=1048576):Fn Tryz.prog 93 [iUp p,iUp q] [iB (decide (p=q))]:=by
 have:=qm (U p) (U q) (by have:=cO p;omega) (HB.qb hp (by omega)) (HB.qb hq (by omega));have e:decide (U p=U q)=decide (p=q):=by
  rw[decide_eq_decide];exact⟨fun h=>by rw[<-gt p,<-gt q,h],fun h=>by rw[h]⟩
 rwa [e]at this
theorem t7 {f g:KQ} (hf:FW f) (hg:FW g):Fn Tryz.prog 87 [iK f,iK g] [iB (decide (f=g))]:=by
 obtain⟨a1,a2,a3,a4⟩:=dX hf;obtain⟨b1,b2,b3,b4⟩:=dX hg;refine ao kd (fn:=Tryz.f87) (by rfl) rfl rfl rfl (by rfl) (by simp) (by rfl) ?_;simp -dsimp -implicitDefEqProofs only[go_sem,Int.reduceToNat,Int.reduceLE,ag];refine aa (tW a1 b1 (by omega) (by omega) (by omega)) rfl ?_;by_cases h:nN f=nN g
 ·rw[ai h];simp -dsimp -implicitDefEqProofs only[go_sem,Int.reduceToNat,Int.reduceLE,ag];refine aa (tW a2 b2 (by omega) (by omega) (by omega)) rfl ?_;simp -dsimp -implicitDefEqProofs only[go_sem];have e:decide (Alg.nD f=Alg.nD g)=decide (f=g):=by
   rw[decide_eq_decide,OT];exact⟨fun h'=>⟨h,h'⟩,fun h'=>h'.2⟩
  rw[e]
 ·rw[aj h];simp -dsimp -implicitDefEqProofs only[go_sem];rw[aj (fun e=>h (OT.1 e).1)]
theorem Fe {f g:KQ} (hf:FW f) (hg:FW g):Fn Tryz.prog 41 [iK f,iK g] [iB (decide (f=g))]:=by
 refine ao kd (fn:=Tryz.f41) (by rfl) rfl rfl rfl (by rfl) (by simp) (by rfl) ?_;simp -dsimp -implicitDefEqProofs only[go_sem];refine aa (t7 hf hg) rfl ?_;simp -dsimp -implicitDefEqProofs only[go_sem]
theorem vq (f:KQ):Fn Tryz.prog 34 [iK f] [iB (decide (f=0))]:=by
 refine ao kd (fn:=Tryz.f34) (by rfl) rfl rfl rfl (by rfl) (by simp) (by rfl) ?_;have e:decide (((U (nN f)).length:Int)=0)=decide (f=0):=by rw[hzU,decide_eq_decide,mf]
 simp -dsimp -implicitDefEqProofs only[go_sem,af,Int.reduceToNat,Int.reduceLE,ag,e]
theorem zt {f:KQ} (hf:FW f):Fn Tryz.prog 40 [iK f] [iK (-f)]:=by
 obtain⟨a1,a2,a3,a4⟩:=dX hf;have sc:=lh (c:=((-1:Int):Rat)) a1 (by omega) (by omega) (ud (n := -1) (by decide) _ (by decide));rw[show nN f*Alg.C ((-1:Int):Rat) = -nN f by rw[show Alg.C ((-1:Int):Rat) = -(1:PQ)from kw (1:Rat),mul_neg,mul_one],<-(wj f).1]at sc;have e:iF (U (nN (-f))) (U (Alg.nD f))=iK (-f):=by rw[<-(wj f).2]
 refine ao kd (fn:=Tryz.f40) (by rfl) rfl rfl rfl (by rfl) (by simp) (by rfl) ?_;simp -dsimp -implicitDefEqProofs only[go_sem];refine an (by rfl) 7 [] false true (by rfl) (by rfl) (by decide +kernel) ?_;simp -dsimp -implicitDefEqProofs only[go_sem,Int.reduceToNat,Int.reduceLE,ag];refine am (dv (-1) (by decide)) ?_;simp -dsimp -implicitDefEqProofs only[go_sem,Int.reduceToNat,Int.reduceLE,ag];refine aa sc rfl ?_;simp -dsimp -implicitDefEqProofs only[go_sem,Int.reduceToNat,Int.reduceLE,ag];exact congrArg (fun x=>some [x]) e
theorem Iy {f g:KQ} (hf:FW f) (hg:FW g) (h:FW (f*g)):Fn Tryz.prog 37 [iK f,iK g] [iK (f*g)]:=by
 obtain⟨a1,a2,a3,a4⟩:=dX hf;obtain⟨b1,b2,b3,b4⟩:=dX hg;have d1:=(cA f).1;have d2:=(cA g).1;have e:f*g=Alg.fr (nN f*nN g) (Alg.nD f*Alg.nD g):=by
  conv=>lhs;rw[<-fh f,<-fh g]
  exact dZ d1 d2
 have s1:=aM (nN f) (nN g);have s2:=aM (Alg.nD f) (Alg.nD g);have of:=wZ (aD d1 d2) ((a1.mul b1).mono (by omega)) ((a2.mul b2).mono (by omega)) (by omega) (by omega) (by rw[<-e];exact h);rw[<-e]at of;refine ao kd (fn:=Tryz.f37) (by rfl) rfl rfl rfl (by rfl) (by simp) (by rfl) ?_;simp -dsimp -implicitDefEqProofs only[go_sem];refine an (by rfl) 11 [] false true (by rfl) (by rfl) (by decide +kernel) ?_;simp -dsimp -implicitDefEqProofs only[go_sem,Int.reduceToNat,Int.reduceLE,ag];refine aa (dK a1 b1 (by omega) (by omega) (by omega)) rfl ?_;simp -dsimp -implicitDefEqProofs only[go_sem,Int.reduceToNat,Int.reduceLE,ag];refine aa (dK a2 b2 (by omega) (by omega) (by omega)) rfl ?_;simp -dsimp -implicitDefEqProofs only[go_sem,Int.reduceToNat,Int.reduceLE,ag];refine am of ?_;simp -dsimp -implicitDefEqProofs only[go_sem]
theorem IA {f g:KQ} (hf:FW f) (hg:FW g) (hg0:g≠0) (h:FW (f*Alg.inv g)):Fn Tryz.prog 118 [iK f,iK g] [iK (f*Alg.inv g),iN 0]:=by
 obtain⟨a1,a2,a3,a4⟩:=dX hf;obtain⟨b1,b2,b3,b4⟩:=dX hg;have d1:=(cA f).1;have d2:=(cA g).1;have n2:nN g≠0:=fun e=>hg0 (mf.1 e);have e:f*Alg.inv g=Alg.fr (nN f*Alg.nD g) (Alg.nD f*nN g):=by
  conv=>lhs;rw[<-fh f,<-fh g,wA n2 d2]
  exact dZ d1 n2
 have s1:=aM (nN f) (Alg.nD g);have s2:=aM (Alg.nD f) (nN g);have of:=La (aD d1 n2) ((a1.mul b2).mono (by omega)) ((a2.mul b1).mono (by omega)) (by omega) (by omega) (by rw[<-e];exact h);rw[<-e]at of;refine ao kd (fn:=Tryz.f118) (by rfl) rfl rfl rfl (by rfl) (by simp) (by rfl) ?_;simp -dsimp -implicitDefEqProofs only[go_sem];refine an (by rfl) 13 [] false true (by rfl) (by rfl) (by decide +kernel) ?_;simp -dsimp -implicitDefEqProofs only[go_sem,Int.reduceToNat,Int.reduceLE,ag];refine aa (dK a1 b2 (by omega) (by omega) (by omega)) rfl ?_;simp -dsimp -implicitDefEqProofs only[go_sem,Int.reduceToNat,Int.reduceLE,ag];refine aa (dK a2 b1 (by omega) (by omega) (by omega)) rfl ?_;simp -dsimp -implicitDefEqProofs only[go_sem,Int.reduceToNat,Int.reduceLE,ag];refine am of ?_;simp -dsimp -implicitDefEqProofs only[go_sem]
theorem Fg {f g:KQ} (hf:FW f) (hg:FW g) (hg0:g≠0) (h:FW (f*Alg.inv g)):Fn Tryz.prog 78 [iK f,iK g] [iK (f*Alg.inv g)]:=by
 refine ao kd (fn:=Tryz.f78) (by rfl) rfl rfl rfl (by rfl) (by simp) (by rfl) ?_;simp -dsimp -implicitDefEqProofs only[go_sem];refine aa (IA hf hg hg0 h) rfl ?_;simp -dsimp -implicitDefEqProofs only[go_sem]
theorem IC {f g:KQ} (hf:FW f) (hg:FW g) (h:FW (f+g)):Fn Tryz.prog 46 [iK f,iK g] [iK (f+g)]:=by
 obtain⟨a1,a2,a3,a4⟩:=dX hf;obtain⟨b1,b2,b3,b4⟩:=dX hg;have d1:=(cA f).1;have d2:=(cA g).1;have e:f+g=Alg.fr (nN f*Alg.nD g+nN g*Alg.nD f) (Alg.nD f*Alg.nD g):=by
  conv=>lhs;rw[<-fh f,<-fh g]
  rw[fj d1 d2]
 have s1:=aM (nN f) (Alg.nD g);have s2:=aM (nN g) (Alg.nD f);have s3:=aM (Alg.nD f) (Alg.nD g);have s4:Alg.sz (nN f*Alg.nD g+nN g*Alg.nD f)<=2003:=cP (by omega) (by omega);have of:=wZ (aD d1 d2) (((a1.mul b2).add (b1.mul a2)).mono (by omega)) ((a2.mul b2).mono (by omega)) s4 (by omega) (by rw[<-e];exact h);rw[<-e]at of;refine ao kd (fn:=Tryz.f46) (by rfl) rfl rfl rfl (by rfl) (by simp) (by rfl) ?_;simp -dsimp -implicitDefEqProofs only[go_sem];refine an (by rfl) 17 [] false true (by rfl) (by rfl) (by decide +kernel) ?_;simp -dsimp -implicitDefEqProofs only[go_sem,Int.reduceToNat,Int.reduceLE,ag];refine aa (dK a1 b2 (by omega) (by omega) (by omega)) rfl ?_;simp -dsimp -implicitDefEqProofs only[go_sem,Int.reduceToNat,Int.reduceLE,ag];refine aa (dK b1 a2 (by omega) (by omega) (by omega)) rfl ?_;simp -dsimp -implicitDefEqProofs only[go_sem,Int.reduceToNat,Int.reduceLE,ag];refine am (IB (a1.mul b2) (b1.mul a2) (by omega) (by omega) (by omega) (by omega)) ?_;simp -dsimp -implicitDefEqProofs only[go_sem,Int.reduceToNat,Int.reduceLE,ag];refine aa (dK a2 b2 (by omega) (by omega) (by omega)) rfl ?_;simp -dsimp -implicitDefEqProofs only[go_sem,Int.reduceToNat,Int.reduceLE,ag];refine am of ?_;simp -dsimp -implicitDefEqProofs only[go_sem]
end Go.AM
namespace Go.AM
open Alg
open Go.Proofs
open Classical
theorem w4 (a b:List KQ) (hl:a.length<=1099511627776) (hx:∀ f∈a,FW f) (hy:∀ f∈b,FW f):Fn Tryz.prog 112 [kl a,kl b] [iB (decide (a=b))]:=by
 refine ao kd (fn:=Tryz.f112) (by rfl) rfl rfl rfl (by rfl) (by simp) (by rfl) ?_;by_cases hab:a.length=b.length
 ·have e1:decide ((a.length:Int)=(b.length:Int))=true:=ai (by omega);simp -dsimp -implicitDefEqProofs only[go_sem,e1,af];refine aH [(4,5),(11,26)] [] [] (fun n τ β ε=>∃ i:Nat,n=a.length-i/\i<=a.length/\a.take i=b.take i/\τ 5 = .i (iN i))
   (fun e τ β ε=>(e = .exit 0/\a=b)\/(e = .ret/\¬ a=b/\τ 4 = .i (.c (.v (.bool false))))) a.length ?_ ?_ ?_
  ·exact⟨0,by omega,by omega,rfl,rfl⟩
  ·rintro n τ β ε π hK hKB hKE ⟨i,hn,hi,he,h5⟩;have k0:τ 0 = .i (kl a):=(hK 0 rfl).trans rfl;have k1:τ 1 = .i (kl b):=(hK 1 rfl).trans rfl;by_cases hlt:i<a.length
   ·have dA:decide ((i:Int)<(a.length:Int))=true:=ai (by omega);have hlb:i<b.length:=by omega
    have ga:a[i]?=some a[i]:=by simp[hlt]
    have gb:b[i]?=some b[i]:=by simp[hlb]
    simp -dsimp -implicitDefEqProofs only[go_sem,h5,k0,dA,af];refine an (by rfl) 10 [] false true (by rfl) (by rfl) (by decide +kernel) ?_;simp -dsimp -implicitDefEqProofs only[go_sem,h5,k0,k1];refine av ga ?_;simp -dsimp -implicitDefEqProofs only[go_sem,h5,k0,k1];refine av gb ?_;simp -dsimp -implicitDefEqProofs only[go_sem,h5,k0,k1];refine ar (args':=[iK a[i],iK b[i]]) rfl (t7 (hx _ (List.getElem_mem _)) (hy _ (List.getElem_mem _))) ?_;by_cases hc:a[i]=b[i]
    ·have e2:decide (a[i]=b[i])=true:=ai hc;simp -dsimp -implicitDefEqProofs only[go_sem,e2,h5]
     repeat(refine And.intro (by omega) ?_)
     refine again (a.length-(i+1)) (by omega) ⟨(by(repeat apply ak rfl);exact hK),(by(repeat apply ak rfl);exact hKB),(by(repeat apply ak rfl);exact hKE),i+1,rfl,by omega,?_,rfl⟩
     rw[ab hlt,ab hlb,he,hc]
    ·have e2:decide (a[i]=b[i])=false:=aj hc;simp -dsimp -implicitDefEqProofs only[go_sem,e2];exact⟨(by(repeat apply ak rfl);exact hK),(by(repeat apply ak rfl);exact hKB),(by(repeat apply ak rfl);exact hKE),fun e=>hc (by simp[e])⟩
   ·have dA:decide ((i:Int)<(a.length:Int))=false:=aj (by omega);obtain rfl:i=a.length:=by omega
    simp -dsimp -implicitDefEqProofs only[go_sem,h5,k0,dA,af];have:a=b:=by rw[List.take_length,List.take_of_length_le (by omega)]at he;exact he
    exact⟨(by(repeat apply ak rfl);exact hK),(by(repeat apply ak rfl);exact hKB),(by(repeat apply ak rfl);exact hKE),this⟩
  ·rintro e τ β ε π hK hKB hKE h;rcases h with⟨rfl,h⟩|⟨rfl,h,h6⟩
   ·simp -dsimp -implicitDefEqProofs only[go_sem,h]
   ·simp -dsimp -implicitDefEqProofs only[go_sem,h,h6]
 ·have e1:decide ((a.length:Int)=(b.length:Int))=false:=aj (by omega);simp -dsimp -implicitDefEqProofs only[go_sem,e1,af];have:¬ a=b:=fun e=>hab (by rw[e]);rw[aj this]
theorem tY (a b:List KQ) (hl:a.length<=1099511627776) (hx:∀ f∈a,FW f) (hy:∀ f∈b,FW f):Fn Tryz.prog 15 [kl a,kl b] [iB (decide (a=b))]:=by
 have h66:Fn Tryz.prog 66 [kl a,kl b] [iB (decide (a=b))]:=by
  refine ao kd (fn:=Tryz.f66) (by rfl) rfl rfl rfl (by rfl) (by simp) (by rfl) ?_;simp -dsimp -implicitDefEqProofs only[go_sem];refine am (w4 a b hl hx hy) ?_;simp -dsimp -implicitDefEqProofs only[go_sem]
 refine ao kd (fn:=Tryz.f15) (by rfl) rfl rfl rfl (by rfl) (by simp) (by rfl) ?_;simp -dsimp -implicitDefEqProofs only[go_sem];refine am h66 ?_;simp -dsimp -implicitDefEqProofs only[go_sem]
theorem Ir (l:List KQ) (hl:l.length<=1048576):Fn Tryz.prog 61 [kl l] [kl (dh l)]:=by
 refine ao kd (fn:=Tryz.f61) (by rfl) rfl rfl rfl (by rfl) (by simp) (by rfl) ?_;simp -dsimp -implicitDefEqProofs only[go_sem,af];refine aH [(3,3),(6,17)] [] [] (fun n τ β ε=>∃ t:Nat,n=t/\t<=l.length/\(∀ j (hj:j<l.length),t<=j->l[j]=0)/\τ 3 = .i (iN t))
  (fun e τ β ε=>e = .exit 0/\∃ t:Nat,t<=l.length/\dh l=l.take t/\τ 3 = .i (iN t)) l.length ?_ ?_ ?_
 ·exact⟨l.length,rfl,ae _,fun j hj h=>by omega,rfl⟩
 ·rintro n τ β ε π hK hKB hKE ⟨t,hn,ht,hz,h3⟩;have k0:τ 0 = .i (kl l):=(hK 0 rfl).trans rfl;by_cases ht0:t=0
  ·have dA:decide ((0:Int)<(t:Int))=false:=aj (by omega);simp -dsimp -implicitDefEqProofs only[go_sem,h3,dA];exact⟨(by(repeat apply ak rfl);exact hK),(by(repeat apply ak rfl);exact hKB),(by(repeat apply ak rfl);exact hKE),t,ht,gz ht hz (fun _ h=>by omega),rfl⟩
  ·have dA:decide ((0:Int)<(t:Int))=true:=ai (by omega);have ei:(t:Int)-1=((t-1:Nat):Int):=by omega
   have gl:l[t-1]?=some l[t-1]:=ah (by omega);simp -dsimp -implicitDefEqProofs only[go_sem,h3,k0,dA,ei]
   repeat(refine And.intro (by omega) ?_)
   refine av gl ?_;simp -dsimp -implicitDefEqProofs only[go_sem,h3];refine ar (args':=[iK l[t-1]]) rfl (vq _) ?_;by_cases hc:l[t-1]=0
   ·have e2:decide (l[t-1]=0)=true:=ai hc;simp -dsimp -implicitDefEqProofs only[go_sem,e2,h3,ei]
    repeat(refine And.intro (by omega) ?_)
    refine again (t-1) (by omega) ⟨(by(repeat apply ak rfl);exact hK),(by(repeat apply ak rfl);exact hKB),(by(repeat apply ak rfl);exact hKE),t-1,rfl,by omega,fun j hj h=>?_,rfl⟩
    by_cases e:j=t-1
    ·subst e;exact hc
    ·exact hz j hj (by omega)
   ·have e2:decide (l[t-1]=0)=false:=aj hc;simp -dsimp -implicitDefEqProofs only[go_sem,e2];exact⟨(by(repeat apply ak rfl);exact hK),(by(repeat apply ak rfl);exact hKB),(by(repeat apply ak rfl);exact hKE),t,ht,gz ht hz (fun _ _=>hc),h3⟩
 ·rintro e τ β ε π hK hKB hKE ⟨rfl,t,ht,he,h3⟩;have k0:τ 0 = .i (kl l):=(hK 0 rfl).trans rfl;simp -dsimp -implicitDefEqProofs only[go_sem,h3,k0,Int.reduceToNat,Int.reduceLE,ag,af];refine⟨ht,fun r hr=>?_,by omega,?_⟩
  ·obtain⟨f,-,rfl⟩:=List.mem_map.1 (List.mem_of_mem_take hr);rfl
  ·rw[List.take_of_length_le (by simp),he,<-List.map_take]
end Go.AM
namespace Go.AM
open Go.Proofs
open Classical
end Go.AM
namespace Go.AM
open Alg
open Go.Proofs
open Classical
theorem t6 {p q:KP} {w v:Nat} (hp:PW w p) (hq:PW v q) (hw:w<=1000) (hv:v<=1000) (hs:Alg.sz p<=1000):Fn Tryz.prog 15 [ku p,ku q] [iB (decide (p=q))]:=by
 have:=tY (Alg.cl p) (Alg.cl q) (by rw[aF];omega) (hp.fw hw) (hq.fw hv);have e:decide (Alg.cl p=Alg.cl q)=decide (p=q):=by rw[decide_eq_decide];exact⟨NA,fun h=>by rw[h]⟩
 rwa [e]at this
def wR (w v:Nat):Nat->Nat
 | 0=>w
 | n+1=>2*wR w v n+2*v+1
theorem zx {c:KQ} {w:Nat} (hc:FB w c) (hw:w<=1000):Fn Tryz.prog 22 [iK c] [ku (Alg.X-Alg.C c)]:=by
 have e:Alg.cl (Alg.X-Alg.C c)=[-c,1]:=by
  refine(CY (l:=[-c,1]) (fun i hi=>?_) (fun i hi=>?_) (fun h=>?_)).symm
  ·match i,hi with
   | 0,_=>show -c=(0:KQ)-c;rw[sub_eq,zero_add]
   | 1,_=>show(1:KQ)=1-0;rw[sub_zero]
  ·match i,hi with
   | i+2,_=>show(0:KQ)-0=0;rw[sub_zero]
  ·exact one_ne
 refine ao kd (fn:=Tryz.f22) (by rfl) rfl rfl rfl (by rfl) (by simp) (by rfl) ?_;simp -dsimp -implicitDefEqProofs only[go_sem];refine aa (zt (hc.mono hw)) rfl ?_;simp -dsimp -implicitDefEqProofs only[go_sem];refine am (tV 1 (by decide)) ?_;simp -dsimp -implicitDefEqProofs only[go_sem];have e2:ku (Alg.X-Alg.C c)=kl [-c,1]:=by show kl (Alg.cl _)=_;rw[e]
 rw[e2,show kz 1=1 from fi];rfl
end Go.AM
namespace Go.AM
open Alg
open Go.Proofs
open Classical
noncomputable def hr (p:KP) (c:KQ):Nat->KQ
 | 0=>0
 | n+1=>hr p c n*c+p.c (Alg.sz p-(n+1))
end Go.AM
namespace Go.AM
open Alg
open Go.Proofs
open Classical
theorem Kf {x m:Tm} {L:List Tm} (h:0<bP x.1 m.1):nv (x::L) m=x::nv L m:=by
 unfold nv;rw[atR,if_pos h];rfl
theorem Ke {x m:Tm} {L:List Tm} (h:¬ 0<bP x.1 m.1):nv (x::L) m=(if(pT m (x::L)).1≠0/\cy m.1 then[(m.1,(pT m (x::L)).1)]else[])++(pT m (x::L)).2:=by
 unfold nv;rw[atR,if_neg h];rfl
theorem Am {e:Ex} (h:Uv1 e):cy e:=by unfold Uv1 at h;unfold cy;omega
theorem Hu {m:Tm} (hm:Uv1 m.1):∀{L:List Tm},Cn L->Cn (nv L m)/\toP (nv L m)=toP L+mon m.1.a.toNat m.2/\∀ t∈nv L m,t.1=m.1\/∃ u∈L,u.1=t.1
 | [],_=>by
  have e:nv [] m=if m.2=0 then[]else[m]:=by
   show(if m.2≠0/\cy m.1 then[(m.1,m.2)]else[])++[]=_
   by_cases h:m.2=0<;>simp[h,Am hm]
  rw[e];by_cases h:m.2=0
  ·rw[if_pos h,h,iR,ce,add_zero];exact⟨⟨List.Pairwise.nil,by simp,by intro t ht;simp at ht⟩,rfl,by simp⟩
  ·rw[if_neg h,aG,ce,add_zero,zero_add];exact⟨⟨List.pairwise_singleton _ _,by simpa using h,by intro t ht;simp at ht;subst ht;exact hm⟩,rfl,by simp⟩
 | x::L,hc=>by
  have hx:=hc.uv x (by simp);by_cases h:0<bP x.1 m.1
  ·rw[Kf h];obtain⟨i1,i2,i3⟩:=Hu hm (cZ hc);refine⟨⟨List.pairwise_cons.2 ⟨fun t ht=>?_,i1.srt⟩,fun t ht=>?_,fun t ht=>?_⟩,?_,fun t ht=>?_⟩
   ·rcases i3 t ht with e|⟨u,hu,e⟩
    ·rw[e];exact h
    ·rw[<-e];exact(List.pairwise_cons.1 hc.srt).1 u hu
   ·rcases List.mem_cons.1 ht with rfl|ht
    ·exact hc.nz _ (by simp)
    ·exact i1.nz t ht
   ·rcases List.mem_cons.1 ht with rfl|ht
    ·exact hx
    ·exact i1.uv t ht
   ·rw[aG,aG,i2,add_assoc]
   ·rcases List.mem_cons.1 ht with rfl|ht
    ·exact .inr ⟨_,by simp,rfl⟩
    ·rcases i3 t ht with e|⟨u,hu,e⟩
     ·exact .inl e
     ·exact .inr ⟨u,by simp[hu],e⟩
  ·rw[Ke h];by_cases he:x.1=m.1
   ·rw[show pT m (x::L)=(m.2+x.2,L)from if_pos he];have key:toP (x::L)+mon m.1.a.toNat m.2=mon m.1.a.toNat (m.2+x.2)+toP L:=by
     rw[aG,he,show mon m.1.a.toNat (m.2+x.2)=mon m.1.a.toNat m.2+mon m.1.a.toNat x.2 from wn _ _ _];exact ring [mon m.1.a.toNat x.2,mon m.1.a.toNat m.2,toP L]
    by_cases h0:m.2+x.2=0
    ·simp only[h0,ne_eq,not_true,false_and,if_false,List.nil_append];refine⟨cZ hc,?_,fun t ht => .inr ⟨t,by simp[ht],rfl⟩⟩;rw[key,h0,iR,zero_add]
    ·simp only[ne_eq,h0,not_false_eq_true,Am hm,and_self,if_true,List.singleton_append];refine⟨⟨List.pairwise_cons.2 ⟨fun t ht=>?_,(cZ hc).srt⟩,fun t ht=>?_,fun t ht=>?_⟩,?_,fun t ht=>?_⟩
     ·show 0<bP m.1 t.1;rw[<-he];exact(List.pairwise_cons.1 hc.srt).1 t ht
     ·rcases List.mem_cons.1 ht with rfl|ht
      ·exact h0
      ·exact(cZ hc).nz t ht
     ·rcases List.mem_cons.1 ht with rfl|ht
      ·exact hm
      ·exact(cZ hc).uv t ht
     ·rw[key,aG]
     ·rcases List.mem_cons.1 ht with rfl|ht
      ·exact .inl rfl
      ·exact .inr ⟨t,by simp[ht],rfl⟩
   ·rw[show pT m (x::L)=(m.2,x::L)from if_neg he];have hlt:0<bP m.1 x.1:=by
     have h1:bP x.1 m.1≠0:=fun e=>he ((iX _ _).1 e);have h2:=ng x.1 m.1;omega
    by_cases h0:m.2=0
    ·simp only[h0,ne_eq,not_true,false_and,if_false,List.nil_append];exact⟨hc,by rw[iR,add_zero],fun t ht => .inr ⟨t,ht,rfl⟩⟩
    ·simp only[ne_eq,h0,not_false_eq_true,Am hm,and_self,if_true,List.singleton_append];refine⟨⟨List.pairwise_cons.2 ⟨fun t ht=>?_,hc.srt⟩,fun t ht=>?_,fun t ht=>?_⟩,?_,fun t ht=>?_⟩
     ·show 0<bP m.1 t.1;rcases List.mem_cons.1 ht with rfl|ht
      ·exact hlt
      ·refine(jb hm (hc.uv t (by simp[ht]))).2 ?_;have h3:=(jb hm hx).1 hlt;have h4:=qN hc t ht;omega
     ·rcases List.mem_cons.1 ht with rfl|ht
      ·exact h0
      ·exact hc.nz t ht
     ·rcases List.mem_cons.1 ht with rfl|ht
      ·exact hm
      ·exact hc.uv t ht
     ·rw[aG,add_comm]
     ·rcases List.mem_cons.1 ht with rfl|ht
      ·exact .inl rfl
      ·exact .inr ⟨t,ht,rfl⟩
theorem Nk (p:PQ) {m:Tm} (hm:Uv1 m.1):nv (U p) m=U (p+mon m.1.a.toNat m.2):=by
 obtain⟨h1,h2,_⟩:=Hu hm (jB p);exact uF h1 (by rw[h2,gt])
end Go.AM
namespace Go.AM
open Alg
open Go.Proofs
open Classical
theorem sJ:∀(L:List Tm) (p:PQ),Uv L->L.foldl nv (U p)=U (p+toP L)
 | [],p,_=>by rw[ce,add_zero];rfl
 | t::L,p,h=>by
  rw[List.foldl_cons,Nk p (h t (by simp)),sJ L _ (fun u hu=>h u (by simp[hu])),aG,add_assoc]
theorem Cw {L:List Tm} (h:Uv L):mi L=U (toP L):=by
 have:=sJ L 0 h;rw[bQ,zero_add]at this;exact this
def Sml (t:Tm):Prop:=Uv1 t.1/\t.1.a<=2/\t.2.num.natAbs<=2 ^ 8/\t.2.den<=2 ^ 8
theorem LE:∀{L:List Tm},(∀ t∈L,Sml t)->Alg.HB (9*L.length) (toP L)/\Alg.sz (toP L)<=3
 | [],_=>⟨Alg.HB.zero _,by rw[ce,ap.2 rfl];omega⟩
 | t::L,h=>by
  obtain⟨h1,h2,h3,h4⟩:=h t (by simp);obtain⟨i1,i2⟩:=LE (L:=L) fun u hu=>h u (by simp[hu]);rw[aG];unfold Uv1 at h1;refine⟨((Alg.HB.mon _ h3 h4).add i1).mono (by simp only[List.length_cons];omega),cP (cF fun i hi=>by rw[bJ,if_neg (by omega)]) i2⟩
theorem Fh {L:List Tm} (h:∀ t∈L,Sml t) (hl:L.length<=100):Fn Tryz.prog 88 [iM L] [iUp (toP L)]:=by
 have hu:Uv L:=fun t ht=>(h t ht).1;have:=zw L (by omega) (fun t ht=>gw (h t ht).2.2.1 (h t ht).2.2.2 (by omega)) fun i hi=>by
  have hu':Uv (L.take i):=fun t ht=>hu t (List.mem_of_mem_take ht);obtain⟨s1,s2⟩:=LE (L:=L.take i) fun t ht=>h t (List.mem_of_mem_take ht);rw[Cw hu'];have hl':(L.take i).length<=100:=by simp;omega
  exact⟨HB.qb s1 (by omega),by have:=cO (toP (L.take i));omega⟩
 rwa [Cw hu]at this
structure T5 where
 a:Int
 b:Int
 c:Int
 d:Int
 e:Int
def T5.row (t:T5):List C:=[.v (.int .i8 t.a),.v (.int .i8 t.b),.v (.int .i8 t.c),.v (.int .i8 t.d),.v (.int .i8 t.e)]
def T5.ok (t:T5):Prop:=(-128<=t.a/\t.a<128) /\ -128<=t.e/\t.e<128
def T5.tm (t:T5):Tm:=(⟨t.a % 3,0,0,0⟩,(t.e:Rat))
abbrev tl (l:List T5):IV := .c (.lst (l.map T5.row))
theorem T5.sml {t:T5} (h:t.ok):Sml t.tm:=by
 unfold T5.ok at h;refine⟨⟨?_,rfl,rfl,rfl⟩,?_,?_,?_⟩
 ·show 0<=t.a % 3;omega
 ·show t.a % 3<=2;omega
 ·show(t.e:Rat).num.natAbs<=_;rw[Rat.num_intCast];omega
 ·show(t.e:Rat).den<=_;rw[Rat.den_intCast];decide
noncomputable def lz (l:List T5) (n:Nat):PQ:=toP ((l.take n).map T5.tm)
theorem wr64 {n:Int} (h : -9223372036854775808<=n/\n<9223372036854775808):IntKind.wrap .i64 n=n:=by
 simp[IntKind.wrap,IntKind.bits,IntKind.signed];omega
def tmR (l:List T5) (i:Nat):List (List C):=((l.take i).map T5.tm).map eT
theorem F1 {l:List T5} {i:Nat} (h:i<l.length):tmR l (i+1)=tmR l i++[eT l[i].tm]:=by
 unfold tmR;rw[ab h,List.map_append,List.map_append];rfl
theorem Jr {l:List T5} {i:Nat} (h:i<=l.length):(tmR l i).length=i:=by simp[tmR];omega
theorem qk (l:List T5) (n:Nat) (hn:n<=2) (hl:l.length<=9223372036854775807) (h:∀ t∈l,t.ok):Fn Tryz.prog 74 [tl l,iN n,iN 1] [iUp (lz l n)]:=by
 have hmk:=Fh (L:=(l.take n).map T5.tm) (fun t ht=>by
  obtain⟨u,hu,rfl⟩:=List.mem_map.1 ht;exact T5.sml (h u (List.mem_of_mem_take hu))) (by simp;omega)
 refine ao kd (fn:=Tryz.f74) (by rfl) rfl rfl rfl (by rfl) (by simp) (by rfl) ?_;simp -dsimp -implicitDefEqProofs only[go_sem];refine cC 7 11 8 (rs:=[]) rfl (by simp) ?_;refine aX [(7,10),(12,52)] [(9,9)] [(11,11),(52,52)] (fun m τ β ε=>∃ i:Nat,m=n-i/\i<=n/\i<=l.length/\τ 8 = .i (iN i)/\Own 8 (tmR l i) 7 11 τ ε)
  (fun e τ β ε=>e = .exit 0/\Own 8 (tmR l n) 7 11 τ ε) n ?_ ?_ ?_
 ·exact⟨0,by omega,by omega,by omega,rfl,Own.mk (g:=1) (mm:=false) (by omega) rfl rfl rfl⟩
 ·rintro m τ β ε π hK hKB hKE ⟨i,hm,hi,hil,h8,g,mm,hg,h7,h11⟩;have hlen:(tmR l i).length=i:=Jr hil;rw[hlen]at h7;have k0:τ 0 = .i (tl l):=(hK 0 rfl).trans rfl;have k1:τ 1 = .i (iN n):=(hK 1 rfl).trans rfl;have k2:τ 2 = .i (iN 1):=(hK 2 rfl).trans rfl;by_cases hA:i<l.length
  ·have dA:decide ((i:Int)<(l.length:Int))=true:=ai (by omega);have gl:l[i]?=some l[i]:=by simp[hA]
   by_cases hB:i<n
   ·have dB:decide ((i:Int)<(n:Int))=true:=ai (by omega);have ht:=h _ (List.getElem_mem hA);unfold T5.ok at ht;simp -dsimp -implicitDefEqProofs only[go_sem,h8,k0,k1,dA,dB,af];refine av gl ?_;simp -dsimp -implicitDefEqProofs only[go_sem,T5.row,Int.reduceToNat,Int.reduceLE,ag,h8,k0];rw[wr64 (by omega)];refine aa (dv l[i].e (by omega)) rfl ?_;simp -dsimp -implicitDefEqProofs only[go_sem,Int.reduceToNat,Int.reduceLE,ag];refine aH [(10,10),(31,48)] [(9,9)] [] (fun m τ' β' ε'=>∃ k:Nat,m=1-k/\k<=1/\τ' 10 = .i (iN k)/\β' 9=⟨(β 9).gen+1,eT (if k=0 then(e0,(l[i].e:Rat))else l[i].tm)⟩)
     (fun e τ' β' ε'=>e = .exit 2/\β' 9=⟨(β 9).gen+1,eT l[i].tm⟩) 1 ?_ ?_ ?_
    ·exact⟨0,by omega,by omega,rfl,rfl⟩
    ·rintro m2 τ2 β2 ε2 π2 hK2 hKB2 hKE2 ⟨k,hm2,hk,h10,b9⟩;have q0:τ2 0 = .i (tl l):=(hK2 0 rfl).trans k0;have q2:τ2 2 = .i (iN 1):=(hK2 2 rfl).trans k2;have q8:τ2 8 = .i (iN i):=(hK2 8 rfl).trans h8;have q9:τ2 9 = .bp 9 ((β 9).gen+1) 0:=(hK2 9 rfl).trans rfl;obtain rfl|rfl:k=0\/k=1:=by omega
     ·have h10':τ2 10 = .i (iN 0):=h10;rw[if_pos rfl]at b9;have em:(((IntKind.i64.wrap l[i].a).tmod 3)+3).tmod 3=l[i].a % 3:=by
       rw[wr64 (by omega)];rcases Int.le_total 0 l[i].a with hp|hp
       ·rw[Int.tmod_eq_emod_of_nonneg hp,Int.tmod_eq_emod_of_nonneg (by omega)];omega
       ·have:l[i].a.tmod 3 = -((-l[i].a) % 3):=by
         rw[<-Int.tmod_eq_emod_of_nonneg (by omega),Int.neg_tmod,Int.neg_neg]
        rw[this,Int.tmod_eq_emod_of_nonneg (by omega)];omega
      simp -dsimp -implicitDefEqProofs only[go_sem,h10',q0,q2,q8,q9,b9,Int.reduceToNat,Int.reduceLE,ag,Int.reduceLT,decide_true];refine av gl ?_;simp -dsimp -implicitDefEqProofs only[go_sem,T5.row,h10',q0,q2,q8,q9,b9,Int.reduceToNat,Int.reduceLE,ag,em];have eb : -3<=(IntKind.i64.wrap l[i].a).tmod 3/\(IntKind.i64.wrap l[i].a).tmod 3<=3:=by
       rw[wr64 (by omega)];rcases Int.le_total 0 l[i].a with hp|hp
       ·rw[Int.tmod_eq_emod_of_nonneg hp];omega
       ·have:l[i].a.tmod 3 = -((-l[i].a) % 3):=by
         rw[<-Int.tmod_eq_emod_of_nonneg (by omega),Int.neg_tmod,Int.neg_neg]
        omega
      repeat(refine And.intro (by omega) ?_)
      refine again 0 (by omega) ⟨(by(repeat apply ak rfl);exact hK2),(by(repeat apply ak rfl);exact hKB2),(by(repeat apply ak rfl);exact hKE2),1,rfl,by omega,rfl,?_⟩
      rw[if_neg (by decide)];simp -dsimp -implicitDefEqProofs only[go_sem];rfl
     ·have h10':τ2 10 = .i (iN 1):=h10;rw[if_neg (by decide)]at b9;simp -dsimp -implicitDefEqProofs only[go_sem,h10',q2,Int.reduceLT,decide_false];exact⟨(by(repeat apply ak rfl);exact hK2),(by(repeat apply ak rfl);exact hKB2),(by(repeat apply ak rfl);exact hKE2),b9⟩
    ·rintro e τ2 β2 ε2 π2 hK2 hKB2 hKE2 ⟨rfl,b9⟩;have r9:τ2 9 = .bp 9 ((β 9).gen+1) 0:=(hK2 9 rfl).trans rfl;have r8:τ2 8 = .i (iN i):=(hK2 8 rfl).trans h8;have r7:τ2 7 = .sl 11 g i:=(hK2 7 rfl).trans h7;have f11:ε2 11=⟨g,8,tmR l i,mm,true⟩:=(hKE2 11 rfl).trans h11;have kO:=Kp.step2 hK hK2 (by intro n;simp[inR]<;>omega) (by(repeat apply ak rfl);exact hK)
     have kB:=Kp.step2 hKB hKB2 (by intro n;simp[inR]<;>omega) (by(repeat apply ak rfl);exact hKB)
     have kE:=Kp.step2 hKE hKE2 (by intro n;simp[inR]) hKE;simp -dsimp -implicitDefEqProofs only[go_sem,r9,r8,r7,f11,b9,hg,hlen]
     repeat(refine And.intro (by omega) ?_)
     refine aJ (n-(i+1)) 7 52 11 (by omega) rfl rfl (by omega) (by decide) ⟨(by(repeat apply ak rfl);exact kO),(by(repeat apply ak rfl);exact kB),(by(repeat apply ak rfl);exact kE),i+1,rfl,by omega,by omega,rfl,?_⟩
     refine Own.mk2 (Nat.succ_pos _) (by simp -dsimp -implicitDefEqProofs only[go_sem];rfl) (by simp -dsimp -implicitDefEqProofs only[go_sem];rfl) (by rw[List.length_append,hlen];rfl) (F1 hA).symm
   ·have dB:decide ((i:Int)<(n:Int))=false:=aj (by omega);obtain rfl:i=n:=by omega
    simp -dsimp -implicitDefEqProofs only[go_sem,h8,k0,k1,dA,dB,af];exact⟨(by(repeat apply ak rfl);exact hK),(by(repeat apply ak rfl);exact hKB),(by(repeat apply ak rfl);exact hKE),Own.mk hg h7 hlen.symm h11⟩
  ·have dA:decide ((i:Int)<(l.length:Int))=false:=aj (by omega);have et:tmR l n=tmR l i:=by unfold tmR;rw[List.take_of_length_le (by omega),List.take_of_length_le (by omega)]
   simp -dsimp -implicitDefEqProofs only[go_sem,h8,k0,k1,dA,af];rw[et];exact⟨(by(repeat apply ak rfl);exact hK),(by(repeat apply ak rfl);exact hKB),(by(repeat apply ak rfl);exact hKE),Own.mk hg h7 hlen.symm h11⟩
 ·rintro e τ β ε π hK hKB hKE ⟨rfl,g,mm,hg,h7,h11⟩;refine⟨_,aY.freeze _ 11,?_⟩;simp -dsimp -implicitDefEqProofs only[go_sem,h7,h11,hg];refine ar (args':=[iM ((l.take n).map T5.tm)]) (by rw[List.take_of_length_le (ae _)];rfl) hmk ?_;simp -dsimp -implicitDefEqProofs only[go_sem];rw[lz,List.map_take]
end Go.AM
namespace Go.AM
open Alg
open Go.Proofs
open Classical
theorem vX (L:List T5) (h:∀ t∈L,t.ok):∃ A:Alg.P Int,toP (L.map T5.tm)=toQ A/\Alg.n1 A<=128*L.length/\Alg.sz A<=3:=by
 induction L with
 | nil=>exact⟨0,by rw[cu];rfl,by rw[gH];omega,by rw[ap.2 rfl];omega⟩
 | cons t L ih =>
  obtain⟨A,h1,h2,h3⟩:=ih fun u hu=>h u (by simp[hu]);have ht:=h t (by simp);unfold T5.ok at ht;refine⟨mon (t.a % 3).toNat t.e+A,?_,?_,?_⟩
  ·rw[List.map_cons,aG,h1,jD,mT];rfl
  ·have e:=gA (t.a % 3).toNat t.e 1;rw[mul_one]at e;have e1:Alg.n1 (1:Alg.P Int)<=1:=by
    refine oN (n:=1) (H:=1) (Nat.le_of_eq (by rw[<-bT];exact iw (by decide))) (fun i=>?_);rw[<-bT];cases i with
    | zero=>exact ae 1
    | succ i=>exact Nat.zero_le 1
   have e2:t.e.natAbs*Alg.n1 (1:Alg.P Int)<=t.e.natAbs*1:=Nat.mul_le_mul_left _ e1;have:=kN (mon (t.a % 3).toNat t.e) A;simp only[List.length_cons];omega
  ·exact cP (cF fun i hi=>by rw[bJ,if_neg (by omega)]) h3
noncomputable def den1 (p:PQ):PQ:=if p=0 then 1 else p
theorem KD (p:PQ):den1 p≠0:=by
 unfold den1;split
 ·exact eX
 ·assumption
noncomputable def yn (N D:List T5) (n:Nat):KQ:=Alg.fr (lz N n) (den1 (lz D n))
theorem Gx {N D:List T5} {n:Nat} (hn:n<=2) (hN:∀ t∈N,t.ok) (hD:∀ t∈D,t.ok):FB 8 (yn N D n):=by
 obtain⟨A,a1,a2,a3⟩:=vX (N.take n) fun t ht=>hN t (List.mem_of_mem_take ht);obtain⟨B,b1,b2,b3⟩:=vX (D.take n) fun t ht=>hD t (List.mem_of_mem_take ht);have la:(N.take n).length<=n:=by simp;omega
 have lb:(D.take n).length<=n:=by simp;omega
 have s1:Alg.sz (1:Alg.P Int)=1:=iw (R:=Int) (by decide);have e8:(2:Nat) ^ 8=256:=rfl;by_cases h:lz D n=0
 ·refine⟨A,1,fo (R:=Int) (by decide),?_,by omega,by omega,by omega,?_⟩
  ·rw[yn,den1,if_pos h,ox,<-a1];rfl
  ·rw[fN (n:=1) (by omega)];show 0+Int.natAbs 1<=_;omega
 ·refine⟨A,B,fun e=>h (by rw[lz,b1,e,cu]),?_,by omega,by omega,by omega,by omega⟩;rw[yn,den1,if_neg h,<-a1,<-b1];rfl
theorem Gw {N:List T5} {n:Nat} (hn:n<=2) (hN:∀ t∈N,t.ok):Alg.HB 8 (lz N n)/\Alg.sz (lz N n)<=3:=by
 obtain⟨A,a1,a2,a3⟩:=vX (N.take n) fun t ht=>hN t (List.mem_of_mem_take ht);have la:(N.take n).length<=n:=by simp;omega
 have e8:(2:Nat) ^ 8=256:=rfl;rw[lz,a1];exact⟨Alg.HB.of (by omega),by rw[fE];exact a3⟩
theorem Fi (N D:List T5) (n:Nat) (hn:n<=2) (lN:N.length<=9223372036854775807) (lD:D.length<=9223372036854775807) (hN:∀ t∈N,t.ok) (hD:∀ t∈D,t.ok) :
  Fn Tryz.prog 23 [.g [.lst (N.map T5.row),.lst (D.map T5.row)],iN n,iN 1] [iK (yn N D n)]:=by
 obtain⟨n1,n2⟩:=Gw hn hN;obtain⟨d1,d2⟩:=Gw hn hD;have d3:Alg.HB 8 (den1 (lz D n))/\Alg.sz (den1 (lz D n))<=3:=by
  unfold den1;split
  ·exact⟨cX _,by rw[ck];omega⟩
  ·exact⟨d1,d2⟩
 have of:=wZ (KD (lz D n)) (n1.mono (by omega)) (d3.1.mono (by omega)) (by omega) (by omega) ((Gx hn hN hD).mono (by omega));have hz:=hzU (lz D n);refine ao kd (fn:=Tryz.f23) (by rfl) rfl rfl rfl (by rfl) (by simp) (by rfl) ?_;simp -dsimp -implicitDefEqProofs only[go_sem,Int.reduceToNat,Int.reduceLE,ag];refine aa (qk D n hn lD hD) rfl ?_;by_cases h:lz D n=0
 ·rw[ai h]at hz;simp -dsimp -implicitDefEqProofs only[go_sem,af,hz];refine am zk ?_;simp -dsimp -implicitDefEqProofs only[go_sem,Int.reduceToNat,Int.reduceLE,ag];refine aa (qk N n hn lN hN) rfl ?_;simp -dsimp -implicitDefEqProofs only[go_sem];refine ar (args':=[iUp (lz N n),iUp (den1 (lz D n))]) (by rw[den1,if_pos h]) of ?_;simp -dsimp -implicitDefEqProofs only[go_sem];rfl
 ·rw[aj h]at hz;simp -dsimp -implicitDefEqProofs only[go_sem,af,hz,Int.reduceToNat,Int.reduceLE,ag];refine aa (qk N n hn lN hN) rfl ?_;simp -dsimp -implicitDefEqProofs only[go_sem];refine ar (args':=[iUp (lz N n),iUp (den1 (lz D n))]) (by rw[den1,if_neg h]) of ?_;simp -dsimp -implicitDefEqProofs only[go_sem];rfl
end Go.AM
namespace Go.AM
open Alg
open Go.Proofs
open Classical
structure iG where
 N:List T5
 D:List T5
def iG.row (x:iG):List C:=[.lst (x.N.map T5.row),.lst (x.D.map T5.row)]
def iG.ok (x:iG):Prop:=(x.N.length<=9223372036854775807/\x.D.length<=9223372036854775807)/\(∀ t∈x.N,t.ok)/\∀ t∈x.D,t.ok
noncomputable def iG.k (x:iG) (n:Nat):KQ:=yn x.N x.D n
abbrev rl (l:List iG):IV := .c (.lst (l.map iG.row))
noncomputable def mdR (l:List iG) (i:Nat):List KQ:=(l.take i).map fun x=>x.k 2
theorem G6 {l:List iG} {i:Nat} (h:i<l.length):mdR l (i+1)=mdR l i++[l[i].k 2]:=by
 unfold mdR;rw[ab h,List.map_append];rfl
theorem JZ {l:List iG} {i:Nat} (h:i<=l.length):(mdR l i).length=i:=by simp[mdR];omega
noncomputable def oR (l:List iG) (n:Nat):KP:=Alg.pl (mdR l n)
theorem wo {l:List iG} (n:Nat) (h:∀ x∈l,x.ok):PW 8 (oR l n):=fun i=>by
 rw[oR,uw,List.getD_eq_getElem?_getD];by_cases hi:i<(mdR l n).length
 ·rw[ah hi];have hm:=List.getElem_mem hi;generalize (mdR l n)[i]=f at hm;obtain⟨x,hx,rfl⟩:=List.mem_map.1 hm;have hk:=h x (List.mem_of_mem_take hx);exact Gx (by omega) hk.2.1 hk.2.2
 ·rw[List.getElem?_eq_none (by omega)];exact fD _
theorem sK (l:List iG) (n:Nat):Alg.sz (oR l n)<=n:=ac (LJ _) (by simp[mdR];omega)
theorem ql (l:List iG) (n:Nat) (hn:n<=3) (hl:l.length<=9223372036854775807) (h:∀ x∈l,x.ok):Fn Tryz.prog 13 [rl l,iN n] [ku (oR l n)]:=by
 have htr:dh (mdR l n)=Alg.cl (oR l n):=jc _;have hln:(mdR l n).length<=3:=by simp[mdR];omega
 refine ao kd (fn:=Tryz.f13) (by rfl) rfl rfl rfl (by rfl) (by simp) (by rfl) ?_;simp -dsimp -implicitDefEqProofs only[go_sem];refine cC 5 7 2 (rs:=[]) rfl (by simp) ?_;refine aX [(5,6),(8,26)] [] [(7,7),(26,26)] (fun m τ β ε=>∃ i:Nat,m=n-i/\i<=n/\i<=l.length/\τ 6 = .i (iN i)/\Own 2 ((mdR l i).map kr) 5 7 τ ε)
  (fun e τ β ε=>e = .exit 0/\Own 2 ((mdR l n).map kr) 5 7 τ ε) n ?_ ?_ ?_
 ·exact⟨0,by omega,by omega,by omega,rfl,Own.mk (g:=1) (mm:=false) (by omega) rfl rfl rfl⟩
 ·rintro m τ β ε π hK hKB hKE ⟨i,hm,hi,hil,h6,g,mm,hg,h5,h7⟩;have hlen:=JZ hil;rw[af,hlen]at h5;have k0:τ 0 = .i (rl l):=(hK 0 rfl).trans rfl;have k1:τ 1 = .i (iN n):=(hK 1 rfl).trans rfl;by_cases hA:i<l.length
  ·have dA:decide ((i:Int)<(l.length:Int))=true:=ai (by omega);have gl:l[i]?=some l[i]:=by simp[hA]
   by_cases hB:i<n
   ·have dB:decide ((i:Int)<(n:Int))=true:=ai (by omega);have ho:=h _ (List.getElem_mem hA);have mk:=Fi l[i].N l[i].D 2 (by omega) ho.1.1 ho.1.2 ho.2.1 ho.2.2;simp -dsimp -implicitDefEqProofs only[go_sem,h6,k0,k1,dA,dB,af];refine av gl ?_;simp -dsimp -implicitDefEqProofs only[go_sem,iG.row,h6,k0,k1,h5];refine aa mk rfl ?_;simp -dsimp -implicitDefEqProofs only[go_sem,h5,h7,hg,h6,af,hlen]
    repeat(refine And.intro (by omega) ?_)
    refine aJ (n-(i+1)) 5 26 7 (by omega) rfl rfl (by omega) (by decide) ⟨(by(repeat apply ak rfl);exact hK),(by(repeat apply ak rfl);exact hKB),(by(repeat apply ak rfl);exact hKE),i+1,rfl,by omega,by omega,rfl,?_⟩
    exact Own.mk2 (Nat.succ_pos _) (by simp -dsimp -implicitDefEqProofs only[go_sem];rfl) (by simp -dsimp -implicitDefEqProofs only[go_sem];rfl) (by simp[hlen]) (by rw[G6 hA,List.map_append];rfl)
   ·have dB:decide ((i:Int)<(n:Int))=false:=aj (by omega);obtain rfl:i=n:=by omega
    simp -dsimp -implicitDefEqProofs only[go_sem,h6,k0,k1,dA,dB,af];exact⟨(by(repeat apply ak rfl);exact hK),(by(repeat apply ak rfl);exact hKB),(by(repeat apply ak rfl);exact hKE),Own.mk hg h5 (by rw[af,hlen]) h7⟩
  ·have dA:decide ((i:Int)<(l.length:Int))=false:=aj (by omega);have et:mdR l n=mdR l i:=by unfold mdR;rw[List.take_of_length_le (by omega),List.take_of_length_le (by omega)]
   simp -dsimp -implicitDefEqProofs only[go_sem,h6,k0,k1,dA,af];rw[et];exact⟨(by(repeat apply ak rfl);exact hK),(by(repeat apply ak rfl);exact hKB),(by(repeat apply ak rfl);exact hKE),Own.mk hg h5 (by rw[af,hlen]) h7⟩
 ·rintro e τ β ε π hK hKB hKE ⟨rfl,g,mm,hg,h5,h7⟩;refine⟨_,aY.freeze _ 7,?_⟩;simp -dsimp -implicitDefEqProofs only[go_sem,h5,h7,hg];refine ar (args':=[kl (mdR l n)]) rfl (Ir _ (by omega)) ?_;simp -dsimp -implicitDefEqProofs only[go_sem];rw[htr]
end Go.AM
namespace Go.AM
open Alg
open Go.Proofs
open Classical
theorem IL (l:List iG) (hl:l.length<=9223372036854775807) (h:∀ x∈l,x.ok):Fn Tryz.prog 12 [rl l] [ku (oR l 3)]:=by
 refine ao kd (fn:=Tryz.f12) (by rfl) rfl rfl rfl (by rfl) (by simp) (by rfl) ?_;simp -dsimp -implicitDefEqProofs only[go_sem];refine aa (ql l 3 (by omega) hl h) rfl ?_;simp -dsimp -implicitDefEqProofs only[go_sem]
theorem og (n:Int) (h : -9223372036854775808<=n/\n<9223372036854775808):Fn Tryz.prog 30 [iN n] [iK (kn n)]:=by
 refine ao kd (fn:=Tryz.f30) (by rfl) rfl rfl rfl (by rfl) (by simp) (by rfl) ?_;simp -dsimp -implicitDefEqProofs only[go_sem];refine am (tV n h) ?_;simp -dsimp -implicitDefEqProofs only[go_sem]
theorem kt:Fn Tryz.prog 59 [] [iK (Alg.em Alg.X)]:=by
 refine ao kd (fn:=Tryz.f59) (by rfl) rfl rfl rfl (by rfl) (by simp) (by rfl) ?_;simp -dsimp -implicitDefEqProofs only[go_sem];refine am Iq ?_;simp -dsimp -implicitDefEqProofs only[go_sem]
theorem py {f g:KQ} (hf:FW f) (hg:FW g) (hg0:g≠0) (h:FW (f*Alg.inv g)):Fn Tryz.prog 60 [iK f,iK g] [iK (f*Alg.inv g)]:=by
 refine ao kd (fn:=Tryz.f60) (by rfl) rfl rfl rfl (by rfl) (by simp) (by rfl) ?_;simp -dsimp -implicitDefEqProofs only[go_sem];refine aa (Fg hf hg hg0 h) rfl ?_;simp -dsimp -implicitDefEqProofs only[go_sem]
abbrev OkL (l:List iG):Prop:=l.length<=9223372036854775807/\∀ x∈l,x.ok
set_option maxHeartbeats 8000000 in
theorem Gn (hs:Fn Tryz.prog 11 [] [iB true]) (a b c:List iG) (ha:OkL a) (hb:OkL b) (hc:OkL c):Fn Tryz.prog 3 [rl a,rl b,rl c] [iB true]:=by
 have m1:=IL a ha.1 ha.2;have m2:=ql b 2 (by omega) hb.1 hb.2;have m3:=ql c 2 (by omega) hc.1 hc.2;have wp:=wo 3 ha.2;have wq:=wo 2 hb.2;have wr:=wo 2 hc.2;have sp:=sK a 3;have sq:=sK b 2;have sr:=sK c 2;generalize oR a 3=p at *
 generalize oR b 2=q at *
 generalize oR c 2=r at *
 have sz:∀ x y:KP,Alg.sz (x*y)<=Alg.sz x+Alg.sz y-1:=aM;have spq:=sz p q;have sqp:=sz q p;have sqr:=sz q r;have spr:=sz p r;have spqr:=sz (p*q) r;have spqr':=sz p (q*r);have sder:∀ x:KP,Alg.sz (der x)<=Alg.sz x:=fun x=>cF fun i hi=>by rw[jM,au (by omega),mul_zero]
 have sdp:=sder p;have sdq:=sder q;have sdpq:=sder (p*q);have b3:∀{x:KP} {n k m:Nat},Alg.sz x<=n->n*k<=m->Alg.sz x*k<=m:=fun h h'=>ac (Nat.mul_le_mul_right _ h) h';have wpq:PW 51 (p*q):=(ny wp wq).mono (b3 sp (by omega));have wqp:PW 34 (q*p):=(ny wq wp).mono (b3 sq (by omega));have wqr:PW 34 (q*r):=(ny wq wr).mono (b3 sq (by omega));have wpr:PW 51 (p*r):=(ny wp wr).mono (b3 sp (by omega));have wpqr:PW 240 (p*q*r):=(ny wpq wr).mono (b3 (n:=4) (by omega) (by omega));have wpqr':PW 129 (p*(q*r)):=(ny wp wqr).mono (b3 sp (by omega));have waq:PW 17 (q+r):=wq.add wr;have saq:Alg.sz (q+r)<=2:=cP sq sr;have wpa:PW 78 (p*(q+r)):=(ny wp waq).mono (b3 sp (by omega));have spa:=sz p (q+r);have wdp:=yT wp (by omega);have wdq:=yT wq (by omega);have wdpq:=yT wpq (by omega);have w1:PW 81 (der p*q):=(ny wdp wq).mono (b3 (n:=3) (by omega) (by omega));have w2:PW 81 (p*der q):=(ny wp wdq).mono (b3 sp (by omega));have s1:=sz (der p) q;have s2:=sz p (der q);have e1:decide (p*q=q*p)=true:=ai (mul_comm p q);have e2:decide (p*q*r=p*(q*r))=true:=ai (mul_assoc p q r);have e3:decide (p*(q+r)=p*q+p*r)=true:=ai (mul_add p q r);have e4:decide (der (p*q)=der p*q+p*der q)=true:=ai (ry p q);have f1:=jN wp wq (b3 sp (by omega)) (by omega) (by omega) (by omega) (by omega);have f2:=jN wq wp (b3 sq (by omega)) (by omega) (by omega) (by omega) (by omega);have f3:=jN wpq wr (b3 (n:=4) (by omega) (by omega)) (by omega) (by omega) (by omega) (by omega);have f4:=jN wq wr (b3 sq (by omega)) (by omega) (by omega) (by omega) (by omega);have f5:=jN wp wqr (b3 sp (by omega)) (by omega) (by omega) (by omega) (by omega);have f6:=IR wq wr (by omega) (by omega) (by omega);have f7:=jN wp waq (b3 sp (by omega)) (by omega) (by omega) (by omega) (by omega);have f8:=jN wp wr (b3 sp (by omega)) (by omega) (by omega) (by omega) (by omega);have f9:=IR wpq wpr (by omega) (by omega) (by omega);have f10:=qp wpq (by omega) (by omega);have f11:=qp wp (by omega) (by omega);have f12:=jN wdp wq (b3 (n:=3) (by omega) (by omega)) (by omega) (by omega) (by omega) (by omega);have f13:=qp wq (by omega) (by omega);have f14:=jN wp wdq (b3 sp (by omega)) (by omega) (by omega) (by omega) (by omega);have f15:=IR w1 w2 (by omega) (by omega) (by omega);have g1:=t6 wpq wqp (by omega) (by omega) (by omega);have g2:=t6 wpqr wpqr' (by omega) (by omega) (by omega);have g3:=t6 wpa (wpq.add wpr) (by omega) (by omega) (by omega);have g4:=t6 wdpq (w1.add w2) (by omega) (by omega) (by omega);rw[e1]at g1;rw[e2]at g2;rw[e3]at g3;rw[e4]at g4;have lp:=aF p;have lq:=aF q;have lpq:=aF (p*q);refine ao kd (fn:=Tryz.f3) (by rfl) rfl rfl rfl (by rfl) (by simp) (by rfl) ?_;simp -dsimp -implicitDefEqProofs only[go_sem];refine am hs ?_;simp -dsimp -implicitDefEqProofs only[go_sem];refine am m1 ?_;simp -dsimp -implicitDefEqProofs only[go_sem];refine aa m2 rfl ?_;simp -dsimp -implicitDefEqProofs only[go_sem];refine aa m3 rfl ?_;simp -dsimp -implicitDefEqProofs only[go_sem];refine am f1 ?_;by_cases hp0:Alg.sz p=0
 ·have d1:decide ((Alg.sz p:Int)=0)=true:=ai (by omega);have d2:decide ((Alg.sz (p*q):Int)=0)=true:=ai (by rw[ap.1 hp0,zero_mul,ap.2 rfl];rfl);simp -dsimp -implicitDefEqProofs only[go_sem,af,lp,lq,lpq,d1,d2];refine am f2 ?_;simp -dsimp -implicitDefEqProofs only[go_sem];refine am g1 ?_;simp -dsimp -implicitDefEqProofs only[go_sem];refine am f3 ?_;simp -dsimp -implicitDefEqProofs only[go_sem];refine am f4 ?_;simp -dsimp -implicitDefEqProofs only[go_sem];refine am f5 ?_;simp -dsimp -implicitDefEqProofs only[go_sem];refine am g2 ?_;simp -dsimp -implicitDefEqProofs only[go_sem];refine am f6 ?_;simp -dsimp -implicitDefEqProofs only[go_sem];refine am f7 ?_;simp -dsimp -implicitDefEqProofs only[go_sem];refine am f8 ?_;simp -dsimp -implicitDefEqProofs only[go_sem];refine am f9 ?_;simp -dsimp -implicitDefEqProofs only[go_sem];refine am g3 ?_;simp -dsimp -implicitDefEqProofs only[go_sem];refine am f10 ?_;simp -dsimp -implicitDefEqProofs only[go_sem];refine am f11 ?_;simp -dsimp -implicitDefEqProofs only[go_sem];refine am f12 ?_;simp -dsimp -implicitDefEqProofs only[go_sem];refine am f13 ?_;simp -dsimp -implicitDefEqProofs only[go_sem];refine am f14 ?_;simp -dsimp -implicitDefEqProofs only[go_sem];refine am f15 ?_;simp -dsimp -implicitDefEqProofs only[go_sem];refine am g4 ?_;simp -dsimp -implicitDefEqProofs only[go_sem]
 ·have d1:decide ((Alg.sz p:Int)=0)=false:=aj (by omega);by_cases hq0:Alg.sz q=0
  ·have d3:decide ((Alg.sz q:Int)=0)=true:=ai (by omega);have d2:decide ((Alg.sz (p*q):Int)=0)=true:=ai (by rw[ap.1 hq0,mul_zero,ap.2 rfl];rfl);simp -dsimp -implicitDefEqProofs only[go_sem,af,lp,lq,lpq,d1,d2,d3];refine am f2 ?_;simp -dsimp -implicitDefEqProofs only[go_sem];refine am g1 ?_;simp -dsimp -implicitDefEqProofs only[go_sem];refine am f3 ?_;simp -dsimp -implicitDefEqProofs only[go_sem];refine am f4 ?_;simp -dsimp -implicitDefEqProofs only[go_sem];refine am f5 ?_;simp -dsimp -implicitDefEqProofs only[go_sem];refine am g2 ?_;simp -dsimp -implicitDefEqProofs only[go_sem];refine am f6 ?_;simp -dsimp -implicitDefEqProofs only[go_sem];refine am f7 ?_;simp -dsimp -implicitDefEqProofs only[go_sem];refine am f8 ?_;simp -dsimp -implicitDefEqProofs only[go_sem];refine am f9 ?_;simp -dsimp -implicitDefEqProofs only[go_sem];refine am g3 ?_;simp -dsimp -implicitDefEqProofs only[go_sem];refine am f10 ?_;simp -dsimp -implicitDefEqProofs only[go_sem];refine am f11 ?_;simp -dsimp -implicitDefEqProofs only[go_sem];refine am f12 ?_;simp -dsimp -implicitDefEqProofs only[go_sem];refine am f13 ?_;simp -dsimp -implicitDefEqProofs only[go_sem];refine am f14 ?_;simp -dsimp -implicitDefEqProofs only[go_sem];refine am f15 ?_;simp -dsimp -implicitDefEqProofs only[go_sem];refine am g4 ?_;simp -dsimp -implicitDefEqProofs only[go_sem]
  ·have d3:decide ((Alg.sz q:Int)=0)=false:=aj (by omega);have hsz:=cE (p:=p) (q:=q) (fun e=>hp0 (ap.2 e)) (fun e=>hq0 (ap.2 e));simp -dsimp -implicitDefEqProofs only[go_sem,af,lp,lq,lpq,d1,d3]
   repeat(refine And.intro (by omega) ?_)
   refine am f2 ?_;simp -dsimp -implicitDefEqProofs only[go_sem];refine am g1 ?_;simp -dsimp -implicitDefEqProofs only[go_sem];refine am f3 ?_;simp -dsimp -implicitDefEqProofs only[go_sem];refine am f4 ?_;simp -dsimp -implicitDefEqProofs only[go_sem];refine am f5 ?_;simp -dsimp -implicitDefEqProofs only[go_sem];refine am g2 ?_;simp -dsimp -implicitDefEqProofs only[go_sem];refine am f6 ?_;simp -dsimp -implicitDefEqProofs only[go_sem];refine am f7 ?_;simp -dsimp -implicitDefEqProofs only[go_sem];refine am f8 ?_;simp -dsimp -implicitDefEqProofs only[go_sem];refine am f9 ?_;simp -dsimp -implicitDefEqProofs only[go_sem];refine am g3 ?_;simp -dsimp -implicitDefEqProofs only[go_sem];refine aO (fun _=>?_) (fun h=>absurd (by omega) h);simp -dsimp -implicitDefEqProofs only[go_sem];refine am f10 ?_;simp -dsimp -implicitDefEqProofs only[go_sem];refine am f11 ?_;simp -dsimp -implicitDefEqProofs only[go_sem];refine am f12 ?_;simp -dsimp -implicitDefEqProofs only[go_sem];refine am f13 ?_;simp -dsimp -implicitDefEqProofs only[go_sem];refine am f14 ?_;simp -dsimp -implicitDefEqProofs only[go_sem];refine am f15 ?_;simp -dsimp -implicitDefEqProofs only[go_sem];refine am g4 ?_;simp -dsimp -implicitDefEqProofs only[go_sem]
end Go.AM
namespace Go.AM
open Go.Proofs
open Classical
abbrev one1:List Tm:=[(e0,1)]
def Tok (t:Tm):Prop:=cy t.1/\t.1.lt 1099511627776/\t.2≠0/\QB 4294967296 t.2
theorem Nw (e:Ex):e0.add e=e:=by simp[e0,Ex.add]
theorem E0 (e:Ex):bP e e=0:=(iX e e).2 rfl
theorem Ez {m:Tm} (h:Tok m):EA one1 [m]=[m]:=by
 have e1:sumM one1 [m] []=[m]:=by
  simp only[sumM,rowM,List.foldl_cons,List.foldl_nil,addT,Nw];rw[show(1:Rat)*m.2=m.2 from Rat.one_mul _]
 rw[EA,e1,uA];have e2:keep m=true:=by
  unfold keep;rw[ai h.1,ai h.2.2.1];rfl
 simp only[List.filter_cons,e2,if_true,List.filter_nil,D6,oX]
theorem D3 (m:Tm) (R:List Tm):D4 (m::R) [m]=R:=by
 rw[D4,iO _ (by decide),List.map_cons,List.map_nil,i6];simp only[E0];rw[if_neg (by decide),if_neg (by decide),if_pos (by show m.2+m.2 * -1=0;rw[Rat.mul_neg,Rat.mul_one];exact Rat.add_neg_cancel _),i5]
theorem Cl (q:Rat):q/1=q:=by rw[Rat.div_def,show(1:Rat)⁻¹=1 by decide +kernel];exact Rat.mul_one q
theorem zM (N:List Tm) (hl:N.length<=1048576) (h:∀ t∈N,Tok t):Fn Tryz.prog 152 [iM N,iM one1] [iM N,iB true]:=by
 refine ao kd (fn:=Tryz.f152) (by rfl) rfl rfl rfl (by rfl) (by simp) (by rfl) ?_;have c1:one1[0]?=some (e0,1):=rfl;have e1:decide (((1:Nat):Int)=0)=false:=rfl;simp -dsimp -implicitDefEqProofs only[go_sem,e1,af];refine cC 6 6 8 (rs:=[]) rfl (by simp) ?_;refine aX [(0,0),(4,8),(12,59)] [(7,7)] [(53,53),(6,6)] (fun n τ β ε=>∃ i:Nat,n=N.length-i/\i<=N.length/\τ 0 = .i (iM (N.drop i))/\Own 8 ((N.take i).map eT) 6 6 τ ε)
  (fun e τ β ε=>e = .exit 0/\Own 8 (N.map eT) 6 6 τ ε) N.length ?_ ?_ ?_
 ·exact⟨0,by omega,by omega,rfl,Own.mk (g:=1) (mm:=false) (by omega) rfl rfl rfl⟩
 ·rintro n τ β ε π hK hKB hKE ⟨i,hn,hi,h0,g,mm,hg,h6,hrow⟩;have hlen:(N.take i).length=i:=by simp;omega
  rw[af,hlen]at h6;have k1:τ 1 = .i (iM one1):=(hK 1 rfl).trans rfl;by_cases hlt:i<N.length
  ·obtain⟨m,hmi⟩:∃ m,N[i]=m:=⟨_,rfl⟩;obtain⟨R,eR⟩:∃ R,N.drop (i+1)=R:=⟨_,rfl⟩;have hdr:N.drop i=N[i]::N.drop (i+1):=List.drop_eq_getElem_cons hlt;have hm:=h _ (List.getElem_mem hlt);have htk:N.take (i+1)=N.take i++[N[i]]:=ab hlt;have hll:(N.drop (i+1)).length<=1048576:=by simp;omega
   rw[hmi,eR]at hdr;rw[hmi]at hm htk;rw[eR]at hll;have hRq:∀ t∈m::R,QB 8589934592 t.2:=fun t ht=>by
    rw[<-hdr]at ht;exact(h t (List.mem_of_mem_drop ht)).2.2.2.mono' (by omega)
   rw[hdr]at h0;have cR:(m::R)[0]?=some m:=rfl;have hA:(0:Int)<((R.length+1:Nat):Int):=by omega
   have lR:(m::R).length=R.length+1:=rfl;obtain⟨t1,t2,t3,t4⟩:=hm;have eN:decide (cy m.1)=true:=ai t1;unfold cy at t1;have t2':=t2;unfold Ex.lt at t2';simp -dsimp -implicitDefEqProofs only[go_sem,h0,hA,Int.reduceToNat,Int.reduceLE,ag];refine av cR ?_;simp -dsimp -implicitDefEqProofs only[go_sem,h0,hA,h6,hrow];refine aX [(8,8),(18,34)] [(7,7)] [] (fun n τ' β' ε'=>∃ i:Nat,n=4-i/\i<=4/\τ' 18 = .i (iN i)/\β' 7=⟨(β 7).gen+1,eT m⟩)
    (fun e τ' β' ε'=>e = .exit 2/\β' 7=⟨(β 7).gen+1,eT m⟩) 4 ?_ ?_ ?_
   ·exact⟨0,by omega,by omega,rfl,rfl⟩
   ·rintro n2 τ2 β2 ε2 π2 hK2 hKB2 hKE2 ⟨i,hn2,hi,h18,b7⟩;have q7:τ2 7 = .bp 7 ((β 7).gen+1) 0:=(hK2 7 rfl).trans rfl;have q1:τ2 1 = .i (iM one1):=(hK2 1 rfl).trans k1;obtain rfl|rfl|rfl|rfl|rfl:i=4\/i=0\/i=1\/i=2\/i=3:=by omega
    ·have h18':τ2 18 = .i (iN 4):=h18;simp -dsimp -implicitDefEqProofs only[go_sem,h18',Int.reduceLT,decide_false];exact⟨(by(repeat apply ak rfl);exact hK2),(by(repeat apply ak rfl);exact hKB2),(by(repeat apply ak rfl);exact hKE2),b7⟩
    ·have h18':τ2 18 = .i (iN 0):=h18;simp -dsimp -implicitDefEqProofs only[go_sem,h18',Int.reduceLT,decide_true];refine an (by rfl) 13 [] false true (by rfl) (by rfl) (by decide +kernel) ?_;simp -dsimp -implicitDefEqProofs only[go_sem,h18',q1,q7,b7,Int.reduceToNat,Int.reduceLE,ag,Int.reduceAdd];refine av c1 ?_;simp -dsimp -implicitDefEqProofs only[go_sem,h18',q1,q7,b7,Int.reduceToNat,Int.reduceLE,ag,Int.reduceAdd,e0,Int.sub_zero]
     repeat(refine And.intro (by omega) ?_)
     refine again (4-1) (by omega) ⟨(by(repeat apply ak rfl);exact hK2),(by(repeat apply ak rfl);exact hKB2),(by(repeat apply ak rfl);exact hKE2),1,rfl,by omega,rfl,?_⟩
     simp -dsimp -implicitDefEqProofs only[go_sem]
    ·have h18':τ2 18 = .i (iN 1):=h18;simp -dsimp -implicitDefEqProofs only[go_sem,h18',Int.reduceLT,decide_true];refine an (by rfl) 13 [] false true (by rfl) (by rfl) (by decide +kernel) ?_;simp -dsimp -implicitDefEqProofs only[go_sem,h18',q1,q7,b7,Int.reduceToNat,Int.reduceLE,ag,Int.reduceAdd];refine av c1 ?_;simp -dsimp -implicitDefEqProofs only[go_sem,h18',q1,q7,b7,Int.reduceToNat,Int.reduceLE,ag,Int.reduceAdd,e0,Int.sub_zero]
     repeat(refine And.intro (by omega) ?_)
     refine again (4-2) (by omega) ⟨(by(repeat apply ak rfl);exact hK2),(by(repeat apply ak rfl);exact hKB2),(by(repeat apply ak rfl);exact hKE2),2,rfl,by omega,rfl,?_⟩
     simp -dsimp -implicitDefEqProofs only[go_sem]
    ·have h18':τ2 18 = .i (iN 2):=h18;simp -dsimp -implicitDefEqProofs only[go_sem,h18',Int.reduceLT,decide_true];refine an (by rfl) 13 [] false true (by rfl) (by rfl) (by decide +kernel) ?_;simp -dsimp -implicitDefEqProofs only[go_sem,h18',q1,q7,b7,Int.reduceToNat,Int.reduceLE,ag,Int.reduceAdd];refine av c1 ?_;simp -dsimp -implicitDefEqProofs only[go_sem,h18',q1,q7,b7,Int.reduceToNat,Int.reduceLE,ag,Int.reduceAdd,e0,Int.sub_zero]
     repeat(refine And.intro (by omega) ?_)
     refine again (4-3) (by omega) ⟨(by(repeat apply ak rfl);exact hK2),(by(repeat apply ak rfl);exact hKB2),(by(repeat apply ak rfl);exact hKE2),3,rfl,by omega,rfl,?_⟩
     simp -dsimp -implicitDefEqProofs only[go_sem]
    ·have h18':τ2 18 = .i (iN 3):=h18;simp -dsimp -implicitDefEqProofs only[go_sem,h18',Int.reduceLT,decide_true];refine an (by rfl) 13 [] false true (by rfl) (by rfl) (by decide +kernel) ?_;simp -dsimp -implicitDefEqProofs only[go_sem,h18',q1,q7,b7,Int.reduceToNat,Int.reduceLE,ag,Int.reduceAdd];refine av c1 ?_;simp -dsimp -implicitDefEqProofs only[go_sem,h18',q1,q7,b7,Int.reduceToNat,Int.reduceLE,ag,Int.reduceAdd,e0,Int.sub_zero]
     repeat(refine And.intro (by omega) ?_)
     refine again (4-4) (by omega) ⟨(by(repeat apply ak rfl);exact hK2),(by(repeat apply ak rfl);exact hKB2),(by(repeat apply ak rfl);exact hKE2),4,rfl,by omega,rfl,?_⟩
     simp -dsimp -implicitDefEqProofs only[go_sem]
   ·rintro e τ2 β2 ε2 π2 hK2 hKB2 hKE2 ⟨rfl,b7⟩;refine⟨_,aY.refl _,?_⟩;have r7:τ2 7 = .bp 7 ((β 7).gen+1) 0:=(hK2 7 rfl).trans rfl;have r1:τ2 1 = .i (iM one1):=(hK2 1 rfl).trans k1;have r0:τ2 0 = .i (iM (m::R)):=(hK2 0 rfl).trans h0;have r6:τ2 6 = .sl 6 g i:=(hK2 6 rfl).trans h6;have rr:ε2 6=⟨g,8,(N.take i).map eT,mm,true⟩:=(hKE2 6 rfl).trans hrow;have kO:=Kp.step2 hK hK2 (by intro n;simp[inR]<;>omega) (by(repeat apply ak rfl);exact hK)
    have kB:=Kp.step2 hKB hKB2 (by intro n;simp[inR]<;>omega) (by(repeat apply ak rfl);exact hKB)
    have kE:=Kp.step2 hKE hKE2 (by intro n;simp[inR]) (by(repeat apply ak rfl);exact hKE)
    have hq1:QB 17179869184 (1:Rat):=mJ;have hq2:=t4.mono' (m:=8589934592) (by omega);have hmm:(1:Rat)*m.2=m.2:=Rat.one_mul _;simp -dsimp -implicitDefEqProofs only[go_sem,r7,b7,r1,r0];refine ar (args':=[iE m.1]) rfl (kM _) ?_;simp -dsimp -implicitDefEqProofs only[go_sem,eN];refine aZ (by rfl) 9 11 [] true [.tmp 49] none (by rfl) (by rfl) (by rfl) (by rfl) (by decide +kernel) ?_;simp -dsimp -implicitDefEqProofs only[go_sem,r7,b7,r1,r0,Int.reduceToNat,Int.reduceLE,ag];refine av c1 ?_;simp -dsimp -implicitDefEqProofs only[go_sem,r7,b7,r1,r0,Int.reduceToNat,Int.reduceLE,ag];refine ar (args':=[iQ m.2,iQ 1]) rfl (rD _ _ (by decide) (t4.mono' (by omega)) hq1) ?_;rw[Cl];simp -dsimp -implicitDefEqProofs only[go_sem,r7,b7,r1,r0,Int.reduceToNat,Int.reduceLE,ag];simp -dsimp -implicitDefEqProofs only[go_sem,r6,rr,hg,af,hlen]
    repeat(refine And.intro (by omega) ?_)
    simp -dsimp -implicitDefEqProofs only[go_sem,r7,r1,r0];refine ar (args':=[iM one1,iM [m]]) rfl (w7 one1 [m] (by decide) (by simp) (fun t ht=>by simp at ht;subst ht;simp[Ex.lt,e0]) (fun t ht=>by simp at ht;subst ht;unfold Ex.lt;omega)
     (fun t ht=>by simp at ht;subst ht;exact hq1) (fun t ht=>by simp at ht;subst ht;exact t4.mono' (by omega)) ?_) ?_
    ·intro i' j' hi' hj';obtain rfl:i'=0:=by simp at hi';omega
     obtain rfl:j'=0:=by simp at hj';omega
     refine⟨?_,fun e q hq=>?_⟩
     ·show QB 8589934592 ((1:Rat)*m.2);rw[hmm];exact hq2
     ·simp[rowM,sumM]at hq
    rw[Ez ⟨by unfold cy;exact t1,t2,t3,t4⟩];simp -dsimp -implicitDefEqProofs only[go_sem,r0];refine aa (Dh (m::R) [m] (by simp;omega) hRq (fun t ht=>by simp at ht;subst ht;exact hq2)) rfl ?_;rw[D3];simp -dsimp -implicitDefEqProofs only[go_sem];refine aJ (N.length-(i+1)) 6 53 6 (by omega) rfl rfl (by omega) (by decide) ⟨(by(repeat apply ak rfl);exact kO),(by(repeat apply ak rfl);exact kB),(by(repeat apply ak rfl);exact kE),i+1,rfl,by omega,by rw[eR];simp -dsimp -implicitDefEqProofs only[go_sem],?_⟩
    exact Own.mk2 (Nat.succ_pos _) (by simp -dsimp -implicitDefEqProofs only[go_sem];rfl) (by simp -dsimp -implicitDefEqProofs only[go_sem];rfl) (by simp;omega) (by simp only[<-List.map_take];rw[htk,List.map_append];rfl)
  ·have hA:¬ (0:Int)<((0:Nat):Int):=by omega
   obtain rfl:i=N.length:=by omega
   rw[List.take_length]at hrow;rw[List.drop_length]at h0;simp -dsimp -implicitDefEqProofs only[go_sem,h0,hA];exact⟨(by(repeat apply ak rfl);exact hK),(by(repeat apply ak rfl);exact hKB),(by(repeat apply ak rfl);exact hKE),Own.mk hg h6 (by simp) hrow⟩
 ·rintro e τ β ε π hK hKB hKE ⟨rfl,g,mm,hg,h6,hrow⟩;refine⟨_,aY.refl _,?_⟩;rw[af]at h6;simp -dsimp -implicitDefEqProofs only[go_sem,h6,hrow,hg]
theorem IU {N:List Tm} (hN:N≠[]):Fn Tryz.prog 151 [iM N,iM one1] [iM one1]:=by
 have e1:decide ((N.length:Int)=0)=false:=aj fun h=>hN (List.eq_nil_of_length_eq_zero (by omega));have e2:decide (((1:Nat):Int)=0)=false:=rfl;refine ao kd (fn:=Tryz.f151) (by rfl) rfl rfl rfl (by rfl) (by simp) (by rfl) ?_;simp -dsimp -implicitDefEqProofs only[go_sem,e1,e2,af];refine aa (mz N) rfl ?_;by_cases h1:yz N=true
 ·simp -dsimp -implicitDefEqProofs only[go_sem,h1];refine am AR ?_;simp -dsimp -implicitDefEqProofs only[go_sem]
 ·have e3:yz N=false:=by simpa using h1
  simp -dsimp -implicitDefEqProofs only[go_sem,e3];refine aa (mz one1) rfl ?_;rw[show yz one1=true from rfl];simp -dsimp -implicitDefEqProofs only[go_sem];refine am AR ?_;simp -dsimp -implicitDefEqProofs only[go_sem]
theorem rW (N:List Tm):dE N 1=N:=by
 rw[iO _ (by decide)]
 conv=>rhs;rw[<-List.map_id N]
 exact List.map_congr_left fun t _=>by rw[Rat.mul_one];rfl
theorem xG:∀ t∈one1,Tok t:=by
 intro t ht;simp at ht;subst ht;refine⟨by simp[cy,e0],by simp[Ex.lt,e0],by decide,?_,?_⟩
 ·exact ac (eF (k:=1) (by decide)) (by omega)
 ·exact ac (eF (k:=1) (by decide)) (by omega)
theorem zJ (N:List Tm) (hl:N.length<=1048576) (h:∀ t∈N,Tok t):Fn Tryz.prog 110 [iM N,iM one1] [iF N one1,iN 0]:=by
 by_cases hN:N=[]
 ·subst hN;exact zI (by simp)
 have q1:∀ t∈N,QB 17179869184 t.2:=fun t ht=>(h t ht).2.2.2.mono' (by omega);have:=I3 (N:=N) (D:=one1) (G:=one1) (N1:=N) (D1:=one1) (c:=1) (x:=(e0,1)) (by simp) hN (IU hN) (zM N hl h) (zM one1 (by decide) xG) rfl (by decide) mJ (Cl 1).symm
  (jt N 1 (by omega) q1 mJ) (jt one1 1 (by decide) (fun t ht=>(xG t ht).2.2.2.mono' (by omega)) mJ)
 rw[rW,rW]at this;exact this
end Go.AM
