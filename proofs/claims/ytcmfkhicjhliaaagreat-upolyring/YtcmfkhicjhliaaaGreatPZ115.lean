/- Lemmas, part 16 of 24: Package mgcd: a bound of the degree; Package mgcd: the remainder sequence; Package mgcd: the remainder sequence, walked; Package mgcd: greatest common divisors in one variable; Package frac: what needs no greatest common divisors; The reduced form of a rational function; Sizes of reduced forms; Package frac: quotients in one variable; Package frac: rational functions in one variable; Package upoly: lists of rational functions; numbers; Package upoly: multiples; Package upoly: sums; Package upoly: monic polynomials; Package upoly: equality; Package upoly: derivatives. No condition. -/
import Derived.Test.YtcmfkhicjhliaaaGreatPZ114
set_option maxRecDepth 65536
set_option linter.unusedSimpArgs false
set_option linter.unusedVariables false
set_option linter.unusedSectionVars false
namespace Go.AM
open Alg
open Go.Proofs
open Classical
def eH (p:PQ):Prop:=tc p/\rq (lc p)≠0
theorem s6 {p:PQ} (h:rq (lc p)≠0):TrZ (eA p):=fun h0=>by
 have e:(eA p)[(eA p).length-1]=rq (p.c ((eA p).length-1)):=by simp[eA]
 rw[e,dy];exact h
theorem iS {p:PQ} (h:eH p):qc p=[zl (eA p),iB true]:=by rw[qc,if_pos h.1,ai h.2]
theorem kh {p:PQ} (h:¬ eH p):∃ L:List Zp,qc p=[zl L,iB false]:=by
 by_cases hg:tc p
 ·exact⟨eA p,by rw[qc,if_pos hg,aj (fun h2=>h ⟨hg,h2⟩)]⟩
 ·exact⟨[],by rw[qc,if_neg hg];rfl⟩
theorem zU (p:PQ) (i:Nat):(zp (eA p)).c i=rq (p.c i):=by
 rcases Nat.lt_or_ge i (Alg.sz p)with h|h
 ·rw[lm (by rw[dy];exact h)];simp[eA]
 ·rw[om (by rw[dy];exact h),au h,rq];exact(zero_mul _).symm
noncomputable def bnd (p q:PQ):Int:=if eH p/\eH q then(Alg.sz (o6 (eA p) (eA q)):Int)-1 else min ((Alg.sz p:Int)-1) ((Alg.sz q:Int)-1)
theorem CZ {p q:PQ} (hp:2<=Alg.sz p) (hq:2<=Alg.sz q) (h:bnd p q=0):Cop p q:=by
 rw[bnd]at h;split at h
 ·rename_i hg;have hp0:p≠0:=fun e=>by rw[e,ap.2 rfl]at hp;omega
  refine JR hp0 hg.1.1 (zU p) (by rw[zU];exact hg.1.2) hg.2.1 (zU q) fun g hg1 hg2=>?_;have hd:Dv g (o6 (eA p) (eA q)):=by
   rw[o6];split
   ·exact Bm _ hg2 hg1
   ·exact Bm _ hg1 hg2
  have hne:o6 (eA p) (eA q)≠0:=by
   have hz:∀ x:PQ,eH x->2<=Alg.sz x->zp (eA x)≠0:=fun x hx h2 e=>by
    have:=jW (s6 hx.2);rw[e,ap.2 rfl,dy]at this;omega
   rw[o6];split
   ·exact Bk _ (hz q hg.2 hq)
   ·exact Bk _ (hz p hg.1 hp)
  obtain⟨c,hc⟩:=hd;have hc0:c≠0:=fun e=>hne (by rw[hc,e,mul_zero]);have hg0:g≠0:=fun e=>hne (by rw[hc,e,zero_mul]);have h1:=cE hg0 hc0;rw[<-hc]at h1;have:=aA hc0;have:=aA hg0;omega
 ·omega
theorem Fs (hres:im) {p q:PQ} {h k:Nat} (hp:Alg.HB h p) (hq:Alg.HB k q) (hb:h<=137438953000) (hb':k<=137438953000) (hp0:p≠0) (hq0:q≠0) (sp:Alg.sz p<=1048576) (sq:Alg.sz q<=1048576):Fn Tryz.prog 215 [iUp p,iUp q,iN 0] [iN (bnd p q)]:=by
 have hp1:=aA hp0;have hq1:=aA hq0;refine ao kd (fn:=Tryz.f215) (by rfl) rfl rfl rfl (by rfl) (by simp) (by rfl) ?_;simp -dsimp -implicitDefEqProofs only[go_sem];refine aH [(6,40)] [] [] (fun n τ β ε=>∃ i:Nat,n=3-i/\i<=3/\τ 12 = .i (.c (.v (.int .u64 (i:Int))))/\(1<=i->¬ (eH p/\eH q)))
  (fun e τ β ε=>(e = .exit 0/\¬ (eH p/\eH q))\/(e = .ret/\τ 6 = .i (iN (bnd p q)))) 3 ?_ ?_ ?_
 ·exact⟨0,by omega,by omega,rfl,fun h=>by omega⟩
 ·rintro n τ β ε π hK hKB hKE ⟨i,hn,hi,h12,hbad⟩;have k0:τ 0 = .i (iUp p):=(hK 0 rfl).trans rfl;have k1:τ 1 = .i (iUp q):=(hK 1 rfl).trans rfl;have k2:τ 2 = .i (iN 0):=(hK 2 rfl).trans rfl;by_cases hlt:i<3
  ·have hA:(i:Int)<3:=by omega
   have ea:((17:Int)+100*(i:Int) % 18446744073709551616) % 18446744073709551616=((17+100*i:Nat):Int):=by omega
   simp -dsimp -implicitDefEqProofs only[go_sem,h12,k0,k1,k2,hA,ea];refine am (qq hres hp hb hp0 sp (17+100*i) (by omega)) ?_;by_cases g1:eH p
   ·rw[iS g1];simp -dsimp -implicitDefEqProofs only[go_sem,k1,k2,ea];refine am (qq hres hq hb' hq0 sq (17+100*i) (by omega)) ?_;by_cases g2:eH q
    ·rw[iS g2];have hx:eA p≠[]:=fun e=>by have:=congrArg List.length e;rw[dy]at this;simp at this;omega
     have hy:eA q≠[]:=fun e=>by have:=congrArg List.length e;rw[dy]at this;simp at this;omega
     simp -dsimp -implicitDefEqProofs only[go_sem];refine aa (D8 hx hy (s6 g1.2) (s6 g2.2) (by rw[dy];exact sp) (by rw[dy];exact sq)) rfl ?_;simp -dsimp -implicitDefEqProofs only[go_sem];refine⟨(by(repeat apply ak rfl);exact hK),(by(repeat apply ak rfl);exact hKB),(by(repeat apply ak rfl);exact hKE),?_⟩
     rw[bnd,if_pos ⟨g1,g2⟩]
    ·obtain⟨L,hL⟩:=kh g2;rw[hL];simp -dsimp -implicitDefEqProofs only[go_sem,h12];exact again (3-(i+1)) (by omega) ⟨(by(repeat apply ak rfl);exact hK),(by(repeat apply ak rfl);exact hKB),(by(repeat apply ak rfl);exact hKE),i+1,rfl,by omega,by simp -dsimp -implicitDefEqProofs only[go_sem];refine congrArg (fun z=>AV.i (.c (.v (.int .u64 z)))) ?_;omega,fun _ h=>g2 h.2⟩
   ·obtain⟨L,hL⟩:=kh g1;rw[hL];simp -dsimp -implicitDefEqProofs only[go_sem,k1,k2,ea];refine am (qq hres hq hb' hq0 sq (17+100*i) (by omega)) ?_;obtain⟨M,b,hM⟩:∃(M:List Zp) (b:Bool),qc q=[zl M,iB b]:=by
     by_cases g2:eH q
     ·exact⟨_,_,iS g2⟩
     ·obtain⟨M,hM⟩:=kh g2;exact⟨M,_,hM⟩
    rw[hM];simp -dsimp -implicitDefEqProofs only[go_sem,h12];exact again (3-(i+1)) (by omega) ⟨(by(repeat apply ak rfl);exact hK),(by(repeat apply ak rfl);exact hKB),(by(repeat apply ak rfl);exact hKE),i+1,rfl,by omega,by simp -dsimp -implicitDefEqProofs only[go_sem];refine congrArg (fun z=>AV.i (.c (.v (.int .u64 z)))) ?_;omega,fun _ h=>g1 h.1⟩
  ·have hA:¬ (i:Int)<3:=by omega
   simp -dsimp -implicitDefEqProofs only[go_sem,h12,hA];exact⟨(by(repeat apply ak rfl);exact hK),(by(repeat apply ak rfl);exact hKB),(by(repeat apply ak rfl);exact hKE),hbad (by omega)⟩
 ·rintro e τ β ε π hK hKB hKE h;rcases h with⟨rfl,hbad⟩|⟨rfl,h6⟩
  ·have k0:τ 0 = .i (iUp p):=(hK 0 rfl).trans rfl;have k1:τ 1 = .i (iUp q):=(hK 1 rfl).trans rfl;have k2:τ 2 = .i (iN 0):=(hK 2 rfl).trans rfl;simp -dsimp -implicitDefEqProofs only[go_sem,k0,k1,k2];refine am (gq p sp) ?_;simp -dsimp -implicitDefEqProofs only[go_sem,k1,k2];refine am (gq q sq) ?_;simp -dsimp -implicitDefEqProofs only[go_sem];rw[bnd,if_neg hbad]
  ·simp -dsimp -implicitDefEqProofs only[go_sem,h6]
end Go.AM
namespace Go.AM
open Alg
open Go.Proofs
open Classical
def Sm (w:Nat) (n d:PQ):Prop:=∃ A B:Alg.P Int,A≠0/\B≠0/\n*toQ B=d*toQ A/\Alg.sz A<=w+1/\Alg.n1 A<=2 ^ w/\Alg.sz B<=w+1/\Alg.n1 B<=2 ^ w
theorem Sm.symm {w:Nat} {n d:PQ} (h:Sm w n d):Sm w d n:=by
 obtain⟨A,B,h1,h2,h3,h4,h5,h6,h7⟩:=h;exact⟨B,A,h2,h1,h3.symm,h6,h7,h4,h5⟩
noncomputable def kH:Nat->PQ->PQ->PQ
 | 0,_,q=>q
 | k+1,p,q=>if psr q (Alg.sz p) p=0 then q else if Alg.sz (psr q (Alg.sz p) p)=1 then 1 else kH k q (Alg.mo (psr q (Alg.sz p) p))
def zR (n d p q:PQ):Prop:=(p=n/\q=d)\/∃ s t s' t',Row n d p s t q s' t'
theorem vZ {n d p q:PQ} {k:Nat} (hk':Alg.HB k p) (hk:Alg.HB k q) (hc:zR n d p q) (hq:q≠0) (hle:Alg.sz q<=Alg.sz p) :
  (∃ s t s' t',Row n d q s t (psr q (Alg.sz p) p) s' t')/\Alg.sz (psr q (Alg.sz p) p)<Alg.sz q/\(∃(c:Rat) (S:PQ),c≠0/\Alg.C c*p=S*q+psr q (Alg.sz p) p)/\Alg.HB (k+Alg.sz p*(k+1)) (psr q (Alg.sz p) p):=by
 obtain⟨_,h2,_,h4,c,S,h5,h6⟩:=mc hq hk (Alg.sz p) p k (ae _) hk';refine⟨?_,h2 hle,⟨c,S,h5,h6⟩,h4⟩;rcases hc with⟨rfl,rfl⟩|⟨s,t,s',t',row⟩
 ·exact⟨_,_,_,_,Row.first h5 hq hle h6 (h2 hle)⟩
 ·exact⟨_,_,_,_,row.next h5 hq h6 (h2 hle)⟩
theorem mj {g p q r S:PQ} {c:Rat} (hc:c≠0) (e:Alg.C c*p=S*q+r) (h:IsG g q r):IsG g p q:=by
 have back:∀ x:PQ,Dv x (Alg.C c*p)->Dv x p:=fun x hx=>by
  have:=hx.mul_left (Alg.C (Alg.inv c));rwa [<-mul_assoc,<-bf,cq hc,bT,one_mul]at this
 refine⟨back g (e ▸ (h.1.mul_left S).add h.2.1),h.1,fun x hx hx'=>h.2.2 x hx' ?_⟩;have h1:Dv x (S*q+r):=e ▸ hx.mul_left (Alg.C c);exact h1.of_add (hx'.mul_left S)
theorem sX {g q r:PQ} (hr:r≠0) (h:IsG g q (Alg.mo r)):IsG g q r:=by
 have e:Alg.C (lc r)*Alg.mo r=r:=by
  rw[Alg.mo,<-mul_assoc,<-bf,mul_inv (bB hr),bT,one_mul]
 exact⟨h.1,by rw[<-e];exact h.2.1.mul_left _,fun x hx hx'=>h.2.2 x hx (by rw[Alg.mo];exact hx'.mul_left _)⟩
theorem ph {n d q r s t s' t':PQ} (hr:r≠0) (row:Row n d q s t r s' t'):zR n d q (Alg.mo r):=by
 have:=row.scale (a:=(1:Rat)) (b:=Alg.inv (lc r)) (by decide) (eG (bB hr));rw[bT,one_mul,one_mul,one_mul]at this;exact .inr ⟨_,_,_,_,this⟩
theorem rk {n d q r s t s' t':PQ} {w h:Nat} (row:Row n d q s t r s' t') (hs:Sm w n d) (hn:Alg.HB h n) (hd:Alg.HB h d):Alg.HB (2*(Alg.hN w+h)+1) (Alg.mo r):=by
 obtain⟨A,B,h1,h2,h3,h4,h5,h6,h7⟩:=hs;exact row.size h2 h3 h4 h5 h6 h7 hn hd
theorem pK {n d:PQ} {w h:Nat} (hs:Sm w n d) (hn:Alg.HB h n) (hd:Alg.HB h d):∀(k:Nat) {p q:PQ},Alg.sz q<=k->q≠0->Alg.sz q<=Alg.sz p->zR n d p q->Alg.HB (2*(Alg.hN w+h)+1) p->Alg.HB (2*(Alg.hN w+h)+1) q ->
  IsG (kH k p q) p q/\Alg.HB (2*(Alg.hN w+h)+1) (kH k p q)/\Alg.sz (kH k p q)<=Alg.sz q/\kH k p q≠0
 | 0,p,q,hk,hq,_,_,_,_=>by have:=aA hq;omega
 | k+1,p,q,hk,hq,hle,hc,hp',hq'=>by
  have hq1:=aA hq;obtain⟨⟨s,t,s',t',row⟩,hlt,⟨c,S,hc0,e⟩,_⟩:=vZ hp' hq' hc hq hle;simp only[kH];by_cases h0:psr q (Alg.sz p) p=0
  ·rw[if_pos h0];rw[h0]at e;exact⟨mj hc0 e ⟨Dv.refl _,Dv.zero _,fun x hx _=>hx⟩,hq',ae _,hq⟩
  ·rw[if_neg h0];have h1:=aA h0;by_cases h2:Alg.sz (psr q (Alg.sz p) p)=1
   ·rw[if_pos h2];have h3:=eU (Nat.le_of_eq h2);have h4:(psr q (Alg.sz p) p).c 0≠0:=fun e9=>by
     rw[e9,show Alg.C (0:Rat)=0 from co]at h3;exact h0 h3
    have h5:Dv (psr q (Alg.sz p) p) (1:PQ):=⟨Alg.C (Alg.inv ((psr q (Alg.sz p) p).c 0)),by rw[h3];simp only[mC];rw[<-bf,mul_inv h4];rfl⟩;refine⟨mj hc0 e ⟨Dv.one _,Dv.one _,fun x _ hx=>hx.trans h5⟩,?_,?_,fo (R:=Rat) (by decide)⟩
    ·have:=Alg.HB.mon (h:=2*(Alg.hN w+h)+1) 0 (c:=1) (by have:=fK (2*(Alg.hN w+h)+1);show 1<=_;omega) (by have:=fK (2*(Alg.hN w+h)+1);show 1<=_;omega);rwa [cT]at this
    ·have:Alg.sz (1:PQ)=1:=iw (R:=Rat) (by decide);omega
   ·rw[if_neg h2];have hm:Alg.mo (psr q (Alg.sz p) p)≠0:=ik h0;obtain⟨i1,i2,i3,i4⟩:=pK hs hn hd k (p:=q) (q:=Alg.mo (psr q (Alg.sz p) p)) (by rw[fe];omega) hm (by rw[fe];omega) (ph h0 row) hq' (rk row hs hn hd);refine⟨mj hc0 e (sX h0 i1),i2,?_,i4⟩;rw[fe]at i3;omega
theorem pL:∀(k m:Nat) (p q:PQ),Alg.sz q<=k->k<=m->q≠0->Alg.sz q<=Alg.sz p->(∃ j,Alg.HB j p/\Alg.HB j q)->kH m p q=kH k p q
 | 0,m,p,q,h,_,hq,_,_=>by have:=aA hq;omega
 | k+1,m,p,q,h,hm,hq,hle,⟨j,hj,hj'⟩=>by
  obtain⟨m,rfl⟩:∃ x,m=x+1:=⟨m-1,by omega⟩;obtain⟨_,h2,_,h4,_⟩:=mc hq hj' (Alg.sz p) p j (ae _) hj;have hlt:=h2 hle;simp only[kH];split
  ·rfl
  ·rename_i h0;split
   ·rfl
   ·exact pL k m q (Alg.mo (psr q (Alg.sz p) p)) (by rw[fe];omega) (by omega) (ik h0) (by rw[fe];omega) ⟨j+Alg.sz p*(j+1),hj'.mono (by omega),h4.mo⟩
end Go.AM
namespace Go.AM
open Alg
open Go.Proofs
open Classical
noncomputable def nS (a b:PQ):PQ:=if bnd a b=0 then 1 else if Dv b a/\bnd a b=(Alg.sz b:Int)-1 then b else kH (Alg.sz b) a b
noncomputable def pJ (n d:PQ):PQ:=if Alg.sz n<Alg.sz d then nS d n else nS n d
theorem Bs (a b:PQ) (hb:b≠0):(∃ s,Dv b a/\tG a b=[iUp s,iB true])\/(¬ Dv b a/\tG a b=[iM [],iB false]):=by
 by_cases h:Dv b a
 ·obtain⟨s,hs⟩:=h;exact .inl ⟨s,⟨s,hs⟩,fZ hb (by rw[hs,mul_comm])⟩
 ·exact .inr ⟨h,by rw[tG,dif_neg h]⟩
set_option maxHeartbeats 1600000 in
theorem K8 (hres:im) {n d:PQ} {w h N:Nat} (hs:Sm w n d) (hn:Alg.HB h n) (hd:Alg.HB h d) (sn:2<=Alg.sz n) (sd:2<=Alg.sz d) (tn:Alg.sz n<=N) (td:Alg.sz d<=N) (hN:N<=500000)
  (hb:(2*(Alg.hN w+h)+1)+(N+2)*((2*(Alg.hN w+h)+1)+1)+(2*(Alg.hN w+h)+1)<=68719476000):Fn Tryz.prog 193 [iUp n,iUp d,iN 0] [iUp (pJ n d)]:=by
 refine ao kd (fn:=Tryz.f193) (by rfl) rfl rfl rfl (by rfl) (by simp) (by rfl) ?_;simp -dsimp -implicitDefEqProofs only[go_sem];refine am (gq n (by omega)) ?_;simp -dsimp -implicitDefEqProofs only[go_sem];refine am (gq d (by omega)) ?_;by_cases hlt:Alg.sz n<Alg.sz d
 case' pos =>
  have e1:decide (((Alg.sz n:Int)-1)<((Alg.sz d:Int)-1))=true:=ai (by omega);have hU:pJ n d=nS d n:=by rw[pJ,if_pos hlt]
  simp -dsimp -implicitDefEqProofs only[go_sem,e1];obtain⟨a,b,hs,ha,hb',sa,sb,hle,ta,hU,h0,h1⟩:∃ a b:PQ,Sm w a b/\Alg.HB h a/\Alg.HB h b/\2<=Alg.sz a/\2<=Alg.sz b/\Alg.sz b<=Alg.sz a/\Alg.sz a<=N/\pJ n d=nS a b/\iUp d=iUp a/\iUp n=iUp b:=⟨d,n,hs.symm,hd,hn,sd,sn,by omega,td,hU,rfl,rfl⟩;rw[h0,h1]
 case' neg =>
  have e1:decide (((Alg.sz n:Int)-1)<((Alg.sz d:Int)-1))=false:=aj (by omega);have hU:pJ n d=nS n d:=by rw[pJ,if_neg hlt]
  simp -dsimp -implicitDefEqProofs only[go_sem,e1];obtain⟨a,b,hs,ha,hb',sa,sb,hle,ta,hU,h0,h1⟩:∃ a b:PQ,Sm w a b/\Alg.HB h a/\Alg.HB h b/\2<=Alg.sz a/\2<=Alg.sz b/\Alg.sz b<=Alg.sz a/\Alg.sz a<=N/\pJ n d=nS a b/\iUp n=iUp a/\iUp d=iUp b:=⟨n,d,hs,hn,hd,sn,sd,by omega,tn,hU,rfl,rfl⟩;rw[h0,h1]
 all_goals
  clear h0 h1 e1 hlt;rw[hU];have ha0:a≠0:=fun e=>by rw[e,ap.2 rfl]at sa;omega
  have hb0:b≠0:=fun e=>by rw[e,ap.2 rfl]at sb;omega
  have hspec:=fun(k:Nat) (p q:PQ) => @pK a b w h hs ha hb' k p q;have hmo:=fun(q r s t s' t':PQ) (row:Row a b q s t r s' t')=>rk row hs ha hb';have hHle:h<=2*(Alg.hN w+h)+1:=by omega
  generalize 2*(Alg.hN w+h)+1=H at *
  have hA:=ha.mono hHle;have hB:=hb'.mono hHle;have hNH:∀ x:Nat,x<=N->(x+2)*(H+1)<=(N+2)*(H+1):=fun x hx=>Nat.mul_le_mul_right _ (by omega);have hNa:=hNH _ ta;have hH1:H+1<=(N+2)*(H+1):=Nat.le_mul_of_pos_left _ (by omega);refine am (Fs hres hA hB (by omega) (by omega) ha0 hb0 (by omega) (by omega)) ?_;by_cases hm:bnd a b=0
  ·have e2:decide (bnd a b=0)=true:=ai hm;simp -dsimp -implicitDefEqProofs only[go_sem,e2];refine am oK ?_;simp -dsimp -implicitDefEqProofs only[go_sem];rw[nS,if_pos hm]
  ·have e2:decide (bnd a b=0)=false:=aj hm;simp -dsimp -implicitDefEqProofs only[go_sem,e2];refine am (rF hA hB hb0 (by omega) (by omega) (by omega)) ?_;have fin:¬ (Dv b a/\bnd a b=(Alg.sz b:Int)-1)->nS a b=kH (Alg.sz b) a b:=fun hn=>by rw[nS,if_neg hm,if_neg hn]
   rcases Bs a b hb0 with⟨s,hdv,hR⟩|⟨hdv,hR⟩<;>rw[hR]
   ·by_cases hmb:bnd a b=(Alg.sz b:Int)-1
    ·have e3:decide (bnd a b=(Alg.sz b:Int)-1)=true:=ai hmb;simp -dsimp -implicitDefEqProofs only[go_sem];refine am (gq b (by omega)) ?_;simp -dsimp -implicitDefEqProofs only[go_sem,e3];rw[nS,if_neg hm,if_pos ⟨hdv,hmb⟩]
    ·have e3:decide (bnd a b=(Alg.sz b:Int)-1)=false:=aj hmb;simp -dsimp -implicitDefEqProofs only[go_sem];refine am (gq b (by omega)) ?_;simp -dsimp -implicitDefEqProofs only[go_sem,e3];rw[fin fun h=>hmb h.2];refine aH [(0,1),(6,6),(10,11),(43,65)] [] [] (fun n τ β ε=>∃ p q:PQ,n=Alg.sz q/\2<=Alg.sz q/\Alg.sz q<=Alg.sz p/\Alg.sz p<=N/\Alg.HB H p/\Alg.HB H q/\kH (Alg.sz q) p q=kH (Alg.sz b) a b/\zR a b p q/\τ 0 = .i (iUp p)/\τ 1 = .i (iUp q))
      (fun e τ β ε=>e = .ret/\τ 6 = .i (iUp (kH (Alg.sz b) a b))) (Alg.sz b) ?_ ?_ ?_
     ·exact⟨a,b,rfl,sb,hle,ta,hA,hB,rfl,.inl ⟨rfl,rfl⟩,rfl,rfl⟩
     ·rintro n τ β ε π hK hKB hKE ⟨p,q,hn,sq,hle,tp,hp,hq,he,hc,h0,h1⟩;have k2:τ 2 = .i (iN 0):=(hK 2 rfl).trans rfl;have hp0:p≠0:=fun e=>by rw[e,ap.2 rfl]at hle;omega
      have hq0:q≠0:=fun e=>by rw[e,ap.2 rfl]at sq;omega
      obtain⟨⟨s,t,s',t',row⟩,hlt,_,hr⟩:=vZ hp hq hc hq0 hle;have hNp:=hNH _ tp;have hNp2:Alg.sz p*(H+1)<=(Alg.sz p+2)*(H+1):=Nat.mul_le_mul_right _ (by omega);have call:=ue hp hq hp0 hq0 (by omega) (by omega) (by omega);obtain⟨m,hm⟩:∃ m,Alg.sz q=m+1:=⟨Alg.sz q-1,by omega⟩;have hmore:=pL (Alg.sz (Alg.mo (psr q (Alg.sz p) p))) m q (Alg.mo (psr q (Alg.sz p) p));rw[hm]at he;simp only[kH]at he;generalize psr q (Alg.sz p) p=r at *
      have hz:decide (((U r).length:Int)=0)=decide (r=0):=by
       rw[decide_eq_decide];constructor
       ·intro h;exact mF.1 (List.eq_nil_of_length_eq_zero (by omega))
       ·rintro rfl;rw[bQ];rfl
      simp -dsimp -implicitDefEqProofs only[go_sem,h0,h1,k2];refine am call ?_;by_cases r0:r=0
      ·rw[ai r0]at hz;rw[if_pos r0]at he;simp -dsimp -implicitDefEqProofs only[go_sem,hz,h1,af];exact⟨(by(repeat apply ak rfl);exact hK),(by(repeat apply ak rfl);exact hKB),(by(repeat apply ak rfl);exact hKE),by rw[he]⟩
      ·rw[aj r0]at hz;rw[if_neg r0]at he;simp -dsimp -implicitDefEqProofs only[go_sem,hz,h1,k2,af];refine am (gq r (by omega)) ?_;by_cases r1:Alg.sz r=1
       ·have e5:decide ((Alg.sz r:Int)-1=0)=true:=ai (by omega);rw[if_pos r1]at he;simp -dsimp -implicitDefEqProofs only[go_sem,e5];refine am oK ?_;simp -dsimp -implicitDefEqProofs only[go_sem];exact⟨(by(repeat apply ak rfl);exact hK),(by(repeat apply ak rfl);exact hKB),(by(repeat apply ak rfl);exact hKE),by rw[he]⟩
       ·have e5:decide ((Alg.sz r:Int)-1=0)=false:=aj (by omega);have r2:=aA r0;rw[if_neg r1]at he;simp -dsimp -implicitDefEqProofs only[go_sem,e5,h1,k2];refine am (nF hr (by omega) (by omega)) ?_;simp -dsimp -implicitDefEqProofs only[go_sem];refine am (jw hr (by omega) (by omega)) ?_;simp -dsimp -implicitDefEqProofs only[go_sem];refine again (Alg.sz (Alg.mo r)) (by rw[fe];omega) ⟨(by(repeat apply ak rfl);exact hK),(by(repeat apply ak rfl);exact hKB),(by(repeat apply ak rfl);exact hKE),q,Alg.mo r,rfl,by rw[fe];omega,by rw[fe];omega,by omega,hq,hmo _ _ _ _ _ _ row,?_,ph r0 row,rfl,rfl⟩
        rw[<-hmore (ae _) (by rw[fe];omega) (ik r0) (by rw[fe];omega) ⟨H,hq,hmo _ _ _ _ _ _ row⟩];exact he
     ·rintro e τ β ε π hK hKB hKE ⟨rfl,h6⟩;simp -dsimp -implicitDefEqProofs only[go_sem,h6]
   ·simp -dsimp -implicitDefEqProofs only[go_sem];rw[fin fun h=>hdv h.1];refine aH [(0,1),(6,6),(10,11),(43,65)] [] [] (fun n τ β ε=>∃ p q:PQ,n=Alg.sz q/\2<=Alg.sz q/\Alg.sz q<=Alg.sz p/\Alg.sz p<=N/\Alg.HB H p/\Alg.HB H q/\kH (Alg.sz q) p q=kH (Alg.sz b) a b/\zR a b p q/\τ 0 = .i (iUp p)/\τ 1 = .i (iUp q))
     (fun e τ β ε=>e = .ret/\τ 6 = .i (iUp (kH (Alg.sz b) a b))) (Alg.sz b) ?_ ?_ ?_
    ·exact⟨a,b,rfl,sb,hle,ta,hA,hB,rfl,.inl ⟨rfl,rfl⟩,rfl,rfl⟩
    ·rintro n τ β ε π hK hKB hKE ⟨p,q,hn,sq,hle,tp,hp,hq,he,hc,h0,h1⟩;have k2:τ 2 = .i (iN 0):=(hK 2 rfl).trans rfl;have hp0:p≠0:=fun e=>by rw[e,ap.2 rfl]at hle;omega
     have hq0:q≠0:=fun e=>by rw[e,ap.2 rfl]at sq;omega
     obtain⟨⟨s,t,s',t',row⟩,hlt,_,hr⟩:=vZ hp hq hc hq0 hle;have hNp:=hNH _ tp;have hNp2:Alg.sz p*(H+1)<=(Alg.sz p+2)*(H+1):=Nat.mul_le_mul_right _ (by omega);have call:=ue hp hq hp0 hq0 (by omega) (by omega) (by omega);obtain⟨m,hm⟩:∃ m,Alg.sz q=m+1:=⟨Alg.sz q-1,by omega⟩;have hmore:=pL (Alg.sz (Alg.mo (psr q (Alg.sz p) p))) m q (Alg.mo (psr q (Alg.sz p) p));rw[hm]at he;simp only[kH]at he;generalize psr q (Alg.sz p) p=r at *
     have hz:decide (((U r).length:Int)=0)=decide (r=0):=by
      rw[decide_eq_decide];constructor
      ·intro h;exact mF.1 (List.eq_nil_of_length_eq_zero (by omega))
      ·rintro rfl;rw[bQ];rfl
     simp -dsimp -implicitDefEqProofs only[go_sem,h0,h1,k2];refine am call ?_;by_cases r0:r=0
     ·rw[ai r0]at hz;rw[if_pos r0]at he;simp -dsimp -implicitDefEqProofs only[go_sem,hz,h1,af];exact⟨(by(repeat apply ak rfl);exact hK),(by(repeat apply ak rfl);exact hKB),(by(repeat apply ak rfl);exact hKE),by rw[he]⟩
     ·rw[aj r0]at hz;rw[if_neg r0]at he;simp -dsimp -implicitDefEqProofs only[go_sem,hz,h1,k2,af];refine am (gq r (by omega)) ?_;by_cases r1:Alg.sz r=1
      ·have e5:decide ((Alg.sz r:Int)-1=0)=true:=ai (by omega);rw[if_pos r1]at he;simp -dsimp -implicitDefEqProofs only[go_sem,e5];refine am oK ?_;simp -dsimp -implicitDefEqProofs only[go_sem];exact⟨(by(repeat apply ak rfl);exact hK),(by(repeat apply ak rfl);exact hKB),(by(repeat apply ak rfl);exact hKE),by rw[he]⟩
      ·have e5:decide ((Alg.sz r:Int)-1=0)=false:=aj (by omega);have r2:=aA r0;rw[if_neg r1]at he;simp -dsimp -implicitDefEqProofs only[go_sem,e5,h1,k2];refine am (nF hr (by omega) (by omega)) ?_;simp -dsimp -implicitDefEqProofs only[go_sem];refine am (jw hr (by omega) (by omega)) ?_;simp -dsimp -implicitDefEqProofs only[go_sem];refine again (Alg.sz (Alg.mo r)) (by rw[fe];omega) ⟨(by(repeat apply ak rfl);exact hK),(by(repeat apply ak rfl);exact hKB),(by(repeat apply ak rfl);exact hKE),q,Alg.mo r,rfl,by rw[fe];omega,by rw[fe];omega,by omega,hq,hmo _ _ _ _ _ _ row,?_,ph r0 row,rfl,rfl⟩
       rw[<-hmore (ae _) (by rw[fe];omega) (ik r0) (by rw[fe];omega) ⟨H,hq,hmo _ _ _ _ _ _ row⟩];exact he
    ·rintro e τ β ε π hK hKB hKE ⟨rfl,h6⟩;simp -dsimp -implicitDefEqProofs only[go_sem,h6]
end Go.AM
namespace Go.AM
open Alg
open Go.Proofs
open Classical
theorem cX (h:Nat):Alg.HB h (1:PQ):=by
 have:=Alg.HB.mon (h:=h) 0 (c:=1) (by have:=fK h;show 1<=_;omega) (by have:=fK h;show 1<=_;omega);rwa [cT]at this
theorem ck:Alg.sz (1:PQ)=1:=iw (R:=Rat) (by decide)
theorem eX:(1:PQ)≠0:=fo (R:=Rat) (by decide)
theorem uO {a b:PQ} {w h:Nat} (hs:Sm w a b) (ha:Alg.HB h a) (hb:Alg.HB h b) (sa:2<=Alg.sz a) (sb:2<=Alg.sz b) (hle:Alg.sz b<=Alg.sz a) :
  IsG (nS a b) a b/\Alg.HB (2*(Alg.hN w+h)+1) (nS a b)/\Alg.sz (nS a b)<=Alg.sz b/\nS a b≠0:=by
 have hb0:b≠0:=fun e=>by rw[e,ap.2 rfl]at sb;omega
 rw[nS];by_cases hm:bnd a b=0
 ·rw[if_pos hm];exact⟨⟨Dv.one _,Dv.one _,CZ sa sb hm⟩,cX _,by rw[ck];omega,eX⟩
 ·rw[if_neg hm];by_cases hd:Dv b a/\bnd a b=(Alg.sz b:Int)-1
  ·rw[if_pos hd];exact⟨⟨hd.1,Dv.refl _,fun x _ hx=>hx⟩,hb.mono (by omega),ae _,hb0⟩
  ·rw[if_neg hd];exact pK hs ha hb _ (ae _) hb0 hle (.inl ⟨rfl,rfl⟩) (ha.mono (by omega)) (hb.mono (by omega))
theorem pI {n d:PQ} {w h:Nat} (hs:Sm w n d) (hn:Alg.HB h n) (hd:Alg.HB h d) (sn:2<=Alg.sz n) (sd:2<=Alg.sz d) :
  IsG (pJ n d) n d/\Alg.HB (2*(Alg.hN w+h)+1) (pJ n d)/\Alg.sz (pJ n d)<=Alg.sz d/\pJ n d≠0:=by
 rw[pJ];by_cases hlt:Alg.sz n<Alg.sz d
 ·rw[if_pos hlt];obtain⟨h1,h2,h3,h4⟩:=uO hs.symm hd hn sd sn (by omega);exact⟨h1.symm,h2,by omega,h4⟩
 ·rw[if_neg hlt];exact uO hs hn hd sn sd (by omega)
theorem Lk (hres:im) {n d:PQ} {w h N:Nat} (hs:Sm w n d) (hn:Alg.HB h n) (hd:Alg.HB h d) (sn:2<=Alg.sz n) (sd:2<=Alg.sz d) (tn:Alg.sz n<=N) (td:Alg.sz d<=N) (hN:N<=500000)
  (hb:(2*(Alg.hN w+h)+1)+(N+2)*((2*(Alg.hN w+h)+1)+1)+(2*(Alg.hN w+h)+1)<=68719476000):Fn Tryz.prog 151 [iUp n,iUp d] [iUp (Alg.mo (pJ n d))]:=by
 have hz:∀ x:PQ,2<=Alg.sz x->decide (((U x).length:Int)=0)=false:=fun x hx=>aj fun h=>by
  have:x=0:=mF.1 (List.eq_nil_of_length_eq_zero (by omega));rw[this,ap.2 rfl]at hx;omega
 have n0:n≠0:=fun e=>by rw[e,ap.2 rfl]at sn;omega
 have d0:d≠0:=fun e=>by rw[e,ap.2 rfl]at sd;omega
 have seq:=K8 hres hs hn hd sn sd tn td hN hb;obtain⟨_,hH,hsz,_⟩:=pI hs hn hd sn sd;have hNn:(Alg.sz n+2)<=(N+2)*((2*(Alg.hN w+h)+1)+1):=ac (by omega) (Nat.le_mul_of_pos_right _ (by omega));have hNd:(Alg.sz d+2)<=(N+2)*((2*(Alg.hN w+h)+1)+1):=ac (by omega) (Nat.le_mul_of_pos_right _ (by omega));have c1:decide (Alg.sz n=1)=false:=aj (by omega);have c2:decide (Alg.sz d=1)=false:=aj (by omega);have c3:decide ((Alg.sz d:Int)-1=0)=false:=aj (by omega);have c4:decide ((Alg.sz n:Int)-1=0)=false:=aj (by omega);have g11:kj 1 1=(1:PQ):=by rw[kj,if_neg eX,if_neg eX]
 have base:=xd (p:=1) (q:=1) (cX 0) (cX 0) (by omega) (by omega) (by rw[ck];omega) (by rw[ck];omega) (.inr (.inr (.inl ck)));rw[g11]at base;refine ao kd (fn:=Tryz.f151) (by rfl) rfl rfl rfl (by rfl) (by simp) (by rfl) ?_;simp -dsimp -implicitDefEqProofs only[go_sem,hz n sn,hz d sd,af];refine aa (f0 n) rfl ?_;simp -dsimp -implicitDefEqProofs only[go_sem,c1];refine aa (f0 d) rfl ?_;simp -dsimp -implicitDefEqProofs only[go_sem,c2];refine am (Bc sn d0 (by omega) (by omega)) ?_;simp -dsimp -implicitDefEqProofs only[go_sem];refine aa (gq d (by omega)) rfl ?_;simp -dsimp -implicitDefEqProofs only[go_sem,c3];refine aa (gq n (by omega)) rfl ?_;simp -dsimp -implicitDefEqProofs only[go_sem,c4];refine aa (mO hn (by omega) n0 (by omega)) rfl ?_;simp -dsimp -implicitDefEqProofs only[go_sem];refine aa (mO hd (by omega) d0 (by omega)) rfl ?_;simp -dsimp -implicitDefEqProofs only[go_sem];refine am base ?_;simp -dsimp -implicitDefEqProofs only[go_sem];refine aa (ug hn (cX 0) eX (by omega) (by omega) (by rw[ck];omega) (s:=n) (mul_one n).symm) rfl ?_;simp -dsimp -implicitDefEqProofs only[go_sem];refine aa (ug hd (cX 0) eX (by omega) (by omega) (by rw[ck];omega) (s:=d) (mul_one d).symm) rfl ?_;simp -dsimp -implicitDefEqProofs only[go_sem];refine am seq ?_;simp -dsimp -implicitDefEqProofs only[go_sem];have mul:=cI (cX 0) hH (by omega) (by omega) (by rw[ck];omega) (by omega);rw[one_mul]at mul;refine am mul ?_;simp -dsimp -implicitDefEqProofs only[go_sem];refine am (jw hH (by omega) (by omega)) ?_;simp -dsimp -implicitDefEqProofs only[go_sem]
end Go.AM
namespace Go.AM
open Go.Proofs
abbrev iF (N D:List Tm):IV := .g [cM N,cM D]
theorem um (N:List Tm):Fn Tryz.prog 90 [iM N] [iF N [(e0,1)]]:=by
 refine ao kd (fn:=Tryz.f90) (by rfl) rfl rfl rfl (by rfl) (by simp) (by rfl) ?_;simp -dsimp -implicitDefEqProofs only[go_sem];refine am B8 ?_;simp -dsimp -implicitDefEqProofs only[go_sem]
theorem Fq (c:Rat):Fn Tryz.prog 105 [iQ c] [iF (fH c) [(e0,1)]]:=by
 refine ao kd (fn:=Tryz.f105) (by rfl) rfl rfl rfl (by rfl) (by simp) (by rfl) ?_;simp -dsimp -implicitDefEqProofs only[go_sem];refine aa (pD c) rfl ?_;simp -dsimp -implicitDefEqProofs only[go_sem];refine am (um _) ?_;simp -dsimp -implicitDefEqProofs only[go_sem]
theorem Lm (v:Nat) (hv:v<4):Fn Tryz.prog 96 [iN v] [iF [(e0.to v 1,1)] [(e0,1)]]:=by
 refine ao kd (fn:=Tryz.f96) (by rfl) rfl rfl rfl (by rfl) (by simp) (by rfl) ?_;simp -dsimp -implicitDefEqProofs only[go_sem];refine am (K6 v hv) ?_;simp -dsimp -implicitDefEqProofs only[go_sem];refine am (um _) ?_;simp -dsimp -implicitDefEqProofs only[go_sem]
theorem IY (N D:List Tm):Fn Tryz.prog 97 [iF N D] [iB (decide (N=[]))]:=by
 refine ao kd (fn:=Tryz.f97) (by rfl) rfl rfl rfl (by rfl) (by simp) (by rfl) ?_;have e:decide ((N.length:Int)=0)=decide (N=[]):=by
  rw[decide_eq_decide];exact⟨fun h=>List.eq_nil_of_length_eq_zero (by omega),fun h=>by rw[h];rfl⟩
 simp -dsimp -implicitDefEqProofs only[go_sem,af,e]
theorem gZ (N D:List Tm) (n:Int):Fn Tryz.prog 109 [iF N D,iN n] [iF N D]:=by
 refine ao kd (fn:=Tryz.f109) (by rfl) rfl rfl rfl (by rfl) (by simp) (by rfl) ?_;simp -dsimp -implicitDefEqProofs only[go_sem]
theorem zC (q:Rat) (n:Int):Fn Tryz.prog 153 [iQ q,iN n] [iQ q]:=by
 refine ao kd (fn:=Tryz.f153) (by rfl) rfl rfl rfl (by rfl) (by simp) (by rfl) ?_;simp -dsimp -implicitDefEqProofs only[go_sem];rfl
theorem Lp (N D:List Tm) (h1:N.length<=1099511627776) (q1:∀ t∈N,QB 17179869184 t.2):Fn Tryz.prog 84 [iF N D] [iF (dE N (-1)) D]:=by
 refine ao kd (fn:=Tryz.f84) (by rfl) rfl rfl rfl (by rfl) (by simp) (by rfl) ?_;simp -dsimp -implicitDefEqProofs only[go_sem];refine an (by rfl) 7 [] false true (by rfl) (by rfl) (by decide +kernel) ?_;simp -dsimp -implicitDefEqProofs only[go_sem,ag];refine am (gg (-1) (by decide)) ?_;simp -dsimp -implicitDefEqProofs only[go_sem];refine ar (args':=[iM N,iQ (-1)]) rfl (jt N (-1) h1 q1 (od _ (by omega))) ?_;simp -dsimp -implicitDefEqProofs only[go_sem,ag]
theorem I3 {N D G N1 D1:List Tm} {c:Rat} {x:Tm} (hD:D≠[]) (hN:N≠[]) (hG:Fn Tryz.prog 151 [iM N,iM D] [iM G]) (hn:Fn Tryz.prog 152 [iM N,iM G] [iM N1,iB true]) (hd:Fn Tryz.prog 152 [iM D,iM G] [iM D1,iB true])
  (hx:D1[0]?=some x) (hx0:x.2≠0) (hxq:QB 17179869184 x.2) (hc:c=1/x.2) (hn1:Fn Tryz.prog 120 [iM N1,iQ c] [iM (dE N1 c)]) (hd1:Fn Tryz.prog 120 [iM D1,iQ c] [iM (dE D1 c)]) :
  Fn Tryz.prog 110 [iM N,iM D] [iF (dE N1 c) (dE D1 c),iN 0]:=by
 have hz:∀ L:List Tm,L≠[]->decide ((L.length:Int)=0)=false:=fun L hL=>aj fun h=>hL (List.eq_nil_of_length_eq_zero (by omega));refine ao kd (fn:=Tryz.f110) (by rfl) rfl rfl rfl (by rfl) (by simp) (by rfl) ?_;simp -dsimp -implicitDefEqProofs only[go_sem,af,hz D hD,hz N hN];refine am hG ?_;simp -dsimp -implicitDefEqProofs only[go_sem];refine am hn ?_;simp -dsimp -implicitDefEqProofs only[go_sem];refine am hd ?_;simp -dsimp -implicitDefEqProofs only[go_sem];refine an (by rfl) 10 [7] false true (by rfl) (by rfl) (by decide +kernel) ?_;simp -dsimp -implicitDefEqProofs only[go_sem];refine am (gg 1 (by decide)) ?_;simp -dsimp -implicitDefEqProofs only[go_sem,Int.reduceToNat,Int.reduceLE,ag];refine av hx ?_;simp -dsimp -implicitDefEqProofs only[go_sem,Int.reduceToNat,Int.reduceLE,ag];refine aa (rD 1 x.2 hx0 mJ hxq) rfl ?_;simp -dsimp -implicitDefEqProofs only[go_sem];refine ar (args':=[iQ (1/x.2),iN 0]) rfl (zC _ 0) ?_;simp -dsimp -implicitDefEqProofs only[go_sem];refine an (by rfl) 7 [] false true (by rfl) (by rfl) (by decide +kernel) ?_;simp -dsimp -implicitDefEqProofs only[go_sem];refine ar (args':=[iM N1,iQ c]) ?_ hn1 ?_
 ·rw[hc];rfl
 simp -dsimp -implicitDefEqProofs only[go_sem];refine ar (args':=[iM D1,iQ c]) ?_ hd1 ?_
 ·rw[hc];rfl
 simp -dsimp -implicitDefEqProofs only[go_sem]
theorem zI {D:List Tm} (hD:D≠[]):Fn Tryz.prog 110 [iM [],iM D] [iF [] [(e0,1)],iN 0]:=by
 have hz:∀ L:List Tm,L≠[]->decide ((L.length:Int)=0)=false:=fun L hL=>aj fun h=>hL (List.eq_nil_of_length_eq_zero (by omega));have h0:decide (((0:Nat):Int)=0)=true:=rfl;refine ao kd (fn:=Tryz.f110) (by rfl) rfl rfl rfl (by rfl) (by simp) (by rfl) ?_;simp -dsimp -implicitDefEqProofs only[go_sem,af,hz D hD,h0];refine am B8 ?_;simp -dsimp -implicitDefEqProofs only[go_sem];rfl
theorem Dj {N D N' D' X Y A B:List Tm} (h1:Fn Tryz.prog 111 [iM N,iM N'] [iM X]) (h2:Fn Tryz.prog 111 [iM D,iM D'] [iM Y]) (h3:Fn Tryz.prog 110 [iM X,iM Y] [iF A B,iN 0]):Fn Tryz.prog 65 [iF N D,iF N' D'] [iF A B]:=by
 refine ao kd (fn:=Tryz.f65) (by rfl) rfl rfl rfl (by rfl) (by simp) (by rfl) ?_;simp -dsimp -implicitDefEqProofs only[go_sem];refine an (by rfl) 14 [] false true (by rfl) (by rfl) (by decide +kernel) ?_;simp -dsimp -implicitDefEqProofs only[go_sem,ag];refine am h1 ?_;simp -dsimp -implicitDefEqProofs only[go_sem,ag];refine am h2 ?_;simp -dsimp -implicitDefEqProofs only[go_sem];refine am h3 ?_;simp -dsimp -implicitDefEqProofs only[go_sem];refine am (gZ A B 0) ?_;simp -dsimp -implicitDefEqProofs only[go_sem]
theorem Lq {N D N' D' X Y A B:List Tm} {n:Int} (h1:Fn Tryz.prog 111 [iM N,iM D'] [iM X]) (h2:Fn Tryz.prog 111 [iM D,iM N'] [iM Y]) (h3:Fn Tryz.prog 110 [iM X,iM Y] [iF A B,iN n]):Fn Tryz.prog 69 [iF N D,iF N' D'] [iF A B,iN n]:=by
 refine ao kd (fn:=Tryz.f69) (by rfl) rfl rfl rfl (by rfl) (by simp) (by rfl) ?_;simp -dsimp -implicitDefEqProofs only[go_sem];refine an (by rfl) 13 [] false true (by rfl) (by rfl) (by decide +kernel) ?_;simp -dsimp -implicitDefEqProofs only[go_sem,ag];refine am h1 ?_;simp -dsimp -implicitDefEqProofs only[go_sem,ag];refine am h2 ?_;simp -dsimp -implicitDefEqProofs only[go_sem];refine am h3 ?_;simp -dsimp -implicitDefEqProofs only[go_sem]
theorem pC {N D N' X A B:List Tm} (h0:Fn Tryz.prog 138 [iM D,iM D] [iB true]) (h1:Fn Tryz.prog 108 [iM N,iM N'] [iM X]) (h3:Fn Tryz.prog 110 [iM X,iM D] [iF A B,iN 0]) :
  Fn Tryz.prog 107 [iF N D,iF N' D,.c (.v (.func (.func 108) #[] #[]))] [iF A B]:=by
 refine ao kd (fn:=Tryz.f107) (by rfl) rfl rfl rfl (by rfl) (by simp) (by rfl) ?_;simp -dsimp -implicitDefEqProofs only[go_sem,ag];refine am h0 ?_;simp -dsimp -implicitDefEqProofs only[go_sem];refine an (by rfl) 12 [] false true (by rfl) (by rfl) (by decide +kernel) ?_;simp -dsimp -implicitDefEqProofs only[go_sem,ag];refine am h1 ?_;simp -dsimp -implicitDefEqProofs only[go_sem,ag];refine am h3 ?_;simp -dsimp -implicitDefEqProofs only[go_sem];refine am (gZ A B 0) ?_;simp -dsimp -implicitDefEqProofs only[go_sem]
theorem xg {N D N' D' X Y Z W A B:List Tm} (h0:Fn Tryz.prog 138 [iM D,iM D'] [iB false]) (h1:Fn Tryz.prog 111 [iM N,iM D'] [iM X]) (h2:Fn Tryz.prog 111 [iM N',iM D] [iM Y]) (h3:Fn Tryz.prog 108 [iM X,iM Y] [iM Z]) (h4:Fn Tryz.prog 111 [iM D,iM D'] [iM W]) (h5:Fn Tryz.prog 110 [iM Z,iM W] [iF A B,iN 0]) :
  Fn Tryz.prog 107 [iF N D,iF N' D',.c (.v (.func (.func 108) #[] #[]))] [iF A B]:=by
 refine ao kd (fn:=Tryz.f107) (by rfl) rfl rfl rfl (by rfl) (by simp) (by rfl) ?_;simp -dsimp -implicitDefEqProofs only[go_sem,ag];refine am h0 ?_;simp -dsimp -implicitDefEqProofs only[go_sem];refine an (by rfl) 21 [] false true (by rfl) (by rfl) (by decide +kernel) ?_;simp -dsimp -implicitDefEqProofs only[go_sem,ag];refine am h1 ?_;simp -dsimp -implicitDefEqProofs only[go_sem,ag];refine am h2 ?_;simp -dsimp -implicitDefEqProofs only[go_sem,ag];refine am h3 ?_;simp -dsimp -implicitDefEqProofs only[go_sem,ag];refine am h4 ?_;simp -dsimp -implicitDefEqProofs only[go_sem];refine am h5 ?_;simp -dsimp -implicitDefEqProofs only[go_sem];refine am (gZ A B 0) ?_;simp -dsimp -implicitDefEqProofs only[go_sem]
theorem Dk {x y z:IV} (h:Fn Tryz.prog 107 [x,y,.c (.v (.func (.func 108) #[] #[]))] [z]) (hx:∃ N D,x=iF N D) (hy:∃ N D,y=iF N D) (hz:∃ N D,z=iF N D):Fn Tryz.prog 64 [x,y] [z]:=by
 obtain⟨N,D,rfl⟩:=hx;obtain⟨N',D',rfl⟩:=hy;obtain⟨A,B,rfl⟩:=hz;refine ao kd (fn:=Tryz.f64) (by rfl) rfl rfl rfl (by rfl) (by simp) (by rfl) ?_;simp -dsimp -implicitDefEqProofs only[go_sem,ag];refine am h ?_;simp -dsimp -implicitDefEqProofs only[go_sem]
theorem xe {N D N' X A B:List Tm} (h0:Fn Tryz.prog 138 [iM D,iM D] [iB true]) (h1:Fn Tryz.prog 113 [iM N,iM N'] [iM X]) (h3:Fn Tryz.prog 110 [iM X,iM D] [iF A B,iN 0]) :
  Fn Tryz.prog 107 [iF N D,iF N' D,.c (.v (.func (.func 113) #[] #[]))] [iF A B]:=by
 refine ao kd (fn:=Tryz.f107) (by rfl) rfl rfl rfl (by rfl) (by simp) (by rfl) ?_;simp -dsimp -implicitDefEqProofs only[go_sem,ag];refine am h0 ?_;simp -dsimp -implicitDefEqProofs only[go_sem];refine an (by rfl) 12 [] false true (by rfl) (by rfl) (by decide +kernel) ?_;simp -dsimp -implicitDefEqProofs only[go_sem,ag];refine am h1 ?_;simp -dsimp -implicitDefEqProofs only[go_sem,ag];refine am h3 ?_;simp -dsimp -implicitDefEqProofs only[go_sem];refine am (gZ A B 0) ?_;simp -dsimp -implicitDefEqProofs only[go_sem]
theorem xf {N D N' D' X Y Z W A B:List Tm} (h0:Fn Tryz.prog 138 [iM D,iM D'] [iB false]) (h1:Fn Tryz.prog 111 [iM N,iM D'] [iM X]) (h2:Fn Tryz.prog 111 [iM N',iM D] [iM Y]) (h3:Fn Tryz.prog 113 [iM X,iM Y] [iM Z]) (h4:Fn Tryz.prog 111 [iM D,iM D'] [iM W]) (h5:Fn Tryz.prog 110 [iM Z,iM W] [iF A B,iN 0]) :
  Fn Tryz.prog 107 [iF N D,iF N' D',.c (.v (.func (.func 113) #[] #[]))] [iF A B]:=by
 refine ao kd (fn:=Tryz.f107) (by rfl) rfl rfl rfl (by rfl) (by simp) (by rfl) ?_;simp -dsimp -implicitDefEqProofs only[go_sem,ag];refine am h0 ?_;simp -dsimp -implicitDefEqProofs only[go_sem];refine an (by rfl) 21 [] false true (by rfl) (by rfl) (by decide +kernel) ?_;simp -dsimp -implicitDefEqProofs only[go_sem,ag];refine am h1 ?_;simp -dsimp -implicitDefEqProofs only[go_sem,ag];refine am h2 ?_;simp -dsimp -implicitDefEqProofs only[go_sem,ag];refine am h3 ?_;simp -dsimp -implicitDefEqProofs only[go_sem,ag];refine am h4 ?_;simp -dsimp -implicitDefEqProofs only[go_sem];refine am h5 ?_;simp -dsimp -implicitDefEqProofs only[go_sem];refine am (gZ A B 0) ?_;simp -dsimp -implicitDefEqProofs only[go_sem]
theorem Ln {x y z:IV} (h:Fn Tryz.prog 107 [x,y,.c (.v (.func (.func 113) #[] #[]))] [z]) (hx:∃ N D,x=iF N D) (hy:∃ N D,y=iF N D) (hz:∃ N D,z=iF N D):Fn Tryz.prog 70 [x,y] [z]:=by
 obtain⟨N,D,rfl⟩:=hx;obtain⟨N',D',rfl⟩:=hy;obtain⟨A,B,rfl⟩:=hz;refine ao kd (fn:=Tryz.f70) (by rfl) rfl rfl rfl (by rfl) (by simp) (by rfl) ?_;simp -dsimp -implicitDefEqProofs only[go_sem,ag];refine am h ?_;simp -dsimp -implicitDefEqProofs only[go_sem]
end Go.AM
namespace Alg
open Classical
abbrev KQ:=K (P Rat)
theorem Mw {u v:P Rat} (h:u*v=1):∃ x:Rat,x≠0/\u=C x:=by
 have h1:(1:P Rat)≠0:=fo (R:=Rat) (by decide);have hu:u≠0:=fun e=>h1 (by rw[<-h,e,zero_mul]);have hv:v≠0:=fun e=>h1 (by rw[<-h,e,mul_zero]);have hs:=cE hu hv;have h2:sz (1:P Rat)=1:=iw (R:=Rat) (by decide);have:=aA hu;have:=aA hv;rw[h,h2]at hs;have h3:=eU (p:=u) (by omega);exact⟨u.c 0,fun e=>hu (by rw[h3,e];exact co),h3⟩
theorem L6 {a b:P Rat} {x:Rat} (hx:x≠0) (h:Cop a b):Cop (C x*a) (C x*b):=fun d h1 h2=>by
 have back:∀ y:P Rat,Dv d (C x*y)->Dv d y:=fun y hy=>by
  have:=hy.mul_left (C (inv x));rwa [<-mul_assoc,<-bf,cq hx,bT,one_mul]at this
 exact h d (back a h1) (back b h2)
theorem GU (f:KQ):∃ p:P Rat×P Rat,p.2≠0/\lc p.2=1/\Cop p.1 p.2/\f=fr p.1 p.2:=by
 obtain⟨a,b,hb,hc,e⟩:=ED f;have hl:=eG (bB hb);refine⟨(C (inv (lc b))*a,mo b),ik hb,CA hb,L6 hl hc,?_⟩;rw[e];exact(eC hb (ik hb)).2 (by rw[mo];exact ring [a,b,C (inv (lc b))])
noncomputable def nN (f:KQ):P Rat:=(choose (GU f)).1
noncomputable def nD (f:KQ):P Rat:=(choose (GU f)).2
theorem cA (f:KQ):nD f≠0/\lc (nD f)=1/\Cop (nN f) (nD f)/\f=fr (nN f) (nD f):=choose_spec (GU f)
theorem oM {n d:P Rat} {f:KQ} (hd:d≠0) (hl:lc d=1) (hc:Cop n d) (e:f=fr n d):nN f=n/\nD f=d:=by
 obtain⟨h1,h2,h3,h4⟩:=cA f;obtain⟨u,v,huv,e1,e2⟩:=yo h1 hd h3 hc (h4.symm.trans e);obtain⟨x,hx,rfl⟩:=Mw huv;have h5:lc d=x*lc (nD f):=by rw[e2,fV,nY]
 rw[hl,h2,mul_one]at h5;rw[<-h5,show C (1:Rat)=1 from rfl,one_mul]at e1;rw[<-h5,show C (1:Rat)=1 from rfl,one_mul]at e2;exact⟨e1.symm,e2.symm⟩
theorem kL:nN 0=0/\nD 0=1:=oM (fo (R:=Rat) (by decide)) (nY (1:Rat)) (fun _ _ h=>h) wv
theorem GW {n d g n1 d1:P Rat} (hd:d≠0) (hg:IsG g n d) (e1:n=n1*g) (e2:d=d1*g):nN (fr n d)=n1*C (1/lc d1)/\nD (fr n d)=d1*C (1/lc d1):=by
 have hg0:g≠0:=fun e=>hd (by rw[e2,e,mul_zero]);have hd1:d1≠0:=fun e=>hd (by rw[e2,e,zero_mul]);have hl:=bB hd1;have hi:(1:Rat)/lc d1=inv (lc d1):=by show(1:Rat)/lc d1=(lc d1)⁻¹;rw[Rat.div_def];exact Rat.one_mul _
 have hi0:(1:Rat)/lc d1≠0:=by rw[hi];exact eG hl
 have hcop:Cop n1 d1:=fun x h1 h2=>by
  have h3:Dv (g*x) (g*1):=by
   rw[mul_one];refine hg.2.2 _ ?_ ?_
   ·rw[e1,mul_comm n1];exact(Dv.refl g).mul h1
   ·rw[e2,mul_comm d1];exact(Dv.refl g).mul h2
  exact h3.cancel hg0
 refine oM ?_ ?_ ?_ ?_
 ·exact aD hd1 (fo hi0)
 ·rw[fV,nY,hi,mul_inv hl]
 ·rw[mul_comm n1,mul_comm d1];exact L6 hi0 hcop
 ·exact(eC hd (aD hd1 (fo hi0))).2 (by rw[e1,e2];exact ring [n1,d1,g,C (1/lc d1)])
end Alg
namespace Alg
open Classical
def FB (w:Nat) (f:KQ):Prop:=∃ A B:P Int,B≠0/\f=fr (toQ A) (toQ B)/\sz A<=w+1/\n1 A<=2 ^ w/\sz B<=w+1/\n1 B<=2 ^ w
theorem FB.mono {w v:Nat} {f:KQ} (h:FB w f) (hv:w<=v):FB v f:=by
 obtain⟨A,B,h1,h2,h3,h4,h5,h6⟩:=h;exact⟨A,B,h1,h2,by omega,ac h4 (cn hv),by omega,ac h6 (cn hv)⟩
theorem KF {n d:P Rat} (hn:n≠0) (hd:d≠0) (hc:Cop n d):∃ s t,Row n d 1 s t 0 d (-n):=by
 obtain⟨s,t,e⟩:=BI hc;have h1:sz (1:P Rat)=1:=iw (R:=Rat) (by decide);have h0:sz (0:P Rat)=0:=ap.2 rfl;have:=aA hn;have:=aA hd;refine⟨s,t,e.symm,by rw[neg_mul,mul_comm n,iD],⟨-1,wk (by decide),?_⟩,by omega,by rw[kD,h1],by omega,by omega⟩;rw[show C (-1:Rat) = -(1:P Rat)from kw (1:Rat),<-e];exact ring [s,t,n,d]
theorem wi {f:KQ} {w:Nat} (h:FB w f) (hf:f≠0):HB (hN w) (nN f)/\HB (hN w) (nD f)/\sz (nN f)<=w+1/\sz (nD f)<=w+1:=by
 obtain⟨A,B,hB,e,hA1,hA2,hB1,hB2⟩:=h;obtain⟨h1,h2,h3,h4⟩:=cA f;have hB':=cJ hB;have hv:nN f*toQ B=nD f*toQ A:=by
  have:=(eC h1 hB').1 (h4.symm.trans e);rw[this,mul_comm]
 have hn0:nN f≠0:=fun e0=>hf (by rw[h4,e0];exact(bY h1).2 rfl);obtain⟨s,t,row⟩:=KF hn0 h1 h3;obtain⟨S,T,k,hk,eS,eT,hS,hT⟩:=small row hB hv hA1 hA2 hB1 hB2;have hS0:S≠0:=fun e0=>by
  rw[e0,cu]at eS;exact aD (fo hk) h1 eS.symm
 have hlS:hQ.f (lc S)=k:=by rw[<-Hh,eS,fV,nY,h2,mul_one]
 have hlS0:lc S≠0:=bB hS0;have hlb:(lc S).natAbs<=2 ^ hN w:=ac (iC S _) hS;have hdA:Dv (nN f) (toQ A):=h3.dvd ⟨toQ B,hv.symm⟩;have hdB:Dv (nD f) (toQ B):=h3.symm.dvd ⟨toQ A,hv⟩;have szle:∀{x y:P Rat},Dv x y->y≠0->sz x<=sz y:=fun{x y} hd hy=>by
  obtain⟨c,hc⟩:=hd;have hx0:x≠0:=fun e=>hy (by rw[hc,e,zero_mul]);have hc0:c≠0:=fun e=>hy (by rw[hc,e,mul_zero]);have:=cE hx0 hc0;have:=aA hc0;rw[hc];omega
 have hA0:toQ A≠0:=fun e0=>hf (by rw[e,e0];exact(bY hB').2 rfl);refine⟨⟨lc S,-T,hlS0,hlb,by rw[pY];exact hT,?_⟩,⟨lc S,S,hlS0,hlb,hS,by rw[hlS,eS]⟩,?_,?_⟩
 ·rw[oy,eT,hlS,mul_neg,neg_neg]
 ·have:=szle hdA hA0;rw[fE]at this;omega
 ·have:=szle hdB hB';rw[fE]at this;omega
theorem fq {A B:P Int} {w v:Nat} (h:sz A<=w+1) (h':sz B<=v+1):sz (A*B)<=w+v+1:=by
 have:=aM A B;omega
theorem FB.mul {w v:Nat} {f g:KQ} (h:FB w f) (h':FB v g):FB (w+v) (f*g):=by
 obtain⟨A,B,h1,h2,h3,h4,h5,h6⟩:=h;obtain⟨A',B',k1,k2,k3,k4,k5,k6⟩:=h';exact⟨A*A',B*B',aD h1 k1,by rw[h2,k2,dZ (cJ h1) (cJ k1),bL,bL],fq h3 k3,ac (hY _ _) (aN h4 k4),fq h5 k5,ac (hY _ _) (aN h6 k6)⟩
theorem FB.add {w v:Nat} {f g:KQ} (h:FB w f) (h':FB v g):FB (w+v+1) (f+g):=by
 obtain⟨A,B,h1,h2,h3,h4,h5,h6⟩:=h;obtain⟨A',B',k1,k2,k3,k4,k5,k6⟩:=h';refine⟨A*B'+A'*B,B*B',aD h1 k1,by rw[h2,k2,fj (cJ h1) (cJ k1),jD,bL,bL,bL],?_,?_,?_,?_⟩
 ·refine cP ?_ ?_
  ·have:=fq h3 k5;omega
  ·have:=fq k3 h5;omega
 ·refine ac (kN _ _) ?_;have e1:=ac (hY A B') (aN h4 k6);have e2:=ac (hY A' B) (aN k4 h6);rw[Nat.add_comm v w]at e2;exact js e1 e2
 ·have:=fq h5 k5;omega
 ·exact ac (ac (hY _ _) (aN h6 k6)) (cn (by omega))
theorem FB.neg {w:Nat} {f:KQ} (h:FB w f):FB w (-f):=by
 obtain⟨A,B,h1,h2,h3,h4,h5,h6⟩:=h;exact⟨-A,B,h1,by rw[h2,tj (cJ h1),oy],by rw[kD];exact h3,by rw[pY];exact h4,h5,h6⟩
theorem FB.sub {w v:Nat} {f g:KQ} (h:FB w f) (h':FB v g):FB (w+v+1) (f-g):=by rw[sub_eq];exact h.add h'.neg
theorem FB.inv {w:Nat} {f:KQ} (h:FB w f) (hf:f≠0):FB w (Alg.inv f):=by
 obtain⟨A,B,h1,h2,h3,h4,h5,h6⟩:=h;have hA:A≠0:=fun e=>hf (by rw[h2,e,cu];exact(bY (cJ h1)).2 rfl);exact⟨B,A,hA,by rw[h2,wA (cJ hA) (cJ h1)],h5,h6,h3,h4⟩
end Alg
namespace Go.AM
open Alg
open Go.Proofs
open Classical
noncomputable abbrev iK (f:KQ):IV:=iF (U (nN f)) (U (Alg.nD f))
theorem wz {u n d:PQ} (hu:u≠0) (h:IsG u n d):IsG (Alg.mo u) n d:=by
 have e:Alg.C (lc u)*Alg.mo u=u:=by
  rw[Alg.mo,<-mul_assoc,<-bf,mul_inv (bB hu),bT,one_mul]
 have h1:Dv (Alg.mo u) u:=⟨Alg.C (lc u),by rw[mul_comm,e]⟩;exact⟨h1.trans h.1,h1.trans h.2.1,fun x hx hx'=>(h.2.2 x hx hx').trans (by rw[Alg.mo];exact(Dv.refl u).mul_left _)⟩
theorem sS:lc (1:PQ)=1:=nY (1:Rat)
theorem Lo (hres:im) {n d:PQ} {h N w:Nat} (hd0:d≠0) (hn:Alg.HB h n) (hd:Alg.HB h d) (tn:Alg.sz n<=N) (td:Alg.sz d<=N) (hN:N<=500000) (hf:FB w (Alg.fr n d))
  (hb:(2*(Alg.hN w+h)+1)+(N+2)*((2*(Alg.hN w+h)+1)+1)+(2*(Alg.hN w+h)+1)<=68719476000):Fn Tryz.prog 110 [iUp n,iUp d] [iK (Alg.fr n d),iN 0]:=by
 have hdl:U d≠[]:=fun e=>hd0 (mF.1 e);by_cases hn0:n=0
 ·have e0:Alg.fr n d=0:=by rw[hn0];exact(bY hd0).2 rfl
  have:=zI hdl;rw[e0,hn0];show Fn Tryz.prog 110 [iM (U 0),iM (U d)] [iF (U (nN 0)) (U (Alg.nD 0)),iN 0];rw[kL.1,kL.2,bQ,vn];exact this
 have hf0:Alg.fr n d≠0:=fun e=>hn0 ((bY hd0).1 e);have hs:Sm w n d:=by
  obtain⟨A,B,h1,h2,h3,h4,h5,h6⟩:=hf;have hA:A≠0:=fun e=>hf0 (by rw[h2,e,cu];exact(bY (cJ h1)).2 rfl);exact⟨A,B,hA,h1,by rw[(eC hd0 (cJ h1)).1 h2,mul_comm],h3,h4,h5,h6⟩
 obtain⟨zN,zD,_,_⟩:=wi hf hf0;obtain⟨g,hg,hgH,hgs,hg0,hgl,hG⟩:∃ g:PQ,IsG g n d/\Alg.HB (2*(Alg.hN w+h)+1) g/\Alg.sz g<=Alg.sz d/\g≠0/\lc g=1/\Fn Tryz.prog 151 [iUp n,iUp d] [iUp g]:=by
  by_cases hbig:2<=Alg.sz n/\2<=Alg.sz d
  ·obtain⟨h1,h2,h3,h4⟩:=pI hs hn hd hbig.1 hbig.2;exact⟨_,wz h4 h1,h2.mo,by rw[fe];exact h3,ik h4,CA h4,Lk hres hs hn hd hbig.1 hbig.2 tn td hN hb⟩
  ·have p1:=aA hn0;have p2:=aA hd0;have hone:Alg.sz n=1\/Alg.sz d=1:=by omega
   have unit:∀ x:PQ,Alg.sz x=1->Dv x 1:=fun x hx=>by
    have h3:=eU (Nat.le_of_eq hx);have h4:x.c 0≠0:=fun e9=>by
     rw[e9,show Alg.C (0:Rat)=0 from co]at h3;rw[h3,ap.2 rfl]at hx;omega
    exact⟨Alg.C (Alg.inv (x.c 0)),by rw[h3];simp only[mC];rw[<-bf,mul_inv h4];rfl⟩
   have call:=xd hn hd (by omega) (by omega) (by omega) (by omega) (.inr (.inr hone));rw[kj,if_neg hn0,if_neg hd0]at call;refine⟨1,⟨Dv.one _,Dv.one _,fun x h1 h2=>?_⟩,cX _,by rw[ck];omega,eX,sS,call⟩;rcases hone with h3|h3
   ·exact h1.trans (unit n h3)
   ·exact h2.trans (unit d h3)
 obtain⟨n1,e1⟩:=hg.1;obtain⟨d1,e2⟩:=hg.2.1;rw[mul_comm]at e1 e2;have hd1:d1≠0:=fun e=>hd0 (by rw[e2,e,zero_mul]);have hn1:n1≠0:=fun e=>hn0 (by rw[e1,e,zero_mul]);have hl:lc d1=lc d:=by rw[e2,fV,hgl,mul_one]
 have hl0:lc d1≠(0:Rat):=bB hd1;obtain⟨f1,f2⟩:=GW hd0 hg e1 e2;have back:∀ x:PQ,x=x*Alg.C (1/lc d1)*Alg.C (lc d1):=fun x=>by
  rw[mul_assoc,<-bf];have:(1:Rat)/lc d1*lc d1=1:=Rat.div_mul_cancel hl0;rw[show((1:Rat)/lc d1*lc d1:Rat)=1 from this,bT,mul_one]
 have hC:Alg.HB h (Alg.C (lc d1)):=by rw[hl];exact lC hd _
 have bn:Alg.HB (Alg.hN w+h) n1:=by rw[back n1,<-f1];exact zN.mul hC
 have bd:Alg.HB (Alg.hN w+h) d1:=by rw[back d1,<-f2];exact zD.mul hC
 have s1:=cE hn1 hg0;have s2:=cE hd1 hg0;rw[<-e1]at s1;rw[<-e2]at s2;have pg:=aA hg0;have hH1:(Alg.sz n+2)*((2*(Alg.hN w+h)+1)+1)<=(N+2)*((2*(Alg.hN w+h)+1)+1):=Nat.mul_le_mul_right _ (by omega);have hH2:(Alg.sz d+2)*((2*(Alg.hN w+h)+1)+1)<=(N+2)*((2*(Alg.hN w+h)+1)+1):=Nat.mul_le_mul_right _ (by omega);obtain⟨L,hL⟩:=fJ hd1;obtain⟨b1,b2⟩:=iV (x:=1) (h:=0) hl0 ⟨by decide,by decide⟩ (bd.coef (Alg.sz d1-1));have dn:=rF hn hgH hg0 (by omega) (by omega) (by omega);rw[fZ hg0 e1]at dn;have dd:=rF hd hgH hg0 (by omega) (by omega) (by omega);rw[fZ hg0 e2]at dd;have hc:=gw b1 b2 (k:=17179869184) (by omega);have sn:=jt (U n1) (1/lc d1) (by have:=cO n1;omega) (HB.qb bn (by omega)) hc;have sd:=jt (U d1) (1/lc d1) (by have:=cO d1;omega) (HB.qb bd (by omega)) hc;have:=I3 (N:=U n) (D:=U d) (G:=U g) (x:=(⟨((Alg.sz d1-1:Nat):Int),0,0,0⟩,lc d1)) hdl (fun e=>hn0 (mF.1 e)) hG dn dd (by rw[hL];rfl) hl0 (gw (bd.coef _).1 (bd.coef _).2 (by omega)) rfl sn sd;rw[nl,nl,<-f1,<-f2]at this;exact this
end Go.AM
namespace Go.AM
open Alg
open Go.Proofs
open Classical
abbrev FW (f:KQ):Prop:=FB 1000 f
theorem Kk:Alg.hN 1000=2006002:=by decide
theorem dX {f:KQ} (h:FW f):Alg.HB 2006002 (nN f)/\Alg.HB 2006002 (Alg.nD f)/\Alg.sz (nN f)<=1001/\Alg.sz (Alg.nD f)<=1001:=by
 by_cases hf:f=0
 ·rw[hf,kL.1,kL.2,ck,ap.2 rfl];exact⟨Alg.HB.zero _,cX _,by omega,by omega⟩
 ·have:=wi h hf;rw[Kk]at this;exact this
theorem ns (hres:im) {n d:PQ} (hd0:d≠0) (hn:Alg.HB 8024009 n) (hd:Alg.HB 8024009 d) (tn:Alg.sz n<=2003) (td:Alg.sz d<=2003) (hf:FW (Alg.fr n d)):Fn Tryz.prog 110 [iUp n,iUp d] [iK (Alg.fr n d),iN 0] :=
 Lo hres hd0 hn hd tn td (by omega) hf (by rw[Kk];omega)
theorem fh (f:KQ):Alg.fr (nN f) (Alg.nD f)=f:=(cA f).2.2.2.symm
theorem jy (hres:im) {f g:KQ} (hf:FW f) (hg:FW g) (h:FW (f*g)):Fn Tryz.prog 65 [iK f,iK g] [iK (f*g)]:=by
 obtain⟨a1,a2,a3,a4⟩:=dX hf;obtain⟨b1,b2,b3,b4⟩:=dX hg;have d1:=(cA f).1;have d2:=(cA g).1;have e:f*g=Alg.fr (nN f*nN g) (Alg.nD f*Alg.nD g):=by
  conv=>lhs;rw[<-fh f,<-fh g]
  exact dZ d1 d2
 have s1:=aM (nN f) (nN g);have s2:=aM (Alg.nD f) (Alg.nD g);have of:=ns hres (aD d1 d2) ((a1.mul b1).mono (by omega)) ((a2.mul b2).mono (by omega)) (by omega) (by omega) (by rw[<-e];exact h);rw[<-e]at of;exact Dj (cI a1 b1 (by omega) (by omega) (by omega) (by omega)) (cI a2 b2 (by omega) (by omega) (by omega) (by omega)) of
theorem un (hres:im) {f g:KQ} (hf:FW f) (hg:FW g) (hg0:g≠0) (h:FW (f*Alg.inv g)):Fn Tryz.prog 69 [iK f,iK g] [iK (f*Alg.inv g),iN 0]:=by
 obtain⟨a1,a2,a3,a4⟩:=dX hf;obtain⟨b1,b2,b3,b4⟩:=dX hg;have d1:=(cA f).1;have d2:=(cA g).1;have n2:nN g≠0:=fun e=>hg0 (by rw[<-fh g,e];exact(bY d2).2 rfl);have e:f*Alg.inv g=Alg.fr (nN f*Alg.nD g) (Alg.nD f*nN g):=by
  conv=>lhs;rw[<-fh f,<-fh g,wA n2 d2]
  exact dZ d1 n2
 have s1:=aM (nN f) (Alg.nD g);have s2:=aM (Alg.nD f) (nN g);have of:=ns hres (aD d1 n2) ((a1.mul b2).mono (by omega)) ((a2.mul b1).mono (by omega)) (by omega) (by omega) (by rw[<-e];exact h);rw[<-e]at of;exact Lq (cI a1 b2 (by omega) (by omega) (by omega) (by omega)) (cI a2 b1 (by omega) (by omega) (by omega) (by omega)) of
theorem vo {p q:PQ} {h k:Nat} (hp:Alg.HB h p) (hq:Alg.HB k q) (hb:h<=137438953000) (hb':k<=137438953000) (sp:Alg.sz p<=1048576):Fn Tryz.prog 138 [iUp p,iUp q] [iB (decide (p=q))]:=by
 have:=zL (U p) (U q) (by have:=cO p;omega) (HB.qb hp (by omega)) (HB.qb hq (by omega));have e:decide (U p=U q)=decide (p=q):=by
  rw[decide_eq_decide];exact⟨fun h=>by rw[<-gt p,<-gt q,h],fun h=>by rw[h]⟩
 rwa [e]at this
theorem zK (hres:im) {f g:KQ} (hf:FW f) (hg:FW g) (h:FW (f+g)):Fn Tryz.prog 64 [iK f,iK g] [iK (f+g)]:=by
 obtain⟨a1,a2,a3,a4⟩:=dX hf;obtain⟨b1,b2,b3,b4⟩:=dX hg;have d1:=(cA f).1;have d2:=(cA g).1;refine Dk ?_ ⟨_,_,rfl⟩ ⟨_,_,rfl⟩ ⟨_,_,rfl⟩;have eq:=vo a2 b2 (by omega) (by omega) (by omega);by_cases hd:Alg.nD f=Alg.nD g
 ·rw[ai hd,<-hd]at eq;have e:f+g=Alg.fr (nN f+nN g) (Alg.nD f):=by
   conv=>lhs;rw[<-fh f,<-fh g,<-hd]
   rw[fj d1 d1];exact(eC (aD d1 d1) d1).2 (ring [nN f,nN g,Alg.nD f])
  have s1:Alg.sz (nN f+nN g)<=1001:=cP a3 b3;have of:=ns hres d1 ((a1.add b1).mono (by omega)) (a2.mono (by omega)) (by omega) (by omega) (by rw[<-e];exact h);rw[<-e]at of;have:=pC eq (zF a1 b1 (by omega) (by omega) (by omega) (by omega)) of;rw[hd]at this;have e2:iF (U (nN f)) (U (Alg.nD g))=iK f:=by rw[<-hd]
  rw[e2]at this;exact this
 ·rw[aj hd]at eq;have e:f+g=Alg.fr (nN f*Alg.nD g+nN g*Alg.nD f) (Alg.nD f*Alg.nD g):=by
   conv=>lhs;rw[<-fh f,<-fh g]
   rw[fj d1 d2]
  have s1:=aM (nN f) (Alg.nD g);have s2:=aM (nN g) (Alg.nD f);have s3:=aM (Alg.nD f) (Alg.nD g);have s4:Alg.sz (nN f*Alg.nD g+nN g*Alg.nD f)<=2003:=cP (by omega) (by omega);have of:=ns hres (aD d1 d2) (((a1.mul b2).add (b1.mul a2)).mono (by omega)) ((a2.mul b2).mono (by omega)) s4 (by omega) (by rw[<-e];exact h);rw[<-e]at of;exact xg eq (cI a1 b2 (by omega) (by omega) (by omega) (by omega)) (cI b1 a2 (by omega) (by omega) (by omega) (by omega)) (zF (a1.mul b2) (b1.mul a2) (by omega) (by omega) (by omega) (by omega)) (cI a2 b2 (by omega) (by omega) (by omega) (by omega)) of
theorem IZ (hres:im) {f g:KQ} (hf:FW f) (hg:FW g) (h:FW (f-g)):Fn Tryz.prog 70 [iK f,iK g] [iK (f-g)]:=by
 obtain⟨a1,a2,a3,a4⟩:=dX hf;obtain⟨b1,b2,b3,b4⟩:=dX hg;have d1:=(cA f).1;have d2:=(cA g).1;refine Ln ?_ ⟨_,_,rfl⟩ ⟨_,_,rfl⟩ ⟨_,_,rfl⟩;have eq:=vo a2 b2 (by omega) (by omega) (by omega);by_cases hd:Alg.nD f=Alg.nD g
 ·rw[ai hd,<-hd]at eq;have e:f-g=Alg.fr (nN f-nN g) (Alg.nD f):=by
   conv=>lhs;rw[<-fh f,<-fh g,<-hd]
   rw[HN d1 d1];exact(eC (aD d1 d1) d1).2 (ring [nN f,nN g,Alg.nD f])
  have s1:Alg.sz (nN f-nN g)<=1001:=fM a3 b3;have of:=ns hres d1 ((a1.sub b1).mono (by omega)) (a2.mono (by omega)) (by omega) (by omega) (by rw[<-e];exact h);rw[<-e]at of;have:=xe eq (pu a1 b1 (by omega) (by omega) (by omega) (by omega)) of;rw[hd]at this;have e2:iF (U (nN f)) (U (Alg.nD g))=iK f:=by rw[<-hd]
  rw[e2]at this;exact this
 ·rw[aj hd]at eq;have e:f-g=Alg.fr (nN f*Alg.nD g-nN g*Alg.nD f) (Alg.nD f*Alg.nD g):=by
   conv=>lhs;rw[<-fh f,<-fh g]
   rw[HN d1 d2]
  have s1:=aM (nN f) (Alg.nD g);have s2:=aM (nN g) (Alg.nD f);have s3:=aM (Alg.nD f) (Alg.nD g);have s4:Alg.sz (nN f*Alg.nD g-nN g*Alg.nD f)<=2003:=fM (by omega) (by omega);have of:=ns hres (aD d1 d2) (((a1.mul b2).sub (b1.mul a2)).mono (by omega)) ((a2.mul b2).mono (by omega)) s4 (by omega) (by rw[<-e];exact h);rw[<-e]at of;exact xf eq (cI a1 b2 (by omega) (by omega) (by omega) (by omega)) (cI b1 a2 (by omega) (by omega) (by omega) (by omega)) (pu (a1.mul b2) (b1.mul a2) (by omega) (by omega) (by omega) (by omega)) (cI a2 b2 (by omega) (by omega) (by omega) (by omega)) of
theorem OT {f g:KQ}:f=g↔nN f=nN g/\Alg.nD f=Alg.nD g:=⟨fun h=>by rw[h];exact⟨rfl,rfl⟩,fun h=>by rw[<-fh f,<-fh g,h.1,h.2]⟩
theorem mf {f:KQ}:nN f=0↔f=0:=⟨fun h=>by rw[<-fh f,h];exact(bY (cA f).1).2 rfl,fun h=>by rw[h];exact kL.1⟩
theorem Fp (f:KQ):Fn Tryz.prog 97 [iK f] [iB (decide (f=0))]:=by
 have:=IY (U (nN f)) (U (Alg.nD f));have e:decide (U (nN f)=[])=decide (f=0):=by rw[decide_eq_decide,mF,mf]
 rwa [e]at this
theorem wj (f:KQ):nN (-f) = -nN f/\Alg.nD (-f)=Alg.nD f:=by
 obtain⟨h1,h2,h3,h4⟩:=cA f;refine oM h1 h2 (fun d hd hd'=>h3 d (by have:=hd.neg;rwa [neg_neg]at this) hd') ?_
 conv=>lhs;rw[h4]
 exact tj h1
theorem I4 {f:KQ} (hf:FW f):Fn Tryz.prog 84 [iK f] [iK (-f)]:=by
 obtain⟨a1,a2,a3,a4⟩:=dX hf;have:=Lp (U (nN f)) (U (Alg.nD f)) (by have:=cO (nN f);omega) (HB.qb a1 (by omega));rw[nl,show nN f*Alg.C (-1:Rat) = -nN f by rw[show Alg.C (-1:Rat) = -(1:PQ)from kw (1:Rat),mul_neg,mul_one],<-(wj f).1]at this;have e:iF (U (nN (-f))) (U (Alg.nD f))=iK (-f):=by rw[<-(wj f).2]
 rwa [e]at this
theorem GV (n:PQ):nN (Alg.em n)=n/\Alg.nD (Alg.em n)=1:=oM eX sS (fun _ _ h=>h) rfl
theorem LW (n:PQ):iF (U n) (U 1)=iK (Alg.em n):=by
 show _=iF (U (nN (Alg.em n))) (U (Alg.nD (Alg.em n)));rw[(GV n).1,(GV n).2]
theorem BZ (c:Rat):Fn Tryz.prog 105 [iQ c] [iK (Alg.em (Alg.C c))]:=by
 have:=Fq c;have eL:fH c=U (Alg.C c):=by
  rw[fH];split
  ·rename_i h;rw[h,show Alg.C (0:Rat)=0 from co,bQ]
  ·rename_i h;rw[U_C h]
 rw[eL,<-vn]at this;rwa [LW]at this
end Go.AM
namespace Go.AM
open Alg
open Go.Proofs
open Classical
noncomputable def kr (f:KQ):List C:=[cM (U (nN f)),cM (U (Alg.nD f))]
noncomputable abbrev kl (l:List KQ):IV := .c (.lst (l.map kr))
theorem ro (l:List KQ):lens 2 (l.map kr):=fun r hr=>by obtain⟨t,-,rfl⟩:=List.mem_map.1 hr;rfl
theorem Hl (l:List KQ):lens 2 (l.map kr)=True:=eq_true (ro l)
theorem OQ (f:KQ):kr f=[cM (U (nN f)),cM (U (Alg.nD f))]:=rfl
attribute [go_sem] Hl OQ
noncomputable abbrev kn (z:Int):KQ:=Alg.em (Alg.C (z:Rat))
theorem bW (z:Int) (h : -9223372036854775808<=z/\z<9223372036854775808):Fn Tryz.prog 63 [iN z] [iK (kn z)]:=by
 refine ao kd (fn:=Tryz.f63) (by rfl) rfl rfl rfl (by rfl) (by simp) (by rfl) ?_;simp -dsimp -implicitDefEqProofs only[go_sem];refine am (gg z h) ?_;simp -dsimp -implicitDefEqProofs only[go_sem];refine aa (BZ z) rfl ?_;simp -dsimp -implicitDefEqProofs only[go_sem]
theorem pz (f:KQ) (n:Int):Fn Tryz.prog 68 [iK f,iN n] [iK f]:=by
 refine ao kd (fn:=Tryz.f68) (by rfl) rfl rfl rfl (by rfl) (by simp) (by rfl) ?_;simp -dsimp -implicitDefEqProofs only[go_sem]
noncomputable def dh:List KQ->List KQ
 | []=>[]
 | f::l=>if dh l=[]/\f=0 then[]else f::dh l
theorem nM:∀{l:List KQ},(∀ j (h:j<l.length),l[j]=0)->dh l=[]
 | [],_=>rfl
 | f::l,h=>by
  rw[dh,if_pos ⟨nM fun j hj=>by have:=h (j+1) (by simp;omega);simpa using this,by have:=h 0 (by simp);simpa using this⟩]
theorem gz:∀{l:List KQ} {t:Nat},t<=l.length->(∀ j (h:j<l.length),t<=j->l[j]=0)->(∀ h:t-1<l.length,0<t->l[t-1]≠0)->dh l=l.take t
 | l,0,_,h,_=>by rw[nM fun j hj=>h j hj (by omega)];rfl
 | [],t+1,ht,_,_=>by simp at ht
 | f::l,t+1,ht,h,h2=>by
  have ht':t<=l.length:=by simp only[List.length_cons]at ht;omega
  cases t with
  | zero =>
   have h0:f≠0:=by have:=h2 (by simp) (by omega);simpa using this
   rw[dh,if_neg (fun h=>h0 h.2),nM fun j hj=>by have:=h (j+1) (by simp;omega) (by omega);simpa using this];rfl
  | succ t =>
   have ih:=gz (l:=l) (t:=t+1) ht' (fun j hj h3=>by have:=h (j+1) (by simp;omega) (by omega);simpa using this) (fun h3 _=>by have:=h2 (by simp;omega) (by omega);simpa using this);have hne:dh l≠[]:=by
    rw[ih];intro e;have:=congrArg List.length e;simp only[List.length_take,List.length_nil]at this;omega
   rw[dh,if_neg (fun h=>hne h.1),ih];rfl
theorem jx (l:List KQ) (hl:l.length<=1099511627776):Fn Tryz.prog 54 [kl l] [kl (dh l)]:=by
 refine ao kd (fn:=Tryz.f54) (by rfl) rfl rfl rfl (by rfl) (by simp) (by rfl) ?_;simp -dsimp -implicitDefEqProofs only[go_sem,af];refine aH [(3,3),(6,17)] [] [] (fun n τ β ε=>∃ t:Nat,n=t/\t<=l.length/\(∀ j (h:j<l.length),t<=j->l[j]=0)/\τ 3 = .i (iN t))
  (fun e τ β ε=>e = .exit 0/\∃ t:Nat,t<=l.length/\dh l=l.take t/\τ 3 = .i (iN t)) l.length ?_ ?_ ?_
 ·exact⟨l.length,rfl,ae _,fun j h h'=>by omega,rfl⟩
 ·rintro n τ β ε π hK hKB hKE ⟨t,hn,ht,hz,h3⟩;have k0:τ 0 = .i (kl l):=(hK 0 rfl).trans rfl;by_cases ht0:t=0
  ·have hA:¬ (0:Int)<(t:Int):=by omega
   simp -dsimp -implicitDefEqProofs only[go_sem,h3,hA];exact⟨(by(repeat apply ak rfl);exact hK),(by(repeat apply ak rfl);exact hKB),(by(repeat apply ak rfl);exact hKE),t,ht,gz ht hz (fun _ h=>by omega),rfl⟩
  ·have hA:(0:Int)<(t:Int):=by omega
   have et:(t:Int)-1=((t-1:Nat):Int):=by omega
   have hg:l[t-1]?=some l[t-1]:=ah (by omega);simp -dsimp -implicitDefEqProofs only[go_sem,h3,k0,hA,et]
   repeat(refine And.intro (by omega) ?_)
   refine av hg ?_;simp -dsimp -implicitDefEqProofs only[go_sem,h3,k0,hA,et];refine ar (args':=[iK l[t-1]]) rfl (Fp _) ?_;by_cases hf:l[t-1]=0
   ·have e1:decide (l[t-1]=0)=true:=ai hf;simp -dsimp -implicitDefEqProofs only[go_sem,e1,h3,et]
    repeat(refine And.intro (by omega) ?_)
    refine again (t-1) (by omega) ⟨(by(repeat apply ak rfl);exact hK),(by(repeat apply ak rfl);exact hKB),(by(repeat apply ak rfl);exact hKE),t-1,rfl,by omega,fun j hj h=>?_,rfl⟩
    by_cases e:j=t-1
    ·subst e;exact hf
    ·exact hz j hj (by omega)
   ·have e1:decide (l[t-1]=0)=false:=aj hf;simp -dsimp -implicitDefEqProofs only[go_sem,e1];exact⟨(by(repeat apply ak rfl);exact hK),(by(repeat apply ak rfl);exact hKB),(by(repeat apply ak rfl);exact hKE),t,ht,gz ht hz (fun _ _=>hf),h3⟩
 ·rintro e τ β ε π hK hKB hKE ⟨rfl,t,ht,htk,h3⟩;have k0:τ 0 = .i (kl l):=(hK 0 rfl).trans rfl;simp -dsimp -implicitDefEqProofs only[go_sem,h3,k0,af];refine⟨ht,?_⟩;rw[<-List.map_take,<-htk]
end Go.AM
namespace Go.AM
open Alg
open Go.Proofs
open Classical
def NW (rows:List (List C)) (l:List KQ):Prop:=rows.length=l.length/\∀(j:Nat) (h:j<l.length),rows[j]?=some (kr l[j])
theorem NW.eq {rows:List (List C)} {l:List KQ} (h:NW rows l):rows=l.map kr:=by
 refine List.ext_getElem? fun j=>?_;rw[List.getElem?_map];rcases Nat.lt_or_ge j l.length with hj|hj
 ·rw[h.2 j hj,ah hj];rfl
 ·rw[List.getElem?_eq_none (by rw[h.1];exact hj),List.getElem?_eq_none hj];rfl
theorem qo (hres:im) (l:List KQ) (c:KQ) (hl:l.length<=1048576) (h1:∀ f∈l,FW f) (hc:FW c) (h2:∀ f∈l,FW (f*c)):Fn Tryz.prog 52 [kl l,iK c] [kl (dh (l.map (· * c)))]:=by
 refine ao kd (fn:=Tryz.f52) (by rfl) rfl rfl rfl (by rfl) (by simp) (by rfl) ?_;simp -dsimp -implicitDefEqProofs only[go_sem,af]
 repeat(refine And.intro (by omega) ?_)
 refine aX [(6,6),(12,24)] [] [(9,9)] (fun n τ β ε=>∃(i:Nat) (rows:List (List C)),n=l.length-i/\i<=l.length/\τ 12 = .i (iN i)/\ε 9=⟨1,2,rows,true,true⟩/\rows.length=l.length/\(∀ r∈rows,r.length=2)/\∀(j:Nat) (h:j<l.length),j<i->rows[j]?=some (kr (l[j]*c)))
  (fun e τ β ε=>e = .exit 0/\ε 9=⟨1,2,(l.map (· * c)).map kr,true,true⟩) l.length ?_ ?_ ?_
 ·exact⟨0,_,by omega,by omega,rfl,rfl,by simp,fun r hr=>by rw[List.eq_of_mem_replicate hr];rfl,fun j h h'=>by omega⟩
 ·rintro n τ β ε π hK hKB hKE ⟨i,rows,hn,hi,h12,h9,hlen,hr2,hrows⟩;have k0:τ 0 = .i (kl l):=(hK 0 rfl).trans rfl;have k11:τ 11 = .i (iN l.length):=(hK 11 rfl).trans rfl;have k5:τ 5 = .sl 9 1 l.length:=(hK 5 rfl).trans rfl;have k3:τ 3 = .bp 3 1 0:=(hK 3 rfl).trans rfl;have b3:β 3=⟨1,kr c⟩:=(hKB 3 rfl).trans rfl;by_cases hlt:i<l.length
  ·have hA:(i:Int)<(l.length:Int):=by omega
   have hg:l[i]?=some l[i]:=ah hlt;have hr:∃ r,rows[i]?=some r:=⟨_,ah (by omega)⟩;obtain⟨r,hr⟩:=hr;have hrl:=hr2 r (List.mem_of_getElem? hr);simp -dsimp -implicitDefEqProofs only[go_sem,h12,k11,hA];refine an (by rfl) 9 [] false true (by rfl) (by rfl) (by decide +kernel) ?_;simp -dsimp -implicitDefEqProofs only[go_sem,h12,k0,k5,k3,b3,h9];refine av hg ?_;simp -dsimp -implicitDefEqProofs only[go_sem,h12,k0,k5,k3,b3,h9];refine ar (args':=[iK l[i],iK c]) rfl (jy hres (h1 _ (List.getElem_mem _)) hc (h2 _ (List.getElem_mem _))) ?_;simp -dsimp -implicitDefEqProofs only[go_sem,h12,k0,k5,k3,b3,h9];refine⟨hlt,r,hr,?_⟩;simp -dsimp -implicitDefEqProofs only[go_sem,hrl]
   repeat(refine And.intro (by omega) ?_)
   refine again (l.length-(i+1)) (by omega) ⟨(by(repeat apply ak rfl);exact hK),(by(repeat apply ak rfl);exact hKB),(by(repeat apply ak rfl);exact hKE),i+1,rows.set i (kr (l[i]*c)),rfl,by omega,rfl,?_,by simp[hlen],?_,?_⟩
   ·simp -dsimp -implicitDefEqProofs only[go_sem];rw[List.drop_eq_nil_of_le (by omega)]
   ·intro r' hr';rcases List.mem_or_eq_of_mem_set hr' with h|h
    ·exact hr2 r' h
    ·rw[h];rfl
   ·intro j hj hji;rw[List.getElem?_set];by_cases e:i=j
    ·subst e;rw[if_pos rfl,if_pos (by omega)];rfl
    ·rw[if_neg e];exact hrows j hj (by omega)
  ·have hA:¬ (i:Int)<(l.length:Int):=by omega
   obtain rfl:i=l.length:=by omega
   simp -dsimp -implicitDefEqProofs only[go_sem,h12,k11,hA];refine⟨(by(repeat apply ak rfl);exact hK),(by(repeat apply ak rfl);exact hKB),(by(repeat apply ak rfl);exact hKE),?_⟩
   have hR:NW rows (l.map (· * c)):=⟨by simp[hlen],fun j hj=>by
    simp only[af]at hj;rw[hrows j hj hj];simp⟩
   rw[h9,hR.eq]
 ·rintro e τ β ε π hK hKB hKE ⟨rfl,h9⟩;refine⟨_,aY.refl _,?_⟩;have k5:τ 5 = .sl 9 1 l.length:=(hK 5 rfl).trans rfl;simp -dsimp -implicitDefEqProofs only[go_sem,k5,h9];rw[List.take_of_length_le (by simp)];refine ar (args':=[kl (l.map (· * c))]) rfl (jx _ (by simp;omega)) ?_;simp -dsimp -implicitDefEqProofs only[go_sem]
end Go.AM
namespace Go.AM
open Alg
open Go.Proofs
open Classical
noncomputable def jV (a b:List KQ) (i:Nat):List KQ:=(List.range a.length).map fun j=>if j<i then a.getD j 0+b.getD j 0 else a.getD j 0
noncomputable def zc (a b:List KQ):List KQ:=if a.length<b.length then dh (jV b a a.length)else dh (jV a b b.length)
theorem zd (a b:List KQ) (i:Nat):(jV a b i).length=a.length:=by simp[jV]
theorem E6 (a b:List KQ):jV a b 0=a:=by
 refine List.ext_getElem (zd ..) fun j h1 h2=>?_;simp[jV,List.getD,h2]
theorem E7 {a b:List KQ} {i:Nat} (hi:i<b.length) (hle:b.length<=a.length):(jV a b i).set i (a[i]+b[i])=jV a b (i+1):=by
 refine List.ext_getElem (by simp[jV]) fun j h1 h2=>?_;rw[List.getElem_set];simp only[jV,List.getElem_map,List.getElem_range];by_cases e:i=j
 ·subst e;have h3:i<a.length:=by omega
  rw[if_pos rfl,if_pos (by omega)];simp[List.getD,h3,hi]
 ·rw[if_neg e];by_cases h:j<i
  ·rw[if_pos h,if_pos (by omega)]
  ·rw[if_neg h,if_neg (by omega)]
set_option maxHeartbeats 1000000 in
theorem Di (hres:im) (a b:List KQ) (la:a.length<=1048576) (lb:b.length<=1048576) (h1:∀ f∈a,FW f) (h2:∀ f∈b,FW f) (h3:∀ f∈a,∀ g∈b,FW (f+g)):Fn Tryz.prog 16 [kl a,kl b] [kl (zc a b)]:=by
 refine ao kd (fn:=Tryz.f16) (by rfl) rfl rfl rfl (by rfl) (by simp) (by rfl) ?_;simp -dsimp -implicitDefEqProofs only[go_sem,af];by_cases hlt:a.length<b.length
 case' pos =>
  have e1:decide ((a.length:Int)<(b.length:Int))=true:=ai (by omega);obtain⟨x,y,lx,hle,k1,k2,k3,hE,h0,h0'⟩:∃ x y:List KQ,x.length<=1048576/\y.length<=x.length/\(∀ f∈x,FW f)/\(∀ f∈y,FW f)/\(∀ f∈x,∀ g∈y,FW (f+g))/\zc a b=dh (jV x y y.length)/\kl b=kl x/\kl a=kl y :=
   ⟨b,a,lb,by omega,h2,h1,fun f hf g hg=>by rw[add_comm];exact h3 g hg f hf,by rw[zc,if_pos hlt],rfl,rfl⟩
  simp -dsimp -implicitDefEqProofs only[go_sem,e1];rw[h0,h0',hE]
 case' neg =>
  have e1:decide ((a.length:Int)<(b.length:Int))=false:=aj (by omega);obtain⟨x,y,lx,hle,k1,k2,k3,hE,h0,h0'⟩:∃ x y:List KQ,x.length<=1048576/\y.length<=x.length/\(∀ f∈x,FW f)/\(∀ f∈y,FW f)/\(∀ f∈x,∀ g∈y,FW (f+g))/\zc a b=dh (jV x y y.length)/\kl a=kl x/\kl b=kl y :=
   ⟨a,b,la,by omega,h1,h2,h3,by rw[zc,if_neg hlt],rfl,rfl⟩
  simp -dsimp -implicitDefEqProofs only[go_sem,e1];rw[h0,h0',hE]
 all_goals
  clear h0 h0' hE e1 hlt;refine bO (oj (x.map kr) (ro x) (by simp;omega)) ?_;simp -dsimp -implicitDefEqProofs only[go_sem,af];refine aX [(6,7),(19,33)] [(7,7)] [(16,16)] (fun n τ β ε=>∃ i:Nat,n=y.length-i/\i<=y.length/\τ 19 = .i (iN i)/\ε 16=⟨1,2,(jV x y i).map kr,!x.isEmpty,true⟩)
   (fun e τ β ε=>e = .exit 0/\ε 16=⟨1,2,(jV x y y.length).map kr,!x.isEmpty,true⟩) y.length ?_ ?_ ?_
  ·exact⟨0,by omega,by omega,rfl,by simp -dsimp -implicitDefEqProofs only[go_sem,E6];simp⟩
  ·rintro n τ β ε π hK hKB hKE ⟨i,hn,hi,h19,h16⟩;have k17:τ 17 = .i (kl y):=(hK 17 rfl).trans rfl;have k18:τ 18 = .i (iN y.length):=by rw[hK 18 (by decide)];simp -dsimp -implicitDefEqProofs only[go_sem,af]
   have k5:τ 5 = .sl 16 1 x.length:=by rw[hK 5 (by decide)];simp -dsimp -implicitDefEqProofs only[go_sem,af]
   by_cases hlt:i<y.length
   ·have hA:(i:Int)<(y.length:Int):=by omega
    have hix:i<x.length:=by omega
    have hg:y[i]?=some y[i]:=ah hlt;have hgx:(jV x y i)[i]?=some x[i]:=by simp[jV,hix,List.getD]
    have hm:(!x.isEmpty)=true:=by cases hxc:x with|nil=>rw[hxc]at hix;simp at hix|cons _ _=>rfl
    simp -dsimp -implicitDefEqProofs only[go_sem,h19,k18,k17,hA];refine av hg ?_;simp -dsimp -implicitDefEqProofs only[go_sem,h19,k18,k17,k5,hA];refine an (by rfl) 9 [] false true (by rfl) (by rfl) (by decide +kernel) ?_;simp -dsimp -implicitDefEqProofs only[go_sem,h19,k18,k17,k5,h16,hm];refine⟨hix,av hgx ?_⟩;simp -dsimp -implicitDefEqProofs only[go_sem,h19,k18,k17,k5,h16,hm];refine ar (args':=[iK x[i],iK y[i]]) rfl (zK hres (k1 _ (List.getElem_mem _)) (k2 _ (List.getElem_mem _)) (k3 _ (List.getElem_mem _) _ (List.getElem_mem _))) ?_;simp -dsimp -implicitDefEqProofs only[go_sem,h19,k18,k17,k5,h16,hm];refine⟨hix,av hgx ?_⟩;simp -dsimp -implicitDefEqProofs only[go_sem,h19]
    repeat(refine And.intro (by omega) ?_)
    refine again (y.length-(i+1)) (by omega) ⟨(by(repeat apply ak rfl);exact hK),(by(repeat apply ak rfl);exact hKB),(by(repeat apply ak rfl);exact hKE),i+1,rfl,by omega,rfl,?_⟩
    simp -dsimp -implicitDefEqProofs only[go_sem,h16,hm];rw[<-E7 hlt hle,List.map_set];rfl
   ·have hA:¬ (i:Int)<(y.length:Int):=by omega
    obtain rfl:i=y.length:=by omega
    simp -dsimp -implicitDefEqProofs only[go_sem,h19,k18,hA];exact⟨(by(repeat apply ak rfl);exact hK),(by(repeat apply ak rfl);exact hKB),(by(repeat apply ak rfl);exact hKE),h16⟩
  ·rintro e τ β ε π hK hKB hKE ⟨rfl,h16⟩;have k5:τ 5 = .sl 16 1 x.length:=by rw[hK 5 (by decide)];simp -dsimp -implicitDefEqProofs only[go_sem,af]
   refine⟨_,aY.refl _,?_⟩;simp -dsimp -implicitDefEqProofs only[go_sem,k5,h16];rw[List.take_of_length_le (by simp[jV])];refine ar (args':=[kl (jV x y y.length)]) rfl (jx _ (by rw[zd];omega)) ?_;simp -dsimp -implicitDefEqProofs only[go_sem]
theorem Lf (hres:im) (a b:List KQ) (la:a.length<=1048576) (lb:b.length<=1048576) (h1:∀ f∈a,FW f) (h2:∀ f∈b,FW f) (h0:FW (kn (-1))) (h2':∀ f∈b,FW (f*kn (-1))) (h3:∀ f∈a,∀ g∈dh (b.map (· * kn (-1))),FW (f+g)) (h4:∀ g∈dh (b.map (· * kn (-1))),FW g) (h5:(dh (b.map (· * kn (-1)))).length<=1048576) :
  Fn Tryz.prog 50 [kl a,kl b] [kl (zc a (dh (b.map (· * kn (-1)))))]:=by
 refine ao kd (fn:=Tryz.f50) (by rfl) rfl rfl rfl (by rfl) (by simp) (by rfl) ?_;simp -dsimp -implicitDefEqProofs only[go_sem];refine am (bW (-1) (by decide)) ?_;simp -dsimp -implicitDefEqProofs only[go_sem];refine aa (qo hres b (kn (-1)) lb h2 h0 h2') rfl ?_;simp -dsimp -implicitDefEqProofs only[go_sem];refine ar (args':=[kl a,kl (dh (b.map (· * kn (-1))))]) rfl (Di hres a _ la h5 h1 h4 h3) ?_;simp -dsimp -implicitDefEqProofs only[go_sem]
end Go.AM
namespace Go.AM
open Alg
open Go.Proofs
open Classical
theorem BW:Fn Tryz.prog 53 [kl []] [kl []]:=by
 have e:decide (((0:Nat):Int)=0)=true:=rfl;refine ao kd (fn:=Tryz.f53) (by rfl) rfl rfl rfl (by rfl) (by simp) (by rfl) ?_;simp -dsimp -implicitDefEqProofs only[go_sem,af,e];rfl
theorem Fo (hres:im) (l:List KQ) (hl0:0<l.length) (hl:l.length<=1048576) (c:KQ) (hc:c=kn 1*Alg.inv l[l.length-1]) (hz:l[l.length-1]≠0) (h1:∀ f∈l,FW f) (h0:FW (kn 1)) (hcw:FW c) (h2:∀ f∈l,FW (f*c)) :
  Fn Tryz.prog 53 [kl l] [kl (dh (l.map (· * c)))]:=by
 have e:decide ((l.length:Int)=0)=false:=aj (by omega);have el:(l.length:Int)-1=((l.length-1:Nat):Int):=by omega
 have hg:l[l.length-1]?=some l[l.length-1]:=ah (by omega);refine ao kd (fn:=Tryz.f53) (by rfl) rfl rfl rfl (by rfl) (by simp) (by rfl) ?_;simp -dsimp -implicitDefEqProofs only[go_sem,af,e];refine an (by rfl) 14 [] false true (by rfl) (by rfl) (by decide +kernel) ?_;simp -dsimp -implicitDefEqProofs only[go_sem];refine am (bW 1 (by decide)) ?_;simp -dsimp -implicitDefEqProofs only[go_sem,af,el]
 repeat(refine And.intro (by omega) ?_)
 refine av hg ?_;simp -dsimp -implicitDefEqProofs only[go_sem];refine ar (args':=[iK (kn 1),iK l[l.length-1]]) rfl (un hres h0 (h1 _ (List.getElem_mem _)) hz (by rw[<-hc];exact hcw)) ?_;rw[<-hc];simp -dsimp -implicitDefEqProofs only[go_sem];refine aa (pz c 0) rfl ?_;simp -dsimp -implicitDefEqProofs only[go_sem];refine aa (qo hres l c hl h1 hcw h2) rfl ?_;simp -dsimp -implicitDefEqProofs only[go_sem]
end Go.AM
namespace Go.AM
open Go.Proofs
open Classical
end Go.AM
namespace Go.AM
open Alg
open Go.Proofs
open Classical
noncomputable def mv (a:List KQ) (i:Nat):List KQ:=(List.range (i-1)).map fun j:Nat=>kn ((j+1:Nat):Int)*a.getD (j+1) 0
theorem EY (a:List KQ) {i:Nat} (h1:1<=i) (h:i<a.length):mv a (i+1)=mv a i++[kn (i:Int)*a[i]]:=by
 obtain⟨k,rfl⟩:∃ k,i=k+1:=⟨i-1,by omega⟩;rw[mv,mv,show k+1+1-1=k+1 from rfl,show k+1-1=k from rfl,List.range_succ,List.map_append];congr 1;simp[List.getD,h]
theorem IQ (hres:im) (a:List KQ) (la:a.length<=1048576) (h1:∀ f∈a,FW f) (h2:∀ i:Nat,i<a.length->FW (kn (i:Int))) (h3:∀(i:Nat) (h:i<a.length),FW (kn (i:Int)*a[i])):Fn Tryz.prog 17 [kl a] [kl (mv a a.length)]:=by
 refine ao kd (fn:=Tryz.f17) (by rfl) rfl rfl rfl (by rfl) (by simp) (by rfl) ?_;simp -dsimp -implicitDefEqProofs only[go_sem];refine cC 3 3 2 (rs:=[]) rfl (by simp) ?_;refine aX [(3,20)] [] [(20,20),(3,3)] (fun n τ β ε=>∃ i:Nat,n=a.length-i/\1<=i/\(i<=a.length\/i=1)/\τ 4 = .i (iN i)/\Own 2 ((mv a i).map kr) 3 3 τ ε)
  (fun e τ β ε=>e = .exit 0/\Own 2 ((mv a a.length).map kr) 3 3 τ ε) (a.length-1) ?_ ?_ ?_
 ·exact⟨1,by omega,by omega,.inr rfl,rfl,Own.mk (g:=1) (mm:=false) (len:=0) (by omega) rfl rfl rfl⟩
 ·rintro n τ β ε π hK hKB hKE ⟨i,hn,hi1,hi,h4,g,mm,hg,h3',hrow⟩;have k0:τ 0 = .i (kl a):=(hK 0 rfl).trans rfl;by_cases hlt:i<a.length
  ·have hA:(i:Int)<(a.length:Int):=by omega
   have hga:a[i]?=some a[i]:=ah hlt;simp -dsimp -implicitDefEqProofs only[go_sem,h4,k0,hA,af];refine an (by rfl) 11 [] true false (by rfl) (by rfl) (by decide +kernel) ?_;simp -dsimp -implicitDefEqProofs only[go_sem,h4,k0,h3',hrow];refine am (bW i (by omega)) ?_;simp -dsimp -implicitDefEqProofs only[go_sem,h4,k0,h3',hrow];refine av hga ?_;simp -dsimp -implicitDefEqProofs only[go_sem,h4,k0,h3',hrow];refine ar (args':=[iK (kn (i:Int)),iK a[i]]) rfl (jy hres (h2 i hlt) (h1 _ (List.getElem_mem _)) (h3 i hlt)) ?_;simp -dsimp -implicitDefEqProofs only[go_sem,h4,k0,h3',hrow,hg];have hdl:(mv a i).length=i-1:=by simp[mv]
   repeat(refine And.intro (by omega) ?_)
   refine aJ (a.length-(i+1)) 3 20 3 (by omega) rfl rfl (by omega) (by decide) ⟨(by(repeat apply ak rfl);exact hK),(by(repeat apply ak rfl);exact hKB),(by(repeat apply ak rfl);exact hKE),i+1,rfl,by omega,.inl (by omega),rfl,?_⟩
   exact Own.mk2 (Nat.succ_pos _) (by simp -dsimp -implicitDefEqProofs only[go_sem];rfl) (by simp -dsimp -implicitDefEqProofs only[go_sem];rfl) (by simp) (by rw[EY a hi1 hlt];simp;rfl)
  ·have hA:¬ (i:Int)<(a.length:Int):=by omega
   have hd:mv a i=mv a a.length:=by
    rcases hi with h|h
    ·rw[show i=a.length by omega]
    ·unfold mv;rw[show i-1=a.length-1 by omega]
   simp -dsimp -implicitDefEqProofs only[go_sem,h4,k0,hA,af];rw[<-hd];exact⟨(by(repeat apply ak rfl);exact hK),(by(repeat apply ak rfl);exact hKB),(by(repeat apply ak rfl);exact hKE),Own.mk hg h3' rfl hrow⟩
 ·rintro e τ β ε π hK hKB hKE ⟨rfl,g,mm,hg,h3',hrow⟩;refine⟨_,aY.refl _,?_⟩;simp -dsimp -implicitDefEqProofs only[go_sem,h3',hrow,hg]
end Go.AM
