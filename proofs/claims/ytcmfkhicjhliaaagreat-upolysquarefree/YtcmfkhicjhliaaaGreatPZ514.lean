/- Lemmas, part 15 of 23. No condition. -/
import Derived.Test.YtcmfkhicjhliaaaGreatPZ513
set_option maxRecDepth 65536
set_option linter.unusedSimpArgs false
set_option linter.unusedVariables false
set_option linter.unusedSectionVars false
namespace Go.AM
open Alg
open Go.Proofs
open Classical
def fJ (p:PQ):Prop:=uM p/\rq (lc p)≠0
theorem uI {p:PQ} (h:rq (lc p)≠0):TrZ (fD p):=fun h0=>by
 have e:(fD p)[(fD p).length-1]=rq (p.c ((fD p).length-1)):=by simp[fD]
 rw[e,eh];exact h
theorem jI {p:PQ} (h:fJ p):rE p=[zl (fD p),iB true]:=by rw[rE,if_pos h.1,aF h.2]
theorem lG {p:PQ} (h:¬ fJ p):∃ L:List Zp,rE p=[zl L,iB false]:=by
 by_cases hg:uM p
 ·exact⟨fD p,by rw[rE,if_pos hg,aG (fun h2=>h ⟨hg,h2⟩)]⟩
 ·exact⟨[],by rw[rE,if_neg hg];rfl⟩
theorem Br (p:PQ) (i:Nat):(zp (fD p)).c i=rq (p.c i):=by
 rcases Nat.lt_or_ge i (aa p)with h|h
 ·rw[mO (by rw[eh];exact h)];simp[fD]
 ·rw[pH (by rw[eh];exact h),aO h,rq];exact(zero_mul _).symm
noncomputable def bnd (p q:PQ):Int:=if fJ p/\fJ q then(aa (qm (fD p) (fD q)):Int)-1 else min ((aa p:Int)-1) ((aa q:Int)-1)
theorem Ez {p q:PQ} (hp:2<=aa p) (hq:2<=aa q) (h:bnd p q=0):Cop p q:=by
 rw[bnd]at h;split at h
 ·rename_i hg;have hp0:p≠0:=fun e=>by rw[e,aM.2 rfl]at hp;omega
  refine LD hp0 hg.1.1 (Br p) (by rw[Br];exact hg.1.2) hg.2.1 (Br q) fun g hg1 hg2=>?_;have hd:Dv g (qm (fD p) (fD q)):=by
   rw[qm];split
   ·exact CI _ hg2 hg1
   ·exact CI _ hg1 hg2
  have hne:qm (fD p) (fD q)≠0:=by
   have hz:∀ x:PQ,fJ x->2<=aa x->zp (fD x)≠0:=fun x hx h2 e=>by
    have:=kY (uI hx.2);rw[e,aM.2 rfl,eh]at this;omega
   rw[qm];split
   ·exact CH _ (hz q hg.2 hq)
   ·exact CH _ (hz p hg.1 hp)
  obtain⟨c,hc⟩:=hd;have hc0:c≠0:=fun e=>hne (by rw[hc,e,mul_zero]);have hg0:g≠0:=fun e=>hne (by rw[hc,e,zero_mul]);have h1:=dz hg0 hc0;rw[<-hc]at h1;have:=aR hc0;have:=aR hg0;omega
 ·omega
theorem G7 (hres:jq) {p q:PQ} {h k:Nat} (hp:am h p) (hq:am k q) (hb:h<=137438953000) (hb':k<=137438953000) (hp0:p≠0) (hq0:q≠0) (sp:aa p<=1048576) (sq:aa q<=1048576):Fn Tryz.prog 215 [iUp p,iUp q,iN 0] [iN (bnd p q)]:=by
 have hp1:=aR hp0;have hq1:=aR hq0;refine aJ (fn:=Tryz.f215) ?_;simp -dsimp only[go_sem];refine a8 [(6,40)] [] [] (fun n τ β ε=>∃ i:Nat,n=3-i/\i<=3/\τ 12 = .i (.c (.v (.int .u64 (i:Int))))/\(1<=i->¬ (fJ p/\fJ q)))
  (fun e τ β ε=>(e = .exit 0/\¬ (fJ p/\fJ q))\/(e = .ret/\τ 6 = .i (iN (bnd p q)))) 3 ?_ ?_ ?_
 ·exact⟨0,aw,aw,rfl,fun h=>by omega⟩
 ·rintro n τ β ε π hK hKB hKE ⟨i,hn,hi,h12,hbad⟩;have k0:τ 0 = .i (iUp p):=(hK 0 rfl).trans rfl;have k1:τ 1 = .i (iUp q):=(hK 1 rfl).trans rfl;have k2:τ 2 = .i (iN 0):=(hK 2 rfl).trans rfl;by_cases hlt:i<3
  ·have hA:(i:Int)<3:=aw;have ea:((17:Int)+100*(i:Int) % 18446744073709551616) % 18446744073709551616=((17+100*i:Nat):Int):=aw;simp -dsimp only[go_sem,h12,k0,k1,k2,hA,ea];refine aK (rR hres hp hb hp0 sp (17+100*i) aw) ?_;by_cases g1:fJ p
   ·rw[jI g1];simp -dsimp only[go_sem,k1,k2,ea];refine aK (rR hres hq hb' hq0 sq (17+100*i) aw) ?_;by_cases g2:fJ q
    ·rw[jI g2];have hx:fD p≠[]:=fun e=>by have:=congrArg List.length e;rw[eh]at this;simp at this;omega
     have hy:fD q≠[]:=fun e=>by have:=congrArg List.length e;rw[eh]at this;simp at this;omega
     simp -dsimp only[go_sem];refine ao (FM hx hy (uI g1.2) (uI g2.2) (by rw[eh];exact sp) (by rw[eh];exact sq)) rfl ?_;simp -dsimp only[go_sem];refine⟨(aA hK),hKB,hKE,?_⟩;rw[bnd,if_pos ⟨g1,g2⟩]
    ·obtain⟨L,hL⟩:=lG g2;rw[hL];simp -dsimp only[go_sem,h12];exact again (3-(i+1)) aw ⟨(aA hK),hKB,hKE,i+1,rfl,aw,by simp -dsimp only[go_sem];refine congrArg (fun z=>AV.i (.c (.v (.int .u64 z)))) ?_;omega,fun _ h=>g2 h.2⟩
   ·obtain⟨L,hL⟩:=lG g1;rw[hL];simp -dsimp only[go_sem,k1,k2,ea];refine aK (rR hres hq hb' hq0 sq (17+100*i) aw) ?_;obtain⟨M,b,hM⟩:∃(M:List Zp) (b:Bool),rE q=[zl M,iB b]:=by
     by_cases g2:fJ q
     ·exact⟨_,_,jI g2⟩
     ·obtain⟨M,hM⟩:=lG g2;exact⟨M,_,hM⟩
    rw[hM];simp -dsimp only[go_sem,h12];exact again (3-(i+1)) aw ⟨(aA hK),hKB,hKE,i+1,rfl,aw,by simp -dsimp only[go_sem];refine congrArg (fun z=>AV.i (.c (.v (.int .u64 z)))) ?_;omega,fun _ h=>g1 h.1⟩
  ·have hA:¬ (i:Int)<3:=aw;simp -dsimp only[go_sem,h12,hA];exact⟨(aA hK),hKB,hKE,hbad aw⟩
 ·rintro e τ β ε π hK hKB hKE h;rcases h with⟨rfl,hbad⟩|⟨rfl,h6⟩
  ·have k0:τ 0 = .i (iUp p):=(hK 0 rfl).trans rfl;have k1:τ 1 = .i (iUp q):=(hK 1 rfl).trans rfl;have k2:τ 2 = .i (iN 0):=(hK 2 rfl).trans rfl;simp -dsimp only[go_sem,k0,k1,k2];refine aK (ik p sp) ?_;simp -dsimp only[go_sem,k1,k2];refine aK (ik q sq) ?_;simp -dsimp only[go_sem];rw[bnd,if_neg hbad]
  ·simp -dsimp only[go_sem,h6]
def Sm (w:Nat) (n d:PQ):Prop:=∃ A B:Alg.P Int,A≠0/\B≠0/\n*toQ B=d*toQ A/\aa A<=w+1/\Alg.n1 A<=2 ^ w/\aa B<=w+1/\Alg.n1 B<=2 ^ w
theorem Sm.symm {w:Nat} {n d:PQ} (h:Sm w n d):Sm w d n:=by
 obtain⟨A,B,h1,h2,h3,h4,h5,h6,h7⟩:=h;exact⟨B,A,h2,h1,h3.symm,h6,h7,h4,h5⟩
noncomputable def mc:Nat->PQ->PQ->PQ
 | 0,_,q=>q
 | k+1,p,q=>if psr q (aa p) p=0 then q else if aa (psr q (aa p) p)=1 then 1 else mc k q (ag (psr q (aa p) p))
def Bo (n d p q:PQ):Prop:=(p=n/\q=d)\/∃ s t s' t',Row n d p s t q s' t'
theorem xH {n d p q:PQ} {k:Nat} (hk':am k p) (hk:am k q) (hc:Bo n d p q) (hq:q≠0) (hle:aa q<=aa p) :
  (∃ s t s' t',Row n d q s t (psr q (aa p) p) s' t')/\aa (psr q (aa p) p)<aa q/\(∃(c:Rat) (S:PQ),c≠0/\an c*p=S*q+psr q (aa p) p)/\am (k+aa p*(k+1)) (psr q (aa p) p):=by
 obtain⟨_,h2,_,h4,c,S,h5,h6⟩:=nx hq hk (aa p) p k (ay _) hk';refine⟨?_,h2 hle,⟨c,S,h5,h6⟩,h4⟩;rcases hc with⟨rfl,rfl⟩|⟨s,t,s',t',row⟩
 ·exact⟨_,_,_,_,Row.first h5 hq hle h6 (h2 hle)⟩
 ·exact⟨_,_,_,_,row.next h5 hq h6 (h2 hle)⟩
theorem nH {g p q r S:PQ} {c:Rat} (hc:c≠0) (e:an c*p=S*q+r) (h:IsG g q r):IsG g p q:=by
 have back:∀ x:PQ,Dv x (an c*p)->Dv x p:=fun x hx=>by
  have:=hx.mul_left (an (Alg.inv c));rwa [<-mul_assoc,<-bC,cA hc,bP,one_mul]at this
 refine⟨back g (e ▸ (h.1.mul_left S).add h.2.1),h.1,fun x hx hx'=>h.2.2 x hx' ?_⟩;have h1:Dv x (S*q+r):=e ▸ hx.mul_left (an c);exact h1.of_add (hx'.mul_left S)
theorem uE {g q r:PQ} (hr:r≠0) (h:IsG g q (ag r)):IsG g q r:=by
 have e:an (lc r)*ag r=r:=by
  rw[ag,<-mul_assoc,<-bC,mul_inv (bN hr),bP,one_mul]
 exact⟨h.1,by rw[<-e];exact h.2.1.mul_left _,fun x hx hx'=>h.2.2 x hx (by rw[ag];exact hx'.mul_left _)⟩
theorem qv {n d q r s t s' t':PQ} (hr:r≠0) (row:Row n d q s t r s' t'):Bo n d q (ag r):=by
 have:=row.scale (a:=(1:Rat)) (b:=Alg.inv (lc r)) aH (fC (bN hr));rw[bP,one_mul,one_mul,one_mul]at this;exact .inr ⟨_,_,_,_,this⟩
theorem s5 {n d q r s t s' t':PQ} {w h:Nat} (row:Row n d q s t r s' t') (hs:Sm w n d) (hn:am h n) (hd:am h d):am (2*(ah w+h)+1) (ag r):=by
 obtain⟨A,B,h1,h2,h3,h4,h5,h6,h7⟩:=hs;exact row.size h2 h3 h4 h5 h6 h7 hn hd
theorem qW {n d:PQ} {w h:Nat} (hs:Sm w n d) (hn:am h n) (hd:am h d):∀(k:Nat) {p q:PQ},aa q<=k->q≠0->aa q<=aa p->Bo n d p q->am (2*(ah w+h)+1) p->am (2*(ah w+h)+1) q ->
  IsG (mc k p q) p q/\am (2*(ah w+h)+1) (mc k p q)/\aa (mc k p q)<=aa q/\mc k p q≠0
 | 0,p,q,hk,hq,_,_,_,_=>by have:=aR hq;omega
 | k+1,p,q,hk,hq,hle,hc,hp',hq'=>by
  have hq1:=aR hq;obtain⟨⟨s,t,s',t',row⟩,hlt,⟨c,S,hc0,e⟩,_⟩:=xH hp' hq' hc hq hle;simp only[mc];by_cases h0:psr q (aa p) p=0
  ·rw[if_pos h0];rw[h0]at e;exact⟨nH hc0 e ⟨Dv.refl _,Dv.zero _,fun x hx _=>hx⟩,hq',ay _,hq⟩
  ·rw[if_neg h0];have h1:=aR h0;by_cases h2:aa (psr q (aa p) p)=1
   ·rw[if_pos h2];have h3:=dS (Nat.le_of_eq h2);have h4:(psr q (aa p) p).c 0≠0:=fun e9=>by
     rw[e9,show an (0:Rat)=0 from cC]at h3;exact h0 h3
    have h5:Dv (psr q (aa p) p) (1:PQ):=⟨an (Alg.inv ((psr q (aa p) p).c 0)),by rw[h3];simp only[nV];rw[<-bC,mul_inv h4];rfl⟩;refine⟨nH hc0 e ⟨Dv.one _,Dv.one _,fun x _ hx=>hx.trans h5⟩,?_,?_,d9 (R:=Rat) aH⟩
    ·have:=am.mon (h:=2*(ah w+h)+1) 0 (c:=1) (by have:=gz (2*(ah w+h)+1);show 1<=_;omega) (by have:=gz (2*(ah w+h)+1);show 1<=_;omega);rwa [du]at this
    ·have:aa (1:PQ)=1:=jf (R:=Rat) aH;omega
   ·rw[if_neg h2];have hm:ag (psr q (aa p) p)≠0:=jn h0;obtain⟨i1,i2,i3,i4⟩:=qW hs hn hd k (p:=q) (q:=ag (psr q (aa p) p)) (by rw[fV];omega) hm (by rw[fV];omega) (qv h0 row) hq' (s5 row hs hn hd);refine⟨nH hc0 e (uE h0 i1),i2,?_,i4⟩;rw[fV]at i3;omega
theorem qX:∀(k m:Nat) (p q:PQ),aa q<=k->k<=m->q≠0->aa q<=aa p->(∃ j,am j p/\am j q)->mc m p q=mc k p q
 | 0,m,p,q,h,_,hq,_,_=>by have:=aR hq;omega
 | k+1,m,p,q,h,hm,hq,hle,⟨j,hj,hj'⟩=>by
  obtain⟨m,rfl⟩:∃ x,m=x+1:=⟨m-1,aw⟩;obtain⟨_,h2,_,h4,_⟩:=nx hq hj' (aa p) p j (ay _) hj;have hlt:=h2 hle;simp only[mc];split
  ·rfl
  ·rename_i h0;split
   ·rfl
   ·exact qX k m q (ag (psr q (aa p) p)) (by rw[fV];omega) aw (jn h0) (by rw[fV];omega) ⟨j+aa p*(j+1),hj'.mono aw,h4.mo⟩
noncomputable def pa (a b:PQ):PQ:=if bnd a b=0 then 1 else if Dv b a/\bnd a b=(aa b:Int)-1 then b else mc (aa b) a b
noncomputable def qV (n d:PQ):PQ:=if aa n<aa d then pa d n else pa n d
theorem CP (a b:PQ) (hb:b≠0):(∃ s,Dv b a/\u4 a b=[iUp s,iB true])\/(¬ Dv b a/\u4 a b=[iM [],iB false]):=by
 by_cases h:Dv b a
 ·obtain⟨s,hs⟩:=h;exact .inl ⟨s,⟨s,hs⟩,gY hb (by rw[hs,mul_comm])⟩
 ·exact .inr ⟨h,by rw[u4,dif_neg h]⟩
set_option maxHeartbeats 1600000 in
theorem MW (hres:jq) {n d:PQ} {w h N:Nat} (hs:Sm w n d) (hn:am h n) (hd:am h d) (sn:2<=aa n) (sd:2<=aa d) (tn:aa n<=N) (td:aa d<=N) (hN:N<=500000)
  (hb:(2*(ah w+h)+1)+(N+2)*((2*(ah w+h)+1)+1)+(2*(ah w+h)+1)<=68719476000):Fn Tryz.prog 193 [iUp n,iUp d,iN 0] [iUp (qV n d)]:=by
 refine aJ (fn:=Tryz.f193) ?_;simp -dsimp only[go_sem];refine aK (ik n aw) ?_;simp -dsimp only[go_sem];refine aK (ik d aw) ?_;by_cases hlt:aa n<aa d
 case' pos =>
  have e1:decide (((aa n:Int)-1)<((aa d:Int)-1))=true:=aF aw;have hU:qV n d=pa d n:=by rw[qV,if_pos hlt]
  simp -dsimp only[go_sem,e1];obtain⟨a,b,hs,ha,hb',sa,sb,hle,ta,hU,h0,h1⟩:∃ a b:PQ,Sm w a b/\am h a/\am h b/\2<=aa a/\2<=aa b/\aa b<=aa a/\aa a<=N/\qV n d=pa a b/\iUp d=iUp a/\iUp n=iUp b:=⟨d,n,hs.symm,hd,hn,sd,sn,aw,td,hU,rfl,rfl⟩;rw[h0,h1]
 case' neg =>
  have e1:decide (((aa n:Int)-1)<((aa d:Int)-1))=false:=aG aw;have hU:qV n d=pa n d:=by rw[qV,if_neg hlt]
  simp -dsimp only[go_sem,e1];obtain⟨a,b,hs,ha,hb',sa,sb,hle,ta,hU,h0,h1⟩:∃ a b:PQ,Sm w a b/\am h a/\am h b/\2<=aa a/\2<=aa b/\aa b<=aa a/\aa a<=N/\qV n d=pa a b/\iUp n=iUp a/\iUp d=iUp b:=⟨n,d,hs,hn,hd,sn,sd,aw,tn,hU,rfl,rfl⟩;rw[h0,h1]
 all_goals
  clear h0 h1 e1 hlt;rw[hU];have ha0:a≠0:=fun e=>by rw[e,aM.2 rfl]at sa;omega
  have hb0:b≠0:=fun e=>by rw[e,aM.2 rfl]at sb;omega
  have hspec:=fun(k:Nat) (p q:PQ) => @qW a b w h hs ha hb' k p q;have hmo:=fun(q r s t s' t':PQ) (row:Row a b q s t r s' t')=>s5 row hs ha hb';have hHle:h<=2*(ah w+h)+1:=aw;generalize 2*(ah w+h)+1=H at *
  have hA:=ha.mono hHle;have hB:=hb'.mono hHle;have hNH:∀ x:Nat,x<=N->(x+2)*(H+1)<=(N+2)*(H+1):=fun x hx=>Nat.mul_le_mul_right _ aw;have hNa:=hNH _ ta;have hH1:H+1<=(N+2)*(H+1):=Nat.le_mul_of_pos_left _ aw;refine aK (G7 hres hA hB aw aw ha0 hb0 aw aw) ?_;by_cases hm:bnd a b=0
  ·have e2:decide (bnd a b=0)=true:=aF hm;simp -dsimp only[go_sem,e2];refine aK p7 ?_;simp -dsimp only[go_sem];rw[pa,if_pos hm]
  ·have e2:decide (bnd a b=0)=false:=aG hm;simp -dsimp only[go_sem,e2];refine aK (tw hA hB hb0 aw aw aw) ?_;have fin:¬ (Dv b a/\bnd a b=(aa b:Int)-1)->pa a b=mc (aa b) a b:=fun hn=>by rw[pa,if_neg hm,if_neg hn]
   rcases CP a b hb0 with⟨s,hdv,hR⟩|⟨hdv,hR⟩<;>rw[hR]
   ·by_cases hmb:bnd a b=(aa b:Int)-1
    ·have e3:decide (bnd a b=(aa b:Int)-1)=true:=aF hmb;simp -dsimp only[go_sem];refine aK (ik b aw) ?_;simp -dsimp only[go_sem,e3];rw[pa,if_neg hm,if_pos ⟨hdv,hmb⟩]
    ·have e3:decide (bnd a b=(aa b:Int)-1)=false:=aG hmb;simp -dsimp only[go_sem];refine aK (ik b aw) ?_;simp -dsimp only[go_sem,e3];rw[fin fun h=>hmb h.2];refine a8 [(0,1),(6,6),(10,11),(43,65)] [] [] (fun n τ β ε=>∃ p q:PQ,n=aa q/\2<=aa q/\aa q<=aa p/\aa p<=N/\am H p/\am H q/\mc (aa q) p q=mc (aa b) a b/\Bo a b p q/\τ 0 = .i (iUp p)/\τ 1 = .i (iUp q))
      (fun e τ β ε=>e = .ret/\τ 6 = .i (iUp (mc (aa b) a b))) (aa b) ?_ ?_ ?_
     ·exact⟨a,b,rfl,sb,hle,ta,hA,hB,rfl,.inl ⟨rfl,rfl⟩,rfl,rfl⟩
     ·rintro n τ β ε π hK hKB hKE ⟨p,q,hn,sq,hle,tp,hp,hq,he,hc,h0,h1⟩;have k2:τ 2 = .i (iN 0):=(hK 2 rfl).trans rfl;have hp0:p≠0:=fun e=>by rw[e,aM.2 rfl]at hle;omega
      have hq0:q≠0:=fun e=>by rw[e,aM.2 rfl]at sq;omega
      obtain⟨⟨s,t,s',t',row⟩,hlt,_,hr⟩:=xH hp hq hc hq0 hle;have hNp:=hNH _ tp;have hNp2:aa p*(H+1)<=(aa p+2)*(H+1):=Nat.mul_le_mul_right _ aw;have call:=vt hp hq hp0 hq0 aw aw aw;obtain⟨m,hm⟩:∃ m,aa q=m+1:=⟨aa q-1,aw⟩;have hmore:=qX (aa (ag (psr q (aa p) p))) m q (ag (psr q (aa p) p));rw[hm]at he;simp only[mc]at he;generalize psr q (aa p) p=r at *
      have hz:decide (((U r).length:Int)=0)=decide (r=0):=by
       rw[decide_eq_decide];constructor
       ·intro h;exact nX.1 (List.eq_nil_of_length_eq_zero aw)
       ·rintro rfl;rw[cq];rfl
      simp -dsimp only[go_sem,h0,h1,k2];refine aK call ?_;by_cases r0:r=0
      ·rw[aF r0]at hz;rw[if_pos r0]at he;simp -dsimp only[go_sem,hz,h1,az];exact⟨(aA hK),hKB,hKE,by rw[he]⟩
      ·rw[aG r0]at hz;rw[if_neg r0]at he;simp -dsimp only[go_sem,hz,h1,k2,az];refine aK (ik r aw) ?_;by_cases r1:aa r=1
       ·have e5:decide ((aa r:Int)-1=0)=true:=aF aw;rw[if_pos r1]at he;simp -dsimp only[go_sem,e5];refine aK p7 ?_;simp -dsimp only[go_sem];exact⟨(aA hK),hKB,hKE,by rw[he]⟩
       ·have e5:decide ((aa r:Int)-1=0)=false:=aG aw;have r2:=aR r0;rw[if_neg r1]at he;simp -dsimp only[go_sem,e5,h1,k2];refine aK (oU hr aw aw) ?_;simp -dsimp only[go_sem];refine aK (kp hr aw aw) ?_;simp -dsimp only[go_sem];refine again (aa (ag r)) (by rw[fV];omega) ⟨(aA hK),hKB,hKE,q,ag r,rfl,by rw[fV];omega,by rw[fV];omega,aw,hq,hmo _ _ _ _ _ _ row,?_,qv r0 row,rfl,rfl⟩;rw[<-hmore (ay _) (by rw[fV];omega) (jn r0) (by rw[fV];omega) ⟨H,hq,hmo _ _ _ _ _ _ row⟩];exact he
     ·rintro e τ β ε π hK hKB hKE ⟨rfl,h6⟩;simp -dsimp only[go_sem,h6]
   ·simp -dsimp only[go_sem];rw[fin fun h=>hdv h.1];refine a8 [(0,1),(6,6),(10,11),(43,65)] [] [] (fun n τ β ε=>∃ p q:PQ,n=aa q/\2<=aa q/\aa q<=aa p/\aa p<=N/\am H p/\am H q/\mc (aa q) p q=mc (aa b) a b/\Bo a b p q/\τ 0 = .i (iUp p)/\τ 1 = .i (iUp q))
     (fun e τ β ε=>e = .ret/\τ 6 = .i (iUp (mc (aa b) a b))) (aa b) ?_ ?_ ?_
    ·exact⟨a,b,rfl,sb,hle,ta,hA,hB,rfl,.inl ⟨rfl,rfl⟩,rfl,rfl⟩
    ·rintro n τ β ε π hK hKB hKE ⟨p,q,hn,sq,hle,tp,hp,hq,he,hc,h0,h1⟩;have k2:τ 2 = .i (iN 0):=(hK 2 rfl).trans rfl;have hp0:p≠0:=fun e=>by rw[e,aM.2 rfl]at hle;omega
     have hq0:q≠0:=fun e=>by rw[e,aM.2 rfl]at sq;omega
     obtain⟨⟨s,t,s',t',row⟩,hlt,_,hr⟩:=xH hp hq hc hq0 hle;have hNp:=hNH _ tp;have hNp2:aa p*(H+1)<=(aa p+2)*(H+1):=Nat.mul_le_mul_right _ aw;have call:=vt hp hq hp0 hq0 aw aw aw;obtain⟨m,hm⟩:∃ m,aa q=m+1:=⟨aa q-1,aw⟩;have hmore:=qX (aa (ag (psr q (aa p) p))) m q (ag (psr q (aa p) p));rw[hm]at he;simp only[mc]at he;generalize psr q (aa p) p=r at *
     have hz:decide (((U r).length:Int)=0)=decide (r=0):=by
      rw[decide_eq_decide];constructor
      ·intro h;exact nX.1 (List.eq_nil_of_length_eq_zero aw)
      ·rintro rfl;rw[cq];rfl
     simp -dsimp only[go_sem,h0,h1,k2];refine aK call ?_;by_cases r0:r=0
     ·rw[aF r0]at hz;rw[if_pos r0]at he;simp -dsimp only[go_sem,hz,h1,az];exact⟨(aA hK),hKB,hKE,by rw[he]⟩
     ·rw[aG r0]at hz;rw[if_neg r0]at he;simp -dsimp only[go_sem,hz,h1,k2,az];refine aK (ik r aw) ?_;by_cases r1:aa r=1
      ·have e5:decide ((aa r:Int)-1=0)=true:=aF aw;rw[if_pos r1]at he;simp -dsimp only[go_sem,e5];refine aK p7 ?_;simp -dsimp only[go_sem];exact⟨(aA hK),hKB,hKE,by rw[he]⟩
      ·have e5:decide ((aa r:Int)-1=0)=false:=aG aw;have r2:=aR r0;rw[if_neg r1]at he;simp -dsimp only[go_sem,e5,h1,k2];refine aK (oU hr aw aw) ?_;simp -dsimp only[go_sem];refine aK (kp hr aw aw) ?_;simp -dsimp only[go_sem];refine again (aa (ag r)) (by rw[fV];omega) ⟨(aA hK),hKB,hKE,q,ag r,rfl,by rw[fV];omega,by rw[fV];omega,aw,hq,hmo _ _ _ _ _ _ row,?_,qv r0 row,rfl,rfl⟩;rw[<-hmore (ay _) (by rw[fV];omega) (jn r0) (by rw[fV];omega) ⟨H,hq,hmo _ _ _ _ _ _ row⟩];exact he
    ·rintro e τ β ε π hK hKB hKE ⟨rfl,h6⟩;simp -dsimp only[go_sem,h6]
theorem dK (h:Nat):am h (1:PQ):=by
 have:=am.mon (h:=h) 0 (c:=1) (by have:=gz h;show 1<=_;omega) (by have:=gz h;show 1<=_;omega);rwa [du]at this
theorem cS:aa (1:PQ)=1:=jf (R:=Rat) aH
theorem fQ:(1:PQ)≠0:=d9 (R:=Rat) aH
theorem vY {a b:PQ} {w h:Nat} (hs:Sm w a b) (ha:am h a) (hb:am h b) (sa:2<=aa a) (sb:2<=aa b) (hle:aa b<=aa a) :
  IsG (pa a b) a b/\am (2*(ah w+h)+1) (pa a b)/\aa (pa a b)<=aa b/\pa a b≠0:=by
 have hb0:b≠0:=fun e=>by rw[e,aM.2 rfl]at sb;omega
 rw[pa];by_cases hm:bnd a b=0
 ·rw[if_pos hm];exact⟨⟨Dv.one _,Dv.one _,Ez sa sb hm⟩,dK _,by rw[cS];omega,fQ⟩
 ·rw[if_neg hm];by_cases hd:Dv b a/\bnd a b=(aa b:Int)-1
  ·rw[if_pos hd];exact⟨⟨hd.1,Dv.refl _,fun x _ hx=>hx⟩,hb.mono aw,ay _,hb0⟩
  ·rw[if_neg hd];exact qW hs ha hb _ (ay _) hb0 hle (.inl ⟨rfl,rfl⟩) (ha.mono aw) (hb.mono aw)
theorem qU {n d:PQ} {w h:Nat} (hs:Sm w n d) (hn:am h n) (hd:am h d) (sn:2<=aa n) (sd:2<=aa d) :
  IsG (qV n d) n d/\am (2*(ah w+h)+1) (qV n d)/\aa (qV n d)<=aa d/\qV n d≠0:=by
 rw[qV];by_cases hlt:aa n<aa d
 ·rw[if_pos hlt];obtain⟨h1,h2,h3,h4⟩:=vY hs.symm hd hn sd sn aw;exact⟨h1.symm,h2,aw,h4⟩
 ·rw[if_neg hlt];exact vY hs hn hd sn sd aw
theorem Na (hres:jq) {n d:PQ} {w h N:Nat} (hs:Sm w n d) (hn:am h n) (hd:am h d) (sn:2<=aa n) (sd:2<=aa d) (tn:aa n<=N) (td:aa d<=N) (hN:N<=500000)
  (hb:(2*(ah w+h)+1)+(N+2)*((2*(ah w+h)+1)+1)+(2*(ah w+h)+1)<=68719476000):Fn Tryz.prog 151 [iUp n,iUp d] [iUp (ag (qV n d))]:=by
 have hz:∀ x:PQ,2<=aa x->decide (((U x).length:Int)=0)=false:=fun x hx=>aG fun h=>by
  have:x=0:=nX.1 (List.eq_nil_of_length_eq_zero aw);rw[this,aM.2 rfl]at hx;omega
 have n0:n≠0:=fun e=>by rw[e,aM.2 rfl]at sn;omega
 have d0:d≠0:=fun e=>by rw[e,aM.2 rfl]at sd;omega
 have seq:=MW hres hs hn hd sn sd tn td hN hb;obtain⟨_,hH,hsz,_⟩:=qU hs hn hd sn sd;have hNn:(aa n+2)<=(N+2)*((2*(ah w+h)+1)+1):=ax aw (Nat.le_mul_of_pos_right _ aw);have hNd:(aa d+2)<=(N+2)*((2*(ah w+h)+1)+1):=ax aw (Nat.le_mul_of_pos_right _ aw);have c1:decide (aa n=1)=false:=aG aw;have c2:decide (aa d=1)=false:=aG aw;have c3:decide ((aa d:Int)-1=0)=false:=aG aw;have c4:decide ((aa n:Int)-1=0)=false:=aG aw;have g11:lI 1 1=(1:PQ):=by rw[lI,if_neg fQ,if_neg fQ]
 have base:=yJ (p:=1) (q:=1) (dK 0) (dK 0) aw aw (by rw[cS];omega) (by rw[cS];omega) (.inr (.inr (.inl cS)));rw[g11]at base;refine aJ (fn:=Tryz.f151) ?_;simp -dsimp only[go_sem,hz n sn,hz d sd,az];refine ao (gZ n) rfl ?_;simp -dsimp only[go_sem,c1];refine ao (gZ d) rfl ?_;simp -dsimp only[go_sem,c2];refine aK (CA sn d0 aw aw) ?_;simp -dsimp only[go_sem];refine ao (ik d aw) rfl ?_;simp -dsimp only[go_sem,c3];refine ao (ik n aw) rfl ?_;simp -dsimp only[go_sem,c4];refine ao (n9 hn aw n0 aw) rfl ?_;simp -dsimp only[go_sem];refine ao (n9 hd aw d0 aw) rfl ?_;simp -dsimp only[go_sem];refine aK base ?_;simp -dsimp only[go_sem];refine ao (vv hn (dK 0) fQ aw aw (by rw[cS];omega) (s:=n) (mul_one n).symm) rfl ?_;simp -dsimp only[go_sem];refine ao (vv hd (dK 0) fQ aw aw (by rw[cS];omega) (s:=d) (mul_one d).symm) rfl ?_;simp -dsimp only[go_sem];refine aK seq ?_;simp -dsimp only[go_sem];have mul:=dx (dK 0) hH aw aw (by rw[cS];omega) aw;rw[one_mul]at mul;refine aK mul ?_;simp -dsimp only[go_sem];refine aK (kp hH aw aw) ?_;simp -dsimp only[go_sem]
end Go.AM
namespace Go.AM
open Go.Proofs
abbrev iF (N D:List Tm):IV := .g [cM N,cM D]
theorem vA (N:List Tm):Fn Tryz.prog 90 [iM N] [iF N [(e0,1)]]:=by
 refine aJ (fn:=Tryz.f90) ?_;simp -dsimp only[go_sem];refine aK Dz ?_;simp -dsimp only[go_sem]
theorem G5 (c:Rat):Fn Tryz.prog 105 [iQ c] [iF (gv c) [(e0,1)]]:=by
 refine aJ (fn:=Tryz.f105) ?_;simp -dsimp only[go_sem];refine ao (qP c) rfl ?_;simp -dsimp only[go_sem];refine aK (vA _) ?_;simp -dsimp only[go_sem]
theorem Nc (v:Nat) (hv:v<4):Fn Tryz.prog 96 [iN v] [iF [(e0.to v 1,1)] [(e0,1)]]:=by
 refine aJ (fn:=Tryz.f96) ?_;simp -dsimp only[go_sem];refine aK (MS v hv) ?_;simp -dsimp only[go_sem];refine aK (vA _) ?_;simp -dsimp only[go_sem]
theorem KG (N D:List Tm):Fn Tryz.prog 97 [iF N D] [iB (decide (N=[]))]:=by
 refine aJ (fn:=Tryz.f97) ?_;have e:decide ((N.length:Int)=0)=decide (N=[]):=by
  rw[decide_eq_decide];exact⟨fun h=>List.eq_nil_of_length_eq_zero aw,fun h=>by rw[h];rfl⟩
 simp -dsimp only[go_sem,az,e]
theorem jd (N D:List Tm) (n:Int):Fn Tryz.prog 109 [iF N D,iN n] [iF N D]:=by
 refine aJ (fn:=Tryz.f109) ?_;simp -dsimp only[go_sem]
theorem A6 (q:Rat) (n:Int):Fn Tryz.prog 153 [iQ q,iN n] [iQ q]:=by
 refine aJ (fn:=Tryz.f153) ?_;simp -dsimp only[go_sem];rfl
theorem Ng (N D:List Tm) (h1:N.length<=1099511627776) (q1:∀ t∈N,QB 17179869184 t.2):Fn Tryz.prog 84 [iF N D] [iF (eC N (-1)) D]:=by
 refine aJ (fn:=Tryz.f84) ?_;simp -dsimp only[go_sem];refine ap 7 [] false true ?_;simp -dsimp only[go_sem,aC];refine aK (ia (-1) aH) ?_;simp -dsimp only[go_sem];refine aQ (args':=[iM N,iQ (-1)]) rfl (kk N (-1) h1 q1 (pB _ aw)) ?_;simp -dsimp only[go_sem,aC]
theorem KJ {N D G N1 D1:List Tm} {c:Rat} {x:Tm} (hD:D≠[]) (hN:N≠[]) (hG:Fn Tryz.prog 151 [iM N,iM D] [iM G]) (hn:Fn Tryz.prog 152 [iM N,iM G] [iM N1,iB true]) (hd:Fn Tryz.prog 152 [iM D,iM G] [iM D1,iB true])
  (hx:D1[0]?=some x) (hx0:x.2≠0) (hxq:QB 17179869184 x.2) (hc:c=1/x.2) (hn1:Fn Tryz.prog 120 [iM N1,iQ c] [iM (eC N1 c)]) (hd1:Fn Tryz.prog 120 [iM D1,iQ c] [iM (eC D1 c)]) :
  Fn Tryz.prog 110 [iM N,iM D] [iF (eC N1 c) (eC D1 c),iN 0]:=by
 have hz:∀ L:List Tm,L≠[]->decide ((L.length:Int)=0)=false:=fun L hL=>aG fun h=>hL (List.eq_nil_of_length_eq_zero aw);refine aJ (fn:=Tryz.f110) ?_;simp -dsimp only[go_sem,az,hz D hD,hz N hN];refine aK hG ?_;simp -dsimp only[go_sem];refine aK hn ?_;simp -dsimp only[go_sem];refine aK hd ?_;simp -dsimp only[go_sem];refine ap 10 [7] false true ?_;simp -dsimp only[go_sem];refine aK (ia 1 aH) ?_;simp -dsimp only[go_sem,Int.reduceToNat,Int.reduceLE,aC];refine aP hx ?_;simp -dsimp only[go_sem,Int.reduceToNat,Int.reduceLE,aC];refine ao (tu 1 x.2 hx0 n6 hxq) rfl ?_;simp -dsimp only[go_sem];refine aQ (args':=[iQ (1/x.2),iN 0]) rfl (A6 _ 0) ?_;simp -dsimp only[go_sem];refine ap 7 [] false true ?_;simp -dsimp only[go_sem];refine aQ (args':=[iM N1,iQ c]) ?_ hn1 ?_
 ·rw[hc];rfl
 simp -dsimp only[go_sem];refine aQ (args':=[iM D1,iQ c]) ?_ hd1 ?_
 ·rw[hc];rfl
 simp -dsimp only[go_sem]
theorem Bf {D:List Tm} (hD:D≠[]):Fn Tryz.prog 110 [iM [],iM D] [iF [] [(e0,1)],iN 0]:=by
 have hz:∀ L:List Tm,L≠[]->decide ((L.length:Int)=0)=false:=fun L hL=>aG fun h=>hL (List.eq_nil_of_length_eq_zero aw);have h0:decide (((0:Nat):Int)=0)=true:=rfl;refine aJ (fn:=Tryz.f110) ?_;simp -dsimp only[go_sem,az,hz D hD,h0];refine aK Dz ?_;simp -dsimp only[go_sem];rfl
theorem EY {N D N' D' X Y A B:List Tm} (h1:Fn Tryz.prog 111 [iM N,iM N'] [iM X]) (h2:Fn Tryz.prog 111 [iM D,iM D'] [iM Y]) (h3:Fn Tryz.prog 110 [iM X,iM Y] [iF A B,iN 0]):Fn Tryz.prog 65 [iF N D,iF N' D'] [iF A B]:=by
 refine aJ (fn:=Tryz.f65) ?_;simp -dsimp only[go_sem];refine ap 14 [] false true ?_;simp -dsimp only[go_sem,aC];refine aK h1 ?_;simp -dsimp only[go_sem,aC];refine aK h2 ?_;simp -dsimp only[go_sem];refine aK h3 ?_;simp -dsimp only[go_sem];refine aK (jd A B 0) ?_;simp -dsimp only[go_sem]
theorem Nh {N D N' D' X Y A B:List Tm} {n:Int} (h1:Fn Tryz.prog 111 [iM N,iM D'] [iM X]) (h2:Fn Tryz.prog 111 [iM D,iM N'] [iM Y]) (h3:Fn Tryz.prog 110 [iM X,iM Y] [iF A B,iN n]):Fn Tryz.prog 69 [iF N D,iF N' D'] [iF A B,iN n]:=by
 refine aJ (fn:=Tryz.f69) ?_;simp -dsimp only[go_sem];refine ap 13 [] false true ?_;simp -dsimp only[go_sem,aC];refine aK h1 ?_;simp -dsimp only[go_sem,aC];refine aK h2 ?_;simp -dsimp only[go_sem];refine aK h3 ?_;simp -dsimp only[go_sem]
theorem qO {N D N' X A B:List Tm} (h0:Fn Tryz.prog 138 [iM D,iM D] [iB true]) (h1:Fn Tryz.prog 108 [iM N,iM N'] [iM X]) (h3:Fn Tryz.prog 110 [iM X,iM D] [iF A B,iN 0]) :
  Fn Tryz.prog 107 [iF N D,iF N' D,.c (.v (.func (.func 108) #[] #[]))] [iF A B]:=by
 refine aJ (fn:=Tryz.f107) ?_;simp -dsimp only[go_sem,aC];refine aK h0 ?_;simp -dsimp only[go_sem];refine ap 12 [] false true ?_;simp -dsimp only[go_sem,aC];refine aK h1 ?_;simp -dsimp only[go_sem,aC];refine aK h3 ?_;simp -dsimp only[go_sem];refine aK (jd A B 0) ?_;simp -dsimp only[go_sem]
theorem yN {N D N' D' X Y Z W A B:List Tm} (h0:Fn Tryz.prog 138 [iM D,iM D'] [iB false]) (h1:Fn Tryz.prog 111 [iM N,iM D'] [iM X]) (h2:Fn Tryz.prog 111 [iM N',iM D] [iM Y]) (h3:Fn Tryz.prog 108 [iM X,iM Y] [iM Z]) (h4:Fn Tryz.prog 111 [iM D,iM D'] [iM W]) (h5:Fn Tryz.prog 110 [iM Z,iM W] [iF A B,iN 0]) :
  Fn Tryz.prog 107 [iF N D,iF N' D',.c (.v (.func (.func 108) #[] #[]))] [iF A B]:=by
 refine aJ (fn:=Tryz.f107) ?_;simp -dsimp only[go_sem,aC];refine aK h0 ?_;simp -dsimp only[go_sem];refine ap 21 [] false true ?_;simp -dsimp only[go_sem,aC];refine aK h1 ?_;simp -dsimp only[go_sem,aC];refine aK h2 ?_;simp -dsimp only[go_sem,aC];refine aK h3 ?_;simp -dsimp only[go_sem,aC];refine aK h4 ?_;simp -dsimp only[go_sem];refine aK h5 ?_;simp -dsimp only[go_sem];refine aK (jd A B 0) ?_;simp -dsimp only[go_sem]
theorem EZ {x y z:IV} (h:Fn Tryz.prog 107 [x,y,.c (.v (.func (.func 108) #[] #[]))] [z]) (hx:∃ N D,x=iF N D) (hy:∃ N D,y=iF N D) (hz:∃ N D,z=iF N D):Fn Tryz.prog 64 [x,y] [z]:=by
 obtain⟨N,D,rfl⟩:=hx;obtain⟨N',D',rfl⟩:=hy;obtain⟨A,B,rfl⟩:=hz;refine aJ (fn:=Tryz.f64) ?_;simp -dsimp only[go_sem,aC];refine aK h ?_;simp -dsimp only[go_sem]
theorem yL {N D N' X A B:List Tm} (h0:Fn Tryz.prog 138 [iM D,iM D] [iB true]) (h1:Fn Tryz.prog 113 [iM N,iM N'] [iM X]) (h3:Fn Tryz.prog 110 [iM X,iM D] [iF A B,iN 0]) :
  Fn Tryz.prog 107 [iF N D,iF N' D,.c (.v (.func (.func 113) #[] #[]))] [iF A B]:=by
 refine aJ (fn:=Tryz.f107) ?_;simp -dsimp only[go_sem,aC];refine aK h0 ?_;simp -dsimp only[go_sem];refine ap 12 [] false true ?_;simp -dsimp only[go_sem,aC];refine aK h1 ?_;simp -dsimp only[go_sem,aC];refine aK h3 ?_;simp -dsimp only[go_sem];refine aK (jd A B 0) ?_;simp -dsimp only[go_sem]
theorem yM {N D N' D' X Y Z W A B:List Tm} (h0:Fn Tryz.prog 138 [iM D,iM D'] [iB false]) (h1:Fn Tryz.prog 111 [iM N,iM D'] [iM X]) (h2:Fn Tryz.prog 111 [iM N',iM D] [iM Y]) (h3:Fn Tryz.prog 113 [iM X,iM Y] [iM Z]) (h4:Fn Tryz.prog 111 [iM D,iM D'] [iM W]) (h5:Fn Tryz.prog 110 [iM Z,iM W] [iF A B,iN 0]) :
  Fn Tryz.prog 107 [iF N D,iF N' D',.c (.v (.func (.func 113) #[] #[]))] [iF A B]:=by
 refine aJ (fn:=Tryz.f107) ?_;simp -dsimp only[go_sem,aC];refine aK h0 ?_;simp -dsimp only[go_sem];refine ap 21 [] false true ?_;simp -dsimp only[go_sem,aC];refine aK h1 ?_;simp -dsimp only[go_sem,aC];refine aK h2 ?_;simp -dsimp only[go_sem,aC];refine aK h3 ?_;simp -dsimp only[go_sem,aC];refine aK h4 ?_;simp -dsimp only[go_sem];refine aK h5 ?_;simp -dsimp only[go_sem];refine aK (jd A B 0) ?_;simp -dsimp only[go_sem]
theorem Nd {x y z:IV} (h:Fn Tryz.prog 107 [x,y,.c (.v (.func (.func 113) #[] #[]))] [z]) (hx:∃ N D,x=iF N D) (hy:∃ N D,y=iF N D) (hz:∃ N D,z=iF N D):Fn Tryz.prog 70 [x,y] [z]:=by
 obtain⟨N,D,rfl⟩:=hx;obtain⟨N',D',rfl⟩:=hy;obtain⟨A,B,rfl⟩:=hz;refine aJ (fn:=Tryz.f70) ?_;simp -dsimp only[go_sem,aC];refine aK h ?_;simp -dsimp only[go_sem]
end Go.AM
namespace Alg
open Classical
abbrev KQ:=K (P Rat)
theorem Oi {u v:P Rat} (h:u*v=1):∃ x:Rat,x≠0/\u=an x:=by
 have h1:(1:P Rat)≠0:=d9 (R:=Rat) aH;have hu:u≠0:=fun e=>h1 (by rw[<-h,e,zero_mul]);have hv:v≠0:=fun e=>h1 (by rw[<-h,e,mul_zero]);have hs:=dz hu hv;have h2:aa (1:P Rat)=1:=jf (R:=Rat) aH;have:=aR hu;have:=aR hv;rw[h,h2]at hs;have h3:=dS (p:=u) aw;exact⟨u.c 0,fun e=>hu (by rw[h3,e];exact cC),h3⟩
theorem NT {a b:P Rat} {x:Rat} (hx:x≠0) (h:Cop a b):Cop (an x*a) (an x*b):=fun d h1 h2=>by
 have back:∀ y:P Rat,Dv d (an x*y)->Dv d y:=fun y hy=>by
  have:=hy.mul_left (an (inv x));rwa [<-mul_assoc,<-bC,cA hx,bP,one_mul]at this
 exact h d (back a h1) (back b h2)
theorem IG (f:KQ):∃ p:P Rat×P Rat,p.2≠0/\lc p.2=1/\Cop p.1 p.2/\f=fr p.1 p.2:=by
 obtain⟨a,b,hb,hc,e⟩:=Gj f;have hl:=fC (bN hb);refine⟨(an (inv (lc b))*a,ag b),jn hb,D6 hb,NT hl hc,?_⟩;rw[e];exact(fG hb (jn hb)).2 (by rw[ag];exact ring [a,b,an (inv (lc b))])
noncomputable def nN (f:KQ):P Rat:=(choose (IG f)).1
noncomputable def ae (f:KQ):P Rat:=(choose (IG f)).2
theorem dj (f:KQ):ae f≠0/\lc (ae f)=1/\Cop (nN f) (ae f)/\f=fr (nN f) (ae f):=choose_spec (IG f)
theorem p8 {n d:P Rat} {f:KQ} (hd:d≠0) (hl:lc d=1) (hc:Cop n d) (e:f=fr n d):nN f=n/\ae f=d:=by
 obtain⟨h1,h2,h3,h4⟩:=dj f;obtain⟨u,v,huv,e1,e2⟩:=zY h1 hd h3 hc (h4.symm.trans e);obtain⟨x,hx,rfl⟩:=Oi huv;have h5:lc d=x*lc (ae f):=by rw[e2,gU,mV]
 rw[hl,h2,mul_one]at h5;rw[<-h5,show an (1:Rat)=1 from rfl,one_mul]at e1;rw[<-h5,show an (1:Rat)=1 from rfl,one_mul]at e2;exact⟨e1.symm,e2.symm⟩
theorem mi:nN 0=0/\ae 0=1:=p8 (d9 (R:=Rat) aH) (mV (1:Rat)) (fun _ _ h=>h) xY
theorem II {n d g n1 d1:P Rat} (hd:d≠0) (hg:IsG g n d) (e1:n=n1*g) (e2:d=d1*g):nN (fr n d)=n1*an (1/lc d1)/\ae (fr n d)=d1*an (1/lc d1):=by
 have hg0:g≠0:=fun e=>hd (by rw[e2,e,mul_zero]);have hd1:d1≠0:=fun e=>hd (by rw[e2,e,zero_mul]);have hl:=bN hd1;have hi:(1:Rat)/lc d1=inv (lc d1):=by show(1:Rat)/lc d1=(lc d1)⁻¹;rw[Rat.div_def];exact Rat.one_mul _
 have hi0:(1:Rat)/lc d1≠0:=by rw[hi];exact fC hl
 have hcop:Cop n1 d1:=fun x h1 h2=>by
  have h3:Dv (g*x) (g*1):=by
   rw[mul_one];refine hg.2.2 _ ?_ ?_
   ·rw[e1,mul_comm n1];exact(Dv.refl g).mul h1
   ·rw[e2,mul_comm d1];exact(Dv.refl g).mul h2
  exact h3.cancel hg0
 refine p8 ?_ ?_ ?_ ?_
 ·exact a6 hd1 (d9 hi0)
 ·rw[gU,mV,hi,mul_inv hl]
 ·rw[mul_comm n1,mul_comm d1];exact NT hi0 hcop
 ·exact(fG hd (a6 hd1 (d9 hi0))).2 (by rw[e1,e2];exact ring [n1,d1,g,an (1/lc d1)])
def FB (w:Nat) (f:KQ):Prop:=∃ A B:P Int,B≠0/\f=fr (toQ A) (toQ B)/\aa A<=w+1/\n1 A<=2 ^ w/\aa B<=w+1/\n1 B<=2 ^ w
theorem FB.mono {w v:Nat} {f:KQ} (h:FB w f) (hv:w<=v):FB v f:=by
 obtain⟨A,B,h1,h2,h3,h4,h5,h6⟩:=h;exact⟨A,B,h1,h2,aw,ax h4 (cU hv),aw,ax h6 (cU hv)⟩
theorem Mt {n d:P Rat} (hn:n≠0) (hd:d≠0) (hc:Cop n d):∃ s t,Row n d 1 s t 0 d (-n):=by
 obtain⟨s,t,e⟩:=C7 hc;have h1:aa (1:P Rat)=1:=jf (R:=Rat) aH;have h0:aa (0:P Rat)=0:=aM.2 rfl;have:=aR hn;have:=aR hd;refine⟨s,t,e.symm,by rw[neg_mul,mul_comm n,jB],⟨-1,xQ aH,?_⟩,aw,by rw[kQ,h1],aw,aw⟩;rw[show an (-1:Rat) = -(1:P Rat)from kM (1:Rat),<-e];exact ring [s,t,n,d]
theorem xO {f:KQ} {w:Nat} (h:FB w f) (hf:f≠0):am (ah w) (nN f)/\am (ah w) (ae f)/\aa (nN f)<=w+1/\aa (ae f)<=w+1:=by
 obtain⟨A,B,hB,e,hA1,hA2,hB1,hB2⟩:=h;obtain⟨h1,h2,h3,h4⟩:=dj f;have hB':=dy hB;have hv:nN f*toQ B=ae f*toQ A:=by
  have:=(fG h1 hB').1 (h4.symm.trans e);rw[this,mul_comm]
 have hn0:nN f≠0:=fun e0=>hf (by rw[h4,e0];exact(cE h1).2 rfl);obtain⟨s,t,row⟩:=Mt hn0 h1 h3;obtain⟨S,T,k,hk,eS,eT,hS,hT⟩:=small row hB hv hA1 hA2 hB1 hB2;have hS0:S≠0:=fun e0=>by
  rw[e0,cK]at eS;exact a6 (d9 hk) h1 eS.symm
 have hlS:hQ.f (lc S)=k:=by rw[<-I3,eS,gU,mV,h2,mul_one]
 have hlS0:lc S≠0:=bN hS0;have hlb:(lc S).natAbs<=2 ^ ah w:=ax (jA S _) hS;have hdA:Dv (nN f) (toQ A):=h3.dvd ⟨toQ B,hv.symm⟩;have hdB:Dv (ae f) (toQ B):=h3.symm.dvd ⟨toQ A,hv⟩;have szle:∀{x y:P Rat},Dv x y->y≠0->aa x<=aa y:=fun{x y} hd hy=>by
  obtain⟨c,hc⟩:=hd;have hx0:x≠0:=fun e=>hy (by rw[hc,e,zero_mul]);have hc0:c≠0:=fun e=>hy (by rw[hc,e,mul_zero]);have:=dz hx0 hc0;have:=aR hc0;rw[hc];omega
 have hA0:toQ A≠0:=fun e0=>hf (by rw[e,e0];exact(cE hB').2 rfl);refine⟨⟨lc S,-T,hlS0,hlb,by rw[rt];exact hT,?_⟩,⟨lc S,S,hlS0,hlb,hS,by rw[hlS,eS]⟩,?_,?_⟩
 ·rw[pN,eT,hlS,mul_neg,neg_neg]
 ·have:=szle hdA hA0;rw[gr]at this;omega
 ·have:=szle hdB hB';rw[gr]at this;omega
theorem f6 {A B:P Int} {w v:Nat} (h:aa A<=w+1) (h':aa B<=v+1):aa (A*B)<=w+v+1:=by
 have:=bf A B;omega
theorem FB.mul {w v:Nat} {f g:KQ} (h:FB w f) (h':FB v g):FB (w+v) (f*g):=by
 obtain⟨A,B,h1,h2,h3,h4,h5,h6⟩:=h;obtain⟨A',B',k1,k2,k3,k4,k5,k6⟩:=h';exact⟨A*A',B*B',a6 h1 k1,by rw[h2,k2,fi (dy h1) (dy k1),ck,ck],f6 h3 k3,ax (jh _ _) (bh h4 k4),f6 h5 k5,ax (jh _ _) (bh h6 k6)⟩
theorem FB.add {w v:Nat} {f g:KQ} (h:FB w f) (h':FB v g):FB (w+v+1) (f+g):=by
 obtain⟨A,B,h1,h2,h3,h4,h5,h6⟩:=h;obtain⟨A',B',k1,k2,k3,k4,k5,k6⟩:=h';refine⟨A*B'+A'*B,B*B',a6 h1 k1,by rw[h2,k2,fZ (dy h1) (dy k1),kC,ck,ck,ck],?_,?_,?_,?_⟩
 ·refine dh ?_ ?_
  ·have:=f6 h3 k5;omega
  ·have:=f6 k3 h5;omega
 ·refine ax (ml _ _) ?_;have e1:=ax (jh A B') (bh h4 k6);have e2:=ax (jh A' B) (bh k4 h6);rw[Nat.add_comm v w]at e2;exact kj e1 e2
 ·have:=f6 h5 k5;omega
 ·exact ax (ax (jh _ _) (bh h6 k6)) (cU aw)
theorem FB.neg {w:Nat} {f:KQ} (h:FB w f):FB w (-f):=by
 obtain⟨A,B,h1,h2,h3,h4,h5,h6⟩:=h;exact⟨-A,B,h1,by rw[h2,uP (dy h1),pN],by rw[kQ];exact h3,by rw[rt];exact h4,h5,h6⟩
theorem FB.sub {w v:Nat} {f g:KQ} (h:FB w f) (h':FB v g):FB (w+v+1) (f-g):=by rw[sub_eq];exact h.add h'.neg
theorem FB.inv {w:Nat} {f:KQ} (h:FB w f) (hf:f≠0):FB w (Alg.inv f):=by
 obtain⟨A,B,h1,h2,h3,h4,h5,h6⟩:=h;have hA:A≠0:=fun e=>hf (by rw[h2,e,cK];exact(cE (dy h1)).2 rfl);exact⟨B,A,hA,by rw[h2,x6 (dy hA) (dy h1)],h5,h6,h3,h4⟩
end Alg
namespace Go.AM
open Alg
open Go.Proofs
open Classical
noncomputable abbrev iK (f:KQ):IV:=iF (U (nN f)) (U (ae f))
theorem x5 {u n d:PQ} (hu:u≠0) (h:IsG u n d):IsG (ag u) n d:=by
 have e:an (lc u)*ag u=u:=by
  rw[ag,<-mul_assoc,<-bC,mul_inv (bN hu),bP,one_mul]
 have h1:Dv (ag u) u:=⟨an (lc u),by rw[mul_comm,e]⟩;exact⟨h1.trans h.1,h1.trans h.2.1,fun x hx hx'=>(h.2.2 x hx hx').trans (by rw[ag];exact(Dv.refl u).mul_left _)⟩
theorem uA:lc (1:PQ)=1:=mV (1:Rat)
theorem Nf (hres:jq) {n d:PQ} {h N w:Nat} (hd0:d≠0) (hn:am h n) (hd:am h d) (tn:aa n<=N) (td:aa d<=N) (hN:N<=500000) (hf:FB w (Alg.fr n d))
  (hb:(2*(ah w+h)+1)+(N+2)*((2*(ah w+h)+1)+1)+(2*(ah w+h)+1)<=68719476000):Fn Tryz.prog 110 [iUp n,iUp d] [iK (Alg.fr n d),iN 0]:=by
 have hdl:U d≠[]:=fun e=>hd0 (nX.1 e);by_cases hn0:n=0
 ·have e0:Alg.fr n d=0:=by rw[hn0];exact(cE hd0).2 rfl
  have:=Bf hdl;rw[e0,hn0];show Fn Tryz.prog 110 [iM (U 0),iM (U d)] [iF (U (nN 0)) (U (ae 0)),iN 0];rw[mi.1,mi.2,cq,wX];exact this
 have hf0:Alg.fr n d≠0:=fun e=>hn0 ((cE hd0).1 e);have hs:Sm w n d:=by
  obtain⟨A,B,h1,h2,h3,h4,h5,h6⟩:=hf;have hA:A≠0:=fun e=>hf0 (by rw[h2,e,cK];exact(cE (dy h1)).2 rfl);exact⟨A,B,hA,h1,by rw[(fG hd0 (dy h1)).1 h2,mul_comm],h3,h4,h5,h6⟩
 obtain⟨zN,zD,_,_⟩:=xO hf hf0;obtain⟨g,hg,hgH,hgs,hg0,hgl,hG⟩:∃ g:PQ,IsG g n d/\am (2*(ah w+h)+1) g/\aa g<=aa d/\g≠0/\lc g=1/\Fn Tryz.prog 151 [iUp n,iUp d] [iUp g]:=by
  by_cases hbig:2<=aa n/\2<=aa d
  ·obtain⟨h1,h2,h3,h4⟩:=qU hs hn hd hbig.1 hbig.2;exact⟨_,x5 h4 h1,h2.mo,by rw[fV];exact h3,jn h4,D6 h4,Na hres hs hn hd hbig.1 hbig.2 tn td hN hb⟩
  ·have p1:=aR hn0;have p2:=aR hd0;have hone:aa n=1\/aa d=1:=aw;have unit:∀ x:PQ,aa x=1->Dv x 1:=fun x hx=>by
    have h3:=dS (Nat.le_of_eq hx);have h4:x.c 0≠0:=fun e9=>by
     rw[e9,show an (0:Rat)=0 from cC]at h3;rw[h3,aM.2 rfl]at hx;omega
    exact⟨an (Alg.inv (x.c 0)),by rw[h3];simp only[nV];rw[<-bC,mul_inv h4];rfl⟩
   have call:=yJ hn hd aw aw aw aw (.inr (.inr hone));rw[lI,if_neg hn0,if_neg hd0]at call;refine⟨1,⟨Dv.one _,Dv.one _,fun x h1 h2=>?_⟩,dK _,by rw[cS];omega,fQ,uA,call⟩;rcases hone with h3|h3
   ·exact h1.trans (unit n h3)
   ·exact h2.trans (unit d h3)
 obtain⟨n1,e1⟩:=hg.1;obtain⟨d1,e2⟩:=hg.2.1;rw[mul_comm]at e1 e2;have hd1:d1≠0:=fun e=>hd0 (by rw[e2,e,zero_mul]);have hn1:n1≠0:=fun e=>hn0 (by rw[e1,e,zero_mul]);have hl:lc d1=lc d:=by rw[e2,gU,hgl,mul_one]
 have hl0:lc d1≠(0:Rat):=bN hd1;obtain⟨f1,f2⟩:=II hd0 hg e1 e2;have back:∀ x:PQ,x=x*an (1/lc d1)*an (lc d1):=fun x=>by
  rw[mul_assoc,<-bC];have:(1:Rat)/lc d1*lc d1=1:=Rat.div_mul_cancel hl0;rw[show((1:Rat)/lc d1*lc d1:Rat)=1 from this,bP,mul_one]
 have hC:am h (an (lc d1)):=by rw[hl];exact mX hd _
 have bn:am (ah w+h) n1:=by rw[back n1,<-f1];exact zN.mul hC
 have bd:am (ah w+h) d1:=by rw[back d1,<-f2];exact zD.mul hC
 have s1:=dz hn1 hg0;have s2:=dz hd1 hg0;rw[<-e1]at s1;rw[<-e2]at s2;have pg:=aR hg0;have hH1:(aa n+2)*((2*(ah w+h)+1)+1)<=(N+2)*((2*(ah w+h)+1)+1):=Nat.mul_le_mul_right _ aw;have hH2:(aa d+2)*((2*(ah w+h)+1)+1)<=(N+2)*((2*(ah w+h)+1)+1):=Nat.mul_le_mul_right _ aw;obtain⟨L,hL⟩:=gy hd1;obtain⟨b1,b2⟩:=jJ (x:=1) (h:=0) hl0 ⟨aH,aH⟩ (bd.coef (aa d1-1));have dn:=tw hn hgH hg0 aw aw aw;rw[gY hg0 e1]at dn;have dd:=tw hd hgH hg0 aw aw aw;rw[gY hg0 e2]at dd;have hc:=ir b1 b2 (k:=17179869184) aw;have sn:=kk (U n1) (1/lc d1) (by have:=dF n1;omega) (HB.qb bn aw) hc;have sd:=kk (U d1) (1/lc d1) (by have:=dF d1;omega) (HB.qb bd aw) hc;have:=KJ (N:=U n) (D:=U d) (G:=U g) (x:=(⟨((aa d1-1:Nat):Int),0,0,0⟩,lc d1)) hdl (fun e=>hn0 (nX.1 e)) hG dn dd (by rw[hL];rfl) hl0 (ir (bd.coef _).1 (bd.coef _).2 aw) rfl sn sd;rw[oE,oE,<-f1,<-f2]at this;exact this
abbrev FW (f:KQ):Prop:=FB 1000 f
theorem L9:ah 1000=2006002:=aH
theorem ff {f:KQ} (h:FW f):am 2006002 (nN f)/\am 2006002 (ae f)/\aa (nN f)<=1001/\aa (ae f)<=1001:=by
 by_cases hf:f=0
 ·rw[hf,mi.1,mi.2,cS,aM.2 rfl];exact⟨am.zero _,dK _,aw,aw⟩
 ·have:=xO h hf;rw[L9]at this;exact this
theorem oJ (hres:jq) {n d:PQ} (hd0:d≠0) (hn:am 8024009 n) (hd:am 8024009 d) (tn:aa n<=2003) (td:aa d<=2003) (hf:FW (Alg.fr n d)):Fn Tryz.prog 110 [iUp n,iUp d] [iK (Alg.fr n d),iN 0] :=
 Nf hres hd0 hn hd tn td aw hf (by rw[L9];omega)
theorem fY (f:KQ):Alg.fr (nN f) (ae f)=f:=(dj f).2.2.2.symm
theorem kt (hres:jq) {f g:KQ} (hf:FW f) (hg:FW g) (h:FW (f*g)):Fn Tryz.prog 65 [iK f,iK g] [iK (f*g)]:=by
 obtain⟨a1,a2,a3,a4⟩:=ff hf;obtain⟨b1,b2,b3,b4⟩:=ff hg;have d1:=(dj f).1;have d2:=(dj g).1;have e:f*g=Alg.fr (nN f*nN g) (ae f*ae g):=by
  conv=>lhs;rw[<-fY f,<-fY g]
  exact fi d1 d2
 have s1:=bf (nN f) (nN g);have s2:=bf (ae f) (ae g);have of:=oJ hres (a6 d1 d2) ((a1.mul b1).mono aw) ((a2.mul b2).mono aw) aw aw (by rw[<-e];exact h);rw[<-e]at of;exact EY (dx a1 b1 aw aw aw aw) (dx a2 b2 aw aw aw aw) of
theorem vB (hres:jq) {f g:KQ} (hf:FW f) (hg:FW g) (hg0:g≠0) (h:FW (f*Alg.inv g)):Fn Tryz.prog 69 [iK f,iK g] [iK (f*Alg.inv g),iN 0]:=by
 obtain⟨a1,a2,a3,a4⟩:=ff hf;obtain⟨b1,b2,b3,b4⟩:=ff hg;have d1:=(dj f).1;have d2:=(dj g).1;have n2:nN g≠0:=fun e=>hg0 (by rw[<-fY g,e];exact(cE d2).2 rfl);have e:f*Alg.inv g=Alg.fr (nN f*ae g) (ae f*nN g):=by
  conv=>lhs;rw[<-fY f,<-fY g,x6 n2 d2]
  exact fi d1 n2
 have s1:=bf (nN f) (ae g);have s2:=bf (ae f) (nN g);have of:=oJ hres (a6 d1 n2) ((a1.mul b2).mono aw) ((a2.mul b1).mono aw) aw aw (by rw[<-e];exact h);rw[<-e]at of;exact Nh (dx a1 b2 aw aw aw aw) (dx a2 b1 aw aw aw aw) of
theorem wY {p q:PQ} {h k:Nat} (hp:am h p) (hq:am k q) (hb:h<=137438953000) (hb':k<=137438953000) (sp:aa p<=1048576):Fn Tryz.prog 138 [iUp p,iUp q] [iB (decide (p=q))]:=by
 have:=Bi (U p) (U q) (by have:=dF p;omega) (HB.qb hp aw) (HB.qb hq aw);have e:decide (U p=U q)=decide (p=q):=by
  rw[decide_eq_decide];exact⟨fun h=>by rw[<-im p,<-im q,h],fun h=>by rw[h]⟩
 rwa [e]at this
theorem Bh (hres:jq) {f g:KQ} (hf:FW f) (hg:FW g) (h:FW (f+g)):Fn Tryz.prog 64 [iK f,iK g] [iK (f+g)]:=by
 obtain⟨a1,a2,a3,a4⟩:=ff hf;obtain⟨b1,b2,b3,b4⟩:=ff hg;have d1:=(dj f).1;have d2:=(dj g).1;refine EZ ?_ ⟨_,_,rfl⟩ ⟨_,_,rfl⟩ ⟨_,_,rfl⟩;have eq:=wY a2 b2 aw aw aw;by_cases hd:ae f=ae g
 ·rw[aF hd,<-hd]at eq;have e:f+g=Alg.fr (nN f+nN g) (ae f):=by
   conv=>lhs;rw[<-fY f,<-fY g,<-hd]
   rw[fZ d1 d1];exact(fG (a6 d1 d1) d1).2 (ring [nN f,nN g,ae f])
  have s1:aa (nN f+nN g)<=1001:=dh a3 b3;have of:=oJ hres d1 ((a1.add b1).mono aw) (a2.mono aw) aw aw (by rw[<-e];exact h);rw[<-e]at of;have:=qO eq (A8 a1 b1 aw aw aw aw) of;rw[hd]at this;have e2:iF (U (nN f)) (U (ae g))=iK f:=by rw[<-hd]
  rw[e2]at this;exact this
 ·rw[aG hd]at eq;have e:f+g=Alg.fr (nN f*ae g+nN g*ae f) (ae f*ae g):=by
   conv=>lhs;rw[<-fY f,<-fY g]
   rw[fZ d1 d2]
  have s1:=bf (nN f) (ae g);have s2:=bf (nN g) (ae f);have s3:=bf (ae f) (ae g);have s4:aa (nN f*ae g+nN g*ae f)<=2003:=dh aw aw;have of:=oJ hres (a6 d1 d2) (((a1.mul b2).add (b1.mul a2)).mono aw) ((a2.mul b2).mono aw) s4 aw (by rw[<-e];exact h);rw[<-e]at of;exact yN eq (dx a1 b2 aw aw aw aw) (dx b1 a2 aw aw aw aw) (A8 (a1.mul b2) (b1.mul a2) aw aw aw aw) (dx a2 b2 aw aw aw aw) of
theorem KH (hres:jq) {f g:KQ} (hf:FW f) (hg:FW g) (h:FW (f-g)):Fn Tryz.prog 70 [iK f,iK g] [iK (f-g)]:=by
 obtain⟨a1,a2,a3,a4⟩:=ff hf;obtain⟨b1,b2,b3,b4⟩:=ff hg;have d1:=(dj f).1;have d2:=(dj g).1;refine Nd ?_ ⟨_,_,rfl⟩ ⟨_,_,rfl⟩ ⟨_,_,rfl⟩;have eq:=wY a2 b2 aw aw aw;by_cases hd:ae f=ae g
 ·rw[aF hd,<-hd]at eq;have e:f-g=Alg.fr (nN f-nN g) (ae f):=by
   conv=>lhs;rw[<-fY f,<-fY g,<-hd]
   rw[Jt d1 d1];exact(fG (a6 d1 d1) d1).2 (ring [nN f,nN g,ae f])
  have s1:aa (nN f-nN g)<=1001:=gB a3 b3;have of:=oJ hres d1 ((a1.sub b1).mono aw) (a2.mono aw) aw aw (by rw[<-e];exact h);rw[<-e]at of;have:=yL eq (qI a1 b1 aw aw aw aw) of;rw[hd]at this;have e2:iF (U (nN f)) (U (ae g))=iK f:=by rw[<-hd]
  rw[e2]at this;exact this
 ·rw[aG hd]at eq;have e:f-g=Alg.fr (nN f*ae g-nN g*ae f) (ae f*ae g):=by
   conv=>lhs;rw[<-fY f,<-fY g]
   rw[Jt d1 d2]
  have s1:=bf (nN f) (ae g);have s2:=bf (nN g) (ae f);have s3:=bf (ae f) (ae g);have s4:aa (nN f*ae g-nN g*ae f)<=2003:=gB aw aw;have of:=oJ hres (a6 d1 d2) (((a1.mul b2).sub (b1.mul a2)).mono aw) ((a2.mul b2).mono aw) s4 aw (by rw[<-e];exact h);rw[<-e]at of;exact yM eq (dx a1 b2 aw aw aw aw) (dx b1 a2 aw aw aw aw) (qI (a1.mul b2) (b1.mul a2) aw aw aw aw) (dx a2 b2 aw aw aw aw) of
theorem Q5 {f g:KQ}:f=g↔nN f=nN g/\ae f=ae g:=⟨fun h=>by rw[h];exact⟨rfl,rfl⟩,fun h=>by rw[<-fY f,<-fY g,h.1,h.2]⟩
theorem nB {f:KQ}:nN f=0↔f=0:=⟨fun h=>by rw[<-fY f,h];exact(cE (dj f).1).2 rfl,fun h=>by rw[h];exact mi.1⟩
theorem G4 (f:KQ):Fn Tryz.prog 97 [iK f] [iB (decide (f=0))]:=by
 have:=KG (U (nN f)) (U (ae f));have e:decide (U (nN f)=[])=decide (f=0):=by rw[decide_eq_decide,nX,nB]
 rwa [e]at this
theorem xP (f:KQ):nN (-f) = -nN f/\ae (-f)=ae f:=by
 obtain⟨h1,h2,h3,h4⟩:=dj f;refine p8 h1 h2 (fun d hd hd'=>h3 d (by have:=hd.neg;rwa [neg_neg]at this) hd') ?_
 conv=>lhs;rw[h4]
 exact uP h1
theorem KK {f:KQ} (hf:FW f):Fn Tryz.prog 84 [iK f] [iK (-f)]:=by
 obtain⟨a1,a2,a3,a4⟩:=ff hf;have:=Ng (U (nN f)) (U (ae f)) (by have:=dF (nN f);omega) (HB.qb a1 aw);rw[oE,show nN f*an (-1:Rat) = -nN f by rw[show an (-1:Rat) = -(1:PQ)from kM (1:Rat),mul_neg,mul_one],<-(xP f).1]at this;have e:iF (U (nN (-f))) (U (ae f))=iK (-f):=by rw[<-(xP f).2]
 rwa [e]at this
theorem IH (n:PQ):nN (Alg.em n)=n/\ae (Alg.em n)=1:=p8 fQ uA (fun _ _ h=>h) rfl
theorem NJ (n:PQ):iF (U n) (U 1)=iK (Alg.em n):=by
 show _=iF (U (nN (Alg.em n))) (U (ae (Alg.em n)));rw[(IH n).1,(IH n).2]
theorem Dp (c:Rat):Fn Tryz.prog 105 [iQ c] [iK (Alg.em (an c))]:=by
 have:=G5 c;have eL:gv c=U (an c):=by
  rw[gv];split
  ·rename_i h;rw[h,show an (0:Rat)=0 from cC,cq]
  ·rename_i h;rw[U_C h]
 rw[eL,<-wX]at this;rwa [NJ]at this
noncomputable def kr (f:KQ):List C:=[cM (U (nN f)),cM (U (ae f))]
noncomputable abbrev kl (l:List KQ):IV := .c (.lst (l.map kr))
theorem s7 (l:List KQ):lens 2 (l.map kr):=fun r hr=>by obtain⟨t,-,rfl⟩:=List.mem_map.1 hr;rfl
theorem I7 (l:List KQ):lens 2 (l.map kr)=True:=eq_true (s7 l)
theorem Q0 (f:KQ):kr f=[cM (U (nN f)),cM (U (ae f))]:=(rfl)
attribute [go_sem] I7 Q0
noncomputable abbrev kn (z:Int):KQ:=Alg.em (an (z:Rat))
theorem cB (z:Int) (h : -9223372036854775808<=z/\z<9223372036854775808):Fn Tryz.prog 63 [iN z] [iK (kn z)]:=by
 refine aJ (fn:=Tryz.f63) ?_;simp -dsimp only[go_sem];refine aK (ia z h) ?_;simp -dsimp only[go_sem];refine ao (Dp z) rfl ?_;simp -dsimp only[go_sem]
theorem qM (f:KQ) (n:Int):Fn Tryz.prog 68 [iK f,iN n] [iK f]:=by
 refine aJ (fn:=Tryz.f68) ?_;simp -dsimp only[go_sem]
noncomputable def dO:List KQ->List KQ
 | []=>[]
 | f::l=>if dO l=[]/\f=0 then[]else f::dO l
theorem o6:∀{l:List KQ},(∀ j (h:j<l.length),l[j]=0)->dO l=[]
 | [],_=>rfl
 | f::l,h=>by
  rw[dO,if_pos ⟨o6 fun j hj=>by have:=h (j+1) ar;simpa using this,by have:=h 0 au;simpa using this⟩]
theorem iu:∀{l:List KQ} {t:Nat},t<=l.length->(∀ j (h:j<l.length),t<=j->l[j]=0)->(∀ h:t-1<l.length,0<t->l[t-1]≠0)->dO l=l.take t
 | l,0,_,h,_=>by rw[o6 fun j hj=>h j hj aw];rfl
 | [],t+1,ht,_,_=>by simp at ht
 | f::l,t+1,ht,h,h2=>by
  have ht':t<=l.length:=by simp only[List.length_cons]at ht;omega
  cases t with
  | zero =>
   have h0:f≠0:=by have:=h2 au aw;simpa using this
   rw[dO,if_neg (fun h=>h0 h.2),o6 fun j hj=>by have:=h (j+1) ar aw;simpa using this];rfl
  | succ t =>
   have ih:=iu (l:=l) (t:=t+1) ht' (fun j hj h3=>by have:=h (j+1) ar aw;simpa using this) (fun h3 _=>by have:=h2 ar aw;simpa using this);have hne:dO l≠[]:=by
    rw[ih];intro e;have:=congrArg List.length e;simp only[List.length_take,List.length_nil]at this;omega
   rw[dO,if_neg (fun h=>hne h.1),ih];rfl
theorem kq (l:List KQ) (hl:l.length<=1099511627776):Fn Tryz.prog 54 [kl l] [kl (dO l)]:=by
 refine aJ (fn:=Tryz.f54) ?_;simp -dsimp only[go_sem,az];refine a8 [(3,3),(6,17)] [] [] (fun n τ β ε=>∃ t:Nat,n=t/\t<=l.length/\(∀ j (h:j<l.length),t<=j->l[j]=0)/\τ 3 = .i (iN t))
  (fun e τ β ε=>e = .exit 0/\∃ t:Nat,t<=l.length/\dO l=l.take t/\τ 3 = .i (iN t)) l.length ?_ ?_ ?_
 ·exact⟨l.length,rfl,ay _,fun j h h'=>by omega,rfl⟩
 ·rintro n τ β ε π hK hKB hKE ⟨t,hn,ht,hz,h3⟩;have k0:τ 0 = .i (kl l):=(hK 0 rfl).trans rfl;by_cases ht0:t=0
  ·have hA:¬ (0:Int)<(t:Int):=aw;simp -dsimp only[go_sem,h3,hA];exact⟨(aA hK),hKB,hKE,t,ht,iu ht hz (fun _ h=>by omega),rfl⟩
  ·have hA:(0:Int)<(t:Int):=aw;have et:(t:Int)-1=((t-1:Nat):Int):=aw;have hg:l[t-1]?=some l[t-1]:=aD aw;simp -dsimp only[go_sem,h3,k0,hA,et]
   repeat(refine And.intro aw ?_)
   refine aP hg ?_;simp -dsimp only[go_sem,h3,k0,hA,et];refine aQ (args':=[iK l[t-1]]) rfl (G4 _) ?_;by_cases hf:l[t-1]=0
   ·have e1:decide (l[t-1]=0)=true:=aF hf;simp -dsimp only[go_sem,e1,h3,et]
    repeat(refine And.intro aw ?_)
    refine again (t-1) aw ⟨(aA hK),hKB,hKE,t-1,rfl,aw,fun j hj h=>?_,rfl⟩;by_cases e:j=t-1
    ·subst e;exact hf
    ·exact hz j hj aw
   ·have e1:decide (l[t-1]=0)=false:=aG hf;simp -dsimp only[go_sem,e1];exact⟨(aA hK),hKB,hKE,t,ht,iu ht hz (fun _ _=>hf),h3⟩
 ·rintro e τ β ε π hK hKB hKE ⟨rfl,t,ht,htk,h3⟩;have k0:τ 0 = .i (kl l):=(hK 0 rfl).trans rfl;simp -dsimp only[go_sem,h3,k0,az];refine⟨ht,?_⟩;rw[<-List.map_take,<-htk]
def PP (rows:List (List C)) (l:List KQ):Prop:=rows.length=l.length/\∀(j:Nat) (h:j<l.length),rows[j]?=some (kr l[j])
theorem PP.eq {rows:List (List C)} {l:List KQ} (h:PP rows l):rows=l.map kr:=by
 refine List.ext_getElem? fun j=>?_;rw[List.getElem?_map];rcases Nat.lt_or_ge j l.length with hj|hj
 ·rw[h.2 j hj,aD hj];rfl
 ·rw[List.getElem?_eq_none (by rw[h.1];exact hj),List.getElem?_eq_none hj];rfl
theorem rQ (hres:jq) (l:List KQ) (c:KQ) (hl:l.length<=1048576) (h1:∀ f∈l,FW f) (hc:FW c) (h2:∀ f∈l,FW (f*c)):Fn Tryz.prog 52 [kl l,iK c] [kl (dO (l.map (· * c)))]:=by
 refine aJ (fn:=Tryz.f52) ?_;simp -dsimp only[go_sem,az]
 repeat(refine And.intro aw ?_)
 refine bt [(6,6),(12,24)] [] [(9,9)] (fun n τ β ε=>∃(i:Nat) (rows:List (List C)),n=l.length-i/\i<=l.length/\τ 12 = .i (iN i)/\ε 9=⟨1,2,rows,true,true⟩/\rows.length=l.length/\(∀ r∈rows,r.length=2)/\∀(j:Nat) (h:j<l.length),j<i->rows[j]?=some (kr (l[j]*c)))
  (fun e τ β ε=>e = .exit 0/\ε 9=⟨1,2,(l.map (· * c)).map kr,true,true⟩) l.length ?_ ?_ ?_
 ·exact⟨0,_,aw,aw,rfl,rfl,au,fun r hr=>by rw[List.eq_of_mem_replicate hr];rfl,fun j h h'=>by omega⟩
 ·rintro n τ β ε π hK hKB hKE ⟨i,rows,hn,hi,h12,h9,hlen,hr2,hrows⟩;have k0:τ 0 = .i (kl l):=(hK 0 rfl).trans rfl;have k11:τ 11 = .i (iN l.length):=(hK 11 rfl).trans rfl;have k5:τ 5 = .sl 9 1 l.length:=(hK 5 rfl).trans rfl;have k3:τ 3 = .bp 3 1 0:=(hK 3 rfl).trans rfl;have b3:β 3=⟨1,kr c⟩:=(hKB 3 rfl).trans rfl;by_cases hlt:i<l.length
  ·have hA:(i:Int)<(l.length:Int):=aw;have hg:l[i]?=some l[i]:=aD hlt;have hr:∃ r,rows[i]?=some r:=⟨_,aD aw⟩;obtain⟨r,hr⟩:=hr;have hrl:=hr2 r (List.mem_of_getElem? hr);simp -dsimp only[go_sem,h12,k11,hA];refine ap 9 [] false true ?_;simp -dsimp only[go_sem,h12,k0,k5,k3,b3,h9];refine aP hg ?_;simp -dsimp only[go_sem,h12,k0,k5,k3,b3,h9];refine aQ (args':=[iK l[i],iK c]) rfl (kt hres (h1 _ (List.getElem_mem _)) hc (h2 _ (List.getElem_mem _))) ?_;simp -dsimp only[go_sem,h12,k0,k5,k3,b3,h9];refine⟨hlt,r,hr,?_⟩;simp -dsimp only[go_sem,hrl]
   repeat(refine And.intro aw ?_)
   refine again (l.length-(i+1)) aw ⟨(aA hK),hKB,(aA hKE),i+1,rows.set i (kr (l[i]*c)),rfl,aw,rfl,?_,by simp[hlen],?_,?_⟩
   ·simp -dsimp only[go_sem];rw[List.drop_eq_nil_of_le aw]
   ·intro r' hr';rcases List.mem_or_eq_of_mem_set hr' with h|h
    ·exact hr2 r' h
    ·rw[h];rfl
   ·intro j hj hji;rw[List.getElem?_set];by_cases e:i=j
    ·subst e;rw[if_pos rfl,if_pos aw];rfl
    ·rw[if_neg e];exact hrows j hj aw
  ·have hA:¬ (i:Int)<(l.length:Int):=aw;obtain rfl:i=l.length:=aw;simp -dsimp only[go_sem,h12,k11,hA];refine⟨(aA hK),hKB,hKE,?_⟩;have hR:PP rows (l.map (· * c)):=⟨by simp[hlen],fun j hj=>by
    simp only[az]at hj;rw[hrows j hj hj];simp⟩
   rw[h9,hR.eq]
 ·rintro e τ β ε π hK hKB hKE ⟨rfl,h9⟩;refine⟨_,bA.refl _,?_⟩;have k5:τ 5 = .sl 9 1 l.length:=(hK 5 rfl).trans rfl;simp -dsimp only[go_sem,k5,h9];rw[List.take_of_length_le au];refine aQ (args':=[kl (l.map (· * c))]) rfl (kq _ ar) ?_;simp -dsimp only[go_sem]
noncomputable def kX (a b:List KQ) (i:Nat):List KQ:=(List.range a.length).map fun j=>if j<i then a.getD j 0+b.getD j 0 else a.getD j 0
noncomputable def AN (a b:List KQ):List KQ:=if a.length<b.length then dO (kX b a a.length)else dO (kX a b b.length)
theorem AO (a b:List KQ) (i:Nat):(kX a b i).length=a.length:=by simp[kX]
theorem GM (a b:List KQ):kX a b 0=a:=by
 refine List.ext_getElem (AO ..) fun j h1 h2=>?_;simp[kX,List.getD,h2]
theorem GN {a b:List KQ} {i:Nat} (hi:i<b.length) (hle:b.length<=a.length):(kX a b i).set i (a[i]+b[i])=kX a b (i+1):=by
 refine List.ext_getElem (by simp[kX]) fun j h1 h2=>?_;rw[List.getElem_set];simp only[kX,List.getElem_map,List.getElem_range];by_cases e:i=j
 ·subst e;have h3:i<a.length:=aw;rw[if_pos rfl,if_pos aw];simp[List.getD,h3,hi]
 ·rw[if_neg e];by_cases h:j<i
  ·rw[if_pos h,if_pos aw]
  ·rw[if_neg h,if_neg aw]
set_option maxHeartbeats 1000000 in
theorem EX (hres:jq) (a b:List KQ) (la:a.length<=1048576) (lb:b.length<=1048576) (h1:∀ f∈a,FW f) (h2:∀ f∈b,FW f) (h3:∀ f∈a,∀ g∈b,FW (f+g)):Fn Tryz.prog 16 [kl a,kl b] [kl (AN a b)]:=by
 refine aJ (fn:=Tryz.f16) ?_;simp -dsimp only[go_sem,az];by_cases hlt:a.length<b.length
 case' pos =>
  have e1:decide ((a.length:Int)<(b.length:Int))=true:=aF aw;obtain⟨x,y,lx,hle,k1,k2,k3,hE,h0,h0'⟩:∃ x y:List KQ,x.length<=1048576/\y.length<=x.length/\(∀ f∈x,FW f)/\(∀ f∈y,FW f)/\(∀ f∈x,∀ g∈y,FW (f+g))/\AN a b=dO (kX x y y.length)/\kl b=kl x/\kl a=kl y :=
   ⟨b,a,lb,aw,h2,h1,fun f hf g hg=>by rw[add_comm];exact h3 g hg f hf,by rw[AN,if_pos hlt],rfl,rfl⟩
  simp -dsimp only[go_sem,e1];rw[h0,h0',hE]
 case' neg =>
  have e1:decide ((a.length:Int)<(b.length:Int))=false:=aG aw;obtain⟨x,y,lx,hle,k1,k2,k3,hE,h0,h0'⟩:∃ x y:List KQ,x.length<=1048576/\y.length<=x.length/\(∀ f∈x,FW f)/\(∀ f∈y,FW f)/\(∀ f∈x,∀ g∈y,FW (f+g))/\AN a b=dO (kX x y y.length)/\kl a=kl x/\kl b=kl y :=
   ⟨a,b,la,aw,h1,h2,h3,by rw[AN,if_neg hlt],rfl,rfl⟩
  simp -dsimp only[go_sem,e1];rw[h0,h0',hE]
 all_goals
  clear h0 h0' hE e1 hlt;refine co (pF (x.map kr) (s7 x) ar) ?_;simp -dsimp only[go_sem,az];refine bt [(6,7),(19,33)] [(7,7)] [(16,16)] (fun n τ β ε=>∃ i:Nat,n=y.length-i/\i<=y.length/\τ 19 = .i (iN i)/\ε 16=⟨1,2,(kX x y i).map kr,!x.isEmpty,true⟩)
   (fun e τ β ε=>e = .exit 0/\ε 16=⟨1,2,(kX x y y.length).map kr,!x.isEmpty,true⟩) y.length ?_ ?_ ?_
  ·exact⟨0,aw,aw,rfl,by simp -dsimp only[go_sem,GM];simp⟩
  ·rintro n τ β ε π hK hKB hKE ⟨i,hn,hi,h19,h16⟩;have k17:τ 17 = .i (kl y):=(hK 17 rfl).trans rfl;have k18:τ 18 = .i (iN y.length):=by rw[hK 18 aH];simp -dsimp only[go_sem,az]
   have k5:τ 5 = .sl 16 1 x.length:=by rw[hK 5 aH];simp -dsimp only[go_sem,az]
   by_cases hlt:i<y.length
   ·have hA:(i:Int)<(y.length:Int):=aw;have hix:i<x.length:=aw;have hg:y[i]?=some y[i]:=aD hlt;have hgx:(kX x y i)[i]?=some x[i]:=by simp[kX,hix,List.getD]
    have hm:(!x.isEmpty)=true:=by cases hxc:x with|nil=>rw[hxc]at hix;simp at hix|cons _ _=>rfl
    simp -dsimp only[go_sem,h19,k18,k17,hA];refine aP hg ?_;simp -dsimp only[go_sem,h19,k18,k17,k5,hA];refine ap 9 [] false true ?_;simp -dsimp only[go_sem,h19,k18,k17,k5,h16,hm];refine⟨hix,aP hgx ?_⟩;simp -dsimp only[go_sem,h19,k18,k17,k5,h16,hm];refine aQ (args':=[iK x[i],iK y[i]]) rfl (Bh hres (k1 _ (List.getElem_mem _)) (k2 _ (List.getElem_mem _)) (k3 _ (List.getElem_mem _) _ (List.getElem_mem _))) ?_;simp -dsimp only[go_sem,h19,k18,k17,k5,h16,hm];refine⟨hix,aP hgx ?_⟩;simp -dsimp only[go_sem,h19]
    repeat(refine And.intro aw ?_)
    refine again (y.length-(i+1)) aw ⟨(aA hK),(aA hKB),(aA hKE),i+1,rfl,aw,rfl,?_⟩;simp -dsimp only[go_sem,h16,hm];rw[<-GN hlt hle,List.map_set];rfl
   ·have hA:¬ (i:Int)<(y.length:Int):=aw;obtain rfl:i=y.length:=aw;simp -dsimp only[go_sem,h19,k18,hA];exact⟨(aA hK),hKB,hKE,h16⟩
  ·rintro e τ β ε π hK hKB hKE ⟨rfl,h16⟩;have k5:τ 5 = .sl 16 1 x.length:=by rw[hK 5 aH];simp -dsimp only[go_sem,az]
   refine⟨_,bA.refl _,?_⟩;simp -dsimp only[go_sem,k5,h16];rw[List.take_of_length_le (by simp[kX])];refine aQ (args':=[kl (kX x y y.length)]) rfl (kq _ (by rw[AO];omega)) ?_;simp -dsimp only[go_sem]
theorem M5 (hres:jq) (a b:List KQ) (la:a.length<=1048576) (lb:b.length<=1048576) (h1:∀ f∈a,FW f) (h2:∀ f∈b,FW f) (h0:FW (kn (-1))) (h2':∀ f∈b,FW (f*kn (-1))) (h3:∀ f∈a,∀ g∈dO (b.map (· * kn (-1))),FW (f+g)) (h4:∀ g∈dO (b.map (· * kn (-1))),FW g) (h5:(dO (b.map (· * kn (-1)))).length<=1048576) :
  Fn Tryz.prog 50 [kl a,kl b] [kl (AN a (dO (b.map (· * kn (-1)))))]:=by
 refine aJ (fn:=Tryz.f50) ?_;simp -dsimp only[go_sem];refine aK (cB (-1) aH) ?_;simp -dsimp only[go_sem];refine ao (rQ hres b (kn (-1)) lb h2 h0 h2') rfl ?_;simp -dsimp only[go_sem];refine aQ (args':=[kl a,kl (dO (b.map (· * kn (-1))))]) rfl (EX hres a _ la h5 h1 h4 h3) ?_;simp -dsimp only[go_sem]
theorem Dn:Fn Tryz.prog 53 [kl []] [kl []]:=by
 have e:decide (((0:Nat):Int)=0)=true:=rfl;refine aJ (fn:=Tryz.f53) ?_;simp -dsimp only[go_sem,az,e];rfl
theorem G3 (hres:jq) (l:List KQ) (hl0:0<l.length) (hl:l.length<=1048576) (c:KQ) (hc:c=kn 1*Alg.inv l[l.length-1]) (hz:l[l.length-1]≠0) (h1:∀ f∈l,FW f) (h0:FW (kn 1)) (hcw:FW c) (h2:∀ f∈l,FW (f*c)) :
  Fn Tryz.prog 53 [kl l] [kl (dO (l.map (· * c)))]:=by
 have e:decide ((l.length:Int)=0)=false:=aG aw;have el:(l.length:Int)-1=((l.length-1:Nat):Int):=aw;have hg:l[l.length-1]?=some l[l.length-1]:=aD aw;refine aJ (fn:=Tryz.f53) ?_;simp -dsimp only[go_sem,az,e];refine ap 14 [] false true ?_;simp -dsimp only[go_sem];refine aK (cB 1 aH) ?_;simp -dsimp only[go_sem,az,el]
 repeat(refine And.intro aw ?_)
 refine aP hg ?_;simp -dsimp only[go_sem];refine aQ (args':=[iK (kn 1),iK l[l.length-1]]) rfl (vB hres h0 (h1 _ (List.getElem_mem _)) hz (by rw[<-hc];exact hcw)) ?_;rw[<-hc];simp -dsimp only[go_sem];refine ao (qM c 0) rfl ?_;simp -dsimp only[go_sem];refine ao (rQ hres l c hl h1 hcw h2) rfl ?_;simp -dsimp only[go_sem]
end Go.AM
namespace Go.AM
open Go.Proofs
open Classical
end Go.AM
namespace Go.AM
open Alg
open Go.Proofs
open Classical
noncomputable def nO (a:List KQ) (i:Nat):List KQ:=(List.range (i-1)).map fun j:Nat=>kn ((j+1:Nat):Int)*a.getD (j+1) 0
theorem GE (a:List KQ) {i:Nat} (h1:1<=i) (h:i<a.length):nO a (i+1)=nO a i++[kn (i:Int)*a[i]]:=by
 obtain⟨k,rfl⟩:∃ k,i=k+1:=⟨i-1,aw⟩;rw[nO,nO,show k+1+1-1=k+1 from rfl,show k+1-1=k from rfl,List.range_succ,List.map_append];congr 1;simp[List.getD,h]
theorem Kz (hres:jq) (a:List KQ) (la:a.length<=1048576) (h1:∀ f∈a,FW f) (h2:∀ i:Nat,i<a.length->FW (kn (i:Int))) (h3:∀(i:Nat) (h:i<a.length),FW (kn (i:Int)*a[i])):Fn Tryz.prog 17 [kl a] [kl (nO a a.length)]:=by
 refine aJ (fn:=Tryz.f17) ?_;simp -dsimp only[go_sem];refine cv 3 3 2 (rs:=[]) rfl au ?_;refine bt [(3,20)] [] [(20,20),(3,3)] (fun n τ β ε=>∃ i:Nat,n=a.length-i/\1<=i/\(i<=a.length\/i=1)/\τ 4 = .i (iN i)/\Own 2 ((nO a i).map kr) 3 3 τ ε)
  (fun e τ β ε=>e = .exit 0/\Own 2 ((nO a a.length).map kr) 3 3 τ ε) (a.length-1) ?_ ?_ ?_
 ·exact⟨1,aw,aw,.inr rfl,rfl,Own.mk (g:=1) (mm:=false) (len:=0) aw rfl rfl rfl⟩
 ·rintro n τ β ε π hK hKB hKE ⟨i,hn,hi1,hi,h4,g,mm,hg,h3',hrow⟩;have k0:τ 0 = .i (kl a):=(hK 0 rfl).trans rfl;by_cases hlt:i<a.length
  ·have hA:(i:Int)<(a.length:Int):=aw;have hga:a[i]?=some a[i]:=aD hlt;simp -dsimp only[go_sem,h4,k0,hA,az];refine ap 11 [] true false ?_;simp -dsimp only[go_sem,h4,k0,h3',hrow];refine aK (cB i aw) ?_;simp -dsimp only[go_sem,h4,k0,h3',hrow];refine aP hga ?_;simp -dsimp only[go_sem,h4,k0,h3',hrow];refine aQ (args':=[iK (kn (i:Int)),iK a[i]]) rfl (kt hres (h2 i hlt) (h1 _ (List.getElem_mem _)) (h3 i hlt)) ?_;simp -dsimp only[go_sem,h4,k0,h3',hrow,hg];have hdl:(nO a i).length=i-1:=by simp[nO]
   repeat(refine And.intro aw ?_)
   refine be (a.length-(i+1)) 3 20 3 aw rfl rfl aw aH ⟨(aA hK),hKB,(aA hKE),i+1,rfl,aw,.inl aw,rfl,?_⟩;exact Own.mk2 (Nat.succ_pos _) (by simp -dsimp only[go_sem];rfl) (by simp -dsimp only[go_sem];rfl) au (by rw[GE a hi1 hlt];simp;rfl)
  ·have hA:¬ (i:Int)<(a.length:Int):=aw;have hd:nO a i=nO a a.length:=by
    rcases hi with h|h
    ·rw[show i=a.length by omega]
    ·unfold nO;rw[show i-1=a.length-1 by omega]
   simp -dsimp only[go_sem,h4,k0,hA,az];rw[<-hd];exact⟨(aA hK),hKB,hKE,Own.mk hg h3' rfl hrow⟩
 ·rintro e τ β ε π hK hKB hKE ⟨rfl,g,mm,hg,h3',hrow⟩;refine⟨_,bA.refl _,?_⟩;simp -dsimp only[go_sem,h3',hrow,hg]
theorem Kv {a b q r:List KQ} {n:Int} (h:Fn Tryz.prog 18 [kl a,kl b] [kl q,kl r,iN n]):Fn Tryz.prog 81 [kl a,kl b] [kl q]:=by
 refine aJ (fn:=Tryz.f81) ?_;simp -dsimp only[go_sem];refine aK h ?_;simp -dsimp only[go_sem]
theorem M8 {a b q r:List KQ} {n:Int} (h:Fn Tryz.prog 18 [kl a,kl b] [kl q,kl r,iN n]):Fn Tryz.prog 82 [kl a,kl b] [kl r]:=by
 refine aJ (fn:=Tryz.f82) ?_;simp -dsimp only[go_sem];refine aK h ?_;simp -dsimp only[go_sem]
end Go.AM
namespace Go.AM
abbrev bpt (b:Nat):Value := .pointer (some ⟨b,0,none⟩)
def oV (w:World) (M:Nat->Prop) (b:Nat) (cs:List C):Prop:=∃ ys T,w.heap[b]?=some (.cells ys T (0,0))/\aY w M cs ys.toList
def FnC (P:Program) (f:FuncId) (args:List IV) (gf:Nat) (css:List (List C)):Prop :=
 n8 P f/\∀(w:World) (M:Nat->Prop) (vs:List Value),(∀ b,M b->b<w.heap.size)->cV w M args vs ->
  Calls P f vs.toArray w fun e w'=>∃ bs:List Nat,e = .returned (.func (.func gf) #[] (bs.map bpt).toArray)/\bq w.heap.size w w'/\bs.length=css.length/\bs.Nodup /\
   (∀ b∈bs,w.heap.size<=b/\b<w'.heap.size)/\∀(i b:Nat) cs,bs[i]?=some b->css[i]?=some cs->oV w' (fun x=>M x\/x∈bs) b cs
def qw (β:Nat->BX) (ks:List Nat) (css:List (List C)) (t:Nat):BX:=match ks.idxOf? t with|some i=>⟨(β t).gen+1,css.getD i []⟩|none=>β t
def C1 (A:Nat->Nat) (ks bs:List Nat) (t:Nat):Nat:=match ks.idxOf? t with|some i=>bs.getD i 0|none=>A t
def vP (own:Nat->Option Key) (ks bs:List Nat) (b:Nat):Option Key:=match bs.idxOf? b with|some i=>some (.b (ks.getD i 0))|none=>own b
theorem eP {l:List Nat} {x i:Nat} (h:l.idxOf? x=some i):l[i]?=some x:=by
 rw[List.idxOf?_eq_some_iff]at h;obtain⟨h1,h2,-⟩:=h;rw[aD h1];simpa using h2
theorem eG {l:List Nat} (hnd:l.Nodup) {x i:Nat} (h:l[i]?=some x):l.idxOf? x=some i:=by
 obtain⟨h1,h2⟩:=List.getElem?_eq_some_iff.1 h;rw[List.idxOf?_eq_some_iff];refine⟨h1,by simp[h2],fun j hj e=>?_⟩;have h3:=(List.getElem_inj (h₀:=by omega) (h₁:=h1) hnd).1 (e.trans h2.symm);omega
theorem AD (β:Nat->BX) (k:Nat) (c:List C):qw β [k] [c]=upd β k ⟨(β k).gen+1,c⟩:=by
 funext t;by_cases e:t=k
 ·subst e;rw[aN];simp[qw,eG (l:=[t]) au (i:=0) (x:=t) rfl]
 ·rw[aT _ _ e];have:[k].idxOf? t=none:=by rw[List.idxOf?_eq_none_iff];simpa using e
  simp[qw,this]
theorem AC (β:Nat->BX) (k m:Nat) (c d:List C) (h:m≠k):qw β [k,m] [c,d]=upd (upd β k ⟨(β k).gen+1,c⟩) m ⟨(β m).gen+1,d⟩:=by
 funext t;by_cases e:t=m
 ·subst e;rw[aN];simp[qw,eG (l:=[k,t]) (by simpa using fun e=>h e.symm) (i:=1) (x:=t) rfl]
 ·rw[aT _ _ e];by_cases e':t=k
  ·subst e';rw[aN];simp[qw,eG (l:=[t,m]) (by simpa using fun e=>h e.symm) (i:=0) (x:=t) rfl]
  ·rw[aT _ _ e'];have:[k,m].idxOf? t=none:=by rw[List.idxOf?_eq_none_iff];simp[e,e']
   simp[qw,this]
section
variable {P:Program} {kind:FuncId->CK} {st:St} {K:St->Prop}
theorem ms {dst:Option Tmp} {f:Nat} {caps:Array Operand} {ts:List (Nat×Nat)} (hts:caps.toList.map st.ev=ts.map fun p=>AV.bp p.1 p.2 0) (hl:∀ p∈ts,(st.b p.1).gen=p.2/\0<p.2)
  (hK:K (st.put dst (.clo f ts))):il P kind none dst K st (.makeFunc (.func f) #[] caps) ⟨⟩:=by
 refine⟨rfl,fun o ho hdst=>⟨by simp[eO,ho],?_⟩⟩;intro W0 M0 N G w a Q S hd;refine bF (y := .func (.func f) #[] (caps.map a.eval)) (w':=w) (by simp[execOp,ho,Instr.makeFunc]) ?_;rw[hdst];refine⟨_,G,hK,S.put (by rw[<-hdst];exact hd) (bq.refl _ _) fun _=>?_⟩;refine⟨fun p hp=>by have:=hl p hp;omega,fun _=>?_⟩;congr 1;apply Array.ext';simp only[Array.toList_map];have key:∀(l:List Operand) (ts:List (Nat×Nat)),l.map st.ev=ts.map (fun p=>AV.bp p.1 p.2 0)->(∀ p∈ts,(st.b p.1).gen=p.2/\0<p.2)->l.map a.eval=ts.map fun p=>Value.pointer (some ⟨G.A p.1,0,none⟩):=by
  intro l
  induction l with
  | nil=>intro ts h _;cases ts with|nil=>rfl|cons p ts=>simp at h
  | cons x l ih =>
   intro ts h hl;cases ts with
   | nil=>simp at h
   | cons p ts =>
    simp only[List.map_cons,List.cons.injEq]at h ⊢;refine⟨?_,ih ts h.2 fun q hq=>hl q (by simp[hq])⟩;have hv:=S.ev x;rw[h.1]at hv;obtain⟨h1,h2⟩:=hl p au;exact hv.2 h1 h2
 exact key _ _ hts hl
def Rd (t:Tmp) (gf:Nat) (css:List (List C)) (e:bg) (st:St):Prop:=(e = .normal\/e = .ret) /\
 ∃ ts,st.t t = .clo gf ts/\(∀ p∈ts,(st.b p.1).gen=p.2/\0<p.2)/\(ts.map (·.1)).Nodup/\ts.map (fun p=>(st.b p.1).cs)=css
theorem rT {f:FuncId} {fn:Func} {c:Code} {t:Tmp} {nt:Nat} {args:List IV} {gf:Nat} {css:List (List C)} (kind:FuncId->CK) (hf:P.funcs[f]?=some fn) (hb:fn.body=some c) (hr:fn.results = #[.tmp t]) (hnt:fn.ntmps=nt)
  (hn : (fn.name == "runtime.NumGoroutine") = false) (hlen : args.length <= nt) (hasg : (asg c).all (fun d => Nat.blt d nt) = true) (h : CW P kind c (Rd t gf css) (iy args)) : FnC P f args gf css := by
 subst hnt;refine⟨⟨fn,c,hf,hb,hn⟩,fun w M vs hm hrs=>?_⟩;refine callsIn_wide.1 (callsIn_of_wp_marks (F:=Fence.wide) (n:=0) hf hb trivial (wpIn_mono (bQ c h none (.of w) M fn.ntmps g0 w _ (qi hm hrs hlen) fun d hd=>?_) ?_))
 ·have:=(List.all_eq_true.1 hasg) d hd;simpa using this
 ·rintro e a' w' ⟨x,st',G',h1,⟨h2,ts,ht,hl,hnd,hcs⟩,S⟩;have hend:LeavesInM Fence.wide 0 P fn a'.tmps (fun e w'=>∃ bs:List Nat,e = .returned (.func (.func gf) #[] (bs.map bpt).toArray)/\bq w.heap.size w w'/\bs.length=css.length/\bs.Nodup /\
   (∀ b∈bs,w.heap.size<=b/\b<w'.heap.size)/\∀(i b:Nat) cs,bs[i]?=some b->css[i]?=some cs->oV w' (fun x=>M x\/x∈bs) b cs) a'.defers .returning w':=jZ S fun w' S=>by
   have hrun:(results fn a'.tmps).run P w' = .ok (a'.tmps.getD t undef) w':=by simp[results,hr]
   have hv:=S.fr t;rw[ht]at hv;have hv2:=hv.2 hl;have hown:∀ p∈ts,G'.own (G'.A p.1)=some (.b p.1):=fun p hp=>(S.bx p.1 (by have:=hl p hp;omega)).1;refine⟨_,hrun,ts.map (fun p=>G'.A p.1),?_,S.below.below,by rw[<-hcs];simp,?_,?_,?_⟩
   ·show Ending.returned (a'.tmps.getD t undef)=_;rw[show a'.tmps.getD t undef=_ from hv2];simp
   ·rw[List.nodup_iff_pairwise_ne,List.pairwise_map]at hnd ⊢;refine hnd.imp_of_mem fun{p q} hp hq hne e=>hne ?_;have h3:=hown p hp;rw[e,hown q hq]at h3;exact(Key.b.inj (Option.some.inj h3)).symm
   ·intro b hb;obtain⟨p,hp,rfl⟩:=List.mem_map.1 hb;have:=S.own (G'.A p.1) (by simp[hown p hp]);exact⟨this.1.resolve_right (fun h=>h rfl),this.2⟩
   ·intro i b cs hb hc;rw[List.getElem?_map]at hb;cases hp:ts[i]? with
    | none=>simp[hp]at hb
    | some p =>
     simp only[hp,Option.map_some,Option.some.injEq]at hb;rw[<-hcs,List.getElem?_map,hp]at hc;simp only[Option.map_some,Option.some.injEq]at hc;subst hb hc;have hpm:=List.mem_of_getElem? hp;obtain⟨-,ys,T,h4,h5⟩:=S.bx p.1 (by have:=hl p hpm;omega);refine⟨ys,T,h4,aY.mono (w:=w') (M:=G'.M M) ⟨ay _,fun x _ hx=>⟨?_,rfl⟩⟩ _ _ h5⟩;rintro (h6|h6)
     ·exact hx (.inl h6)
     ·obtain⟨q,hq,rfl⟩:=List.mem_map.1 h6;exact hx (.inr (by simp[hown q hq]))
  cases e with
  | normal=>exact hend
  | ret=>exact hend
  | exit id=>simp[bz]at h1;subst h1;simp at h2
  | goto l=>simp[bz]at h1
  | panic l=>simp[bz]at h1
  | outgrown=>simp[bz]at h1
theorem oB {d:Tmp} {c:Call} {f:FuncId} {gf:Nat} {args:List IV} {css:List (List C)} (ks:List Nat) (hc:c.callee = .value (.func f)) (hkd:kind f = .sem) (ha:eF (fun x=>st.toIV (st.ev x)) c.args.toList=some args)
  (hf:FnC P f args gf css) (hnd:ks.Nodup) (hlen:ks.length=css.length)
  (hK:K { t:=upd st.t d (.clo gf (ks.map fun k=>(k,(st.b k).gen+1))),b:=qw st.b ks css,e:=st.e,p:=st.p }):il P kind none (some d) K st (.call c) ⟨⟩:=by
 refine⟨rfl,fun o ho hdst=>⟨?_,?_⟩⟩
 ·obtain⟨cal,ca,ct⟩:=c;subst hc;simp[eO,ho,hkd]
 intro W0 M0 N G w a Q S hd;have hargs:=nW S ha;have hcal:c8 st c=some f:=by simp[c8,hc,St.ev]
 have hrun:=lO S ho hcal hf.1;simp only[Oper.wp,hrun,Oper.upon];refine(hf.2 w (G.M M0) _ (mbelow S) hargs).mono ?_;rintro e w' ⟨bs,rfl,hbl,hbn,hbd,hbb,hbx⟩;rw[hdst]at hd ⊢;have hsz:=hbl.size;have hk:bE w (G.M M0) w' (Gh.M { G with A:=C1 G.A ks bs,own:=vP G.own ks bs } M0):=⟨hsz,fun b hb hm=>⟨?_,hbl.block b hb⟩⟩
 case refine_1 =>
  rintro (h|h)
  ·exact hm (.inl h)
  ·simp only[vP]at h;split at h
   ·rename_i i hi;have:=(hbb b (List.mem_of_getElem? (eP hi))).1;omega
   ·exact hm (.inr h)
 have ownk:∀(i k:Nat),ks[i]?=some k->∃ b cs,bs[i]?=some b/\css[i]?=some cs/\C1 G.A ks bs k=b/\vP G.own ks bs b=some (.b k)/\qw st.b ks css k=⟨(st.b k).gen+1,cs⟩:=fun i k hi=>by
  have h1:i<ks.length:=(List.getElem?_eq_some_iff.1 hi).1;have hb:bs[i]?=some bs[i]:=aD aw;have hcs:css[i]?=some css[i]:=aD aw;refine⟨bs[i],css[i],hb,hcs,?_,?_,?_⟩
  ·simp only[C1,eG hnd hi,List.getD,hb,Option.getD_some]
  ·simp only[vP,eG hbd hb,List.getD,hi,Option.getD_some]
  ·simp only[qw,eG hnd hi,List.getD,hcs,Option.getD_some]
 have keep:∀ b,G.own b≠none->vP G.own ks bs b=G.own b/\w'.heap[b]?=w.heap[b]?:=fun b h=>by
  have hlt:=(S.own b h).2;refine⟨?_,hbl.block b hlt⟩;simp only[vP];cases hi:bs.idxOf? b with
  | none=>rfl
  | some i =>
   have:=(hbb b (List.mem_of_getElem? (eP hi))).1;omega
 have hkn:∀ t,ks.idxOf? t=none->C1 G.A ks bs t=G.A t/\qw st.b ks css t=st.b t:=fun t h=>by simp[C1,qw,h]
 have hE:Evo st G { t:=upd st.t d (.clo gf (ks.map fun k=>(k,(st.b k).gen+1))),b:=qw st.b ks css,e:=st.e,p:=st.p } { G with A:=C1 G.A ks bs,own:=vP G.own ks bs }:=by
  refine⟨fun t g h=>?_,fun _ _ h=>⟨h,fun e _=>⟨e,rfl,rfl,rfl,ay _⟩⟩,fun _ _ h=>⟨h,fun e _=>⟨e,rfl,rfl⟩⟩⟩;cases hi:ks.idxOf? t with
  | none =>
   obtain⟨h1,h2⟩:=hkn t hi;simp only[h1,h2];exact⟨h,fun e _=>⟨e,trivial⟩⟩
  | some i =>
   obtain⟨b,cs,-,-,h1,-,h2⟩:=ownk i t (eP hi);simp only[h2];exact⟨aw,fun e _=>by omega⟩
 refine⟨_,{ G with A:=C1 G.A ks bs,own:=vP G.own ks bs },hK,S.next (v := .clo gf (ks.map fun k=>(k,(st.b k).gen+1))) hd (.of_below hbl S.le) hk hE ?_ ?_ ?_ ?_ ?_ ?_⟩
 ·intro n;by_cases e:n=d
  ·subst e;simp[aN]
  ·simp[aT _ _ e,e]
 ·intro _;have hgk:∀ k∈ks,(qw st.b ks css k).gen=(st.b k).gen+1:=fun k hk=>by
   obtain⟨i,hi,e⟩:=List.getElem_of_mem hk;obtain⟨_,_,_,_,_,_,h⟩:=ownk i k (by rw[aD hi,e]);rw[h]
  refine⟨fun p hp=>?_,fun _=>?_⟩
  ·obtain⟨k,hk,rfl⟩:=List.mem_map.1 hp;simp only[hgk k hk];exact ay _
  ·congr 2;rw[List.map_map];refine List.ext_getElem? fun i=>?_;rw[List.getElem?_map,List.getElem?_map];cases hi:ks[i]? with
   | none =>
    have:bs[i]?=none:=by
     rw[List.getElem?_eq_none_iff]at hi ⊢;omega
    rw[this];rfl
   | some k =>
    obtain⟨b,_,h1,_,h2,_,_⟩:=ownk i k hi;simp only[h1,Option.map_some,Function.comp_apply,h2]
 ·intro t ht;simp only at ht ⊢;cases hi:ks.idxOf? t with
  | none =>
   obtain⟨h1,h2⟩:=hkn t hi;rw[h2]at ht;obtain⟨o1,ys,T,o2,o3⟩:=S.bx t ht;obtain⟨k1,k2⟩:=keep (G.A t) (by simp[o1]);simp only[h1,h2];exact⟨k1.trans o1,ys,T,k2.trans o2,aY.mono hk _ _ o3⟩
  | some i =>
   obtain⟨b,cs,hb,hcs,h1,h2,h3⟩:=ownk i t (eP hi);simp only[h1,h2,h3];obtain⟨ys,T,o1,o2⟩:=hbx i b cs hb hcs;refine⟨trivial,ys,T,o1,aY.mono (w:=w') ⟨ay _,fun x _ hx=>⟨?_,rfl⟩⟩ _ _ o2⟩;rintro (h4|h4)
   ·exact hx (.inl (.inl h4))
   ·simp only[vP]at h4;split at h4
    ·rename_i j hj;exact hx (.inr (List.mem_of_getElem? (eP hj)))
    ·exact hx (.inl (.inr h4))
 ·intro t ht;exact mN.mono (G:=G) hk rfl rfl (fun b h=>by obtain⟨k1,k2⟩:=keep b (by simp[h]);exact⟨k1.trans h,k2⟩) (S.en t ht)
 ·intro t ht;exact oN.mono (G:=G) hk (fun _ _=>rfl) (fun b k _ h=>by obtain⟨k1,k2⟩:=keep b (by rw[h];simp);exact⟨k1.trans h,k2⟩) (S.mp t ht)
 ·intro b h;simp only[vP]at h;split at h
  ·rename_i i hi;have:=hbb b (List.mem_of_getElem? (eP hi));exact⟨.inl (ax S.le this.1),this.2⟩
  ·exact⟨(S.own b h).1,Nat.lt_of_lt_of_le (S.own b h).2 hsz⟩
end
end Go.AM
