/- Lemmas, part 22 of 23. No condition. -/
import Derived.Test.YtcmfkhicjhliaaaGreatPZ620
import Derived.ProofKit
import Derived.Deep.Slices
import Derived.OpenShut
import Derived.Test.YtcmfkhicjhliaaaGreatRows
set_option maxRecDepth 65536
set_option linter.unusedSimpArgs false
set_option linter.unusedVariables false
set_option linter.unusedSectionVars false
namespace Go.AM
open Alg
open Go.Proofs
open Classical
theorem xi {N D:List T5} (hN:∀ t∈N,t.ok) (hD:∀ t∈D,t.ok):FB 7 (kw N D 1):=by
 obtain⟨A,a1,a2,a3⟩:=pJ (N.take 1) fun t ht=>hN t (List.mem_of_mem_take ht);obtain⟨B,b1,b2,b3⟩:=pJ (D.take 1) fun t ht=>hD t (List.mem_of_mem_take ht);have la:(N.take 1).length<=1:=by simp;omega
 have lb:(D.take 1).length<=1:=by simp;omega
 have s1:aa (1:Alg.P Int)=1:=jd (R:=Int) aH;have e8:(2:Nat) ^ 7=128:=rfl;by_cases h:lj D 1=0
 ·refine⟨A,1,dP (R:=Int) aH,?_,aw,aw,aw,?_⟩
  ·rw[kw,den1,if_pos h,nX,<-a1];rfl
  ·rw[gh (n:=1) aw];show 0+Int.natAbs 1<=_;omega
 ·refine⟨A,B,fun e=>h (by rw[lj,b1,e,cK]),?_,aw,aw,aw,aw⟩;rw[kw,den1,if_neg h,<-a1,<-b1];rfl
theorem CN {p q:KP} (hp:PW 22 p) (hq:PW 8 q) (sp:aa p<=3) (sq:aa q<=2) (h0:q≠0) {c:KQ} (e:ab p q=an c) (fc:FB 109 c):Fn Tryz.prog 25 [ku p,ku q] [ku (ai p q)]:=by
 have h1:=aT h0;have sc:=gv c;have wr:PW 109 (ab p q):=by rw[e];exact oC fc
 have c1:=JH h0 hp hq (by
  obtain h|h:aa q=1\/aa q=2:=aw
  ·rw[h];exact ax (Nat.mul_le_mul_left _ (Nat.add_le_add_right (Nat.add_le_add_right (sB 22 8 (by omega:aa p+1-1<=3)) _) _)) aH
  ·rw[h];exact ax (Nat.mul_le_mul_left _ (Nat.add_le_add_right (Nat.add_le_add_right (sB 22 8 (by omega:aa p+1-2<=2)) _) _)) aH) aw aw
 by_cases hc:c=0
 ·have hr:ab p q=0:=by rw[e,hc,bR]
  refine Az (w:=fun i=>if i=0 then 109 else 8) 1 (by show mn (ab p q)=0;rw[hr,js]) (fun i hi=>?_) (fun i hi=>?_) (fun i hi=>?_) ⟨hq,aH,by show aa q<=1000;omega⟩
  ·obtain rfl:i=0:=aw;exact h0
  ·obtain rfl:i=0:=aw;exact c1
  ·obtain rfl:i=0:=aw;exact⟨wr,aH,by show aa (ab p q)<=1000;rw[e];omega⟩
 ·have em:mn (ab p q)=1:=by rw[e,K4 hc]
  have e1:gP p q 1=(q,1):=by show(q,mn (ab p q))=_;rw[em]
  have rq1:ab q 1=0:=re1 l6;have e2:gP p q 2=(1,0):=by
   show((gP p q 1).2,mn (ab (gP p q 1).1 (gP p q 1).2))=_;rw[e1];show((1:KP),mn (ab q 1))=_;rw[rq1,js]
  have c2:=JH za hq Gv (by
   rw[l6];refine ax (Nat.mul_le_mul_left _ (Nat.add_le_add_right (Nat.add_le_add_right (sB 8 0 (by omega:aa q+1-1<=2)) _) _)) aH) aw (by rw[l6];omega)
  refine Az (w:=fun i=>if i=0 then 109 else 0) 2 (by rw[e2]) (fun i hi=>?_) (fun i hi=>?_) (fun i hi=>?_) (by rw[e2];exact⟨Gv,aH,by show aa (1:KP)<=1000;rw[l6];omega⟩)
  ·obtain rfl|rfl:i=0\/i=1:=aw
   ·exact h0
   ·rw[e1];exact za
  ·obtain rfl|rfl:i=0\/i=1:=aw
   ·exact c1
   ·rw[e1];exact c2
  ·obtain rfl|rfl:i=0\/i=1:=aw
   ·exact⟨wr,aH,by show aa (ab p q)<=1000;rw[e];omega⟩
   ·rw[e1];show PW 0 (ab q 1)/\_;rw[rq1,aM.2 rfl];exact⟨fun i=>dX _,aH,aw⟩
structure RO (p q:KP) (W:KQ) (odd:Bool):Prop where
 f:Fn Tryz.prog 35 [ku p,ku q] [iK W]
 t:Fn Tryz.prog 35 [ku q,ku p] [iK (if odd then -W else W)]
 g:Fn Tryz.prog 25 [ku p,ku q] [ku (ai p q)]
 z:W=0↔1<aa (ai p q)
theorem zz {p:KP} {w:Nat} (h:PW w p):FB w (lc p):=h _
theorem yW {p:KP} {k:KQ} (hp:PW 22 p) (hp0:p≠0) (sp:aa p<=3) (sp2:2<=aa p) (hk:k≠0) (fk:FB 8 k):RO p (an k) (Alg.pw k (aa p-1)) false:=by
 have nk:(an k:KP)≠0:=dP hk;have sk:aa (an k:KP)=1:=dR hk;have lk:lc (an k:KP)=k:=jf k;have wk:PW 8 (an k:KP):=oC fk;have r1:ab p (an k)=0:=Alg.dU hk;have r2:ab (an k) p=an k:=ni (q:=0) (by rw[zero_mul,zero_add]) aw;have c1:Fn Tryz.prog 82 [ku p,ku (an k)] [ku (ab p (an k))]:=Q3 nk hp wk (ax (pz 22 8 (by omega:_<=3)) aH) aw aw aw;have c2:=lL hp0 wk hp aw aw aw;have f1:=Mm hp0 nk r1 c1 sp aw (by rw[lk];exact fk.mono aw);rw[if_pos sk,lk]at f1;have f2:=Jz nk hp0 r2 nk r1 c2 c1 aw sp aw ((zz hp).mono aw) (by rw[lk];exact fk.mono aw);rw[if_pos sk,lk,sk]at f2;have e:sgR (an k) p (Alg.pw (lc p) (1-1))=1:=by
  unfold sgR;rw[if_neg (by rw[sk];omega)];rfl
 rw[e,one_mul]at f2;have hg:ai p (an k)=1:=by rw[gd1 nk r1,K4 hk]
 exact⟨f1,f2,CN hp wk sp aw nk (c:=0) (by rw[r1,bR]) (dX _),⟨fun h=>absurd h (yX hk _),fun h=>by rw[hg,l6]at h;omega⟩⟩
theorem Dg {p q:KP} (x:KQ) (h:aa p % 2=0) (h':aa q % 2=0):sgR p q x = -x:=by unfold sgR;rw[if_pos ⟨h,h'⟩]
theorem Bq {p q:KP} (x:KQ) (h:aa p % 2=1\/aa q % 2=1):sgR p q x=x:=by unfold sgR;rw[if_neg aw]
theorem xq {x:KQ} : -x=0↔x=0:=⟨fun h=>by have:=congrArg (fun y => -y) h;rwa [neg_neg,fh]at this,fun h=>by rw[h,fh]⟩
theorem MT {p q:KP} {ρ:KQ} (hq0:q≠0) (sq:aa q=2) (e:ab p q=an ρ):ρ=0↔1<aa (ai p q):=by
 constructor
 ·intro h;rw[gd1 hq0 (by rw[e,h,bR]),Ib];omega
 ·intro h;refine Classical.byContradiction fun hr=>?_;rw[gd2 hq0 e (dP hr) (Alg.dU hr),K4 hr,l6]at h;omega
theorem Oe {p q:KP} {ρ σ W:KQ} (hp:PW 22 p) (hq:PW 8 q) (sp:aa p=2) (sq:aa q=2) (e:ab p q=an ρ) (fρ:FB 109 ρ) (e':ab q p=an σ) (fσ:FB 109 σ) (h1 : -(lc q*ρ)=W) (h2:lc p*σ=W):RO p q W true:=by
 have hp0:p≠0:=fun h=>by rw[h,aM.2 rfl]at sp;omega
 have hq0:q≠0:=fun h=>by rw[h,aM.2 rfl]at sq;omega
 have lp:=bI hp0;have lq:=bI hq0;have fp:FB 109 (lc p):=(zz hp).mono aw;have fq:FB 109 (lc q):=(zz hq).mono aw;have zρ:W=0↔ρ=0:=by
  rw[<-h1,xq];exact⟨fun h=>(zero_of_mul h).resolve_left lq,fun h=>by rw[h,mul_zero]⟩
 have zσ:W=0↔σ=0:=by
  rw[<-h2];exact⟨fun h=>(zero_of_mul h).resolve_left lp,fun h=>by rw[h,mul_zero]⟩
 have c1:=lL hq0 hp hq aw aw aw;have c2:=lL hp0 hq hp aw aw aw;have one2:∀ x:KQ,Alg.pw x 1=x:=fun x=>oX x;refine⟨?_,?_,CN hp hq aw aw hq0 e fρ,zρ.trans (MT hq0 sq e)⟩
 ·by_cases h0:ρ=0
  ·have f:=Mm hp0 hq0 (by rw[e,h0,bR]) c1 aw aw fq;rw[if_neg aw]at f;rw[zρ.2 h0];exact f
  ·have f:=Jz hp0 hq0 e (dP h0) (Alg.dU h0) c1 (lL (dP h0) hq (oC fρ) (by rw[sq,dR h0];omega) aw (by rw[dR h0];omega)) aw aw (by rw[dR h0];omega) fq (by rw[jf];exact fρ);rw[if_pos (dR h0),dR h0,sp,sq,jf,Dg _ (by rw[sp]) (by rw[sq])]at f;rw[show Alg.pw (lc q) (2-1)=lc q from one2 _,show Alg.pw ρ (2-1)=ρ from one2 _,neg_mul,h1]at f;exact f
 ·by_cases h0:σ=0
  ·have f:=Mm hq0 hp0 (by rw[e',h0,bR]) c2 aw aw fp;rw[if_neg aw]at f;rw[zσ.2 h0,if_pos rfl,fh];exact f
  ·have f:=Jz hq0 hp0 e' (dP h0) (Alg.dU h0) c2 (lL (dP h0) hp (oC fσ) (by rw[sp,dR h0];omega) aw (by rw[dR h0];omega)) aw aw (by rw[dR h0];omega) fp (by rw[jf];exact fσ);rw[if_pos (dR h0),dR h0,sp,sq,jf,Dg _ (by rw[sq]) (by rw[sp])]at f;rw[show Alg.pw (lc p) (2-1)=lc p from one2 _,show Alg.pw σ (2-1)=σ from one2 _,neg_mul,h2]at f;rw[if_pos rfl];exact f
theorem Od {p q:KP} {ρ W:KQ} (hp:PW 22 p) (hq:PW 8 q) (sp:aa p=3) (sq:aa q=2) (e:ab p q=an ρ) (fρ:FB 109 ρ) (h1:lc q*lc q*ρ=W):RO p q W false:=by
 have hp0:p≠0:=fun h=>by rw[h,aM.2 rfl]at sp;omega
 have hq0:q≠0:=fun h=>by rw[h,aM.2 rfl]at sq;omega
 have lq:=bI hq0;have fp:FB 109 (lc p):=(zz hp).mono aw;have fq:FB 109 (lc q):=(zz hq).mono aw;have zρ:W=0↔ρ=0:=by
  rw[<-h1];exact⟨fun h=>(zero_of_mul h).resolve_left (a6 lq lq),fun h=>by rw[h,mul_zero]⟩
 have c1:=lL hq0 hp hq aw aw aw;have c2:=lL hp0 hq hp aw aw aw;have r2:ab q p=q:=ni (q:=0) (by rw[zero_mul,zero_add]) aw;have one2:∀ x:KQ,Alg.pw x 1=x:=fun x=>oX x;have two2:∀ x:KQ,Alg.pw x 2=x*x:=fun x=>by show 1*x*x=_;rw[one_mul]
 refine⟨?_,?_,CN hp hq aw aw hq0 e fρ,zρ.trans (MT hq0 sq e)⟩
 ·by_cases h0:ρ=0
  ·have f:=Mm hp0 hq0 (by rw[e,h0,bR]) c1 aw aw fq;rw[if_neg aw]at f;rw[zρ.2 h0];exact f
  ·have f:=Jz hp0 hq0 e (dP h0) (Alg.dU h0) c1 (lL (dP h0) hq (oC fρ) (by rw[sq,dR h0];omega) aw (by rw[dR h0];omega)) aw aw (by rw[dR h0];omega) fq (by rw[jf];exact fρ);rw[if_pos (dR h0),dR h0,sp,sq,jf,Bq _ (by rw[sp];omega)]at f;rw[show Alg.pw (lc q) (3-1)=_ from two2 _,show Alg.pw ρ (2-1)=ρ from one2 _,h1]at f;exact f
 ·show Fn Tryz.prog 35 [ku q,ku p] [iK W];by_cases h0:ρ=0
  ·have f:=Jz hq0 hp0 r2 hq0 (by rw[e,h0,bR]) c2 c1 aw aw aw fp fq;rw[if_neg aw]at f;rw[zρ.2 h0];exact f
  ·have f:=Res3 hq0 hp0 r2 hq0 e (dP h0) (Alg.dU h0) c2 c1 (lL (dP h0) hq (oC fρ) (by rw[sq,dR h0];omega) aw (by rw[dR h0];omega)) aw aw aw (by rw[dR h0];omega) fp fq (by rw[jf];exact fρ);rw[if_pos (dR h0),dR h0,sp,sq,jf,Bq (p:=p) _ (by rw[sp];omega),Bq (q:=p) _ (by rw[sp];omega)]at f;rw[show Alg.pw (lc p) (2-2)=1 from rfl,show Alg.pw (lc q) (3-1)=_ from two2 _,show Alg.pw ρ (2-1)=ρ from one2 _,one_mul,h1]at f;exact f
theorem hr1 (k r:KQ) (hk:k≠0):hr (an k) r (aa (an k:KP))=k:=by
 rw[dR hk];show 0*r+(an k:KP).c (aa (an k:KP)-1)=k;rw[dR hk,zero_mul,zero_add];rfl
theorem hr2 {q:KP} (r:KQ) (sq:aa q=2):hr q r (aa q)=q.c 1*r+q.c 0:=by
 rw[sq];show(0*r+q.c (aa q-1))*r+q.c (aa q-2)=_;rw[sq,zero_mul,zero_add]
noncomputable abbrev W1 (q:KP) (r c:KQ):KQ:=Alg.pw c (aa q-1)*hr q r (aa q)
section
variable {q:KP} {r s c:KQ} (hq:PW 8 q) (sq:aa q<=2) (hq0:q≠0) (fr:FB 7 r) (fs:FB 7 s) (fc:FB 7 c) (hc:c≠0)
include hq sq hq0 fr fs fc hc
theorem Om:PW 14 (LN r*an c)/\aa (LN r*an c)=2:=⟨(ke fr).scale fc,by rw[Db _ hc,kC]⟩
theorem Qb:PW 22 (LN r*an c*LN s)/\aa (LN r*an c*LN s)=3:=by
 have e:LN r*an c*LN s=an c*LN r*LN s:=by rw[mul_comm (LN r)]
 have s2:=(Om hq sq hq0 fr fs fc hc).2;have n1:LN r*an c≠0:=fun h=>by rw[h,aM.2 rfl]at s2;omega
 refine⟨?_,by rw[szm n1 (kD s),s2,kC]⟩;rw[e];exact PC.pw (((Alg.PC.smul fc (Alg.PC.lin fr)).mul (Alg.PC.lin fs) (k:=1) (by rw[bS hc,kC];decide)).mono aw)
theorem PD:FB 50 (W1 q r c):=by
 have h1:=AN fc (aa q-1);have h2:=II hq fr (aa q);refine(h1.mul h2).mono ?_;have a1:7*(aa q-1)<=7*1:=Nat.mul_le_mul_left _ aw;have a2:aa q*(8+7+1)<=2*(8+7+1):=Nat.mul_le_mul_right _ sq;omega
theorem Of:RO (LN r*an c) q (W1 q r c) (decide (aa q=2))/\RO (LN r*an c*LN s) q (W1 q r c*hr q s (aa q)) false:=by
 obtain⟨w1,s1⟩:=Om hq sq hq0 fr fs fc hc;obtain⟨w2,s2⟩:=Qb hq sq hq0 fr fs fc hc;have n1:LN r*an c≠0:=fun h=>by rw[h,aM.2 rfl]at s1;omega
 have n2:LN r*an c*LN s≠0:=fun h=>by rw[h,aM.2 rfl]at s2;omega
 have hz:=aT hq0;obtain h1|h2:aa q=1\/aa q=2:=aw
 ·obtain⟨k,hk,rfl⟩:=Jc h1;have fk:FB 8 k:=hq 0;have e1:W1 (an k) r c=k:=by rw[W1,hr1 _ _ hk,dR hk];exact one_mul k
  rw[e1,hr1 _ _ hk,dR hk];refine⟨?_,?_⟩
  ·have:=yW (w1.mono aw) n1 aw aw hk fk;rw[s1,show Alg.pw k (2-1)=k from oX k]at this;exact this
  ·have:=yW w2 n2 aw aw hk fk;rw[s2,show Alg.pw k (3-1)=k*k by show 1*k*k=_;rw[one_mul]]at this;exact this
 ·have l1:lc q=q.c 1:=by rw[lc,h2]
  have m1:q.c 1≠0:=by rw[<-l1];exact bI hq0
  have hq3:=three (P:=q) aw;rw[aO (p:=q) (i:=2) aw,bR,zero_mul,add_zero]at hq3;have f0:=hq 0;have f1:=hq 1;rw[W1,hr2 _ h2,hr2 _ h2,h2];rw[show Alg.pw c (2-1)=c from oX c];generalize q.c 0=q0 at *
  generalize q.c 1=q1 at *
  have fi:=f1.inv m1;have fA:FB 24 (Alg.inv q1*q0+r):=(fi.mul f0).add fr;have fB:FB 24 (Alg.inv q1*q0+s):=(fi.mul f0).add fs;have hii:q1*Alg.inv q1=1:=mul_inv m1;have hiiC:(an q1:KP)*an (Alg.inv q1)=1:=by rw[<-bB,hii,co]
  have hcc:(an c:KP)*an (Alg.inv c)=1:=by rw[<-bB,mul_inv hc,co]
  have kA:∀ x:KQ,q1*(Alg.inv q1*q0+x)=q1*x+q0:=fun x=>by
   have:q1*(Alg.inv q1*q0+x)=(q1*Alg.inv q1)*q0+q1*x:=ring [q1,Alg.inv q1,q0,x];rw[this,hii,one_mul,add_comm]
  have lin:∀ x:KQ,LN x=an (Alg.inv q1)*q-an (Alg.inv q1*q0+x):=fun x=>by
   have h:an (Alg.inv q1)*q-an (Alg.inv q1*q0+x)=(an q1*an (Alg.inv q1))*ak-an x:=by
    conv=>lhs;rw[hq3]
    rw[wN,bB];exact ring [an q1,an (Alg.inv q1),an q0,an x,ak]
   rw[h,hiiC,one_mul]
  have reA:ab (LN r*an c) q=an (-(c*(Alg.inv q1*q0+r))):=by
   refine ni (q:=an (Alg.inv q1)*an c) ?_ (by rw[h2];have:=gv (-(c*(Alg.inv q1*q0+r)));omega)
   conv=>lhs;rw[lin r]
   rw[kJ,bB c];exact ring [an (Alg.inv q1),q,an (Alg.inv q1*q0+r),an c]
  refine⟨?_,?_⟩
  ·rw[aF rfl];have reB:ab q (LN r*an c)=an (q1*r+q0):=by
    refine ni (q:=an q1*an (Alg.inv c)) ?_ (by rw[s1];have:=gv (q1*r+q0);omega);have h:an q1*an (Alg.inv c)*(LN r*an c)+an (q1*r+q0)=an q1*(an c*an (Alg.inv c))*(ak-an r)+(an q1*an r+an q0):=by
     rw[wN,bB];exact ring [an q1,an (Alg.inv c),an c,an q0,an r,ak]
    rw[h,hcc]
    conv=>lhs;rw[hq3]
    exact ring [an q1,an q0,an r,ak]
   have lp:lc (LN r*an c)=c:=by rw[gy,vV,jf,one_mul]
   refine Oe (w1.mono aw) hq s1 h2 reA ((fc.mul fA).neg.mono aw) reB (((f1.mul fr).add f0).mono aw) ?_ (by rw[lp]);rw[l1,<-kA r];exact ring [q1,c,Alg.inv q1*q0+r]
  ·have reC:ab (LN r*an c*LN s) q=an (c*(Alg.inv q1*q0+r)*(Alg.inv q1*q0+s)):=by
    refine ni (q:=an c*(an (Alg.inv q1)*an (Alg.inv q1)*q-an (Alg.inv q1)*(an (Alg.inv q1*q0+r)+an (Alg.inv q1*q0+s)))) ?_ (by rw[h2];have:=gv (c*(Alg.inv q1*q0+r)*(Alg.inv q1*q0+s));omega)
    conv=>lhs;rw[lin r,lin s]
    rw[bB (c*_),bB c];exact ring [an (Alg.inv q1),q,an (Alg.inv q1*q0+r),an (Alg.inv q1*q0+s),an c]
   refine Od w2 hq s2 h2 reC (((fc.mul fA).mul fB).mono aw) ?_;rw[l1,<-kA r,<-kA s];exact ring [q1,c,Alg.inv q1*q0+r,Alg.inv q1*q0+s]
end
set_option maxHeartbeats 8000000 in
theorem tM (x y z:gM) (b:List gM) (one:Bool) (hx:x.ok) (hy:y.ok) (hz:z.ok) (hb:OkL b):Fn Tryz.prog 8 [.g (x.row++(y.row++z.row)),rl b,iB one] [iB true]:=by
 have hs:=Fk;have m1:=ou x.N x.D 1 aw hx.1.1 hx.1.2 hx.2.1 hx.2.2;have m2:=ou y.N y.D 1 aw hy.1.1 hy.1.2 hy.2.1 hy.2.2;have m3:=ou z.N z.D 1 aw hz.1.1 hz.1.2 hz.2.1 hz.2.2;have m4:=Gs b 2 aw hb.1 hb.2;have fr:FB 7 (kw x.N x.D 1):=xi hx.2.1 hx.2.2;have fs:FB 7 (kw y.N y.D 1):=xi hy.2.1 hy.2.2;have fc:FB 7 (kw z.N z.D 1):=xi hz.2.1 hz.2.2;have hq:=Lc 2 hb.2;have sq:=Ij b 2;generalize kw x.N x.D 1=r at *
 generalize kw y.N y.D 1=s at *
 generalize kw z.N z.D 1=c at *
 generalize vU b 2=q at *
 clear hx hy hz hb;have e0:decide ((aa (0:KP):Int)=0)=true:=by rw[aM.2 rfl];rfl
 have z1:=jK c;refine aJ (fn:=Tryz.f8) ?_;simp -dsimp only[go_sem,gM.row];refine aK hs ?_;simp -dsimp only[go_sem];refine ap 12 [8,9,10] false true ?_;simp -dsimp only[go_sem,gM.row,Int.reduceToNat,Int.reduceLE,aC,List.cons_append,List.nil_append];refine ao m1 rfl ?_;simp -dsimp only[go_sem,gM.row,Int.reduceToNat,Int.reduceLE,aC,List.cons_append,List.nil_append];refine ao m2 rfl ?_;simp -dsimp only[go_sem,gM.row,Int.reduceToNat,Int.reduceLE,aC,List.cons_append,List.nil_append];refine ao m3 rfl ?_;simp -dsimp only[go_sem];refine ao m4 rfl ?_;simp -dsimp only[go_sem];refine ao z1 rfl ?_;have nil1:∀ p:KP,Fn Tryz.prog 35 [ku p,ku 0] [iK (kn 0)]:=fun p=>vf (.inr rfl);have nil2:∀ p:KP,Fn Tryz.prog 35 [ku 0,ku p] [iK (kn 0)]:=fun p=>vf (.inl rfl);have z0:=jK (kn 0);rw[aF fF]at z0;have kc:=Ek c;by_cases hc:c=0
 ·have ec:decide (c=0)=true:=aF hc;simp -dsimp only[go_sem,ec];refine ao kc rfl ?_;simp -dsimp only[go_sem];refine aP (args':=[ku (an c),ku 0]) (by rw[dx];rfl) (nil1 _) ?_;simp -dsimp only[go_sem];refine ao z0 rfl ?_;simp -dsimp only[go_sem];refine aP (args':=[ku q,ku 0]) (by rw[dx];rfl) (nil1 _) ?_;simp -dsimp only[go_sem];refine ao z0 rfl ?_;simp -dsimp only[go_sem];refine aP (args':=[ku 0,ku q]) (by rw[dx];rfl) (nil2 _) ?_;simp -dsimp only[go_sem];refine ao z0 rfl ?_;simp -dsimp only[go_sem]
 have ec:decide (c=0)=false:=aG hc;by_cases hq0:q=0
 ·have eq:decide ((aa q:Int)=0)=true:=by rw[hq0];exact e0
  simp -dsimp only[go_sem,ec,az,aX,eq];refine ao kc rfl ?_;simp -dsimp only[go_sem];refine aP (args':=[ku (an c),ku 0]) (by rw[dx];rfl) (nil1 _) ?_;simp -dsimp only[go_sem];refine ao z0 rfl ?_;simp -dsimp only[go_sem];refine aP (args':=[ku q,ku 0]) (by rw[dx];rfl) (nil1 _) ?_;simp -dsimp only[go_sem];refine ao z0 rfl ?_;simp -dsimp only[go_sem];refine aP (args':=[ku 0,ku q]) (by rw[dx];rfl) (nil2 _) ?_;simp -dsimp only[go_sem];refine ao z0 rfl ?_;simp -dsimp only[go_sem]
 have hqp:=aT hq0;have eq:decide ((aa q:Int)=0)=false:=aG aw;obtain⟨⟨a1,a2,a3,a4⟩,b1,b2,b3,b4⟩:=Of hq sq hq0 fr fs fc hc;obtain⟨w1,s1⟩:=Om hq sq hq0 fr fs fc hc;obtain⟨w2,s2⟩:=Qb hq sq hq0 fr fs fc hc;have fW1:=PD hq sq hq0 fr fs fc hc;have fh1:FB 34 (hr q r (aa q)):=(II hq fr (aa q)).mono (ax (Nat.mul_le_mul_right _ sq) aH);have fh2:FB 34 (hr q s (aa q)):=(II hq fs (aa q)).mono (ax (Nat.mul_le_mul_right _ sq) aH);have fW2:FB 84 (W1 q r c*hr q s (aa q)):=fW1.mul fh2;have fp:FB 7 (Alg.pw c (aa q-1)):=(AN fc _).mono (by
  have:7*(aa q-1)<=7*1:=Nat.mul_le_mul_left _ aw;omega)
 have g1:=qp fr aw;have g2:=sS (ke fr) fc aw (by rw[kC];omega);have g3:=Mo fc (aa q-1) (ax (Nat.mul_le_mul_right _ (by omega:aa q-1+1<=2)) aw) aw;have g4:=Eh hq fr (ax (Nat.mul_le_mul_right _ (by omega:aa q+1<=3)) aw) aw;have g5:Fn Tryz.prog 37 [iK (Alg.pw c (aa q-1)),iK (hr q r (aa q))] [iK (W1 q r c)]:=j9 (fp.mono aw) (fh1.mono aw) (fW1.mono aw);have g6:=qp fs aw;have g7:=Np w1 (ke fs) (by rw[kC];omega) (by rw[s1,kC];omega);have g8:=Eh hq fs (ax (Nat.mul_le_mul_right _ (by omega:aa q+1<=3)) aw) aw;have g9:=j9 (fW1.mono aw) (fh2.mono aw) (fW2.mono aw);have el:(aa q:Int)-1=((aa q-1:Nat):Int):=aw;generalize W1 q r c=W at *
 generalize hr q r (aa q)=h1 at *
 generalize hr q s (aa q)=h2 at *
 have sr:∀{x:KQ},FW x->Fn Tryz.prog 41 [iK x,iK x] [iB true]:=fun h=>by
  have:=wE h h;rwa [aF rfl]at this
 have u1:=sr (x:=W) (fW1.mono aw);have v1:=sr (x:=W*h2) (fW2.mono aw);have u2:=jK W;have v2:=jK (W*h2);have toI:∀{x:KQ} {n:Nat},(x=0↔1<n)->decide ((1:Int)<(n:Int))=decide (x=0):=fun h=>by
  rw[decide_eq_decide,h];omega
 have u3:=toI a4;have v3:=toI b4;have un:=uZ (f := -W) (fW1.neg.mono aw);rw[neg_neg]at un;simp -dsimp only[go_sem,ec,az,aX,eq];refine ap 15 [13] false true ?_;simp -dsimp only[go_sem];refine ao g1 rfl ?_;simp -dsimp only[go_sem];refine ao g2 rfl ?_;simp -dsimp only[go_sem,az,aX,el]
 repeat(refine And.intro aw ?_)
 refine ao g3 rfl ?_;simp -dsimp only[go_sem];refine ao g4 rfl ?_;simp -dsimp only[go_sem];refine ao g5 rfl ?_;cases one with
 | true =>
  simp -dsimp only[go_sem];obtain hs1|hs2:aa q=1\/aa q=2:=aw
  ·have a2':Fn Tryz.prog 35 [ku q,ku (LN r*an c)] [iK W]:=by rw[aG (p:=aa q=2) aw]at a2;exact a2
   refine ao a2' rfl ?_;simp -dsimp only[go_sem,az,aX,s1,hs1]
   repeat(refine And.intro aw ?_)
   refine wU rfl ?_;simp -dsimp only[go_sem];refine ap 24 [] false true ?_;simp -dsimp only[go_sem];refine ao a1 rfl ?_;simp -dsimp only[go_sem];refine ao u1 rfl ?_;simp -dsimp only[go_sem];refine ao u1 rfl ?_;simp -dsimp only[go_sem];refine ao u2 rfl ?_;simp -dsimp only[go_sem];refine ao a3 rfl ?_;simp -dsimp only[go_sem,az,aX,u3,beq_self_eq_true]
  ·have a2':Fn Tryz.prog 35 [ku q,ku (LN r*an c)] [iK (-W)]:=by rw[aF (p:=aa q=2) aw]at a2;exact a2
   refine ao a2' rfl ?_;simp -dsimp only[go_sem,az,aX,s1,hs2]
   repeat(refine And.intro aw ?_)
   refine Km rfl ?_;simp -dsimp only[go_sem];refine ao un rfl ?_;simp -dsimp only[go_sem];refine ap 24 [] false true ?_;simp -dsimp only[go_sem];refine ao a1 rfl ?_;simp -dsimp only[go_sem];refine ao u1 rfl ?_;simp -dsimp only[go_sem];refine ao u1 rfl ?_;simp -dsimp only[go_sem];refine ao u2 rfl ?_;simp -dsimp only[go_sem];refine ao a3 rfl ?_;simp -dsimp only[go_sem,az,aX,u3,beq_self_eq_true]
 | false =>
  simp -dsimp only[go_sem];refine ao g6 rfl ?_;simp -dsimp only[go_sem];refine ao g7 rfl ?_;simp -dsimp only[go_sem];refine ap 5 [] false true ?_;simp -dsimp only[go_sem];refine ao g8 rfl ?_;simp -dsimp only[go_sem];refine ao g9 rfl ?_;simp -dsimp only[go_sem];refine ao b2 rfl ?_;obtain hs1|hs2:aa q=1\/aa q=2:=aw
  ·simp -dsimp only[go_sem,az,aX,s2,hs1]
   repeat(refine And.intro aw ?_)
   refine wU rfl ?_;simp -dsimp only[go_sem];refine ap 24 [] false true ?_;simp -dsimp only[go_sem];refine ao b1 rfl ?_;simp -dsimp only[go_sem];refine ao v1 rfl ?_;simp -dsimp only[go_sem];refine ao v1 rfl ?_;simp -dsimp only[go_sem];refine ao v2 rfl ?_;simp -dsimp only[go_sem];refine ao b3 rfl ?_;simp -dsimp only[go_sem,az,aX,v3,beq_self_eq_true]
  ·simp -dsimp only[go_sem,az,aX,s2,hs2]
   repeat(refine And.intro aw ?_)
   refine wU rfl ?_;simp -dsimp only[go_sem];refine ap 24 [] false true ?_;simp -dsimp only[go_sem];refine ao b1 rfl ?_;simp -dsimp only[go_sem];refine ao v1 rfl ?_;simp -dsimp only[go_sem];refine ao v1 rfl ?_;simp -dsimp only[go_sem];refine ao v2 rfl ?_;simp -dsimp only[go_sem];refine ao b3 rfl ?_;simp -dsimp only[go_sem,az,aX,v3,beq_self_eq_true]
end Go.AM
namespace Go.AM
open Go.Deep
section
variable {H:Type} {enc:TypeId×Value->H} {P:Program} {w:World} {base:Nat} {spare:Nat->Bool} {held:Bool}
abbrev nob:Nat->Prop:=fun _=>False
theorem Jr {a:Addr} (h:a.spot=none) (n:Nat):a.add n=⟨a.block,a.off+n,none⟩:=by
 obtain⟨b,o,s⟩:=a;subst h;unfold Addr.add;by_cases hn:n=0
 ·subst hn;rfl
 ·simp[hn]
theorem Fi {a:Addr} {v:Value} (h:w.cell? a=some v):a.spot=none/\a.block<w.heap.size:=by
 unfold World.cell? at h;split at h
 ·rename_i hb;refine⟨?_,(Array.getElem?_eq_some_iff.1 hb).1⟩;cases hs:a.spot with
  | none=>rfl
  | some _=>simp[hs]at h
 ·simp at h
theorem tO {α:Type} [Inhabited α] {t e:TypeId} {fuel:Nat} {cs:List Value} {x:DataW H×List MemPlace} (F:α->List C) (ok:α->Prop) {n:Nat} (hn:0<n) (ht:P.underlying t=some (.slice e)) (hc:P.cellsOf e=n)
  (he:∀ fuel cs x,DataW.trod enc P w base spare held fuel e cs=some x->cs.length=n->∃ r:α,ok r/\(F r).length=n/\aZ w nob (F r) cs)
  (h:DataW.trod enc P w base spare held fuel t cs=some x):∃ l:List α,(∀ r∈l,ok r)/\l.length<=maxLen/\∃ y,cs=[y]/\cx w nob (.lst (l.map F)) y:=by
 rcases open_slice ht h with⟨rfl,_⟩|⟨a,len,cap,m,k,D,Pl,rfl,hb,hl,hcap,hm,_,hx⟩
 ·refine⟨[],au,au,_,rfl,?_⟩;simp only[List.map_nil,cx];exact⟨none,0,0,rfl,rfl,ay _,.inl trivial⟩
 rw[hc]at hx;have hlm:len<=m:=by rw[hm];split<;>omega
 obtain⟨f,hf⟩:=choose_lt (α:=α) (n:=len) (p:=fun i r=>ok r/\(F r).length=n/\∃ cs',w.cells? base (a.add (i*n)) n=some cs'/\aZ w nob (F r) cs') (fun i hi=>by
  obtain⟨cs',h1,h2⟩:=hx i aw;obtain⟨r,h3,h4,h5⟩:=he _ _ _ h2 (World.cells?_some h1).2.1;exact⟨r,h3,h4,cs',h1,h5⟩)
 refine⟨(List.range len).map f,fun r hr=>?_,ar,_,rfl,?_⟩
 ·obtain⟨i,hi,rfl⟩:=List.mem_map.1 hr;exact(hf i (List.mem_range.1 hi)).1
 simp only[cx];refine⟨some a,len,cap,rfl,au,hl,?_⟩;by_cases h0:len=0
 ·subst h0;exact .inl rfl
 ·right;have hs:a.spot=none/\a.block<w.heap.size:=by
   obtain⟨_,h2,cs',h1,_⟩:=hf 0 aw;obtain⟨_,h4,h5⟩:=World.cells?_some h1;have h6:=h5 0 hn;rw[aD aw]at h6;simp only[Nat.zero_mul,Addr.add,if_true]at h6;exact Fi h6
  refine⟨a.block,a.off,n,?_,hs.2,id,aR.of_get fun i r hi=>?_⟩
  ·obtain⟨b,o,s⟩:=a;obtain⟨rfl,_⟩:=hs;rfl
  ·rw[List.map_map,List.getElem?_map]at hi;by_cases hil:i<len
   ·rw[List.getElem?_range hil]at hi;simp only[Option.map_some,Option.some.injEq,Function.comp]at hi;subst hi;obtain⟨_,h2,cs',h1,h3⟩:=hf i hil;obtain⟨_,h4,h5⟩:=World.cells?_some h1;refine⟨h2,bt.of_reps h3 fun j hj=>?_⟩;rw[<-h5 j aw,add_add,Jr hs.1,Nat.add_assoc]
   ·rw[List.getElem?_eq_none ar]at hi;simp at hi
theorem aZ.split {w:World} {M:Nat->Prop} {cs:List C} {ys:List Value} (n:Nat) {bs:List C} (h1:aZ w M bs (ys.take n)) (h2:aZ w M cs (ys.drop n)):aZ w M (bs++cs) ys:=by
 have:=h1.append h2;rwa [List.take_append_drop]at this
end
theorem BI {H:Type} {enc:TypeId×Value->H} {P:Program} {f:Func} {s:ChangeSpec} {fresh handsOn:Bool} {W W':World} {args:Array Value} {ds:List (DataW H)} {before:List MemPlace} {t:TypeId} (hl:laidOutB P=true)
  (hW:DataW.Whole enc P f.params.toList s.vars false W args.toList ds [] before) (hv:s.vars=[]) (hrt:f.resultTypes = #[t]) (ht:P.underlying t=some .bool) (hres:(s.fn H (ds++[])).results=[.lit (.bool true)])
  (hargs:(s.fn H (ds++[])).args=ds) (hvars:(s.fn H (ds++[])).vars=[]) (hrd:∀ t∈f.params.toList,P.readableRec t=true/\t<P.types.size) (hb:bq W.heap.size W W') :
  s.post enc P f false fresh handsOn false W args (.bool true) W':=by
 have hB:Go.RowKit.Below W.heap.size W W':=⟨hb.os,hb.tape,hb.output,hb.size,hb.block⟩;have hlt:=hW.lt;have hW':=hW;obtain⟨p,q,hA,hV,rfl,-,-⟩:=hW;refine⟨ds,[],_,[],p,[],hW',?_,?_,?_,hB.frame _,fun h=>by cases h⟩
 ·rw[hres,hrt];exact Go.ChangeShapes.trodAll_mk1 (Go.RowKit.shut_bool ht true)
 ·rw[hargs];have key:∀(ts:List TypeId) (vs:List Value) (ds:List (DataW H)) (ps:List MemPlace),(∀ t∈ts,P.readableRec t=true/\t<P.types.size)->(∀ x∈ps,x.block<W.heap.size)->DataW.TrodAll enc P W 0 (fun _=>true) true ts vs ds ps ->
    DataW.TrodAll enc P W' 0 (fun b=>decide (b<W.heap.size)) true ts vs ds ps:=by
   intro ts
   induction ts with
   | nil=>intro vs ds ps _ _ h;cases vs<;>cases ds<;>first|exact h|exact h.elim
   | cons t ts ih =>
    intro vs ds ps hr hx h;cases vs with
    | nil=>exact h.elim
    | cons v vs =>
     cases ds with
     | nil=>exact h.elim
     | cons d ds =>
      obtain⟨p,q,h1,h2,rfl⟩:=h;have hrt:=hr t au;exact⟨p,q,Go.RowKit.Below.trod hl hrt.1 hrt.2 h1 hB (fun x hx'=>hx x (by simp[hx'])),ih vs ds q (fun t ht=>hr t (by simp[ht])) (fun x hx'=>hx x (by simp[hx'])) h2,rfl⟩
  exact key _ _ _ _ hrd (fun x hx=>hlt x (by simp[hx])) hA
 ·rw[hvars,hv];rfl
end Go.AM
namespace Go.AM
open Go.Proofs
open Go.Deep Go.ChangeShapes Go.WideShapes Go.ChangeAt Go.RowKit
section
variable {H:Type} {enc:TypeId×Value->H} {w:World} {base:Nat} {spare:Nat->Bool} {held:Bool}
theorem Qy {cs:List Value} (h:cs.length=5):∃ c0 c1 c2 c3 c4,cs=[c0,c1,c2,c3,c4]:=by
 match cs,h with
 | [c0,c1,c2,c3,c4],_=>exact⟨c0,c1,c2,c3,c4,rfl⟩
theorem twoV {cs:List Value} (h:cs.length=2):∃ c0 c1,cs=[c0,c1]:=by
 match cs,h with
 | [c0,c1],_=>exact⟨c0,c1,rfl⟩
instance:Inhabited T5:=⟨⟨0,0,0,0,0⟩⟩
instance:Inhabited gM:=⟨⟨[],[]⟩⟩
theorem cells124:Tryz.prog.cellsOf 124=5:=by kernel_rfl
theorem cells97:Tryz.prog.cellsOf 97=1:=by kernel_rfl
theorem cells37:Tryz.prog.cellsOf 37=1:=by kernel_rfl
theorem cells39:Tryz.prog.cellsOf 39=2:=by kernel_rfl
theorem MN {n:Int} (h:(Lit.int .i8 n).wf=true) : -128<=n/\n<128:=by
 have:=bounds_i8 h;omega
theorem rep5 {fuel:Nat} {cs:List Value} {x:DataW H×List MemPlace} (h:DataW.trod enc Tryz.prog w base spare held fuel 124 cs=some x):∃ t:T5,t.ok/\t.row.length=5/\aZ w nob t.row cs:=by
 obtain⟨xs,m,-,-,hl,hx,he⟩:=DataW.trod_array Tryz.underlying124 h;rw[cells124]at hl;obtain⟨c0,c1,c2,c3,c4,rfl⟩:=Qy hl
 ·have key:∀ i,i<5->∃ n,(([c0,c1,c2,c3,c4]:List Value).drop (i*1)).take 1=[.int .i8 n]/\(Lit.int .i8 n).wf=true:=fun i hi=>by
   have h1:=he i hi;rw[aD aw,show Tryz.prog.cellsOf 97=1 from cells97]at h1;obtain⟨n,h2,_,h3⟩:=DataW.trod_int Tryz.underlying97 h1;exact⟨n,h2,h3⟩
  obtain⟨a,ha,wa⟩:=key 0 aw;obtain⟨b,hb,wb⟩:=key 1 aw;obtain⟨c,hc,wc⟩:=key 2 aw;obtain⟨d,hd,wd⟩:=key 3 aw;obtain⟨e,he5,we⟩:=key 4 aw;simp only[Nat.zero_mul,Nat.one_mul,Nat.reduceMul,aC,List.take_succ_cons,List.take_zero,List.cons.injEq,and_true]at ha hb hc hd he5;subst ha hb hc hd he5;refine⟨⟨a,b,c,d,e⟩,⟨MN wa,MN we⟩,rfl,?_⟩;simp only[T5.row,aZ,cx,Value.oneCell',and_self]
theorem P7 {fuel:Nat} {cs:List Value} {x:DataW H×List MemPlace} (h:DataW.trod enc Tryz.prog w base spare held fuel 39 cs=some x):∃ t:gM,t.ok/\t.row.length=2/\aZ w nob t.row cs:=by
 obtain⟨y0,y1,n,-,hl,h0,h1⟩:=trod_struct2 Tryz.underlying39 h;rw[cells39]at hl;obtain⟨c0,c1,rfl⟩:=twoV hl
 ·simp only[cells37,aC,List.take_succ_cons,List.take_zero]at h0 h1;obtain⟨l0,k0,b0,v0,e0,r0⟩:=tO T5.row T5.ok aH Tryz.underlying37 cells124 (fun f cs x h _=>rep5 h) h0;obtain⟨l1,k1,b1,v1,e1,r1⟩:=tO T5.row T5.ok aH Tryz.underlying37 cells124 (fun f cs x h _=>rep5 h) h1;simp only[List.cons.injEq,and_true]at e0 e1;subst e0 e1;exact⟨⟨l0,l1⟩,⟨⟨b0,b1⟩,k0,k1⟩,rfl,r0,r1,trivial⟩
theorem repL {v:Value} {d:DataW H} {ps:List MemPlace} (hv:∃ a len cap,v = .slice a len cap) (h:DataW.Trod enc Tryz.prog w base spare held 22 v d ps):∃ l:List gM,OkL l/\ik w nob (rl l) v:=by
 obtain⟨a,len,cap,rfl⟩:=hv;obtain⟨fuel,hf⟩:=h;obtain⟨l,k,b,y,e,r⟩:=tO gM.row gM.ok aH Tryz.underlying22 cells39 (fun f cs x h _=>P7 h) hf;have e':Value.slice a len cap=y:=by simpa [Value.cells]using e
 subst e';exact⟨l,⟨b,k⟩,r⟩
end
theorem own:ownKnob Tryz.prog.godebug=none:=by kernel_rfl
theorem Lm:laidOutB Tryz.prog=true:=by kernel_rfl
theorem rd22:Tryz.prog.readableRec 22=true/\22<Tryz.prog.types.size:=⟨by kernel_rfl,of_decide_eq_true (by kernel_rfl)⟩
abbrev iT:IV := .c (.v (.bool true))
set_option maxRecDepth 100000 in
theorem Ip {f:FuncId} {fn:Func} {s:ChangeSpec} (hv:s.vars=[]) (hrt:fn.resultTypes = #[4]) (hrd:∀ t∈fn.params.toList,Tryz.prog.readableRec t=true/\t<Tryz.prog.types.size) {H:Type} {enc:TypeId×Value->H}
  (hc:∀(W:World) (base:Nat) (args:Array Value) (ds:List (DataW H)) (p:List MemPlace),(∀(j:Nat) t v,fn.params[j]?=some t->args[j]?=some v->Value.okWide Tryz.prog W .any base t v)->DataW.TrodAll enc Tryz.prog W 0 (fun _=>true) true fn.params.toList args.toList ds p ->
   (∃ ivs,Fn Tryz.prog f ivs [iT]/\cU W nob ivs args.toList)/\(s.fn H (ds++[])).results=[.lit (.bool true)]/\(s.fn H (ds++[])).args=ds/\(s.fn H (ds++[])).vars=[])
  (W:World) (base:Nat) (args:Array Value) (ds gs:List (DataW H)) (before:List MemPlace) (hval:∀(j:Nat) t v,fn.params[j]?=some t->args[j]?=some v->Value.okWide Tryz.prog W .any base t v)
  (hW:DataW.Whole enc Tryz.prog fn.params.toList s.vars false W args.toList ds gs before):Calls Tryz.prog f args W fun e W'=>∃ v,e = .returned v/\s.post enc Tryz.prog fn false true false false W args v W':=by
 have hW':=hW;obtain⟨p,q,hA,hV,rfl,-,-⟩:=hW;rw[hv]at hV;obtain⟨rfl,rfl⟩:=trodVars_none hV;obtain⟨⟨ivs,hf,hr⟩,h1,h2,h3⟩:=hc W base args ds p hval hA;have hcall:=hf.2 W nob args.toList (fun _ h=>h.elim) hr;rw[Array.toArray_toList]at hcall;refine hcall.mono ?_;rintro e W' ⟨y,rfl,hy,hB⟩;obtain⟨rfl,_⟩:y = .bool true/\_:=by simpa only[x6,ik,cx]using hy
 exact⟨_,rfl,BI Lm hW' hv hrt Tryz.underlying4 h1 h2 h3 hrd hB⟩
end Go.AM
namespace Go.AM
open Go.Proofs Go.Deep Go.ChangeShapes Go.WideShapes Go.ChangeAt Go.RowKit
theorem cells56:Tryz.prog.cellsOf 56=6:=by kernel_rfl
theorem BN {P:Program} {w:World} {r:Reach} {base:Nat} {t e:TypeId} {n:Nat} {v:Value} (ht:P.underlying t=some (.array n e)) (h:Value.okWide P w r base t v):∃ cs,v = .agg cs/\cs.size=P.cellsOf t:=by
 simp only[Value.okWide,ht]at h;obtain⟨cs,h1,h2,_⟩:=h;exact⟨cs,h1,h2⟩
set_option maxRecDepth 100000 in
theorem repA {H:Type} {enc:TypeId×Value->H} {w:World} {r:Reach} {b0 base:Nat} {spare:Nat->Bool} {held:Bool} {v:Value} {d:DataW H} {ps:List MemPlace} (hv:Value.okWide Tryz.prog w r b0 56 v) (h:DataW.Trod enc Tryz.prog w base spare held 56 v d ps) :
  ∃ x y z:gM,(x.ok/\y.ok/\z.ok)/\ik w nob (.g (x.row++(y.row++z.row))) v:=by
 obtain⟨cs,rfl,hsz⟩:=BN Tryz.underlying56 hv;obtain⟨fuel,hf⟩:=h;obtain⟨xs,m,-,-,hl,hx,he⟩:=DataW.trod_array Tryz.underlying56 hf;have key:∀ i,i<3->∃ t:gM,t.ok/\aZ w nob t.row (((Value.agg cs).cells.toList.drop (i*2)).take 2):=fun i hi=>by
  have h1:=he i hi;rw[aD aw,cells39]at h1;obtain⟨t,h2,_,h3⟩:=P7 h1;exact⟨t,h2,h3⟩
 obtain⟨x,hx1,rx⟩:=key 0 aw;obtain⟨y,hy1,ry⟩:=key 1 aw;obtain⟨z,hz1,rz⟩:=key 2 aw;refine⟨x,y,z,⟨hx1,hy1,hz1⟩,cs,rfl,?_⟩;have hlen:cs.toList.length=6:=by rw[<-cells56,<-hsz];simp
 have e:cs.toList=(cs.toList.drop 0).take 2++((cs.toList.drop 2).take 2++(cs.toList.drop 4).take 2):=by
  match cs.toList,hlen with
  | [_,_,_,_,_,_],_=>rfl
 rw[e];exact rx.append (ry.append rz)
theorem rd56:Tryz.prog.readableRec 56=true/\56<Tryz.prog.types.size:=⟨by kernel_rfl,of_decide_eq_true (by kernel_rfl)⟩
theorem rd4:Tryz.prog.readableRec 4=true/\4<Tryz.prog.types.size:=⟨by kernel_rfl,of_decide_eq_true (by kernel_rfl)⟩
theorem repB {w:World} (b:Bool):ik w nob (.c (.v (.bool b))) (.bool b):=by
 simp only[ik,cx];exact⟨trivial,rfl⟩
end Go.AM
