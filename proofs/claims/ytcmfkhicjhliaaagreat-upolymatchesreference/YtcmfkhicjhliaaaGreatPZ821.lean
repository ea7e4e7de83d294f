/- Lemmas, part 22 of 23. No condition. -/
import Derived.Test.YtcmfkhicjhliaaaGreatPZ820
import Derived.ProofKit
import Derived.Deep.Slices
import Derived.OpenShut
import Derived.Test.YtcmfkhicjhliaaaGreatRows
set_option maxRecDepth 65536
set_option linter.unusedSimpArgs false
set_option linter.unusedVariables false
set_option linter.unusedSectionVars false
namespace Go.AM
open Alg
open Go.Proofs
open Classical
theorem fO:xK≠0:=DG fun h=>by
 have:=congrArg aa h;rw[aM.2 rfl,show(ak:PQ)=mon 1 1 from rfl,mF 1 aH]at this;omega
theorem eB:FB 1 xK:=by
 refine⟨ak,1,fV (R:=Int) aH,?_,?_,?_,?_,?_⟩
 ·rw[o7];show xK=Alg.em (toQ ak);rw[show(toQ ak:PQ)=ak from nF 1 1]
 ·rw[show(ak:Alg.P Int)=mon 1 1 from rfl,mF 1 aH];omega
 ·rw[gz (n:=2) (by rw[show(ak:Alg.P Int)=mon 1 1 from rfl,mF 1 aH];omega)];exact(by decide:1<=2)
 ·rw[show aa (1:Alg.P Int)=1 from jm (R:=Int) aH];omega
 ·rw[gz (n:=1) (by rw[show aa (1:Alg.P Int)=1 from jm (R:=Int) aH];exact ay _)];exact(by decide:1<=2)
theorem vG {l:List KQ} (h:∀ h:l.length-1<l.length,l[l.length-1]≠0):kl l=ku (ac l):=by
 rw[ku,<-DN (l:=l) (p:=ac l) (fun i hi=>by rw[qv];simp[List.getD,hi]) (fun i hi=>by rw[qv];simp[List.getD,List.getElem?_eq_none hi]) h]
theorem pl2 (a b:KQ):ac [a,b]=an a+an b*ak:=Alg.P.ext fun i=>by
 rw[qv,cj,bS,X_c]
 match i with
 | 0=>rw[if_neg aw,mul_zero,add_zero];rfl
 | 1=>rw[if_pos rfl,mul_one,gS,zero_add];rfl
 | i+2=>rw[if_neg aw,mul_zero,gS,zero_add];rfl
theorem pl1 (a:KQ):ac [a]=an a:=Alg.P.ext fun i=>by
 match i with
 | 0=>rfl
 | i+1=>rw[gS];rfl
theorem uQ:PW 0 (ak:KP):=fun i=>by
 rw[X_c];split
 ·exact iY (z:=1) aH
 ·exact fN 0
theorem vj {w:Nat} {c:KQ} (h:FB w c):PW w (an c):=fun i=>by
 cases i with
 | zero=>exact h
 | succ i=>exact fN w
theorem L7:PW 0 (1:KP):=vj (iY (z:=1) aH)
theorem j9:aa (ak:KP)=2:=mF 1 one_ne
theorem Ic:kl [kn 0,kn 1]=ku ak:=by
 rw[vG (fun _=>zf aH),pl2,fi,ff,cS,zero_add,cu,one_mul]
noncomputable abbrev yK:KQ:=Alg.inv xK
theorem xy:(an xK:KP)*an yK=1:=by rw[<-bH,mul_inv fO,cu]
theorem mu:FB 1 yK:=eB.inv fO
theorem yb:yK≠0:=ft fO
noncomputable abbrev dQ:KP:=an (-(yK*yK))+an yK*ak
theorem Kl:(ak*ak:KP)=dQ*(an 1+an xK*ak)+an (yK*yK):=by
 have h:dQ*(an 1+an xK*ak)+an (yK*yK)=(ak*ak:KP)-(1-an xK*an yK)*(ak*ak-an yK*ak):=by
  rw[dQ,lh,bH,cu];exact ring [ak,an xK,an yK]
 rw[h,xy,sub_self,zero_mul,sub_zero]
theorem CV:aa (an 1+an xK*ak:KP)=2:=j8 (fun i hi=>by
 rw[cj,bS,X_c,if_neg aw,mul_zero,add_zero];cases i with
 | zero=>omega
 | succ i=>rfl) fun _=>by
 show(an 1+an xK*ak:KP).c 1≠0;rw[cj,bS,X_c,if_pos rfl,mul_one,gS,zero_add];exact fO
theorem i6 (c:KQ):aa (an c:KP)<=1:=cI fun i hi=>by cases i with|zero=>omega|succ i=>rfl
theorem Jz {c:KQ} {w:Nat} (h:FB w c):PW w (an c*ak:KP):=by
 have:=uQ.scale h;rwa [mul_comm,Nat.zero_add]at this
theorem Qx:PW 2 (an 1+an xK*ak:KP):=(vj (iY (z:=1) (w:=0) aH)).add (Jz eB)
theorem NM:Fn Tryz.prog 14 [ku ak,ku ak] [ku (ak*ak)]:=ww uQ uQ (by rw[j9];omega) (by rw[j9];omega) (by rw[j9];omega) aw aw
theorem sDiv:Fn Tryz.prog 18 [ku (ak*ak),ku (an 1+an xK*ak)] [ku dQ,ku (an (yK*yK)),iN 0]:=by
 have hq0:(an 1+an xK*ak:KP)≠0:=fun h=>by have:=CV;rw[h,aM.2 rfl]at this;omega
 have hsz:aa (ak*ak:KP)<=3:=by have:=bg (ak:KP) ak;rw[j9]at this;omega
 have h:=uU hq0 (MD uQ uQ) Qx (by
  rw[j9,CV];exact ax (wD2 _ _ aw) aw) aw aw (by rw[CV];omega)
 obtain⟨e1,e2⟩:=pf Kl (by rw[CV];have:=i6 (yK*yK);omega);rwa [e1,e2]at h
noncomputable abbrev lX:KP:=ak-an xK
theorem nx {w:Nat} {c:KQ} (h:FB w c):PW w (ak-an c:KP):=PC.pw (Alg.PC.lin h)
theorem N0:kl [-xK,kn 1]=ku lX:=by
 rw[vG (fun _=>zf aH),pl2,ff,lh,cu,one_mul];show ku _=ku _;rw[show -an xK+ak=(lX:KP)from ring [an xK,ak]]
theorem MJ:kl [kn 1]=ku 1:=Dp.symm
theorem reX:ab ak lX=an xK:=vw (q:=1) (ring [ak,an xK]) (by rw[fp];have:=i6 xK;omega)
theorem Py:Fn Tryz.prog 24 [ku ak,ku lX] [ku (ai ak lX)] :=
 M5 (jL _) reX (fV fO) (Alg.jJ fO) (vj eB) aw (by have:=i6 xK;omega) (uT (jL _) uQ (nx eB) (by rw[j9,fp];omega) aw (by rw[fp];omega))
  (uT (fV fO) (nx eB) (vj eB) (by rw[fp,jm fO];omega) aw (by have:=i6 xK;omega))
theorem gdX:ai ak lX=1:=by rw[gd2 (jL _) reX (fV fO) (Alg.jJ fO),mn_C fO]
theorem CX {c:KQ} (h:c≠0):aa (an c:KP)=1:=jm h
theorem Kk:Fn Tryz.prog 28 [ku ak,ku lX,ku 1] [ku (an yK),ku (-an yK),iN 0]:=by
 have h1:qu 1 (ab ak lX)=an yK:=by
  rw[reX];exact mQ (fV fO) (by rw[mul_comm,xy])
 have szl:aa lX=2:=fp _;have s1:aa (1:KP)=1:=Bx;have e1:(1:KP)*an yK=an yK:=one_mul _;have hre:ab (1*an yK) lX=an yK:=vw (q:=0) (by rw[zero_mul,zero_add,e1]) (by rw[szl];have:=i6 yK;omega);have wy:PW 1 (an yK:KP):=vj mu;have wyX:PW 2 (an yK*ak:KP):=(Jz mu).mono aw;have hsm:=bg (an yK:KP) ak;rw[j9]at hsm;have sy:=i6 yK;have hq:qu (1-an yK*ak) lX = -an yK:=mQ (jL _) (by
  have : -an yK*lX=an xK*an yK-an yK*ak:=ring [ak,an xK,an yK];rw[this,xy])
 refine CC Py (by rw[gdX,Bx]) szl (by rw[reX,CX fO]) (uT (jL _) uQ (nx eB) (by rw[j9,szl];omega) aw (by rw[szl];omega)) ?_ ?_ ?_ ?_ ?_ ?_
 ·rw[reX];exact Gd (fV fO) L7 (vj eB) (by rw[s1,CX fO];omega) aw (by rw[CX fO];omega)
 ·rw[h1];exact ww L7 wy (by rw[s1];omega) (by rw[s1];omega) aw aw aw
 ·rw[h1];have:=uT (p:=1*an yK) (jL xK) (by rw[e1];exact wy) (nx eB) (by rw[e1,fp];omega) aw (by rw[fp];omega);rwa [hre]at this
 ·exact ww wy uQ (ax (Nat.mul_le_mul_right _ sy) aw) aw (by rw[j9];omega) aw aw
 ·exact Au L7 wyX aw (by rw[s1];omega) aw
 ·have:=Gd (p:=1-an yK*ak) (jL xK) (L7.sub wyX) (nx eB) (by
   rw[fp];have:=fH (p:=(1:KP)) (q:=an yK*ak) (n:=2) (by rw[s1];omega) aw;omega) aw (by rw[fp];omega)
  rwa [hq]at this
theorem Kj:Fn Tryz.prog 28 [ku ak,ku ak,ku 1] [ku 0,ku 0,iN 60]:=by
 have hX:(ak:KP)≠0:=fun h=>by have:=j9;rw[h,aM.2 rfl]at this;omega
 have hr:ab (ak:KP) ak=0:=w4 (q:=1) hX (one_mul _).symm;refine Gc (M6 hX uQ aw (by rw[j9];omega) hr (uT hX uQ uQ aw aw (by rw[j9];omega))) ?_;rw[gd1 hX hr,HU,j9];omega
noncomputable abbrev sq1:KP:=1+ak*ak
theorem NK:kl [kn 1,kn 0,kn 1]=ku sq1:=by
 rw[vG (fun _=>zf aH)];show ku _=ku _;congr 1;have:ac [kn 1,kn 0,kn 1]=(1+ak*ak:KP):=Alg.P.ext fun i=>by
  rw[qv,cj,show(ak*ak:KP)=mon 1 1*mon 1 1 from rfl,dS,ce,mul_one,fi,ff]
  match i with
  | 0=>rw[if_neg aw,add_zero];rfl
  | 1=>rw[if_neg aw,add_zero];rfl
  | 2=>rw[if_pos rfl];exact(zero_add _).symm
  | i+3=>rw[if_neg aw,add_zero];rfl
 rw[this]
theorem C0 (i:Nat):sq1.c i=if i=0\/i=2 then 1 else 0:=by
 rw[cj,show(ak*ak:KP)=mon 1 1*mon 1 1 from rfl,dS,ce,mul_one]
 match i with
 | 0=>rw[if_neg aw,add_zero];rfl
 | 1=>rw[if_neg aw,add_zero];rfl
 | 2=>rw[if_pos rfl];exact zero_add _
 | i+3=>rw[if_neg aw,add_zero];rfl
theorem i5:aa sq1=3:=j8 (fun i hi=>by rw[C0,if_neg aw]) fun _=>by rw[C0,if_pos aw];exact one_ne
theorem xf:lc sq1=1:=by rw[lc,i5,C0,if_pos aw]
theorem Jy:PW 0 sq1:=fun i=>by
 rw[C0];split
 ·exact iY (z:=1) aH
 ·exact fN 0
noncomputable abbrev kR:KQ:=1+xK*xK
theorem FB1 (w:Nat):FB w 1:=(iY (z:=1) (w:=0) aH).mono (Nat.zero_le w)
theorem tS:FB 4 kR:=((FB1 0).add (eB.mul eB)).mono aw
theorem vH:kR≠0:=fun h=>by
 have h1:(Alg.em (1+ak*ak):KQ)=Alg.em 0:=by
  rw[ul,oF];exact h
 have h2:=congrArg (fun p=>p.c 0) (xo h1);rw[show(ak*ak:PQ)=mon 1 1*mon 1 1 from rfl,dS]at h2;exact absurd h2 aE
theorem NQ:ab lX sq1=lX:=vw (q:=0) (by rw[zero_mul,zero_add]) (by rw[fp,i5];omega)
theorem NP:ab sq1 lX=an kR:=vw (q:=ak+an xK) (by
 rw[Ec,bH,cu];exact ring [ak,an xK]) (by rw[fp];have:=i6 kR;omega)
theorem sRes:Fn Tryz.prog 35 [ku lX,ku sq1] [iK (kz 1+xK*xK)]:=by
 have sl:aa lX=2:=fp _;have ll:lc lX=1:=BG _;have hq0:sq1≠0:=fun h=>by have:=i5;rw[h,aM.2 rfl]at this;omega
 have he:eu lX sq1=[(lX,sq1),(sq1,lX),(lX,an kR)]:=eu3 hq0 NQ (jL _) NP (fV vH) (Alg.jJ vH);have sk:aa (an kR:KP)=1:=CX vH;have pw1:∀ n,Alg.pw (1:KQ) n=1:=fun n=>by
  induction n with
  | zero=>rfl
  | succ n ih=>simp only[Alg.pw,ih,mul_one]
 have o1:mq lX sq1 1=1:=by
  rw[qw (x:=(lX,sq1)) (by rw[he];rfl)];simp only[xf,pw1,sgR,sl,i5];rw[if_neg aw];exact mul_one _
 have o2:mq lX sq1 2=1:=by
  rw[qw (x:=(sq1,lX)) (by rw[he];rfl)];simp only[ll,pw1,sgR,sl,i5,o1];rw[if_neg aw];exact mul_one _
 have lk:lc (an kR:KP)=kR:=oD _;have pk:Alg.pw kR 1=kR:=by simp only[Alg.pw,one_mul,mul_one]
 have f1:FW (1:KQ):=FB1 1000;have fk:FW kR:=tS.mono aw;have h:=Ma (a:=lX) (b:=sq1) (m:=2) (z:=(lX,an kR)) (jL _) hq0 aw (by rw[i5];omega) (by rw[he];rfl) (by rw[he];rfl) fun k x hx=>by
  rw[he]at hx
  match k,hx with
  | 0,hx =>
   simp at hx;subst hx;exact⟨uT hq0 (nx eB) Jy (by rw[sl,i5];omega) aw (by rw[i5];omega),by dsimp only;omega,by rw[i5];omega,by rw[xf];exact f1,f1,by rw[xf,pw1];exact f1,by rw[xf,pw1];exact(FB1 0).mul (FB1 1000) |>.mono aw,fun h=>absurd h (by rw[i5];omega)⟩
  | 1,hx =>
   simp at hx;subst hx;exact⟨uT (jL _) Jy (nx eB) (by rw[sl,i5];omega) aw (by rw[sl];omega),by rw[i5];omega,by dsimp only;omega,by rw[ll];exact f1,by rw[o1];exact f1,by rw[ll,pw1];exact f1,by rw[ll,pw1,o1];exact(FB1 0).mul (FB1 1000) |>.mono aw,fun h=>absurd h (by rw[sl];omega)⟩
  | 2,hx =>
   simp at hx;subst hx;exact⟨uT (fV vH) (nx eB) (vj tS) (by rw[sl,sk];omega) aw (by rw[sk];omega),by dsimp only;omega,by rw[sk];omega,by rw[lk];exact fk,by rw[o2];exact f1,by
    rw[lk,Alg.jJ vH,sl,aM.2 rfl];simp only[Alg.pw,one_mul];exact(tS.mul tS).mono aw,by
    rw[lk,Alg.jJ vH,sl,aM.2 rfl,o2];simp only[Alg.pw,one_mul];exact(tS.mul tS).mono aw,fun _=>by
    rw[lk,sl,o2];show FW (Alg.pw kR 1)/\FW (1*Alg.pw kR 1);rw[pk,one_mul];exact⟨fk,fk⟩⟩
  | n+3,hx=>simp at hx
 rw[E6,if_pos sk,o2,lk,sl]at h;rw[show Alg.pw kR (2-1)=kR from pk,one_mul]at h;exact h
theorem SqOf {p P D G Q1 Q2:KP} {m w wp wg wd:Nat} {out:List (KP×Nat)} (hp2:2<=aa p) (hs:aa p<=5) (hm:m<=1000) (wp0:PW wp p) (hwp:2*wp<=1000) (hP:mn p=P) (wP:PW w P) (hw:w<=990) (hD:der P=D) (wD0:PW wd D) (hG:ai P D=G)
  (cG:Fn Tryz.prog 24 [ku P,ku D] [ku (ai P D)]) (wG:PW wg G) (hwg:wg<=1000) (hG0:G≠0) (e1:P=Q1*G) (e2:D=Q2*G) (b1:wD w wg (aa P+1-aa G)<=1000) (b2:wD wd wg (aa D+1-aa G)<=1000) (hsG:aa G<=900)
  (hR:SqR m 1 Q1 Q2 out):Fn Tryz.prog 31 [ku p] [.c (.lst (out.map sqr))]:=by
 have sP:aa P=aa p:=by rw[<-hP,HU]
 have sD:aa D<=aa P-1:=by rw[<-hD];exact xr P
 have q1:=mQ hG0 e1;have q2:=mQ hG0 e2;subst hP hD hG;refine CB hp2 hm (p8 wp0 hwp aw) (xV wP aw aw) cG (OY hG0 wP wG b1 hwg aw aw) (OY hG0 wD0 wG b2 hwg aw aw) ?_;rw[q1,q2];exact hR
theorem OP {b:KP} {n w:Nat} (wb:PW w b) (hw:24*w+7<=1000) (hl:lc b=1) (hs:2<=aa b) (hs':aa b<=5):SqR 1 n b (der b) [(b,n)]:=by
 have hb0:b≠0:=fun h=>by rw[h,aM.2 rfl]at hs;omega
 have e0:der b-der b=0:=sub_self _;have eg:ai b (der b-der b)=b:=by rw[e0,pF,pt hl]
 have wd:=IQ wb aw;have sd:=xr b;have q1:qu b b=1:=mQ hb0 (one_mul _).symm;have q2:qu 0 b=0:=mQ hb0 (zero_mul _).symm;have w0:PW 0 (0:KP):=fun i=>fN 0;have s0:aa (0:KP)=0:=aM.2 rfl;have step:=SqR.step (m:=0) (n:=n) (b:=b) (c:=der b) (out:=[]) aw (xV wb aw aw) (Au wd wd aw aw aw) (by rw[e0];exact M7 wb aw aw)
  (by rw[eg];exact Gd hb0 wb wb aw aw aw) (by rw[eg,e0];exact Gd hb0 w0 wb aw aw aw) (by rw[eg,e0,q1,q2];exact SqR.stop (by rw[Bx];omega))
 rw[eg,if_pos aw]at step;exact step
theorem OO {b c d g:KP} {m n w v u k:Nat} {out:List (KP×Nat)} (wb:PW w b) (wc:PW v c) (wd:PW u d) (wg:PW k g) (hw:w+10+v+1<=1000) (hs:2<=aa b) (hs':aa b<=3) (hsc:aa c<=3) (hd:c-der b=d) (hg:ai b d=g) (hsg:aa g=2) (hsd:aa d<=3) {q1 q2:KP}
  (cG:Fn Tryz.prog 24 [ku b,ku d] [ku (ai b d)]) (hb1:4*w+6*k+3<=1000) (hb2:4*u+6*k+3<=1000) (e1:b=q1*g) (e2:d=q2*g) (hR:SqR m (n+1) q1 q2 out):SqR (m+1) n b c ((g,n)::out):=by
 have hg0:g≠0:=fun h=>by rw[h,aM.2 rfl]at hsg;omega
 have h1:=mQ hg0 e1;have h2:=mQ hg0 e2;have sd:=xr b;have step:=SqR.step (m:=m) (n:=n) (b:=b) (c:=c) (out:=out) aw (xV wb aw aw) (Au wc (IQ wb aw) aw aw aw) (by rw[hd];exact cG)
  (by rw[hd,hg];exact Gd hg0 wb wg aw hb1 aw) (by rw[hd,hg];exact Gd hg0 wd wg aw hb2 aw) (by rw[hd,hg,h1,h2];exact hR)
 rw[hd,hg,if_pos aw]at step;exact step
theorem ML (n:Nat):(ic (n:Int):KQ)=kn (n:Int):=by rw[In,Ds]
theorem tZ {n:Nat} (h:n≠0):(ic (n:Int):KQ)≠0:=by rw[ML];exact zf aw
theorem MM {n w:Nat} (h:n<=2 ^ w):FB w (ic (n:Int):KQ):=by rw[ML];exact iY (by simpa using h)
noncomputable abbrev t4:KQ:=Alg.inv (ic 4)
noncomputable abbrev t9:KQ:=Alg.inv (ic 9)
theorem Ps:FB 4 t9:=(MM (n:=9) aH).inv (tZ (n:=9) aH)
theorem NH:t9*ic 9=1:=cV (tZ (n:=9) aH)
section
variable {a b:KQ}
noncomputable abbrev LN (c:KQ):KP:=ak-an c
theorem ro (c:KQ):aa (LN c)=2:=fp c
theorem kQ (c:KQ):LN c≠0:=jL c
theorem za (c:KQ):lc (LN c)=1:=BG c
theorem tJ (c:KQ):der (LN c)=1:=KT c
theorem szm {p q:KP} (hp:p≠0) (hq:q≠0):aa (p*q)=aa p+aa q-1:=dy hp hq
theorem lcm1 {p q:KP} (hp:lc p=1) (hq:lc q=1):lc (p*q)=1:=by rw[gM,hp,hq,one_mul]
theorem GW (p:KP) {c:KQ} (hc:c≠0):aa (p*an c)=aa p:=by rw[mul_comm,bX hc]
theorem MF {p:KP} {c:KQ} (hc:c≠0) (hl:lc p=1):mn (p*an c)=p:=by rw[mul_comm,y3 hc,pt hl]
theorem Mz {p g q:KP} {c:KQ} (hc:c≠0) (hg:g≠0) (h:p=q*g):ab p (g*an c)=0:=by
 refine w4 (q:=q*an (Alg.inv c)) (a7 hg (fV hc)) ?_;have e:(an c:KP)*an (Alg.inv c)=1:=by rw[<-bH,mul_inv hc,cu]
 have h2:q*an (Alg.inv c)*(g*an c)=q*g*(an c*an (Alg.inv c)):=ring [q,g,an c,an (Alg.inv c)];rw[h2,e,mul_one,h]
noncomputable abbrev k11 (a b:KQ):KQ := -(t4*(b-a)*(b-a))
noncomputable abbrev k21 (a b:KQ):KQ := -(t9*ic 2*(b-a)*(b-a))
theorem xi (h:a≠b):k21 a b≠0:=k_ne h (a7 (ft (tZ (n:=9) aH)) (tZ (n:=2) aH))
theorem N7 (ha:FB 8 a) (hb:FB 8 b):FB 39 (k21 a b):=(((Ps.mul (MM (n:=2) (w:=1) aH)).mul (hb.sub ha)).mul (hb.sub ha)).neg.mono aw
theorem d21:der (LN a*LN a*LN b)=LN a*(LN b+LN b+LN a):=by
 rw[xt,xt,tJ,tJ];exact ring [LN a,LN b]
theorem re21:ab (LN a*LN a*LN b) (LN a*(LN b+LN b+LN a))=LN a*an (k21 a b):=by
 have h3:aa (LN b+LN b+LN a)=2:=mG a b (tZ (n:=3) aH);have hn:LN b+LN b+LN a≠0:=fun h=>by rw[h,aM.2 rfl]at h3;omega
 have h9:=div9 NH (LN a) (LN b);rw[N8]at h9;refine vw (q:=an t9*(LN a+LN a+LN b)) ?_ ?_
 ·have e1:LN a*LN a*LN b=LN a*(LN a*LN b):=mul_assoc _ _ _;rw[e1,h9];exact ring [LN a,LN b,an t9,an (k21 a b)]
 ·rw[szm (kQ a) hn,h3,ro];have:=bg (LN a) (an (k21 a b));have:=i6 (k21 a b);rw[ro]at *
  omega
theorem gd21 (h:a≠b):ai (LN a*LN a*LN b) (LN a*(LN b+LN b+LN a))=LN a:=by
 have h3:aa (LN b+LN b+LN a)=2:=mG a b (tZ (n:=3) aH);have hn:LN b+LN b+LN a≠0:=fun h=>by rw[h,aM.2 rfl]at h3;omega
 rw[gd2 (a7 (kQ a) hn) re21 (a7 (kQ a) (fV (xi h))) (Mz (xi h) (kQ a) (mul_comm _ _)),MF (xi h) (za a)]
theorem yP (ha:FB 8 a):Alg.PC 8 (LN a):=Alg.PC.lin ha
theorem Hv (ha:FB 8 a) (hb:FB 8 b):Alg.PC 17 (LN a*LN b):=(yP ha).mul (yP hb) (k:=1) (by rw[ro];decide)
theorem Hw (ha:FB 8 a) (hb:FB 8 b):Alg.PC 27 (LN a*LN a*LN b):=(Hv ha ha).mul (yP hb) (k:=2) (by rw[szm (kQ a) (kQ a),ro];decide)
theorem Sq21 {c:KQ} (hab:a≠b) (ha:FB 8 a) (hb:FB 8 b) (hc0:c≠0) (hc:FB 8 c):Fn Tryz.prog 31 [ku (LN a*LN a*LN b*an c)] [.c (.lst ([(LN b,1),(LN a,2)].map sqr))]:=by
 have na:=kQ a;have nb:=kQ b;have naa:=a7 na na;have nP:=a7 naa nb;have sa:=ro a;have sb:=ro b;have sP:aa (LN a*LN a*LN b)=4:=by rw[szm naa nb,szm na na,sa,sb]
 have lP:lc (LN a*LN a*LN b)=1:=lcm1 (lcm1 (za a) (za a)) (za b);have h3:aa (LN b+LN b+LN a)=2:=mG a b (tZ (n:=3) aH);have n3:LN b+LN b+LN a≠0:=fun h=>by rw[h,aM.2 rfl]at h3;omega
 have sD:aa (LN a*(LN b+LN b+LN a))=3:=by rw[szm na n3,sa,h3]
 have nD:=a7 na n3;have wP:=PC.pw (Hw ha hb);have wDD:PW 29 (LN a*(LN b+LN b+LN a)):=by
  have:=PC.pw ((Hw ha hb).der (k:=2) (by rw[sP];decide));rwa [d21]at this
 have k0:=xi hab;have wr:PW 47 (LN a*an (k21 a b)):=(PC.pw (yP ha)).scale (N7 ha hb);have nr:=a7 na (fV k0);have sr:aa (LN a*an (k21 a b))=2:=by rw[GW _ k0,sa]
 have rr:ab (LN a*(LN b+LN b+LN a)) (LN a*an (k21 a b))=0:=Mz k0 na (mul_comm _ _);have cG:=M5 nD re21 nr rr wr aw aw (uT nD wP wDD aw aw aw) (uT nr wDD wr aw aw aw);have wa:=PC.pw (yP ha);have wb:=PC.pw (yP hb);have wab:=PC.pw (Hv ha hb);have wfg:PW 17 (LN a+LN b):=by
  have:=wa.add wb;exact this
 have dab:der (LN a*LN b)=LN a+LN b:=by
  rw[xt,tJ,tJ];exact ring [LN a,LN b]
 have wc:PW 35 (LN b+LN b+LN a):=((wb.add wb).add wa).mono aw;refine SqOf (P:=LN a*LN a*LN b) (D:=LN a*(LN b+LN b+LN a)) (G:=LN a) (Q1:=LN a*LN b) (Q2:=LN b+LN b+LN a) (m:=2) (wp:=35) (w:=27) (wg:=8) (wd:=29) ?_ ?_ aw (wP.scale hc) aw (MF hc0 lP) wP aw d21 wDD (gd21 hab) cG wa aw na (ring [LN a,LN b]) (mul_comm _ _) ?_ ?_ aw ?_
 ·rw[GW _ hc0,sP];omega
 ·rw[GW _ hc0,sP];omega
 ·rw[sP,sa];simp only[wD];omega
 ·rw[sD,sa];simp only[wD];omega
 ·have e0:LN b+LN b+LN a-der (LN a*LN b)=LN b:=by
   rw[dab];exact ring [LN a,LN b]
  have rg:ab (LN a*LN b) (LN b)=0:=w4 nb rfl;have eg:ai (LN a*LN b) (LN b)=LN b:=by rw[gd1 nb rg,NX]
  have last:SqR 1 2 (LN a) 1 [(LN a,2)]:=by
   have:=OP (n:=2) wa aw (za a) aw aw;rwa [tJ]at this
  have sab:aa (LN a*LN b)=3:=by rw[szm na nb,sa,sb]
  exact OO (u:=8) (k:=8) wab wc wb wb aw aw aw aw e0 eg sb aw (M6 nb wb aw aw rg (uT nb wab wb aw aw aw)) aw aw rfl (one_mul _).symm last
end
theorem P3:kl [kn 1,xK]=ku (an 1+an xK*ak):=by rw[vG (fun _=>fO),pl2,ff]
theorem dD {p:KP} {w:Nat} (h:PW w p) (hw:w<=1000) (hs:aa p<=1000):Fn Tryz.prog 15 [ku p,ku p] [iB true]:=by
 have:=Jp h h hw hw hs;rwa [aF rfl]at this
theorem HZ (a:KQ):kn (-1)*a = -a:=by
 rw[show kn (-1) = -(1:KQ)from(Ig 1).trans (by rw[ff]),neg_mul,one_mul]
theorem Ij:Alg.inv (xK*xK)=yK*yK:=tV _ _
theorem Qh:kl [kn (-1)*Alg.inv (xK*xK),kn 1*yK]=ku dQ:=by
 rw[HZ,Ij,ff,one_mul,vG (fun _=>yb),pl2]
theorem Ih {c:KQ} (h:c≠0):kl [c]=ku (an c):=by rw[vG (l:=[c]) (fun _=>h),pl1]
theorem J1:xK≠kn (-1):=fun h=>by
 have h2:=congrArg aa (xo h);rw[show(ak:PQ)=mon 1 1 from rfl,mF 1 aH,jm (R:=Rat) aH]at h2;omega
theorem tI:FB 8 (kn (-1)):=iY aH
theorem sB:FB 8 xK:=eB.mono aw
theorem N6:kl [kn 1*Alg.inv (xK*xK)]=ku (an (yK*yK)):=by rw[Ij,ff,one_mul,Ih (a7 yb yb)]
theorem P2:kl [kn 1*yK]=ku (an yK):=by rw[ff,one_mul,Ih yb]
theorem N5:kl [kn (-1)*yK]=ku (-an yK):=by
 have h : -yK≠0:=fun e=>yb (by have:=congrArg (fun x => -x) e;rwa [neg_neg,gL]at this);rw[HZ,Ih h,lh]
set_option maxHeartbeats 4000000 in
theorem E0:Fn Tryz.prog 11 [] [iB true]:=by
 have m0:=me 0 aH;have m1:=me 1 aH;have mm:=me (-1) aH;have fx:FW xK:=eB.mono aw;have f1:FW (kn 1):=FB1 1000;have fm:FW (kn (-1)):=tI.mono aw;have fxx:FW (xK*xK):=(eB.mul eB).mono aw;have xx0:xK*xK≠0:=a7 fO fO;have fy:FW yK:=mu.mono aw;have hneg:=Af fx;have hsq:=uH fx fx fxx;have o1:=pZ fm fxx xx0 ((tI.mul ((eB.mul eB).inv xx0)).mono aw);have o2:=pZ f1 fx fO (((FB1 0).mul mu).mono aw);have o3:=pZ f1 fxx xx0 (((FB1 0).mul ((eB.mul eB).inv xx0)).mono aw);have o4:=pZ fm fx fO ((tI.mul mu).mono aw);have hlx:=Ai eB aw;have hlm:=Ai tI aw;have wx:=PC.pw (yP sB);have wxx:=PC.pw (Hv sB sB);have wm:=PC.pw (yP tI);have sx:=ro xK;have sm:=ro (kn (-1));have sxx:aa (LN xK*LN xK)=3:=by rw[szm (kQ _) (kQ _),sx]
 have s21:aa (LN xK*LN xK*LN (kn (-1)))=4:=by rw[szm (a7 (kQ _) (kQ _)) (kQ _),sxx,sm]
 have g1:=ww wx wx (by rw[sx];omega) aw aw aw aw;have g2:=ww wxx wm (by rw[sxx];omega) aw aw aw aw;have g3:=D7 (PC.pw (Hw sB tI)) sB aw aw;have g4:=Sq21 (c:=xK) J1 sB tI fO sB;have wy:PW 1 (an yK:KP):=vj mu;have wyn:PW 1 (-an yK:KP):=fun i=>(wy i).neg;have wR:PW 2 (an (yK*yK):KP):=vj (mu.mul mu);have wQ:PW 4 dQ:=(vj (mu.mul mu).neg).add (Jz mu);have sy:=i6 yK;have syn:aa (-an yK:KP)<=1:=by rw[kt];exact sy
 have sR:=i6 (yK*yK);have sQ:aa dQ<=2:=dh (ax (i6 _) aw) (by have:=bg (an yK:KP) ak;rw[j9]at this;omega);have d2:decide (((2:Nat):Int)=2)=true:=rfl;have d1:decide (((1:Nat):Int)=1)=true:=rfl;have d0:decide (((0:Nat):Int)=0)=true:=rfl;have s3:=uF [0,1,xK] [0,1,xK] au (fun f hf=>by
  simp at hf;rcases hf with rfl|rfl|rfl
  ·exact fN _
  ·exact FB1 _
  ·exact fx) (fun f hf=>by
  simp at hf;rcases hf with rfl|rfl|rfl
  ·exact fN _
  ·exact FB1 _
  ·exact fx)
 rw[aF rfl]at s3;have s3':Fn Tryz.prog 15 [fl cs3,kl [kn 0,kn 1,xK]] [iB true]:=by rw[Oq,fi,ff];exact s3
 have fs:FW (xK*xK+kn 1):=((eB.mul eB).add (FB1 0)).mono aw;have hadd:=uN fxx f1 fs;have hsame:=F6 (f:=kz 1+xK*xK) (g:=xK*xK+kn 1) (tS.mono aw) fs;rw[aF (add_comm _ _)]at hsame;have hTrim:=iS [kn 0] au;have et:dF [kn 0]=[]:=by
  rw[fX,pl1,fi,cS,pN]
 rw[et]at hTrim;have hGcd:=M7 (a:=0) (w:=0) (fun i=>fN 0) aw (by rw[aM.2 rfl];omega);rw[pF,lI,gh]at hGcd;have hz:=qM (kn 0);rw[aF fi]at hz;refine aJ (fn:=Tryz.f11) ?_;simp -dsimp only[go_sem];refine aK m1 ?_;simp -dsimp only[go_sem];refine ap 4 [] false true ?_;simp -dsimp only[go_sem];refine aK m0 ?_;simp -dsimp only[go_sem];refine aK (iA 0 aw) ?_;simp -dsimp only[go_sem];refine aK (iA 1 aw) ?_;simp -dsimp only[go_sem];refine aK (iA 1 aw) ?_;simp -dsimp only[go_sem];refine ao Px rfl ?_;simp -dsimp only[go_sem];refine ao My rfl ?_;simp -dsimp only[go_sem];refine aK (iA 1 aw) ?_;simp -dsimp only[go_sem];refine ao sML rfl ?_;simp -dsimp only[go_sem];refine ao Pz rfl ?_;simp -dsimp only[go_sem];refine ap 14 [] false true ?_;simp -dsimp only[go_sem];refine aO (args':=[ku ak,ku ak]) (by rw[<-Ic];rfl) NM ?_;simp -dsimp only[go_sem];refine aK lf ?_;simp -dsimp only[go_sem];refine aO (args':=[ku (ak*ak),ku (an 1+an xK*ak)]) (by rw[<-P3];rfl) sDiv ?_;simp -dsimp only[go_sem];refine aO (args':=[ku ak,ku 0]) (by rw[<-Ic,gh];rfl) (xS ak) ?_;simp -dsimp only[go_sem];refine ap 15 [] false true ?_;simp -dsimp only[go_sem];refine aK lf ?_;simp -dsimp only[go_sem];refine ao hneg rfl ?_;simp -dsimp only[go_sem];refine aO (args':=[ku ak,ku lX,ku 1]) (by rw[<-Ic,<-N0,<-MJ];rfl) Kk ?_;simp -dsimp only[go_sem];refine aO (args':=[ku ak,ku ak,ku 1]) (by rw[<-Ic,<-MJ];rfl) Kj ?_;simp -dsimp only[go_sem];refine aK lf ?_;simp -dsimp only[go_sem];refine ao hlx rfl ?_;simp -dsimp only[go_sem];refine aK lf ?_;simp -dsimp only[go_sem];refine ao hlx rfl ?_;simp -dsimp only[go_sem];refine ao g1 rfl ?_;simp -dsimp only[go_sem];refine aK mm ?_;simp -dsimp only[go_sem];refine ao hlm rfl ?_;simp -dsimp only[go_sem];refine ao g2 rfl ?_;simp -dsimp only[go_sem];refine aK lf ?_;simp -dsimp only[go_sem];refine ao g3 rfl ?_;simp -dsimp only[go_sem];refine ao g4 rfl ?_;simp -dsimp only[go_sem];refine aK lf ?_;simp -dsimp only[go_sem];refine aK lf ?_;simp -dsimp only[go_sem];refine ao hsq rfl ?_;simp -dsimp only[go_sem];refine ap 26 [] false true ?_;simp -dsimp only[go_sem];refine aK mm ?_;simp -dsimp only[go_sem];refine ao o1 rfl ?_;simp -dsimp only[go_sem];refine aK lf ?_;simp -dsimp only[go_sem];refine ao o2 rfl ?_;simp -dsimp only[go_sem];refine aO (args':=[ku dQ,ku dQ]) (by rw[<-Qh];rfl) (dD wQ aw aw) ?_;simp -dsimp only[go_sem];refine ao o3 rfl ?_;simp -dsimp only[go_sem];refine aO (args':=[ku (an (yK*yK)),ku (an (yK*yK))]) (by rw[<-N6];rfl) (dD wR aw aw) ?_;simp -dsimp only[go_sem];refine ap 23 [] false true ?_;simp -dsimp only[go_sem];refine aK lf ?_;simp -dsimp only[go_sem];refine ao o2 rfl ?_;simp -dsimp only[go_sem];refine aO (args':=[ku (an yK),ku (an yK)]) (by rw[<-P2];rfl) (dD wy aw aw) ?_;simp -dsimp only[go_sem];refine aK mm ?_;simp -dsimp only[go_sem];refine aK lf ?_;simp -dsimp only[go_sem];refine ao o4 rfl ?_;simp -dsimp only[go_sem];refine aO (args':=[ku (-an yK),ku (-an yK)]) (by rw[<-N5];rfl) (dD wyn aw aw) ?_;simp -dsimp only[go_sem];refine ap 36 [] false true ?_;simp -dsimp only[go_sem];simp -dsimp only[go_sem,d2,d1,Int.reduceToNat,Int.reduceLE,aC,sqr];refine aK mm ?_;simp -dsimp only[go_sem];refine ao hlm rfl ?_;simp -dsimp only[go_sem];refine ao (dD wm aw aw) rfl ?_;simp -dsimp only[go_sem,Int.reduceToNat,Int.reduceLE,aC,sqr];refine aK lf ?_;simp -dsimp only[go_sem];refine ao hlx rfl ?_;simp -dsimp only[go_sem];refine ao (dD wx aw aw) rfl ?_;simp -dsimp only[go_sem];refine ap 59 [] false true ?_;simp -dsimp only[go_sem];refine aK m0 ?_;simp -dsimp only[go_sem];refine aK lf ?_;simp -dsimp only[go_sem];refine ao s3' rfl ?_;simp -dsimp only[go_sem];refine aK lf ?_;simp -dsimp only[go_sem];refine ao hlx rfl ?_;simp -dsimp only[go_sem];refine aK m0 ?_;simp -dsimp only[go_sem];refine aO (args':=[ku lX,ku sq1]) (by rw[<-NK];rfl) sRes ?_;simp -dsimp only[go_sem];refine ao hadd rfl ?_;simp -dsimp only[go_sem];refine ao hsame rfl ?_;simp -dsimp only[go_sem];refine ao sTo rfl ?_;simp -dsimp only[go_sem];refine aK (iA 0 aw) ?_;simp -dsimp only[go_sem];refine aK (iA 1 aw) ?_;simp -dsimp only[go_sem];refine aK (iA 1 aw) ?_;simp -dsimp only[go_sem];refine ao Px rfl ?_;simp -dsimp only[go_sem];refine ao My rfl ?_;simp -dsimp only[go_sem];refine aK (iA 1 aw) ?_;simp -dsimp only[go_sem];refine ao sML rfl ?_;simp -dsimp only[go_sem];refine ao Pw rfl ?_;simp -dsimp only[go_sem];refine ao NL rfl ?_;simp -dsimp only[go_sem];refine aK m0 ?_;simp -dsimp only[go_sem];refine ao hTrim rfl ?_;simp -dsimp only[go_sem,d0];refine ao hGcd rfl ?_;simp -dsimp only[go_sem,d0];refine aO (args':=[ku 0,ku ak]) (by rw[<-Ic,gh];rfl) (JE (.inl rfl)) ?_;simp -dsimp only[go_sem];refine ao hz rfl ?_;simp -dsimp only[go_sem]
theorem CU (x y:KP):aa (x*y)<=aa x+aa y-1:=bg x y
theorem mulw {p q:KP} {w v n:Nat} (hp:PW w p) (hq:PW v q) (hs:aa p<=n):PW (n*(w+v+1)) (p*q):=(MD hp hq).mono (Nat.mul_le_mul_right _ hs)
theorem GR (p:KP):dF (aj p++[kn 0,kn 0])=aj p:=by
 rw[fX];congr 1;refine Alg.P.ext fun i=>?_;rw[qv,List.getD_eq_getElem?_getD];rcases Nat.lt_or_ge i (aj p).length with hi|hi
 ·rw[List.getElem?_append_left hi,aD hi,fB];rfl
 ·have hz:p.c i=0:=aP (by rw[aZ]at hi;exact hi);rw[List.getElem?_append_right hi,hz,fi];generalize i-(aj p).length=j
  match j with
  | 0=>rfl
  | 1=>rfl
  | j+2=>rfl
set_option maxHeartbeats 8000000 in
theorem y4 (a b:List iq) (c:iq) (ha:OkL a) (hb:OkL b) (hc:c.ok):Fn Tryz.prog 10 [rl a,rl b,.g c.row] [iB true]:=by
 have hs:=E0;have m1:=Ar a ha.1 ha.2;have m2:=Ar b hb.1 hb.2;have m3:=wo c.N c.D 2 aw hc.1.1 hc.1.2 hc.2.1 hc.2.2;have wp:=Di 3 ha.2;have wq:=Di 3 hb.2;have wk:FB 8 (tH c.N c.D 2):=Bg aw hc.2.1 hc.2.2;have sp:=y8 a 3;have sq:=y8 b 3;have m0:=me 0 aH;generalize rk a 3=p at *
 generalize rk b 3=q at *
 generalize hk:tH c.N c.D 2=k at *
 clear ha hb hc;have spq:=CU p q;have wpq:PW 51 (p*q):=mulw wp wq sp;have f1:=ww wp wq (ax (Nat.mul_le_mul_right _ sp) aw) aw aw aw aw;have f2:=Qy wp wq aw aw aw;have f3:=Jq wp wq aw aw aw;have wa:=wp.add wq;have sa:aa (p+q)<=3:=dh sp sq;have f4:=dD wa aw aw;have f5:=Au wp wq aw aw aw;have f6:=Qv wp wq aw aw aw;have ws:=wp.sub wq;have ss:aa (p-q)<=3:=fH sp sq;have f7:=dD ws aw aw;have f8:=Au wp wp aw aw aw;rw[sub_self]at f8;have f9:=Qw wp wq (ax (Nat.mul_le_mul_right _ sq) aw) aw;have f10:=dD wpq aw aw;have f11:=L0 wpq aw aw;have f12:=D7 wp wk aw aw;have f13:=si wp wk aw aw;have wsc:=wp.scale wk;have ssc:aa (p*an k)<=3:=by
  have h1:=CU p (an k);have h2:=i6 k;omega
 have f14:=dD wsc aw aw;have f15:=xV wp aw aw;have f16:=OU wp aw aw;have wd:=IQ wp aw;have sd:=xr p;have f17:=dD wd aw aw;have f18:=p8 wp aw aw;have f19:=L4 wp aw aw;have wm:PW 16 (mn p):=by
  rw[mn,mul_comm];by_cases h:p=0
  ·rw[h,zero_mul];exact fun i=>fN _
  ·exact(wp.scale ((wp _).inv (bP h))).mono aw
 have sm:aa (mn p)<=3:=by rw[HU];exact sp
 have f20:=dD wm aw aw;have f21:=iS (aj p++[kn 0,kn 0]) (by rw[List.length_append,aZ];simp;omega);rw[GR]at f21;have f22:=dD wp aw aw;have f23:=D8 wp wq aw aw aw;have f24:=Jp wp wq aw aw aw;have f25:=D8 wp wp aw aw aw;rw[aF rfl]at f25;have e0:decide ((aa (0:KP):Int)=0)=true:=by rw[aM.2 rfl];rfl
 refine lg (fn:=Tryz.f10) av rfl rfl rfl av au av ?_;refine WPn.seq_k kd fun K hK _=>?_;simp -dsimp only[go_sem];refine hK _ ?_;refine WPn.seq_k kd fun K hK _=>?_;simp -dsimp only[go_sem];refine aK hs ?_;simp -dsimp only[go_sem];refine hK _ ?_;refine WPn.seq_k kd fun K hK _=>?_;simp -dsimp only[go_sem];refine ap 9 [10] false true ?_;simp -dsimp only[go_sem];refine aK m1 ?_;simp -dsimp only[go_sem];refine aK m2 ?_;simp -dsimp only[go_sem,iq.row];refine ao m3 rfl ?_;simp -dsimp only[go_sem];refine hK _ ?_;refine WPn.seq_k kd fun K hK _=>?_;simp -dsimp only[go_sem];refine ao f1 rfl ?_;simp -dsimp only[go_sem];refine hK _ ?_;refine WPn.seq_k kd fun K hK _=>?_;simp -dsimp only[go_sem,az,aZ]
 repeat(refine And.intro aw ?_)
 refine aK m0 ?_;simp -dsimp only[go_sem];refine aK m0 ?_;simp -dsimp only[go_sem,az,aZ]
 repeat(refine And.intro aw ?_)
 refine hK _ (WPn.weak (bA.freeze _ 30) ?_);refine WPn.seq_k kd fun K hK _=>?_;simp -dsimp only[go_sem];refine ao f2 rfl ?_;simp -dsimp only[go_sem];refine ao f3 rfl ?_;simp -dsimp only[go_sem];refine ao f4 rfl ?_;simp -dsimp only[go_sem];refine ao f5 rfl ?_;simp -dsimp only[go_sem];refine ao f6 rfl ?_;simp -dsimp only[go_sem];refine ao f7 rfl ?_;simp -dsimp only[go_sem];refine ao f8 rfl ?_;simp -dsimp only[go_sem,az,aZ,e0];refine hK _ ?_;refine WPn.seq_k kd fun K hK hK2=>?_;simp -dsimp only[go_sem];refine ap 59 [] false true ?_;simp -dsimp only[go_sem];refine ao f9 rfl ?_;simp -dsimp only[go_sem];refine ao f10 rfl ?_;simp -dsimp only[go_sem];refine ao f11 rfl ?_;simp -dsimp only[go_sem];refine ao f12 rfl ?_;simp -dsimp only[go_sem];refine ao f13 rfl ?_;simp -dsimp only[go_sem];refine ao f14 rfl ?_;simp -dsimp only[go_sem];refine ao f15 rfl ?_;simp -dsimp only[go_sem];refine ao f16 rfl ?_;simp -dsimp only[go_sem];refine ao f17 rfl ?_;simp -dsimp only[go_sem];refine ao f18 rfl ?_;simp -dsimp only[go_sem];refine ao f19 rfl ?_;simp -dsimp only[go_sem];refine ao f20 rfl ?_;simp -dsimp only[go_sem];rw[List.take_of_length_le (by rw[List.length_append,az,aZ];simp)];refine aO (args':=[kl (aj p++[kn 0,kn 0])]) (by rw[kl,List.map_append];rfl) f21 ?_;simp -dsimp only[go_sem];refine ao f22 rfl ?_;simp -dsimp only[go_sem];refine ao f23 rfl ?_;simp -dsimp only[go_sem];refine ao f24 rfl ?_;simp -dsimp only[go_sem,beq_self_eq_true];refine ao f25 rfl ?_;simp -dsimp only[go_sem];refine hK _ ?_;refine WPn.end_k kd fun K hK=>?_;simp -dsimp only[go_sem];refine hK _ _ ⟨.inr rfl,?_⟩;simp -dsimp only[go_sem]
end Go.AM
namespace Go.AM
open Go.Deep
section
variable {H:Type} {enc:TypeId×Value->H} {P:Program} {w:World} {base:Nat} {spare:Nat->Bool} {held:Bool}
abbrev nob:Nat->Prop:=fun _=>False
theorem Jb {a:Addr} (h:a.spot=none) (n:Nat):a.add n=⟨a.block,a.off+n,none⟩:=by
 obtain⟨b,o,s⟩:=a;subst h;unfold Addr.add;by_cases hn:n=0
 ·subst hn;rfl
 ·simp[hn]
theorem EY {a:Addr} {v:Value} (h:w.cell? a=some v):a.spot=none/\a.block<w.heap.size:=by
 unfold World.cell? at h;split at h
 ·rename_i hb;refine⟨?_,(Array.getElem?_eq_some_iff.1 hb).1⟩;cases hs:a.spot with
  | none=>rfl
  | some _=>simp[hs]at h
 ·simp at h
theorem tc {α:Type} [Inhabited α] {t e:TypeId} {fuel:Nat} {cs:List Value} {x:DataW H×List MemPlace} (F:α->List C) (ok:α->Prop) {n:Nat} (hn:0<n) (ht:P.underlying t=some (.slice e)) (hc:P.cellsOf e=n)
  (he:∀ fuel cs x,DataW.trod enc P w base spare held fuel e cs=some x->cs.length=n->∃ r:α,ok r/\(F r).length=n/\aY w nob (F r) cs)
  (h:DataW.trod enc P w base spare held fuel t cs=some x):∃ l:List α,(∀ r∈l,ok r)/\l.length<=maxLen/\∃ y,cs=[y]/\cr w nob (.lst (l.map F)) y:=by
 rcases open_slice ht h with⟨rfl,_⟩|⟨a,len,cap,m,k,D,Pl,rfl,hb,hl,hcap,hm,_,hx⟩
 ·refine⟨[],au,au,_,rfl,?_⟩;simp only[List.map_nil,cr];exact⟨none,0,0,rfl,rfl,ay _,.inl trivial⟩
 rw[hc]at hx;have hlm:len<=m:=by rw[hm];split<;>omega
 obtain⟨f,hf⟩:=choose_lt (α:=α) (n:=len) (p:=fun i r=>ok r/\(F r).length=n/\∃ cs',w.cells? base (a.add (i*n)) n=some cs'/\aY w nob (F r) cs') (fun i hi=>by
  obtain⟨cs',h1,h2⟩:=hx i aw;obtain⟨r,h3,h4,h5⟩:=he _ _ _ h2 (World.cells?_some h1).2.1;exact⟨r,h3,h4,cs',h1,h5⟩)
 refine⟨(List.range len).map f,fun r hr=>?_,ar,_,rfl,?_⟩
 ·obtain⟨i,hi,rfl⟩:=List.mem_map.1 hr;exact(hf i (List.mem_range.1 hi)).1
 simp only[cr];refine⟨some a,len,cap,rfl,au,hl,?_⟩;by_cases h0:len=0
 ·subst h0;exact .inl rfl
 ·right;have hs:a.spot=none/\a.block<w.heap.size:=by
   obtain⟨_,h2,cs',h1,_⟩:=hf 0 aw;obtain⟨_,h4,h5⟩:=World.cells?_some h1;have h6:=h5 0 hn;rw[aD aw]at h6;simp only[Nat.zero_mul,Addr.add,if_true]at h6;exact EY h6
  refine⟨a.block,a.off,n,?_,hs.2,id,aR.of_get fun i r hi=>?_⟩
  ·obtain⟨b,o,s⟩:=a;obtain⟨rfl,_⟩:=hs;rfl
  ·rw[List.map_map,List.getElem?_map]at hi;by_cases hil:i<len
   ·rw[List.getElem?_range hil]at hi;simp only[Option.map_some,Option.some.injEq,Function.comp]at hi;subst hi;obtain⟨_,h2,cs',h1,h3⟩:=hf i hil;obtain⟨_,h4,h5⟩:=World.cells?_some h1;refine⟨h2,bt.of_reps h3 fun j hj=>?_⟩;rw[<-h5 j aw,add_add,Jb hs.1,Nat.add_assoc]
   ·rw[List.getElem?_eq_none ar]at hi;simp at hi
theorem aY.split {w:World} {M:Nat->Prop} {cs:List C} {ys:List Value} (n:Nat) {bs:List C} (h1:aY w M bs (ys.take n)) (h2:aY w M cs (ys.drop n)):aY w M (bs++cs) ys:=by
 have:=h1.append h2;rwa [List.take_append_drop]at this
end
theorem Bt {H:Type} {enc:TypeId×Value->H} {P:Program} {f:Func} {s:ChangeSpec} {fresh handsOn:Bool} {W W':World} {args:Array Value} {ds:List (DataW H)} {before:List MemPlace} {t:TypeId} (hl:laidOutB P=true)
  (hW:DataW.Whole enc P f.params.toList s.vars false W args.toList ds [] before) (hv:s.vars=[]) (hrt:f.resultTypes = #[t]) (ht:P.underlying t=some .bool) (hres:(s.fn H (ds++[])).results=[.lit (.bool true)])
  (hargs:(s.fn H (ds++[])).args=ds) (hvars:(s.fn H (ds++[])).vars=[]) (hrd:∀ t∈f.params.toList,P.readableRec t=true/\t<P.types.size) (hb:bq W.heap.size W W') :
  s.post enc P f false fresh handsOn false W args (.bool true) W':=by
 have hB:Go.RowKit.Below W.heap.size W W':=⟨hb.os,hb.tape,hb.output,hb.size,hb.block⟩;have hlt:=hW.lt;have hW':=hW;obtain⟨p,q,hA,hV,rfl,-,-⟩:=hW;refine⟨ds,[],_,[],p,[],hW',?_,?_,?_,hB.frame _,fun h=>by cases h⟩
 ·rw[hres,hrt];exact Go.ChangeShapes.trodAll_mk1 (Go.RowKit.shut_bool ht true)
 ·rw[hargs];have key:∀(ts:List TypeId) (vs:List Value) (ds:List (DataW H)) (ps:List MemPlace),(∀ t∈ts,P.readableRec t=true/\t<P.types.size)->(∀ x∈ps,x.block<W.heap.size)->DataW.TrodAll enc P W 0 (fun _=>true) true ts vs ds ps ->
    DataW.TrodAll enc P W' 0 (fun b=>decide (b<W.heap.size)) true ts vs ds ps:=by
   intro ts
   induction ts with
   | nil=>intro vs ds ps _ _ h;cases vs<;>cases ds<;>first|exact h|exact h.elim
   | cons t ts ih =>
    intro vs ds ps hr hx h;cases vs with
    | nil=>exact h.elim
    | cons v vs =>
     cases ds with
     | nil=>exact h.elim
     | cons d ds =>
      obtain⟨p,q,h1,h2,rfl⟩:=h;have hrt:=hr t au;exact⟨p,q,Go.RowKit.Below.trod hl hrt.1 hrt.2 h1 hB (fun x hx'=>hx x (by simp[hx'])),ih vs ds q (fun t ht=>hr t (by simp[ht])) (fun x hx'=>hx x (by simp[hx'])) h2,rfl⟩
  exact key _ _ _ _ hrd (fun x hx=>hlt x (by simp[hx])) hA
 ·rw[hvars,hv];rfl
end Go.AM
namespace Go.AM
open Go.Proofs
open Go.Deep Go.ChangeShapes Go.WideShapes Go.ChangeAt Go.RowKit
section
variable {H:Type} {enc:TypeId×Value->H} {w:World} {base:Nat} {spare:Nat->Bool} {held:Bool}
theorem P4 {cs:List Value} (h:cs.length=5):∃ c0 c1 c2 c3 c4,cs=[c0,c1,c2,c3,c4]:=by
 match cs,h with
 | [c0,c1,c2,c3,c4],_=>exact⟨c0,c1,c2,c3,c4,rfl⟩
theorem twoV {cs:List Value} (h:cs.length=2):∃ c0 c1,cs=[c0,c1]:=by
 match cs,h with
 | [c0,c1],_=>exact⟨c0,c1,rfl⟩
instance:Inhabited T5:=⟨⟨0,0,0,0,0⟩⟩
instance:Inhabited iq:=⟨⟨[],[]⟩⟩
theorem cells124:Tryz.prog.cellsOf 124=5:=by kernel_rfl
theorem cells97:Tryz.prog.cellsOf 97=1:=by kernel_rfl
theorem cells37:Tryz.prog.cellsOf 37=1:=by kernel_rfl
theorem cells39:Tryz.prog.cellsOf 39=2:=by kernel_rfl
theorem Mu {n:Int} (h:(Lit.int .i8 n).wf=true) : -128<=n/\n<128:=by
 have:=bounds_i8 h;omega
theorem rep5 {fuel:Nat} {cs:List Value} {x:DataW H×List MemPlace} (h:DataW.trod enc Tryz.prog w base spare held fuel 124 cs=some x):∃ t:T5,t.ok/\t.row.length=5/\aY w nob t.row cs:=by
 obtain⟨xs,m,-,-,hl,hx,he⟩:=DataW.trod_array Tryz.underlying124 h;rw[cells124]at hl;obtain⟨c0,c1,c2,c3,c4,rfl⟩:=P4 hl
 ·have key:∀ i,i<5->∃ n,(([c0,c1,c2,c3,c4]:List Value).drop (i*1)).take 1=[.int .i8 n]/\(Lit.int .i8 n).wf=true:=fun i hi=>by
   have h1:=he i hi;rw[aD aw,show Tryz.prog.cellsOf 97=1 from cells97]at h1;obtain⟨n,h2,_,h3⟩:=DataW.trod_int Tryz.underlying97 h1;exact⟨n,h2,h3⟩
  obtain⟨a,ha,wa⟩:=key 0 aw;obtain⟨b,hb,wb⟩:=key 1 aw;obtain⟨c,hc,wc⟩:=key 2 aw;obtain⟨d,hd,wd⟩:=key 3 aw;obtain⟨e,he5,we⟩:=key 4 aw;simp only[Nat.zero_mul,Nat.one_mul,Nat.reduceMul,aC,List.take_succ_cons,List.take_zero,List.cons.injEq,and_true]at ha hb hc hd he5;subst ha hb hc hd he5;refine⟨⟨a,b,c,d,e⟩,⟨Mu wa,Mu we⟩,rfl,?_⟩;simp only[T5.row,aY,cr,Value.oneCell',and_self]
theorem PA {fuel:Nat} {cs:List Value} {x:DataW H×List MemPlace} (h:DataW.trod enc Tryz.prog w base spare held fuel 39 cs=some x):∃ t:iq,t.ok/\t.row.length=2/\aY w nob t.row cs:=by
 obtain⟨y0,y1,n,-,hl,h0,h1⟩:=trod_struct2 Tryz.underlying39 h;rw[cells39]at hl;obtain⟨c0,c1,rfl⟩:=twoV hl
 ·simp only[cells37,aC,List.take_succ_cons,List.take_zero]at h0 h1;obtain⟨l0,k0,b0,v0,e0,r0⟩:=tc T5.row T5.ok aH Tryz.underlying37 cells124 (fun f cs x h _=>rep5 h) h0;obtain⟨l1,k1,b1,v1,e1,r1⟩:=tc T5.row T5.ok aH Tryz.underlying37 cells124 (fun f cs x h _=>rep5 h) h1;simp only[List.cons.injEq,and_true]at e0 e1;subst e0 e1;exact⟨⟨l0,l1⟩,⟨⟨b0,b1⟩,k0,k1⟩,rfl,r0,r1,trivial⟩
theorem PB {v:Value} {d:DataW H} {ps:List MemPlace} (hv:∃ a len cap,v = .slice a len cap) (h:DataW.Trod enc Tryz.prog w base spare held 22 v d ps):∃ l:List iq,OkL l/\iV w nob (rl l) v:=by
 obtain⟨a,len,cap,rfl⟩:=hv;obtain⟨fuel,hf⟩:=h;obtain⟨l,k,b,y,e,r⟩:=tc iq.row iq.ok aH Tryz.underlying22 cells39 (fun f cs x h _=>PA h) hf;have e':Value.slice a len cap=y:=by simpa [Value.cells]using e
 subst e';exact⟨l,⟨b,k⟩,r⟩
end
theorem own:ownKnob Tryz.prog.godebug=none:=by kernel_rfl
theorem K0:laidOutB Tryz.prog=true:=by kernel_rfl
theorem rd22:Tryz.prog.readableRec 22=true/\22<Tryz.prog.types.size:=⟨by kernel_rfl,of_decide_eq_true (by kernel_rfl)⟩
abbrev iT:IV := .c (.v (.bool true))
set_option maxRecDepth 100000 in
theorem H6 {f:FuncId} {fn:Func} {s:ChangeSpec} (hv:s.vars=[]) (hrt:fn.resultTypes = #[4]) (hrd:∀ t∈fn.params.toList,Tryz.prog.readableRec t=true/\t<Tryz.prog.types.size) {H:Type} {enc:TypeId×Value->H}
  (hc:∀(W:World) (base:Nat) (args:Array Value) (ds:List (DataW H)) (p:List MemPlace),(∀(j:Nat) t v,fn.params[j]?=some t->args[j]?=some v->Value.okWide Tryz.prog W .any base t v)->DataW.TrodAll enc Tryz.prog W 0 (fun _=>true) true fn.params.toList args.toList ds p ->
   (∃ ivs,Fn Tryz.prog f ivs [iT]/\cT W nob ivs args.toList)/\(s.fn H (ds++[])).results=[.lit (.bool true)]/\(s.fn H (ds++[])).args=ds/\(s.fn H (ds++[])).vars=[])
  (W:World) (base:Nat) (args:Array Value) (ds gs:List (DataW H)) (before:List MemPlace) (hval:∀(j:Nat) t v,fn.params[j]?=some t->args[j]?=some v->Value.okWide Tryz.prog W .any base t v)
  (hW:DataW.Whole enc Tryz.prog fn.params.toList s.vars false W args.toList ds gs before):Calls Tryz.prog f args W fun e W'=>∃ v,e = .returned v/\s.post enc Tryz.prog fn false true false false W args v W':=by
 have hW':=hW;obtain⟨p,q,hA,hV,rfl,-,-⟩:=hW;rw[hv]at hV;obtain⟨rfl,rfl⟩:=trodVars_none hV;obtain⟨⟨ivs,hf,hr⟩,h1,h2,h3⟩:=hc W base args ds p hval hA;have hcall:=hf.2 W nob args.toList (fun _ h=>h.elim) hr;rw[Array.toArray_toList]at hcall;refine hcall.mono ?_;rintro e W' ⟨y,rfl,hy,hB⟩;obtain⟨rfl,_⟩:y = .bool true/\_:=by simpa only[xM,iV,cr]using hy
 exact⟨_,rfl,Bt K0 hW' hv hrt Tryz.underlying4 h1 h2 h3 hrd hB⟩
end Go.AM
namespace Go.AM
open Go.Proofs Go.Deep Go.ChangeShapes Go.WideShapes Go.ChangeAt Go.RowKit
set_option maxRecDepth 100000 in
theorem repS {H:Type} {enc:TypeId×Value->H} {w:World} {r:Reach} {b0 base:Nat} {spare:Nat->Bool} {held:Bool} {v:Value} {d:DataW H} {ps:List MemPlace} (hv:Value.okWide Tryz.prog w r b0 39 v) (h:DataW.Trod enc Tryz.prog w base spare held 39 v d ps) :
  ∃ x:iq,x.ok/\iV w nob (.g x.row) v:=by
 obtain⟨cs,rfl,-⟩:=okWide_struct Tryz.underlying39 hv;obtain⟨fuel,hf⟩:=h;obtain⟨x,hx,-,hr⟩:=PA hf;exact⟨x,hx,cs,rfl,hr⟩
theorem rd39:Tryz.prog.readableRec 39=true/\39<Tryz.prog.types.size:=⟨by kernel_rfl,of_decide_eq_true (by kernel_rfl)⟩
end Go.AM
