/- Lemmas, part 15 of 24: Package mpoly: pseudo-division; Package mgcd: greatest common divisors with constants; contents; Package mgcd: contents, the highest variable; Package mgcd: powers modulo a prime; Package mgcd: Euclid's algorithm modulo a prime; Package mgcd: images modulo a prime. No condition. -/
import Derived.Test.YtcmfkhicjhliaaaGreatPZ113
set_option maxRecDepth 65536
set_option linter.unusedSimpArgs false
set_option linter.unusedVariables false
set_option linter.unusedSectionVars false
namespace Go.AM
open Alg
open Go.Proofs
noncomputable def pst (q:PQ) (t:Nat) (r:PQ):PQ:=Alg.C (lc q)*r-mon (t+1-Alg.sz q) (r.c t)*q
noncomputable def psr (q:PQ):Nat->PQ->PQ
 | 0,r=>r
 | t+1,r=>if Alg.sz q<=t+1 then psr q t (pst q t r)else r
theorem AB {q r:PQ} (hq:q≠0) {t:Nat} (hr:Alg.sz r<=t+1) (ht:Alg.sz q<=t+1):Alg.sz (pst q t r)<=t:=cF fun i hi=>by
 have hq0:=aA hq;rw[pst,il,bu,cB,if_pos (by omega)];by_cases e:i=t
 ·subst e;rw[show i-(i+1-Alg.sz q)=Alg.sz q-1 by omega,mul_comm];exact sub_self _
 ·rw[au (by omega:Alg.sz r<=i),au (p:=q) (by omega),mul_zero,mul_zero];exact sub_self _
theorem mc {q:PQ} (hq:q≠0) {k:Nat} (hb:Alg.HB k q):∀(t:Nat) (r:PQ) (h:Nat),Alg.sz r<=t->Alg.HB h r ->
  Alg.sz (psr q t r)<=max (Alg.sz q-1) (min t (Alg.sz r))/\(Alg.sz q<=t->Alg.sz (psr q t r)<Alg.sz q)/\(t<Alg.sz q->psr q t r=r)/\Alg.HB (h+t*(k+1)) (psr q t r)/\∃(c:Rat) (S:PQ),c≠0/\Alg.C c*r=S*q+psr q t r
 | 0,r,h,hs,hr=>by
  have:=aA hq;refine⟨?_,by omega,fun _=>rfl,by simpa [psr]using hr,1,0,by decide,?_⟩
  ·simp only[psr];omega
  ·show(1:PQ)*r=_;rw[one_mul,zero_mul,zero_add];rfl
 | t+1,r,h,hs,hr=>by
  have hq0:=aA hq;simp only[psr];split
  ·rename_i ht;have hlow:=AB hq hs ht;have hb':Alg.HB (h+k+1) (pst q t r):=hr.pstep hb _ _ _;obtain⟨h1,h2,h3,h4,c,S,h5,h6⟩:=mc hq hb t (pst q t r) (h+k+1) hlow hb';have hlt:Alg.sz (psr q t (pst q t r))<Alg.sz q:=by
    rcases Nat.lt_or_ge t (Alg.sz q)with h7|h7
    ·rw[h3 h7];omega
    ·exact h2 h7
   refine⟨by omega,fun _=>hlt,fun h7=>by omega,h4.mono (by rw[Nat.succ_mul];omega),c*lc q,S+Alg.C c*mon (t+1-Alg.sz q) (r.c t),aD (R:=Rat) h5 (bB hq),?_⟩;have e:Alg.C c*(Alg.C (lc q)*r-mon (t+1-Alg.sz q) (r.c t)*q)=S*q+psr q t (pst q t r):=h6;rw[show Alg.C (c*lc q)=Alg.C c*Alg.C (lc q)from bf _ _];exact lc1 1 e (ring [Alg.C c,Alg.C (lc q),r,S,q,mon (t+1-Alg.sz q) (r.c t),psr q t (pst q t r)])
  ·rename_i ht;refine⟨by omega,fun h7=>by omega,fun _=>rfl,hr.mono (by omega),1,0,by decide,?_⟩;show(1:PQ)*r=_;rw[one_mul,zero_mul,zero_add]
theorem lC {h:Nat} {p:PQ} (H:Alg.HB h p) (i:Nat):Alg.HB h (Alg.C (p.c i)):=by
 rw[<-cT];exact Alg.HB.mon 0 (H.coef i).1 (H.coef i).2
theorem gG (c:Rat):Alg.sz (Alg.C c)<=1:=cF fun i hi=>by cases i with|zero=>omega|succ i=>rfl
theorem vh:∀{L:List Tm} (k:Nat),Cn L->cd L 0 k=if(toP L).c k=0 then[]else[(e0,(toP L).c k)]
 | [],k,_=>by rw[ce,show(0:PQ).c k=(0:Rat)from rfl,if_pos rfl];rfl
 | x::L,k,h=>by
  have ih:=vh (L:=L) k (cZ h);have hx:=h.uv x (by simp);obtain⟨x1,x2,x3,x4⟩:=hx;have hat:x.1.at 0=x.1.a:=rfl;by_cases e:x.1.a.toNat=k
  ·have h1:=(kZ h).2;rw[e]at h1;have h0:(toP L).c k=0:=oA (n:=k) (fun t ht=>by
    have:=qN h t ht;have:=((cZ h).uv t ht).1;omega) k (ae _)
   rw[h0,if_pos rfl]at ih;have hx0:x.2≠0:=h.nz x (by simp);rw[h1,if_neg hx0];unfold cd at ih ⊢;rw[List.filter_cons,if_pos (by rw[hat];exact ai (by omega)),List.map_cons,ih];congr 1;refine Prod.ext ?_ rfl;show x.1.to 0 0=e0;unfold Ex.to e0;simp only[Ex.mk.injEq];exact⟨trivial,x2,x3,x4⟩
  ·have h1:(toP (x::L)).c k=(toP L).c k:=by
    rw[aG,bM,bJ,if_neg (fun h=>e h.symm)];exact zero_add _
   rw[h1,<-ih];unfold cd;rw[List.filter_cons,if_neg (by rw[hat];simp;omega)]
theorem yY (p:PQ) (k:Nat):cd (U p) 0 k=U (Alg.C (p.c k)):=by
 rw[vh k (jB p),gt];split
 ·rename_i h;rw[h,show Alg.C (0:Rat)=0 from co,bQ]
 ·rename_i h;rw[U_C h]
theorem qe (p:PQ):fG (U p) 0=(Alg.sz p:Int)-1:=by
 by_cases hp:p=0
 ·rw[hp,bQ,ap.2 rfl];rfl
 ·have h0:=aA hp;obtain⟨R,hR⟩:=fJ hp;have h1:fG (U p) 0<=(Alg.sz p:Int)-1:=wJ (fun t ht=>by
   obtain⟨i,hi,rfl,_⟩:=mG ht;show(i:Int)<=_;omega) (by omega)
  have h2:=rz (U p) 0 (⟨((Alg.sz p-1:Nat):Int),0,0,0⟩,lc p) (by rw[hR];simp);have h3:((Alg.sz p-1:Nat):Int)<=fG (U p) 0:=h2;omega
theorem rA (p:PQ) (hp:p≠0) (v:Nat) (hv:1<=v):fG (U p) v=0:=by
 have hz:∀ t∈U p,t.1.at v=0:=fun t ht=>by
  obtain⟨i,hi,rfl,_⟩:=mG ht
  match v,hv with
  | 1,_=>rfl
  | 2,_=>rfl
  | v+3,_=>rfl
 obtain⟨R,hR⟩:=fJ hp;have h1:fG (U p) v<=0:=wJ (fun t ht=>by rw[hz t ht];exact Int.le_refl _) (by omega);have h2:=rz (U p) v (⟨((Alg.sz p-1:Nat):Int),0,0,0⟩,lc p) (by rw[hR];simp);rw[hz _ (by rw[hR];simp)]at h2;omega
theorem gq (p:PQ) (sp:Alg.sz p<=1048576):Fn Tryz.prog 123 [iUp p,iN 0] [iN ((Alg.sz p:Int)-1)]:=by
 have:=xi (U p) 0 (by omega) (by have:=cO p;omega);rwa [qe]at this
theorem oi (p:PQ) (hp:p≠0) (sp:Alg.sz p<=1048576):FnM Tryz.prog 89 [iUp p,iN 0] 1 (bR (fun i=>U (Alg.C (p.c i))) (Alg.sz p)):=by
 have h0:=aA hp;have:=vz (U p) 0 (by omega) (by have:=cO p;omega) (fun t ht=>by
  obtain⟨i,hi,rfl,_⟩:=mG ht;show 0<=(i:Int)/\(i:Int)<_;omega) (by
  have h1:∀ L:List Tm,Cn L->(L.map (·.1.at 0)).Nodup:=by
   intro L
   induction L with
   | nil=>intro _;simp
   | cons x L ih =>
    intro h;simp only[List.map_cons,List.nodup_cons];refine⟨fun hm=>?_,ih (cZ h)⟩;obtain⟨t,ht,e⟩:=List.mem_map.1 hm;have:=qN h t ht;have e':t.1.a=x.1.a:=e;omega
  exact h1 _ (jB p)) (fun e=>hp (mF.1 e))
 have e:(pa (U p) 0).map (fun L=>[cM L])=bR (fun i=>U (Alg.C (p.c i))) (Alg.sz p):=by
  unfold pa bR;rw[List.map_map,qe,show((Alg.sz p:Int)-1+1).toNat=Alg.sz p by omega];refine List.map_congr_left fun i _=>?_;show[cM (cd (U p) 0 i)]=_;rw[yY]
 rwa [e]at this
theorem LH (q r:PQ) (t i:Nat):(pst q t r).c i=lc q*r.c i-(if t+1-Alg.sz q<=i then r.c t*q.c (i-(t+1-Alg.sz q))else 0):=by
 rw[pst,il,bu,cB]
theorem uP {q r:PQ} {t i:Nat} {rows:List (List C)} {L:List Tm} (hi:i<t) (hr:∀ j,j<t->rows[j]?=some [cM (U (Alg.C (if j<i then(pst q t r).c j else r.c j)))]) (hL:L=U (Alg.C ((pst q t r).c i))) :
  ∀ j,j<t->(rows.set i [cM L])[j]?=some [cM (U (Alg.C (if j<i+1 then(pst q t r).c j else r.c j)))]:=fun j hj=>by
 rw[List.getElem?_set];have hl:i<rows.length:=(List.getElem?_eq_some_iff.1 (hr i hi)).1;by_cases e:i=j
 ·subst e;rw[if_pos rfl,if_pos hl,if_pos (by omega),hL]
 ·rw[if_neg e,hr j hj];by_cases h:j<i
  ·rw[if_pos h,if_pos (by omega)]
  ·rw[if_neg h,if_neg (by omega)]
theorem N4 (a b c d:Rat):Alg.C a*Alg.C b-Alg.C c*Alg.C d=Alg.C (b*a-c*d):=by
 rw[<-bf,<-bf,<-Mg];congr 1;show a*b-c*d=b*a-c*d;rw[Rat.mul_comm a]
theorem ue {p q:PQ} {h k:Nat} (hp:Alg.HB h p) (hq:Alg.HB k q) (hp0:p≠0) (hq0:q≠0) (hb:h+(Alg.sz p+2)*(k+1)+k<=68719476000) (sp:Alg.sz p<=524288) (sq:Alg.sz q<=524288):Fn Tryz.prog 216 [iUp p,iUp q,iN 0] [iUp (psr q (Alg.sz p) p),iN 0]:=by
 obtain⟨Q,hQ⟩:=fJ hq0;have lQ:(U q).length=Q.length+1:=by rw[hQ];rfl
 have e1:decide (((U q).length:Int)=0)=false:=by rw[lQ];exact aj (by omega)
 have hq1:=aA hq0;have hlen:∀(f:Nat->List Tm) (n:Nat),(bR f n).length=n:=fun f n=>by simp[bR]
 have hemp:(bR (fun i=>U (Alg.C (q.c i))) (Alg.sz q)).isEmpty=false:=by cases hc:bR (fun i=>U (Alg.C (q.c i))) (Alg.sz q)with|nil=>(have:=congrArg List.length hc;rw[hlen]at this;simp at this;omega)|cons _ _=>rfl
 have hemp':(bR (fun i=>U (Alg.C (p.c i))) (Alg.sz p)).isEmpty=false:=by cases hc:bR (fun i=>U (Alg.C (p.c i))) (Alg.sz p)with|nil=>(have:=congrArg List.length hc;rw[hlen]at this;simp at this;have:=aA hp0;omega)|cons _ _=>rfl
 refine ao kd (fn:=Tryz.f216) (by rfl) rfl rfl rfl (by rfl) (by simp) (by rfl) ?_;simp -dsimp -implicitDefEqProofs only[go_sem,e1,af];refine bO (oi q hq0 (by omega)) ?_;simp -dsimp -implicitDefEqProofs only[go_sem,hlen]
 repeat(refine And.intro (by omega) ?_)
 refine bO (oi p hp0 (by omega)) ?_;simp -dsimp -implicitDefEqProofs only[go_sem,hlen,hemp,hemp'];have hdiv:∀ j,j<Alg.sz q->(bR (fun i=>U (Alg.C (q.c i))) (Alg.sz q))[j]?=some [cM (U (Alg.C (q.c j)))]:=fun j hj=>by rw[bR,List.getElem?_map,List.getElem?_range hj];rfl
 refine aX [(10,13),(26,80)] [] [(25,25)] (fun n τ β ε=>∃(t:Nat) (r:PQ) (j:Nat) (rows:List (List C)),n=t/\Alg.sz r<=t/\psr q t r=psr q (Alg.sz p) p/\t<=Alg.sz p/\j+t<=Alg.sz p/\Alg.HB (h+j*(k+1)) r /\
   τ 10 = .sl 25 1 t/\ε 25=⟨1,1,rows,true,true⟩/\∀ j,j<t->rows[j]?=some [cM (U (Alg.C (r.c j)))])
  (fun e τ β ε=>e = .exit 0/\∃(t:Nat) (rows:List (List C)),Alg.sz (psr q (Alg.sz p) p)<=t/\t<=Alg.sz p/\τ 10 = .sl 25 1 t/\ε 25=⟨1,1,rows,true,true⟩/\∀ j,j<t->rows[j]?=some [cM (U (Alg.C ((psr q (Alg.sz p) p).c j)))]) (Alg.sz p) ?_ ?_ ?_
 ·exact⟨Alg.sz p,p,0,_,rfl,ae _,rfl,ae _,by omega,by simpa using hp,rfl,rfl,fun j hj=>by rw[bR,List.getElem?_map,List.getElem?_range hj];rfl⟩
 ·rintro n τ β ε π hK hKB hKE ⟨t,r,j,rows,hn,hs,hps,htp,hjt,hr,h10,h25,hrows⟩;have k9:τ 9 = .i (iN ((Alg.sz q:Int)-1)):=(hK 9 rfl).trans rfl;have k8:τ 8 = .sl 19 1 (Alg.sz q):=(hK 8 rfl).trans rfl;have e19:ε 19=⟨1,1,bR (fun i=>U (Alg.C (q.c i))) (Alg.sz q),true,true⟩:=(hKE 19 rfl).trans rfl;by_cases hlt:Alg.sz q<=t
  ·obtain⟨t',rfl⟩:∃ t',t=t'+1:=⟨t-1,by omega⟩;have hA:((Alg.sz q:Int)-1)<((t'+1:Nat):Int):=by omega
   have ei:((t'+1:Nat):Int)-1=(t':Int):=by omega
   simp -dsimp -implicitDefEqProofs only[go_sem,h10,k9,hA,h25,ei]
   repeat(refine And.intro (by omega) ?_)
   refine⟨_,hrows t' (by omega),?_⟩;simp -dsimp -implicitDefEqProofs only[go_sem,h10,k9,h25,ei,k8]
   repeat(refine And.intro (by omega) ?_)
   refine aX [(12,13),(43,80)] [] [(25,25)] (fun n τ' β' ε'=>∃(i:Nat) (rows':List (List C)),n=t'-i/\i<=t'/\τ' 43 = .i (iN i)/\ε' 25=⟨1,1,rows',true,true⟩/\∀ j,j<t'->rows'[j]?=some [cM (U (Alg.C (if j<i then(pst q t' r).c j else r.c j)))])
    (fun e τ' β' ε'=>e = .exit 2/\∃(rows':List (List C)),ε' 25=⟨1,1,rows',true,true⟩/\∀ j,j<t'->rows'[j]?=some [cM (U (Alg.C ((pst q t' r).c j)))]) t' ?_ ?_ ?_
   ·exact⟨0,rows,by omega,by omega,rfl,h25,fun j hj=>by rw[if_neg (by omega)];exact hrows j (by omega)⟩
   ·rintro n2 τ2 β2 ε2 π2 hK2 hKB2 hKE2 ⟨i,rows',hn2,hi,h43,h25',hrows'⟩;have q42:τ2 42 = .i (iN t'):=by rw[hK2 42 (by decide)];simp -dsimp -implicitDefEqProofs only[go_sem,ei,Int.toNat_natCast]
    have q10:τ2 10 = .sl 25 1 t':=by rw[hK2 10 (by decide)];simp -dsimp -implicitDefEqProofs only[go_sem,ei,Int.toNat_natCast]
    have q8:τ2 8 = .sl 19 1 (Alg.sz q):=(hK2 8 rfl).trans k8;have q9:τ2 9 = .i (iN ((Alg.sz q:Int)-1)):=(hK2 9 rfl).trans k9;have q11:τ2 11 = .i (iUp (Alg.C (r.c t'))):=(hK2 11 rfl).trans rfl;have f19:ε2 19=⟨1,1,bR (fun i=>U (Alg.C (q.c i))) (Alg.sz q),true,true⟩:=(hKE2 19 rfl).trans e19;by_cases hlt2:i<t'
    ·have hA2:(i:Int)<(t':Int):=by omega
     have hri:=hrows' i hlt2;rw[if_neg (by omega)]at hri;have en:((Alg.sz q:Int)-1)=((Alg.sz q-1:Nat):Int):=by omega
     rw[en]at q9;simp -dsimp -implicitDefEqProofs only[go_sem,h43,q42,hA2];refine an (by rfl) 12 [] false true (by rfl) (by rfl) (by decide +kernel) ?_;simp -dsimp -implicitDefEqProofs only[go_sem,h43,q10,q8,q9,h25',f19,hri]
     repeat(refine And.intro (by omega) ?_)
     have hjk:j*(k+1)<=(Alg.sz p+2)*(k+1):=Nat.mul_le_mul_right _ (by omega);have hlen':i<rows'.length:=(List.getElem?_eq_some_iff.1 hri).1;have c1:=gG (r.c i);have c2:=gG (lc q);have c3:=gG (r.c t');refine⟨_,hri,?_⟩;simp -dsimp -implicitDefEqProofs only[go_sem];refine⟨by omega,_,hdiv _ (by omega),?_⟩;simp -dsimp -implicitDefEqProofs only[go_sem];refine ar (args':=[iUp (Alg.C (r.c i)),iUp (Alg.C (lc q))]) rfl (cI (lC hr i) (lC hq _) (by omega) (by omega) (by omega) (by omega)) ?_;simp -dsimp -implicitDefEqProofs only[go_sem,q10,h25']
     repeat(refine And.intro (by omega) ?_)
     refine⟨_,hri,?_⟩;simp -dsimp -implicitDefEqProofs only[go_sem,q10,q9,h25',h43]
     repeat(refine And.intro (by omega) ?_)
     have hset:(rows'.set i [cM (U (Alg.C (r.c i)*Alg.C (lc q)))])[i]?=some [cM (U (Alg.C (r.c i)*Alg.C (lc q)))]:=by rw[List.getElem?_set_self hlen']
     refine aO (fun hk=>?_) (fun hk=>?_)
     ·have ek:(i:Int)-((t':Int)-((Alg.sz q-1:Nat):Int))=((i-(t'+1-Alg.sz q):Nat):Int):=by omega
      have hkq:i-(t'+1-Alg.sz q)<Alg.sz q:=by omega
      have c4:=gG (q.c (i-(t'+1-Alg.sz q)));have c5:=aM (Alg.C (r.c i)) (Alg.C (lc q));have c6:=aM (Alg.C (r.c t')) (Alg.C (q.c (i-(t'+1-Alg.sz q))));simp -dsimp -implicitDefEqProofs only[go_sem,ek];refine an (by rfl) 14 [] false true (by rfl) (by rfl) (by decide +kernel) ?_;simp -dsimp -implicitDefEqProofs only[go_sem,q10,q11,q8,h25',f19]
      repeat(refine And.intro (by omega) ?_)
      refine⟨_,hset,?_⟩;simp -dsimp -implicitDefEqProofs only[go_sem];refine⟨hkq,_,hdiv _ hkq,?_⟩;simp -dsimp -implicitDefEqProofs only[go_sem];refine ar (args':=[iUp (Alg.C (r.c t')),iUp (Alg.C (q.c (i-(t'+1-Alg.sz q))))]) rfl (cI (lC hr t') (lC hq _) (by omega) (by omega) (by omega) (by omega)) ?_;simp -dsimp -implicitDefEqProofs only[go_sem];refine ar (args':=[iUp (Alg.C (r.c i)*Alg.C (lc q)),iUp (Alg.C (r.c t')*Alg.C (q.c (i-(t'+1-Alg.sz q))))]) rfl (pu ((lC hr i).mul (lC hq _)) ((lC hr t').mul (lC hq _)) (by omega) (by omega) (by omega) (by omega)) ?_;simp -dsimp -implicitDefEqProofs only[go_sem,q10,h25',h43]
      repeat(refine And.intro (by omega) ?_)
      refine⟨_,hset,?_⟩;simp -dsimp -implicitDefEqProofs only[go_sem,h43]
      repeat(refine And.intro (by omega) ?_)
      refine again (t'-(i+1)) (by omega) ⟨(by(repeat apply ak rfl);exact hK2),(by(repeat apply ak rfl);exact hKB2),(by(repeat apply ak rfl);exact hKE2),i+1,(rows'.set i [cM (U (Alg.C (r.c i)*Alg.C (lc q)))]).set i [cM (U (Alg.C (r.c i)*Alg.C (lc q)-Alg.C (r.c t')*Alg.C (q.c (i-(t'+1-Alg.sz q)))))],rfl,by omega,rfl,?_,?_⟩
      ·simp -dsimp -implicitDefEqProofs only[go_sem]
      ·rw[List.set_set];exact uP hlt2 hrows' (by rw[N4,LH,if_pos (by omega)])
     ·simp -dsimp -implicitDefEqProofs only[go_sem,h43]
      repeat(refine And.intro (by omega) ?_)
      refine again (t'-(i+1)) (by omega) ⟨(by(repeat apply ak rfl);exact hK2),(by(repeat apply ak rfl);exact hKB2),(by(repeat apply ak rfl);exact hKE2),i+1,rows'.set i [cM (U (Alg.C (r.c i)*Alg.C (lc q)))],rfl,by omega,rfl,?_,?_⟩
      ·simp -dsimp -implicitDefEqProofs only[go_sem]
      ·exact uP hlt2 hrows' (by
        rw[LH,if_neg (by omega),<-bf];congr 2;show r.c i*lc q=lc q*r.c i-0;rw[Rat.mul_comm];exact(sub_zero (R:=Rat) _).symm)
    ·have hA2:¬ (i:Int)<(t':Int):=by omega
     obtain rfl:i=t':=by omega
     simp -dsimp -implicitDefEqProofs only[go_sem,h43,q42,hA2];exact⟨(by(repeat apply ak rfl);exact hK2),(by(repeat apply ak rfl);exact hKB2),(by(repeat apply ak rfl);exact hKE2),rows',h25',fun j hj=>by have:=hrows' j hj;rwa [if_pos hj]at this⟩
   ·rintro e τ2 β2 ε2 π2 hK2 hKB2 hKE2 ⟨rfl,rows',h25',hrows'⟩;refine⟨_,aY.refl _,?_⟩;have kO:=Kp.step2 hK hK2 (by intro n;simp[inR]<;>omega) (by(repeat apply ak rfl);exact hK)
    have kB:=Kp.step2 hKB hKB2 (by intro n;simp[inR]) hKB;have kE:=Kp.step2 hKE hKE2 (by intro n;simp[inR]) hKE;have q10:τ2 10 = .sl 25 1 t':=by rw[hK2 10 (by decide)];simp -dsimp -implicitDefEqProofs only[go_sem,ei,Int.toNat_natCast]
    have hps':psr q t' (pst q t' r)=psr q (Alg.sz p) p:=by rw[<-hps];simp only[psr];rw[if_pos hlt]
    have hpsz:Alg.sz (pst q t' r)<=t':=AB hq0 hs hlt;simp -dsimp -implicitDefEqProofs only[go_sem];exact again t' (by omega) ⟨(by(repeat apply ak rfl);exact kO),(by(repeat apply ak rfl);exact kB),(by(repeat apply ak rfl);exact kE),t',pst q t' r,j+1,rows',rfl,hpsz,hps',by omega,by omega,(hr.pstep hq _ _ _).mono (by rw[Nat.succ_mul];omega),q10,h25',hrows'⟩
  ·have hA:¬ ((Alg.sz q:Int)-1)<(t:Int):=by omega
   have hpr:psr q t r=r:=by
    cases t with
    | zero=>rfl
    | succ t=>simp only[psr];rw[if_neg hlt]
   simp -dsimp -implicitDefEqProofs only[go_sem,h10,k9,hA,h25];rw[hpr]at hps;exact⟨(by(repeat apply ak rfl);exact hK),(by(repeat apply ak rfl);exact hKB),(by(repeat apply ak rfl);exact hKE),t,rows,by rw[<-hps];exact hs,htp,rfl,rfl,by rw[<-hps];exact hrows⟩
 ·rintro e τ β ε π hK hKB hKE ⟨rfl,t,rows,ht,htp,h10,h25,hrows⟩;refine⟨_,aY.refl _,?_⟩;have k2:τ 2 = .i (iN 0):=(hK 2 rfl).trans rfl;have hspec:=mc hq0 hq (Alg.sz p) p h (ae _) hp;have hQ:=hspec.2.2.2.1;have hjk:Alg.sz p*(k+1)<=(Alg.sz p+2)*(k+1):=Nat.mul_le_mul_right _ (by omega);have hrt:rows.take t=bR (fun i=>U (Alg.C ((psr q (Alg.sz p) p).c i))) t:=by
   refine List.ext_getElem? fun j=>?_;rw[List.getElem?_take,bR,List.getElem?_map];split
   ·rename_i hj;rw[hrows j hj,List.getElem?_range hj];rfl
   ·rename_i hj;rw[List.getElem?_eq_none (by simp;omega)];rfl
  simp -dsimp -implicitDefEqProofs only[go_sem,h10,h25,k2,hrt];refine am (IW (psr q (Alg.sz p) p) t ht (by omega) (fun i=>gw (hQ.coef i).1 (hQ.coef i).2 (by omega))) ?_;simp -dsimp -implicitDefEqProofs only[go_sem]
end Go.AM
namespace Go.AM
open Alg
open Go.Proofs
open Classical
theorem Kc (p:PQ):yz (U p)=decide (Alg.sz p=1):=by
 by_cases h:Alg.sz p=1
 ·have hp:p=Alg.C (p.c 0):=eU (by omega);have h0:p.c 0≠0:=fun e=>by
   rw[e,show Alg.C (0:Rat)=0 from co]at hp;rw[hp,ap.2 rfl]at h;omega
  rw[hp,U_C h0,<-hp,ai h];rfl
 ·rw[aj h];by_cases hp:p=0
  ·rw[hp,bQ];rfl
  ·obtain⟨R,hR⟩:=fJ hp;have:=aA hp;rw[hR];cases R with
   | nil =>
    show decide _=false;refine aj fun e=>?_;have:=congrArg Ex.a e;simp only[e0]at this;omega
   | cons _ _=>rfl
theorem f0 (p:PQ):Fn Tryz.prog 189 [iUp p] [iB (decide (Alg.sz p=1))]:=by
 have:=mz (U p);rwa [Kc]at this
noncomputable def kj (p q:PQ):PQ:=if p=0 then Alg.mo q else if q=0 then Alg.mo p else 1
theorem xd {p q:PQ} {h k:Nat} (hp:Alg.HB h p) (hq:Alg.HB k q) (hb:h<=137438953000) (hb':k<=137438953000) (sp:Alg.sz p<=1048576) (sq:Alg.sz q<=1048576) (hc:p=0\/q=0\/Alg.sz p=1\/Alg.sz q=1):Fn Tryz.prog 151 [iUp p,iUp q] [iUp (kj p q)]:=by
 have hz:∀ x:PQ,decide (((U x).length:Int)=0)=decide (x=0):=fun x=>by
  rw[decide_eq_decide];constructor
  ·intro h;exact mF.1 (List.eq_nil_of_length_eq_zero (by omega))
  ·rintro rfl;rw[bQ];rfl
 refine ao kd (fn:=Tryz.f151) (by rfl) rfl rfl rfl (by rfl) (by simp) (by rfl) ?_;by_cases hp0:p=0
 ·have e1:=hz p;rw[ai hp0]at e1;simp -dsimp -implicitDefEqProofs only[go_sem,e1,af];refine aa (jw hq hb' sq) rfl ?_;simp -dsimp -implicitDefEqProofs only[go_sem];rw[kj,if_pos hp0]
 ·have e1:=hz p;rw[aj hp0]at e1;by_cases hq0:q=0
  ·have e2:=hz q;rw[ai hq0]at e2;simp -dsimp -implicitDefEqProofs only[go_sem,e1,e2,af];refine aa (jw hp hb sp) rfl ?_;simp -dsimp -implicitDefEqProofs only[go_sem];rw[kj,if_neg hp0,if_pos hq0]
  ·have e2:=hz q;rw[aj hq0]at e2;simp -dsimp -implicitDefEqProofs only[go_sem,e1,e2,af];refine aa (f0 p) rfl ?_;by_cases h1:Alg.sz p=1
   ·have e3:decide (Alg.sz p=1)=true:=ai h1;simp -dsimp -implicitDefEqProofs only[go_sem,e3];refine am oK ?_;simp -dsimp -implicitDefEqProofs only[go_sem];rw[kj,if_neg hp0,if_neg hq0]
   ·have e3:decide (Alg.sz p=1)=false:=aj h1;have e4:decide (Alg.sz q=1)=true:=ai (by rcases hc with h|h|h|h<;>first|exact absurd h hp0|exact absurd h hq0|exact absurd h h1|exact h)
    simp -dsimp -implicitDefEqProofs only[go_sem,e3];refine aa (f0 q) rfl ?_;simp -dsimp -implicitDefEqProofs only[go_sem,e4];refine am oK ?_;simp -dsimp -implicitDefEqProofs only[go_sem];rw[kj,if_neg hp0,if_neg hq0]
theorem th (a c:Rat):kj (Alg.C a) (Alg.C c)=if a=0/\c=0 then 0 else 1:=by
 have mo1:∀ x:Rat,x≠0->Alg.mo (Alg.C x)=1:=fun x hx=>by
  rw[Alg.mo,nY,<-bf,cq hx];rfl
 have cz:∀ x:Rat,Alg.C x=0↔x=0:=fun x=>⟨fun h=>Classical.byContradiction fun hx=>fo hx h,fun h=>by rw[h];exact co⟩;rw[kj];by_cases ha:a=0
 ·rw[if_pos ((cz a).2 ha)];by_cases hc:c=0
  ·rw[if_pos ⟨ha,hc⟩,(cz c).2 hc,eY]
  ·rw[if_neg (fun h=>hc h.2),mo1 c hc]
 ·rw[if_neg (fun h=>ha ((cz a).1 h)),if_neg (c:=a=0/\c=0) (fun h=>ha h.1),mo1 a ha,ite_self]
theorem MQ (c:Rat):Alg.C c=0\/Alg.sz (Alg.C c)=1:=by
 by_cases h:c=0
 ·exact .inl (by rw[h];exact co)
 ·exact .inr (iw h)
theorem NL (f:Nat->Rat) (n:Nat) (hn:n<=1048576) {h:Nat} (hf:∀ i,Alg.HB h (Alg.C (f i))) (hb:h<=137438953000) (hne:∃ i,i<n/\f i≠0):Fn Tryz.prog 214 [.c (.lst (bR (fun i=>U (Alg.C (f i))) n))] [iUp 1]:=by
 have hlen:(bR (fun i=>U (Alg.C (f i))) n).length=n:=by simp[bR]
 have hrow:∀ j,j<n->(bR (fun i=>U (Alg.C (f i))) n)[j]?=some [cM (U (Alg.C (f j)))]:=fun j hj=>by rw[bR,List.getElem?_map,List.getElem?_range hj];rfl
 have hm0:iM []=iUp 0:=by rw[jU,bQ]
 refine ao kd (fn:=Tryz.f214) (by rfl) rfl rfl rfl (by rfl) (by simp) (by rfl) ?_;simp -dsimp -implicitDefEqProofs only[go_sem,hlen];refine aH [(3,3),(5,5),(8,17)] [] [] (fun m τ β ε=>∃ i:Nat,m=n-i/\i<=n/\(∀ j,j<i->f j=0)/\τ 8 = .i (iN i)/\(τ 3 = .i (iUp 0)\/τ 3 = .fl []))
  (fun e τ β ε=>e = .exit 0/\τ 3 = .i (iUp 1)) n ?_ ?_ ?_
 ·exact⟨0,by omega,by omega,fun j hj=>by omega,rfl,.inr rfl⟩
 ·rintro m τ β ε π hK hKB hKE ⟨i,hm,hi,hz,h8,h3⟩;have k6:τ 6 = .i (.c (.lst (bR (fun i=>U (Alg.C (f i))) n))):=(hK 6 rfl).trans rfl;have k7:τ 7 = .i (iN n):=(hK 7 rfl).trans rfl;have hlt:i<n:=by
   obtain⟨j,hj,hf⟩:=hne;rcases Nat.lt_or_ge j i with h|h
   ·exact absurd (hz j h) hf
   ·omega
  have hA:(i:Int)<(n:Int):=by omega
  have cz:(Alg.C (0:Rat))=(0:PQ):=co;have hg:=th 0 (f i);rw[cz]at hg;have call:Fn Tryz.prog 151 [iUp 0,iUp (Alg.C (f i))] [iUp (if f i=0 then 0 else 1)]:=by
   have:=xd (p:=0) (q:=Alg.C (f i)) (Alg.HB.zero h) (hf i) hb hb (by rw[ap.2 rfl];omega) (by have:=gG (f i);omega) (.inl rfl);rw[hg]at this;simpa using this
  have con:=f0 (if f i=0 then(0:PQ)else 1)
  have sz1:Alg.sz (1:PQ)=1:=iw (R:=Rat) (by decide);by_cases hfi:f i=0
  ·rw[if_pos hfi,ap.2 rfl]at con;rw[if_pos hfi]at call;have hz':∀ j,j<i+1->f j=0:=fun j hj=>by
    by_cases e:j=i
    ·rw[e];exact hfi
    ·exact hz j (by omega)
   simp -dsimp -implicitDefEqProofs only[go_sem,h8,k7,k6,hA];refine⟨_,hrow i hlt,?_⟩;rcases h3 with h3|h3<;>simp -dsimp -implicitDefEqProofs only[go_sem,h3]
   ·refine am call ?_;simp -dsimp -implicitDefEqProofs only[go_sem];refine am con ?_;simp -dsimp -implicitDefEqProofs only[go_sem,h8]
    repeat(refine And.intro (by omega) ?_)
    exact again (n-(i+1)) (by omega) ⟨(by(repeat apply ak rfl);exact hK),(by(repeat apply ak rfl);exact hKB),(by(repeat apply ak rfl);exact hKE),i+1,rfl,by omega,hz',rfl,.inl rfl⟩
   ·refine ar (args':=[iUp 0,iUp (Alg.C (f i))]) ?_ call ?_
    ·rw[<-hm0];rfl
    simp -dsimp -implicitDefEqProofs only[go_sem];refine am con ?_;simp -dsimp -implicitDefEqProofs only[go_sem,h8]
    repeat(refine And.intro (by omega) ?_)
    exact again (n-(i+1)) (by omega) ⟨(by(repeat apply ak rfl);exact hK),(by(repeat apply ak rfl);exact hKB),(by(repeat apply ak rfl);exact hKE),i+1,rfl,by omega,hz',rfl,.inl rfl⟩
  ·rw[if_neg hfi,sz1]at con;rw[if_neg hfi]at call;simp -dsimp -implicitDefEqProofs only[go_sem,h8,k7,k6,hA];refine⟨_,hrow i hlt,?_⟩;rcases h3 with h3|h3<;>simp -dsimp -implicitDefEqProofs only[go_sem,h3]
   ·refine am call ?_;simp -dsimp -implicitDefEqProofs only[go_sem];refine am con ?_;simp -dsimp -implicitDefEqProofs only[go_sem];exact⟨(by(repeat apply ak rfl);exact hK),(by(repeat apply ak rfl);exact hKB),(by(repeat apply ak rfl);exact hKE)⟩
   ·refine ar (args':=[iUp 0,iUp (Alg.C (f i))]) ?_ call ?_
    ·rw[<-hm0];rfl
    simp -dsimp -implicitDefEqProofs only[go_sem];refine am con ?_;simp -dsimp -implicitDefEqProofs only[go_sem];exact⟨(by(repeat apply ak rfl);exact hK),(by(repeat apply ak rfl);exact hKB),(by(repeat apply ak rfl);exact hKE)⟩
 ·rintro e τ β ε π hK hKB hKE ⟨rfl,h3⟩;simp -dsimp -implicitDefEqProofs only[go_sem,h3]
end Go.AM
namespace Go.AM
open Alg
open Go.Proofs
open Classical
theorem mO {p:PQ} {h:Nat} (hp:Alg.HB h p) (hb:h<=137438953000) (hp0:p≠0) (sp:Alg.sz p<=1048576):Fn Tryz.prog 192 [iUp p,iN 0] [iUp 1]:=by
 refine ao kd (fn:=Tryz.f192) (by rfl) rfl rfl rfl (by rfl) (by simp) (by rfl) ?_;simp -dsimp -implicitDefEqProofs only[go_sem];refine bO (oi p hp0 sp) ?_;simp -dsimp -implicitDefEqProofs only[go_sem];have h0:=aA hp0;have hlen:(bR (fun i=>U (Alg.C (p.c i))) (Alg.sz p)).length=Alg.sz p:=by simp[bR]
 rw[List.take_of_length_le (by omega)];refine am (NL p.c (Alg.sz p) sp (lC hp) hb ⟨Alg.sz p-1,by omega,bB hp0⟩) ?_;simp -dsimp -implicitDefEqProofs only[go_sem]
theorem nF {p:PQ} {h:Nat} (hp:Alg.HB h p) (hb:h+2*Alg.sz p+2<=137438953000) (sp:Alg.sz p<=524288):Fn Tryz.prog 217 [iUp p,iN 0] [iUp p]:=by
 have hz:decide (((U p).length:Int)=0)=decide (p=0):=by
  rw[decide_eq_decide];constructor
  ·intro h;exact mF.1 (List.eq_nil_of_length_eq_zero (by omega))
  ·rintro rfl;rw[bQ];rfl
 refine ao kd (fn:=Tryz.f217) (by rfl) rfl rfl rfl (by rfl) (by simp) (by rfl) ?_;by_cases hp0:p=0
 ·rw[ai hp0]at hz;simp -dsimp -implicitDefEqProofs only[go_sem,hz,af];rw[jU,hp0,bQ];rfl
 ·rw[aj hp0]at hz;simp -dsimp -implicitDefEqProofs only[go_sem,hz,af];refine am (mO hp (by omega) hp0 (by omega)) ?_;simp -dsimp -implicitDefEqProofs only[go_sem];have h1:Alg.HB 0 (1:PQ):=by
   have:=Alg.HB.mon (h:=0) 0 (c:=1) (by decide) (by decide);rwa [cT]at this
  have s1:Alg.sz (1:PQ)=1:=iw (R:=Rat) (by decide);refine aa (ug hp h1 (fo (R:=Rat) (by decide)) (by omega) sp (by omega) (s:=p) (mul_one p).symm) rfl ?_;simp -dsimp -implicitDefEqProofs only[go_sem]
theorem Bc {p q:PQ} (hp:2<=Alg.sz p) (hq:q≠0) (sp:Alg.sz p<=1048576) (sq:Alg.sz q<=1048576):Fn Tryz.prog 191 [.c (.lst [[cM (U p)],[cM (U q)]])] [iN 0]:=by
 have hp0:p≠0:=fun e=>by rw[e,ap.2 rfl]at hp;omega
 have dp:∀ v:Nat,v<4->Fn Tryz.prog 123 [iUp p,iN v] [iN (if v=0 then(Alg.sz p:Int)-1 else 0)]:=fun v hv=>by
  have:=xi (U p) v hv (by have:=cO p;omega);by_cases h:v=0
  ·subst h;rw[qe]at this;exact this
  ·rw[rA p hp0 v (by omega)]at this;rwa [if_neg h]
 have dq:∀ v:Nat,1<=v->v<4->Fn Tryz.prog 123 [iUp q,iN v] [iN 0]:=fun v h1 hv=>by
  have:=xi (U q) v hv (by have:=cO q;omega);rwa [rA q hq v h1]at this
 refine ao kd (fn:=Tryz.f191) (by rfl) rfl rfl rfl (by rfl) (by simp) (by rfl) ?_;simp -dsimp -implicitDefEqProofs only[go_sem];refine aH [(2,3),(5,21)] [] [] (fun n τ β ε=>∃ v:Nat,n=v/\v<=3/\τ 3 = .i (iN v))
  (fun e τ β ε=>e = .ret/\τ 2 = .i (iN 0)) 3 ?_ ?_ ?_
 ·exact⟨3,rfl,by omega,rfl⟩
 ·rintro n τ β ε π hK hKB hKE ⟨v,hn,hv,h3⟩;have k0:τ 0 = .i (.c (.lst [[cM (U p)],[cM (U q)]])):=(hK 0 rfl).trans rfl;have hA:(0:Int)<=(v:Int):=by omega
  simp -dsimp -implicitDefEqProofs only[go_sem,h3,k0,hA,List.length_cons,List.length_nil];refine aH [(2,2),(5,5),(12,21)] [] [] (fun n τ' β' ε'=>∃ j:Nat,n=2-j/\j<=2/\(j=0\/1<=v)/\τ' 12 = .i (iN j))
   (fun e τ' β' ε'=>(e = .ret/\v=0/\τ' 2 = .i (iN 0))\/(e = .exit 2/\1<=v)) 2 ?_ ?_ ?_
  ·exact⟨0,by omega,by omega,.inl rfl,rfl⟩
  ·rintro n2 τ2 β2 ε2 π2 hK2 hKB2 hKE2 ⟨j,hn2,hj,hjv,h12⟩;have q10:τ2 10 = .i (.c (.lst [[cM (U p)],[cM (U q)]])):=(hK2 10 rfl).trans rfl;have q11:τ2 11 = .i (iN 2):=by rw[hK2 11 (by decide)];simp -dsimp -implicitDefEqProofs only[go_sem];rfl
   have q3:τ2 3 = .i (iN v):=(hK2 3 rfl).trans h3;obtain rfl|rfl|rfl:j=0\/j=1\/j=2:=by omega
   ·have h12':τ2 12 = .i (iN 0):=h12;simp -dsimp -implicitDefEqProofs only[go_sem,h12',q11,q10,q3,Int.reduceLT,decide_true,Int.reduceToNat,Int.reduceLE,true_and];refine aa (dp v (by omega)) rfl ?_;by_cases hv0:v=0
    ·have hd:(0:Int)<(Alg.sz p:Int)-1:=by omega
     simp -dsimp -implicitDefEqProofs only[go_sem,if_pos hv0,hd,q3];exact⟨(by(repeat apply ak rfl);exact hK2),(by(repeat apply ak rfl);exact hKB2),(by(repeat apply ak rfl);exact hKE2),hv0,by rw[hv0];rfl⟩
    ·simp -dsimp -implicitDefEqProofs only[go_sem,if_neg hv0,h12',Int.reduceLT,decide_false]
     repeat(refine And.intro (by omega) ?_)
     exact again 1 (by omega) ⟨(by(repeat apply ak rfl);exact hK2),(by(repeat apply ak rfl);exact hKB2),(by(repeat apply ak rfl);exact hKE2),1,rfl,by omega,.inr (by omega),rfl⟩
   ·have h12':τ2 12 = .i (iN 1):=h12;have hv1:1<=v:=by rcases hjv with h|h<;>omega
    simp -dsimp -implicitDefEqProofs only[go_sem,h12',q11,q10,q3,Int.reduceLT,decide_true,Int.reduceToNat,Int.reduceLE,true_and];refine aa (dq v hv1 (by omega)) rfl ?_;simp -dsimp -implicitDefEqProofs only[go_sem,h12',Int.reduceLT,decide_false]
    repeat(refine And.intro (by omega) ?_)
    exact again 0 (by omega) ⟨(by(repeat apply ak rfl);exact hK2),(by(repeat apply ak rfl);exact hKB2),(by(repeat apply ak rfl);exact hKE2),2,rfl,by omega,.inr hv1,rfl⟩
   ·have h12':τ2 12 = .i (iN 2):=h12;have hv1:1<=v:=by rcases hjv with h|h<;>omega
    simp -dsimp -implicitDefEqProofs only[go_sem,h12',q11,Int.reduceLT,decide_false];exact⟨(by(repeat apply ak rfl);exact hK2),(by(repeat apply ak rfl);exact hKB2),(by(repeat apply ak rfl);exact hKE2),hv1⟩
  ·rintro e τ2 β2 ε2 π2 hK2 hKB2 hKE2 h;have kO:=Kp.step2 hK hK2 (by intro n;simp[inR]<;>omega) (by(repeat apply ak rfl);exact hK)
   have kB:=Kp.step2 hKB hKB2 (by intro n;simp[inR]) hKB;have kE:=Kp.step2 hKE hKE2 (by intro n;simp[inR]) hKE;rcases h with⟨rfl,hv0,h2⟩|⟨rfl,hv1⟩
   ·simp -dsimp -implicitDefEqProofs only[go_sem];exact⟨kO,kB,kE,h2⟩
   ·have q3:τ2 3 = .i (iN v):=(hK2 3 rfl).trans h3;have ev:(v:Int)-1=((v-1:Nat):Int):=by omega
    simp -dsimp -implicitDefEqProofs only[go_sem,q3,ev]
    repeat(refine And.intro (by omega) ?_)
    exact again (v-1) (by omega) ⟨(by(repeat apply ak rfl);exact kO),(by(repeat apply ak rfl);exact kB),(by(repeat apply ak rfl);exact kE),v-1,rfl,by omega,rfl⟩
 ·rintro e τ β ε π hK hKB hKE ⟨rfl,h2⟩;simp -dsimp -implicitDefEqProofs only[go_sem,h2]
end Go.AM
namespace Go.AM
open Alg
open Go.Proofs
abbrev iz (a:Zp):IV := .c (.v (.int .u64 (a.val:Int)))
theorem C3 (k:Nat) (h:k<9223372036854775808):IntKind.wrap .i64 ((BitVec.ofInt (IntKind.bits .i64) (k:Int) &&& BitVec.ofInt (IntKind.bits .i64) 1).toNat:Nat)=((k % 2:Nat):Int):=by
 have e1:(BitVec.ofInt (IntKind.bits .i64) (k:Int)).toNat=k:=by
  rw[BitVec.toNat_ofInt];show((k:Int) % ((2 ^ 64:Nat):Int)).toNat=k;omega
 have e2:(BitVec.ofInt (IntKind.bits .i64) 1).toNat=1:=rfl;rw[BitVec.toNat_and,e1,e2,Nat.and_one_is_mod];have:k % 2=0\/k % 2=1:=by omega
 rcases this with h|h<;>rw[h]<;>rfl
theorem eO (P:Program) (T:TypeId) (x y:Operand) (k':IntKind) (a:Nat) (K:Value->Prop):d7 P .shr T x y (.int .i64 (a:Int)) (.int k' 1) K=K (.int .i64 ((a/2:Nat):Int)):=by
 rw[j0];have e:(a:Int).fdiv (2 ^ (min (Int.toNat 1) (IntKind.bits .i64)))=((a/2:Nat):Int):=by
  show(a:Int).fdiv 2=_;rw[Int.fdiv_eq_ediv_of_nonneg _ (by decide)];omega
 rw[e];simp
theorem zmul {a b:Zp}:((a.val:Int)*(b.val:Int) % 18446744073709551616).tmod 2147483647=(((a*b:Zp).val:Nat):Int):=by
 have h1:=a.isLt;have h2:=b.isLt;have h3:a.val*b.val<=2147483646*2147483646:=Nat.mul_le_mul (by omega) (by omega);have h4:((a.val:Int)*(b.val:Int))=((a.val*b.val:Nat):Int):=by simp
 rw[rG,h4];rw[Int.tmod_eq_emod_of_nonneg (by omega)];omega
theorem Cm (b:Zp) (k:Nat):Alg.pw b k=(if k % 2=1 then b else 1)*Alg.pw (b*b) (k/2):=by
 have h1:∀ m,Alg.pw (b*b) m=Alg.pw b (m+m):=fun m=>by rw[GZ,vY]
 rw[h1];by_cases h:k % 2=1
 ·rw[if_pos h];have e:Alg.pw b k=Alg.pw b (1+(k/2+k/2)):=congrArg _ (by omega);rw[e,vY,AA]
 ·rw[if_neg h,one_mul];exact congrArg _ (by omega)
theorem oG (a:Zp) (n:Nat) (hn:n<9223372036854775808):Fn Tryz.prog 247 [iz a,iN n] [iz (Alg.pw a n)]:=by
 refine ao kd (fn:=Tryz.f247) (by rfl) rfl rfl rfl (by rfl) (by simp) (by rfl) ?_;simp -dsimp -implicitDefEqProofs only[go_sem];refine aH [(0,1),(5,20)] [] [] (fun m τ β ε=>∃(b o:Zp) (k:Nat),m=k/\k<=n/\Alg.pw a n=o*Alg.pw b k/\τ 0 = .i (iz b)/\τ 1 = .i (iN k)/\τ 5 = .i (iz o))
  (fun e τ β ε=>e = .exit 0/\τ 5 = .i (iz (Alg.pw a n))) n ?_ ?_ ?_
 ·exact⟨a,1,n,rfl,ae _,(one_mul _).symm,rfl,rfl,rfl⟩
 ·rintro m τ β ε π hK hKB hKE ⟨b,o,k,hm,hk,he,h0,h1,h5⟩;by_cases hk0:k=0
  ·have hA:¬ (0:Int)<(k:Int):=by omega
   simp -dsimp -implicitDefEqProofs only[go_sem,h1,hA];refine⟨(by(repeat apply ak rfl);exact hK),(by(repeat apply ak rfl);exact hKB),(by(repeat apply ak rfl);exact hKE),?_⟩
   rw[h5,he,hk0];show AV.i (iz o)=AV.i (iz (o*1));rw[mul_one]
  ·have hA:(0:Int)<(k:Int):=by omega
   have ha:=C3 k (by omega);have e1:decide (((k % 2:Nat):Int)=1)=decide (k % 2=1):=by rw[decide_eq_decide];omega
   by_cases h2:k % 2=1
   ·rw[ai h2]at e1;simp -dsimp -implicitDefEqProofs only[go_sem,h1,hA,ha,e1,h5,h0,eO,zmul]
    repeat(refine And.intro (by omega) ?_)
    refine again (k/2) (by omega) ⟨(by(repeat apply ak rfl);exact hK),(by(repeat apply ak rfl);exact hKB),(by(repeat apply ak rfl);exact hKE),b*b,o*b,k/2,rfl,by omega,?_,rfl,rfl,rfl⟩
    rw[he,Cm b k,if_pos h2,mul_assoc]
   ·rw[aj h2]at e1;simp -dsimp -implicitDefEqProofs only[go_sem,h1,hA,ha,e1,h5,h0,eO,zmul]
    repeat(refine And.intro (by omega) ?_)
    refine again (k/2) (by omega) ⟨(by(repeat apply ak rfl);exact hK),(by(repeat apply ak rfl);exact hKB),(by(repeat apply ak rfl);exact hKE),b*b,o,k/2,rfl,by omega,?_,rfl,rfl,h5⟩
    rw[he,Cm b k,if_neg h2,one_mul]
 ·rintro e τ β ε π hK hKB hKE ⟨rfl,h5⟩;simp -dsimp -implicitDefEqProofs only[go_sem,h5]
end Go.AM
namespace Go.AM
open Alg
open Go.Proofs
open Classical
abbrev PZ:=Alg.P Zp
def zr (a:Zp):List C:=[.v (.int .u64 (a.val:Int))]
abbrev zl (l:List Zp):IV := .c (.lst (l.map zr))
def zp (l:List Zp):PZ:=⟨fun i=>l.getD i 0,⟨l.length,fun i hi=>by simp[List.getD,List.getElem?_eq_none hi]⟩⟩
theorem Jc (l:List Zp) (i:Nat):(zp l).c i=l.getD i 0:=rfl
theorem lm {l:List Zp} {i:Nat} (h:i<l.length):(zp l).c i=l[i]:=by rw[Jc];simp[List.getD,h]
theorem om {l:List Zp} {i:Nat} (h:l.length<=i):(zp l).c i=0:=by rw[Jc];simp[List.getD,List.getElem?_eq_none h]
def TrZ (l:List Zp):Prop:=∀ h:0<l.length,l[l.length-1]≠0
theorem jW {l:List Zp} (h:TrZ l):Alg.sz (zp l)=l.length:=jE (fun i hi=>om hi) fun h0=>by
 rw[lm (by omega:l.length-1<l.length)];exact h (by omega)
noncomputable def rm (a b:PZ):PZ:=if h:b=0 then a else Classical.choose (Classical.choose_spec (m8 a b h))
theorem Cj {a b s r:PZ} (hb:b≠0) (e:a=s*b+r) (hr:Alg.sz r<Alg.sz b):rm a b=r:=by
 rw[rm,dif_neg hb];have h:=Classical.choose_spec (Classical.choose_spec (m8 a b hb));exact(qL (h.1.symm.trans e) h.2 hr).2
theorem Gm (a:PZ) {b:PZ} (hb:b≠0):∃ s,a=s*b+rm a b/\Alg.sz (rm a b)<Alg.sz b:=by
 obtain⟨q,r,e,hr⟩:=m8 a b hb;exact⟨q,by rw[Cj hb e hr];exact e,by rw[Cj hb e hr];exact hr⟩
noncomputable def euc:Nat->PZ->PZ->PZ
 | 0,a,_=>a
 | n+1,a,b=>if b=0 then a else euc n b (rm a b)
theorem Bm {G:PZ}:∀(n:Nat) {a b:PZ},Dv G a->Dv G b->Dv G (euc n a b)
 | 0,_,_,h,_=>h
 | n+1,a,b,h,h'=>by
  simp only[euc];split
  ·exact h
  ·rename_i hb;obtain⟨s,e,_⟩:=Gm a hb;exact Bm n h' ((e ▸ h:Dv G (s*b+rm a b)).of_add (h'.mul_left s))
theorem Bk:∀(n:Nat) {a b:PZ},a≠0->euc n a b≠0
 | 0,_,_,h=>h
 | n+1,a,b,h=>by
  simp only[euc];split
  ·exact h
  ·rename_i hb;exact Bk n hb
theorem tz:∀(n m:Nat) (a b:PZ),Alg.sz b<=n->n<=m->euc m a b=euc n a b
 | 0,m,a,b,h,_=>by
  have hb:b=0:=ap.1 (by omega);cases m with
  | zero=>rfl
  | succ m=>simp only[euc];rw[if_pos hb]
 | n+1,m,a,b,h,hm=>by
  obtain⟨m,rfl⟩:∃ k,m=k+1:=⟨m-1,by omega⟩;simp only[euc];split
  ·rfl
  ·rename_i hb;obtain⟨s,_,hs⟩:=Gm a hb;exact tz n m b (rm a b) (by omega) (by omega)
theorem zsub {c f x:Zp}:(((x.val:Int)+(2147483647-(c.val:Int)) % 18446744073709551616*(f.val:Int) % 18446744073709551616) % 18446744073709551616).tmod 2147483647=(((x + -c*f:Zp).val:Nat):Int):=by
 have h1:=c.isLt;have h2:=f.isLt;have h3:=x.isLt;have hn:(-c:Zp).val=(2147483647-c.val) % 2147483647:=rfl;have h4:(2147483647-c.val)*f.val<=2147483647*2147483646:=Nat.mul_le_mul (by omega) (by omega);have h5:(2147483647-(c.val:Int)) % 18446744073709551616*(f.val:Int)=(((2147483647-c.val)*f.val:Nat):Int):=by
  rw[show(2147483647-(c.val:Int)) % 18446744073709551616=((2147483647-c.val:Nat):Int)by omega];simp
 rw[h5,Int.tmod_eq_emod_of_nonneg (by omega),zV,rG,hn];have h6:(2147483647-c.val) % 2147483647*f.val % 2147483647=(2147483647-c.val)*f.val % 2147483647:=by
  rw[Nat.mul_mod,Nat.mod_mod,<-Nat.mul_mod]
 rw[h6];generalize (2147483647-c.val)*f.val=w at *
 omega
def n9 (rows:List (List C)) (l:List Zp):Prop:=∀(j:Nat) (h:j<l.length),rows[j]?=some (zr l[j])
theorem n9.of (l:List Zp):n9 (l.map zr) l:=fun j h=>by simp[h]
def kK (R b:List Zp) (f:Zp) (at' i:Nat):List Zp:=(List.range R.length).map fun j=>if at'<=j/\j<at'+i then R.getD j 0 + -(b.getD (j-at') 0)*f else R.getD j 0
theorem ft (R b:List Zp) (f:Zp) (at' i:Nat):(kK R b f at' i).length=R.length:=by simp[kK]
theorem fT {R b:List Zp} {f:Zp} {at' i j:Nat} (h:j<(kK R b f at' i).length):(kK R b f at' i)[j]=if at'<=j/\j<at'+i then R.getD j 0 + -(b.getD (j-at') 0)*f else R.getD j 0:=by simp[kK]
theorem uX (R b:List Zp) (f:Zp) (at':Nat):kK R b f at' 0=R:=by
 refine List.ext_getElem (ft ..) fun j h1 h2=>?_;rw[fT,if_neg (by omega)];simp[List.getD,h2]
theorem Ft {R b:List Zp} (f:Zp) {at':Nat} (h:at'+b.length=R.length):zp (kK R b f at' b.length)=zp R-mon at' f*zp b:=by
 refine Alg.P.ext fun j=>?_;rw[il,cB];rcases Nat.lt_or_ge j R.length with hj|hj
 ·rw[lm (by rw[ft];exact hj),fT];by_cases h1:at'<=j
  ·rw[if_pos ⟨h1,by omega⟩,if_pos h1,Jc,Jc,sub_eq,neg_mul,mul_comm]
  ·rw[if_neg (fun h=>h1 h.1),if_neg h1,sub_zero];rfl
 ·rw[om (by rw[ft];exact hj),om hj,if_pos (by omega),om (by omega),mul_zero,sub_zero]
theorem B4 {l:List Zp} {t:Nat} (h:∀ j (hj:j<l.length),t<=j->l[j]=0):zp (l.take t)=zp l:=by
 refine Alg.P.ext fun j=>?_;rcases Nat.lt_or_ge j l.length with hj|hj
 ·rcases Nat.lt_or_ge j t with h2|h2
  ·rw[lm (by simp;omega),lm hj,List.getElem_take]
  ·rw[om (by simp;omega),lm hj,h j hj h2]
 ·rw[om hj,om (by simp;omega)]
theorem yc {R b:List Zp} {f:Zp} {at' i:Nat} {rows:List (List C)} (hi:i<b.length) (hj:at'+i<R.length) (h:n9 rows (kK R b f at' i)) :
  n9 (rows.set (at'+i) (zr (R[at'+i] + -b[i]*f))) (kK R b f at' (i+1)):=fun j hj2=>by
 rw[ft]at hj2;have h1:=h j (by rw[ft];exact hj2);have h2:=h (at'+i) (by rw[ft];exact hj);rw[List.getElem?_set];by_cases e:at'+i=j
 ·subst e;rw[if_pos rfl,if_pos (List.getElem?_eq_some_iff.1 h2).1,fT,if_pos (by omega)];simp[List.getD,hj,hi]
 ·rw[if_neg e,h1,fT,fT];by_cases h3:at'<=j/\j<at'+i
  ·rw[if_pos h3,if_pos (by omega)]
  ·rw[if_neg h3,if_neg (by omega)]
noncomputable def o6 (xs ys:List Zp):PZ:=if xs.length<ys.length then euc xs.length (zp ys) (zp xs)else euc ys.length (zp xs) (zp ys)
theorem B5 (l:List Zp):lens 1 (l.map zr):=fun r hr=>by obtain⟨a,-,rfl⟩:=List.mem_map.1 hr;rfl
theorem uV {a:Zp} (h:a≠0):∃ v:Zp,v*a=1/\Fn Tryz.prog 247 [iz a,iN 2147483645] [iz v] :=
 ⟨_,zT h,oG a 2147483645 (by omega)⟩
set_option maxHeartbeats 1600000 in
theorem D8 {xs ys:List Zp} (hx:xs≠[]) (hy:ys≠[]) (tx:TrZ xs) (ty:TrZ ys) (lx:xs.length<=1048576) (ly:ys.length<=1048576):Fn Tryz.prog 228 [zl xs,zl ys] [iN ((Alg.sz (o6 xs ys):Int)-1)]:=by
 have hx0:=List.length_pos_iff.2 hx;have hy0:=List.length_pos_iff.2 hy;refine ao kd (fn:=Tryz.f228) (by rfl) rfl rfl rfl (by rfl) (by simp) (by rfl) ?_;simp -dsimp -implicitDefEqProofs only[go_sem,af];by_cases hlt:xs.length<ys.length
 case' pos =>
  have e1:decide ((xs.length:Int)<(ys.length:Int))=true:=ai (by omega);obtain⟨a,b,ha0,ta,tb,hle,la,hE,h0,h1⟩:∃ a b:List Zp,0<a.length/\TrZ a/\TrZ b/\b.length<=a.length/\a.length<=1048576/\o6 xs ys=euc b.length (zp a) (zp b)/\zl ys=zl a/\zl xs=zl b :=
   ⟨ys,xs,by omega,ty,tx,by omega,ly,by rw[o6,if_pos hlt],rfl,rfl⟩
  simp -dsimp -implicitDefEqProofs only[go_sem,e1];have i0:∀ f:Nat->AV,f=f->AV.i (zl ys)=AV.i (zl a):=fun _ _=>by rw[h0]
  have i1:∀ f:Nat->AV,f=f->AV.i (zl xs)=AV.i (zl b):=fun _ _=>by rw[h1]
  clear h0 h1 hlt e1
 case' neg =>
  have e1:decide ((xs.length:Int)<(ys.length:Int))=false:=aj (by omega);obtain⟨a,b,ha0,ta,tb,hle,la,hE,h0,h1⟩:∃ a b:List Zp,0<a.length/\TrZ a/\TrZ b/\b.length<=a.length/\a.length<=1048576/\o6 xs ys=euc b.length (zp a) (zp b)/\zl xs=zl a/\zl ys=zl b :=
   ⟨xs,ys,by omega,tx,ty,by omega,lx,by rw[o6,if_neg hlt],rfl,rfl⟩
  simp -dsimp -implicitDefEqProofs only[go_sem,e1];have i0:∀ f:Nat->AV,f=f->AV.i (zl xs)=AV.i (zl a):=fun _ _=>by rw[h0]
  have i1:∀ f:Nat->AV,f=f->AV.i (zl ys)=AV.i (zl b):=fun _ _=>by rw[h1]
  clear h0 h1 hlt e1
 all_goals
  refine aX [(0,1),(5,10),(18,92)] [] [(22,22)] (fun n τ β ε=>∃(a b:List Zp),n=b.length/\0<a.length/\TrZ a/\TrZ b/\b.length<=a.length/\a.length<=1048576/\o6 xs ys=euc b.length (zp a) (zp b)/\τ 0 = .i (zl a)/\τ 1 = .i (zl b))
   (fun e τ β ε=>e = .exit 0/\∃ a:List Zp,0<a.length/\a.length<=1048576/\TrZ a/\o6 xs ys=zp a/\τ 0 = .i (zl a)) b.length ?_ ?_ ?_
  ·exact⟨a,b,rfl,ha0,ta,tb,hle,la,hE,by simp -dsimp -implicitDefEqProofs only[go_sem];exact i0 (fun _ => .any) rfl,by simp -dsimp -implicitDefEqProofs only[go_sem];exact i1 (fun _ => .any) rfl⟩
  ·clear hE tb ta ha0 hle la i0 i1;rintro n τ β ε π hK hKB hKE ⟨a,b,hn,ha0,ta,tb,hle,la,hE,h0,h1⟩;by_cases hb:b=[]
   ·have hA:¬ (0:Int)<(b.length:Int):=by simp[hb]
    simp -dsimp -implicitDefEqProofs only[go_sem,h1,hA,af];refine⟨(by(repeat apply ak rfl);exact hK),(by(repeat apply ak rfl);exact hKB),(by(repeat apply ak rfl);exact hKE),a,ha0,la,ta,?_,h0⟩
    rw[hE,hb];first|done|rfl
   ·have hb0:=List.length_pos_iff.2 hb;have hA:(0:Int)<(b.length:Int):=by omega
    have eb:(b.length:Int)-1=((b.length-1:Nat):Int):=by omega
    have gb:b[b.length-1]?=some b[b.length-1]:=ah (by omega);simp -dsimp -implicitDefEqProofs only[go_sem,h1,h0,hA,af];refine an (by rfl) 11 [] true true (by rfl) (by rfl) (by decide +kernel) ?_;simp -dsimp -implicitDefEqProofs only[go_sem,h1,h0];refine bO (zO (a.map zr) (B5 a) (by simp;omega)) ?_;simp -dsimp -implicitDefEqProofs only[go_sem,h1,h0,eb,af]
    repeat(refine And.intro (by omega) ?_)
    obtain⟨v,hv,hpw⟩:=uV (tb hb0);refine av gb ?_;simp -dsimp -implicitDefEqProofs only[go_sem,zr];refine aa hpw rfl ?_;simp -dsimp -implicitDefEqProofs only[go_sem];refine aX [(5,5),(7,10),(30,90)] [] [(22,22)] (fun n τ' β' ε'=>∃(R:List Zp) (rows:List (List C)) (s:PZ),n=R.length/\TrZ R/\R.length<=a.length/\zp a=s*zp b+zp R/\n9 rows R/\τ' 5 = .sl 22 ((ε 22).gen+1) R.length/\ε' 22=⟨(ε 22).gen+1,1,rows,true,true⟩)
     (fun e τ' β' ε'=>e = .exit 2/\∃(R:List Zp) (rows:List (List C)) (s:PZ),R.length<b.length/\TrZ R/\zp a=s*zp b+zp R/\n9 rows R/\τ' 5 = .sl 22 ((ε 22).gen+1) R.length/\ε' 22=⟨(ε 22).gen+1,1,rows,true,true⟩) a.length ?_ ?_ ?_
    ·have hne:(a.map zr).isEmpty=false:=by cases a with|nil=>simp at ha0|cons _ _=>rfl
     exact⟨a,a.map zr,0,rfl,ta,ae _,by rw[zero_mul,zero_add],n9.of a,by simp -dsimp -implicitDefEqProofs only[go_sem],by simp -dsimp -implicitDefEqProofs only[go_sem,hne]⟩
    ·rintro n2 τ2 β2 ε2 π2 hK2 hKB2 hKE2 ⟨R,rows,s,hn2,tR,hRl,hRe,hrow,h5,h22⟩;have q1:τ2 1 = .i (zl b):=(hK2 1 rfl).trans h1;have q6:τ2 6 = .i (iz v):=(hK2 6 rfl).trans rfl;by_cases hlt:b.length<=R.length
     ·have hA2:(b.length:Int)<=(R.length:Int):=by omega
      have eR:(R.length:Int)-1=((R.length-1:Nat):Int):=by omega
      have eat:(R.length:Int)-(b.length:Int)=((R.length-b.length:Nat):Int):=by omega
      have hR0:0<R.length:=by omega
      simp -dsimp -implicitDefEqProofs only[go_sem,h5,q1,q6,hA2,eR,eat,af,h22]
      repeat(refine And.intro (by omega) ?_)
      refine⟨_,hrow (R.length-1) (by omega),?_⟩;simp -dsimp -implicitDefEqProofs only[go_sem,zr,zmul]
      repeat(refine And.intro (by omega) ?_)
      refine aX [(9,10),(51,73)] [] [(22,22)] (fun n τ' β' ε'=>∃(i:Nat) (rows':List (List C)),n=b.length-i/\i<=b.length/\τ' 51 = .i (iN i)/\n9 rows' (kK R b (R[R.length-1]*v) (R.length-b.length) i)/\ε' 22=⟨(ε 22).gen+1,1,rows',true,true⟩)
       (fun e τ' β' ε'=>e = .exit 4/\∃(rows':List (List C)),n9 rows' (kK R b (R[R.length-1]*v) (R.length-b.length) b.length)/\ε' 22=⟨(ε 22).gen+1,1,rows',true,true⟩) b.length ?_ ?_ ?_
      ·exact⟨0,rows,by omega,by omega,rfl,by rw[uX];exact hrow,h22⟩
      ·rintro n3 τ3 β3 ε3 π3 hK3 hKB3 hKE3 ⟨i,rows',hn3,hi,h51,hrow',h22'⟩;have r49:τ3 49 = .i (zl b):=(hK3 49 rfl).trans rfl;have r50:τ3 50 = .i (iN b.length):=(hK3 50 rfl).trans rfl;have r5:τ3 5 = .sl 22 ((ε 22).gen+1) R.length:=(hK3 5 rfl).trans h5;have r7:τ3 7 = .i (iz (R[R.length-1]*v)):=by rw[hK3 7 (by decide)];simp -dsimp -implicitDefEqProofs only[go_sem,zmul]
       have r8:τ3 8 = .i (iN ((R.length-b.length:Nat):Int)):=by rw[hK3 8 (by decide)];simp -dsimp -implicitDefEqProofs only[go_sem,eat]
       by_cases hlt3:i<b.length
       ·have hA3:(i:Int)<(b.length:Int):=by omega
        have gbi:b[i]?=some b[i]:=by simp[hlt3]
        have ead:((R.length-b.length:Nat):Int)+(i:Int)=((R.length-b.length+i:Nat):Int):=by omega
        simp -dsimp -implicitDefEqProofs only[go_sem,h51,r50,r49,hA3];refine av gbi ?_;simp -dsimp -implicitDefEqProofs only[go_sem,zr,h51,r50,r49,r5,r7,r8,ead,h22']
        repeat(refine And.intro (by omega) ?_)
        have hji:R.length-b.length+i<R.length:=by omega
        have hr:rows'[R.length-b.length+i]?=some (zr R[R.length-b.length+i]):=by
         have:=hrow' (R.length-b.length+i) (by rw[ft];exact hji);rw[fT,if_neg (by omega)]at this;rw[this];simp[List.getD,hji]
        refine⟨_,hr,?_⟩;simp -dsimp -implicitDefEqProofs only[go_sem,zr,zsub]
        repeat(refine And.intro (by omega) ?_)
        refine⟨_,hr,?_⟩;simp -dsimp -implicitDefEqProofs only[go_sem,zr]
        repeat(refine And.intro (by omega) ?_)
        refine again (b.length-(i+1)) (by omega) ⟨(by(repeat apply ak rfl);exact hK3),(by(repeat apply ak rfl);exact hKB3),(by(repeat apply ak rfl);exact hKE3),i+1,rows'.set (R.length-b.length+i) (zr (R[R.length-b.length+i] + -b[i]*(R[R.length-1]*v))),rfl,by omega,rfl,yc hlt3 (by omega) hrow',?_⟩
        simp -dsimp -implicitDefEqProofs only[go_sem,h22'];rfl
       ·have hA3:¬ (i:Int)<(b.length:Int):=by omega
        obtain rfl:i=b.length:=by omega
        simp -dsimp -implicitDefEqProofs only[go_sem,h51,r50,hA3];exact⟨(by(repeat apply ak rfl);exact hK3),(by(repeat apply ak rfl);exact hKB3),(by(repeat apply ak rfl);exact hKE3),rows',hrow',h22'⟩
      ·rintro e τ3 β3 ε3 π3 hK3 hKB3 hKE3 ⟨rfl,rows',hrow',h22'⟩;refine⟨_,aY.refl _,?_⟩;have r5:τ3 5 = .sl 22 ((ε 22).gen+1) R.length:=(hK3 5 rfl).trans h5;have kO:=Kp.step2 hK2 hK3 (by intro n;simp[inR]<;>omega) (by(repeat apply ak rfl);exact hK2)
       have kB:=Kp.step2 hKB2 hKB3 (by intro n;simp[inR]) hKB2;have kE:=Kp.step2 hKE2 hKE3 (by intro n;simp[inR]) hKE2;have hz:=Ft (R:=R) (b:=b) (R[R.length-1]*v) (at':=R.length-b.length) (by omega);have hlast:∀(h:R.length-1<(kK R b (R[R.length-1]*v) (R.length-b.length) b.length).length),(kK R b (R[R.length-1]*v) (R.length-b.length) b.length)[R.length-1]=0:=fun h=>by
        rw[fT,if_pos (by omega),show R.length-1-(R.length-b.length)=b.length-1 by omega];rw[show R.getD (R.length-1) 0=R[R.length-1]from lm (by omega),show b.getD (b.length-1) 0=b[b.length-1]from lm (by omega)];have e9 : -b[b.length-1]*(R[R.length-1]*v) = -(R[R.length-1]*(v*b[b.length-1])):=by rw[neg_mul,cN,mul_comm b[b.length-1] v]
        rw[e9,hv,mul_one,iD]
       generalize hR':kK R b (R[R.length-1]*v) (R.length-b.length) b.length=R' at *
       have lR':R'.length=R.length:=by rw[<-hR',ft]
       simp -dsimp -implicitDefEqProofs only[go_sem];refine aX [(5,5),(74,90)] [] [] (fun n τ' β' ε'=>∃ t:Nat,n=t/\t<=R'.length/\(∀ j (hj:j<R'.length),t<=j->R'[j]=0)/\τ' 5 = .sl 22 ((ε 22).gen+1) t)
        (fun e τ' β' ε'=>e = .exit 6/\∃ t:Nat,t<=R'.length/\(∀ j (hj:j<R'.length),t<=j->R'[j]=0)/\(∀ h:t-1<R'.length,0<t->R'[t-1]≠0)/\τ' 5 = .sl 22 ((ε 22).gen+1) t) R'.length ?_ ?_ ?_
       ·exact⟨R'.length,rfl,ae _,fun j hj h=>by omega,by rw[lR'];exact r5⟩
       ·rintro n4 τ4 β4 ε4 π4 hK4 hKB4 hKE4 ⟨t,hn4,ht,hzero,h5'⟩;have s22:ε4 22=⟨(ε 22).gen+1,1,rows',true,true⟩:=by rw[hKE4 22 (by decide)];exact h22'
        by_cases ht0:t=0
        ·have hA4:¬ (0:Int)<(t:Int):=by omega
         simp -dsimp -implicitDefEqProofs only[go_sem,h5',s22,hA4];exact⟨(by(repeat apply ak rfl);exact hK4),(by(repeat apply ak rfl);exact hKB4),(by(repeat apply ak rfl);exact hKE4),t,ht,hzero,fun _ h=>by omega,rfl⟩
        ·have hA4:(0:Int)<(t:Int):=by omega
         have et:(t:Int)-1=((t-1:Nat):Int):=by omega
         have hr4:=hrow' (t-1) (by omega);simp -dsimp -implicitDefEqProofs only[go_sem,h5',s22,hA4,et]
         repeat(refine And.intro (by omega) ?_)
         refine⟨_,hr4,?_⟩;simp -dsimp -implicitDefEqProofs only[go_sem,zr];by_cases hz4:R'[t-1]=0
         ·have e4:decide (((R'[t-1].val:Nat):Int)=0)=true:=ai (by rw[hz4];rfl);simp -dsimp -implicitDefEqProofs only[go_sem,e4,h5',s22,et]
          repeat(refine And.intro (by omega) ?_)
          refine again (t-1) (by omega) ⟨(by(repeat apply ak rfl);exact hK4),(by(repeat apply ak rfl);exact hKB4),(by(repeat apply ak rfl);exact hKE4),t-1,rfl,by omega,fun j hj h=>?_,rfl⟩
          by_cases e:j=t-1
          ·subst e;exact hz4
          ·exact hzero j hj (by omega)
         ·have hv0:R'[t-1].val≠0:=fun h=>hz4 (kx h);have e4:decide (((R'[t-1].val:Nat):Int)=0)=false:=aj (by omega);simp -dsimp -implicitDefEqProofs only[go_sem,e4];exact⟨(by(repeat apply ak rfl);exact hK4),(by(repeat apply ak rfl);exact hKB4),(by(repeat apply ak rfl);exact hKE4),t,ht,hzero,fun _ _=>hz4,h5'⟩
       ·rintro e τ4 β4 ε4 π4 hK4 hKB4 hKE4 ⟨rfl,t,ht,hzero,hnz,h5'⟩;refine⟨_,aY.refl _,?_⟩;have kO2:=Kp.step2 kO hK4 (by intro n;simp[inR]<;>omega) (by(repeat apply ak rfl);exact kO)
        have kB2:=Kp.step2 kB hKB4 (by intro n;simp[inR]) kB;have kE2:=Kp.step2 kE hKE4 (by intro n;simp[inR]) kE;have s22:ε4 22=⟨(ε 22).gen+1,1,rows',true,true⟩:=by rw[hKE4 22 (by decide)];exact h22'
        have htl:t<R.length:=by
         rcases Nat.lt_or_ge t R.length with h|h
         ·exact h
         ·have e5:t=R.length:=by omega
          refine absurd ?_ (hnz (by omega) (by omega));have:=hlast (by omega);simpa only[e5]using this
        have lt':(R'.take t).length=t:=by simp;omega
        simp -dsimp -implicitDefEqProofs only[go_sem];refine again t (by omega) ⟨(by(repeat apply ak rfl);exact kO2),(by(repeat apply ak rfl);exact kB2),(by(repeat apply ak rfl);exact kE2),R'.take t,rows',s+mon (R.length-b.length) (R[R.length-1]*v),lt'.symm,fun h=>?_,by omega,?_,fun j hj=>?_,by rw[lt'];exact h5',s22⟩
        ·rw[List.getElem_take];simp only[lt']at h ⊢;exact hnz (by omega) h
        ·rw[B4 hzero,hz,hRe,add_mul,sub_eq];rw[add_assoc,add_comm (zp R),<-add_assoc (mon _ _*zp b),iD,zero_add]
        ·rw[List.getElem_take];exact hrow' j (by simp at hj;omega)
     ·have hA2:¬ (b.length:Int)<=(R.length:Int):=by omega
      simp -dsimp -implicitDefEqProofs only[go_sem,h5,q1,hA2,af,h22];exact⟨(by(repeat apply ak rfl);exact hK2),(by(repeat apply ak rfl);exact hKB2),(by(repeat apply ak rfl);exact hKE2),R,rows,s,by omega,tR,hRe,hrow,rfl,rfl⟩
    ·rintro e τ2 β2 ε2 π2 hK2 hKB2 hKE2 ⟨rfl,R,rows,s,hlt,tR,hRe,hrow,h5,h22⟩;refine⟨_,aY.refl _,?_⟩;have q1:τ2 1 = .i (zl b):=(hK2 1 rfl).trans h1;have kO:=Kp.step2 hK hK2 (by intro n;simp[inR]<;>omega) (by(repeat apply ak rfl);exact hK)
     have kB:=Kp.step2 hKB hKB2 (by intro n;simp[inR]) hKB;have kE:=Kp.step2 hKE hKE2 (by intro n;simp[inR]) (by(repeat apply ak rfl);exact hKE)
     have hb':zp b≠0:=fun e=>by
      have:=jW tb;rw[e,ap.2 rfl]at this;omega
     have hrm:rm (zp a) (zp b)=zp R:=Cj hb' hRe (by rw[jW tR,jW tb];exact hlt);have hE':o6 xs ys=euc R.length (zp b) (zp R):=by
      rw[hE];obtain⟨m,hm⟩:∃ m,b.length=m+1:=⟨b.length-1,by omega⟩;rw[hm];simp only[euc];rw[if_neg hb',hrm];exact tz _ _ _ _ (by rw[jW tR];exact ae _) (by omega)
     have htake:rows.take R.length=R.map zr:=by
      refine List.ext_getElem? fun j=>?_;rw[List.getElem?_take,List.getElem?_map];split
      ·rename_i hj;rw[hrow j hj,ah hj];rfl
      ·rename_i hj;rw[List.getElem?_eq_none (by omega)];rfl
     simp -dsimp -implicitDefEqProofs only[go_sem,q1,h5];refine tO R.length ((aY.freeze _ 22).trans (aY.imm _ 1 (x:=zl R) ?_)) (by omega) ?_
     ·simp -dsimp -implicitDefEqProofs only[go_sem,h22,htake]
     ·refine⟨?_,?_,?_,b,R,rfl,hb0,tb,tR,by omega,by omega,hE',?_,?_⟩
      ·simp -dsimp -implicitDefEqProofs only[go_sem,kO]
      ·exact kB
      ·simp -dsimp -implicitDefEqProofs only[go_sem,kE]
      ·simp -dsimp -implicitDefEqProofs only[go_sem]
      ·simp -dsimp -implicitDefEqProofs only[go_sem]
  ·rintro e τ β ε π hK hKB hKE ⟨rfl,a,ha0,la,ta,hE,h0⟩;refine⟨_,aY.refl _,?_⟩;simp -dsimp -implicitDefEqProofs only[go_sem,h0,af];refine⟨by omega,?_⟩;rw[hE,jW ta]
end Go.AM
namespace Go.AM
open Alg
open Go.Proofs
open Classical
theorem ixX (e:Ex) (v:Nat) (hv:v<4):dz Tryz.prog (Instr.index 100 (.agg #[.int .i64 e.a,.int .i64 e.b,.int .i64 e.c,.int .i64 e.d]) (.int .i64 (v:Int))) (.int .i64 (e.at v)):=by
 intro w;have hu:=mt.hk;obtain⟨i,hi,hs⟩:=mt.hi;have hI:=mt.hI;obtain rfl|rfl|rfl|rfl:v=0\/v=1\/v=2\/v=3:=by omega
 all_goals simp[Instr.index,asIntOf,run_underlying hu,run_underlying hI,sizeOf,typeInfo,hi,hs,Go.part,isAgg,Ex.at]
def im:Prop:=∀ z:Int,(lb z).length<=17179869184->Fn Tryz.prog 246 [iZ z] [iz (Alg.mp z)]
noncomputable def eA (p:PQ):List Zp:=(List.range (Alg.sz p)).map fun i=>rq (p.c i)
def tc (p:PQ):Prop:=∀ i,i<Alg.sz p->Alg.mp (p.c i).den≠0
noncomputable def qc (p:PQ):List IV:=if tc p then[zl (eA p),iB (decide (rq (lc p)≠0))]else[.c (.lst []),iB false]
theorem dy (p:PQ):(eA p).length=Alg.sz p:=by simp[eA]
noncomputable def seen (p:PQ) (L:List Tm) (j:Nat):Zp:=if ∃ t∈L,t.1.a=(j:Int)then rq (p.c j)else 0
theorem xH {i:Nat}:∀{L:List Tm},(∀ t∈L,t.1.a.toNat≠i)->(toP L).c i=0
 | [],_=>rfl
 | t::L,h=>by
  rw[aG,bM,xH fun t ht=>h t (by simp[ht]),bJ,if_neg (fun e=>h t (by simp) e.symm)];exact add_zero _
theorem Ip {p:PQ} {i:Nat} (h:p.c i≠0):((⟨(i:Int),0,0,0⟩:Ex),p.c i)∈U p:=by
 refine Classical.byContradiction fun hn=>h ?_;have:=xH (i:=i) (L:=U p) fun t ht e=>by
  obtain⟨j,hj,rfl,_⟩:=mG ht;simp only[Int.toNat_natCast]at e;subst e;exact hn ht
 rwa [gt]at this
theorem xT (p:PQ) (j:Nat):seen p (U p) j=rq (p.c j):=by
 rw[seen];split
 ·rfl
 ·rename_i h;have h0:p.c j=0:=Classical.byContradiction fun hc=>h ⟨_,Ip hc,rfl⟩;rw[h0,rq];exact(zero_mul _).symm
theorem zadd {a b:Zp}:(((a.val:Int)+(b.val:Int)) % 18446744073709551616).tmod 2147483647=(((a+b:Zp).val:Nat):Int):=by
 have h1:=a.isLt;have h2:=b.isLt;rw[zV,Int.tmod_eq_emod_of_nonneg (by omega)];omega
theorem zadd' {a b:Zp}:(((a.val+b.val:Nat):Int) % 18446744073709551616).tmod 2147483647=(((a+b:Zp).val:Nat):Int):=by
 rw[<-zadd];simp
theorem qq (hres:im) {p:PQ} {h:Nat} (hp:Alg.HB h p) (hb:h<=137438953000) (hp0:p≠0) (sp:Alg.sz p<=1048576) (a:Nat) (ha:a<=1000000):Fn Tryz.prog 227 [iUp p,iN 0,.c (.v (.int .u64 (a:Int)))] (qc p):=by
 have h0:=aA hp0;have es:(Alg.sz p:Int)-1+1=(Alg.sz p:Int):=by omega
 refine ao kd (fn:=Tryz.f227) (by rfl) rfl rfl rfl (by rfl) (by simp) (by rfl) ?_;simp -dsimp -implicitDefEqProofs only[go_sem];refine am (gq p sp) ?_;simp -dsimp -implicitDefEqProofs only[go_sem,es,Int.toNat_natCast]
 repeat(refine And.intro (by omega) ?_)
 refine aX [(6,7),(10,14),(22,75)] [(10,10)] [(19,19)] (fun n τ β ε=>∃(i:Nat) (rows:List (List C)),n=(U p).length-i/\i<=(U p).length/\τ 22 = .i (iN i)/\ε 19=⟨1,1,rows,true,true⟩ /\
   (∀ j,j<Alg.sz p->rows[j]?=some (zr (seen p ((U p).take i) j)))/\∀ t∈(U p).take i,Alg.mp (t.2.den)≠0)
  (fun e τ β ε=>(e = .exit 0/\tc p/\∃ rows:List (List C),ε 19=⟨1,1,rows,true,true⟩/\∀ j,j<Alg.sz p->rows[j]?=some (zr (rq (p.c j)))) \/
   (e = .ret/\¬ tc p/\τ 6 = .fl []/\τ 7 = .i (.c (.v (.bool false))))) (U p).length ?_ ?_ ?_
 ·refine⟨0,List.replicate (Alg.sz p) [.v (.int .u64 0)],by omega,by omega,rfl,rfl,fun j hj=>?_,by simp⟩;rw[seen,if_neg (by simp)];simp[hj];rfl
 ·rintro n τ β ε π hK hKB hKE ⟨i,rows,hn,hi,h22,h19,hrows,hgood⟩;have k20:τ 20 = .i (iUp p):=(hK 20 rfl).trans rfl;have k21:τ 21 = .i (iN (U p).length):=by rw[hK 21 (by decide)];simp -dsimp -implicitDefEqProofs only[go_sem,af]
  have k8:τ 8 = .sl 19 1 (Alg.sz p):=(hK 8 rfl).trans rfl;have k1:τ 1 = .i (iN 0):=(hK 1 rfl).trans rfl;have k2:τ 2 = .i (.c (.v (.int .u64 (a:Int)))):=(hK 2 rfl).trans rfl;by_cases hlt:i<(U p).length
  ·have hA:(i:Int)<((U p).length:Int):=by omega
   obtain⟨e,he,het,hec⟩:=mG (List.getElem_mem hlt);have hg:(U p)[i]?=some (⟨(e:Int),0,0,0⟩,p.c e):=by rw[ah hlt,het]
   have hbd:=hp.coef e;simp -dsimp -implicitDefEqProofs only[go_sem,h22,k21,k20,hA];refine av hg ?_;simp -dsimp -implicitDefEqProofs only[go_sem,Int.reduceToNat,Int.reduceLE,ag];refine ar (args':=[iZ ((p.c e).den:Int)]) rfl (hres _ (ac (p9 (z:=((p.c e).den:Int)) (by simpa using hbd.2)) (by omega))) ?_;by_cases hd:Alg.mp ((p.c e).den:Int)=0
   ·have e1:decide ((((Alg.mp ((p.c e).den:Int)).val:Nat):Int)=0)=true:=ai (by rw[hd];rfl);simp -dsimp -implicitDefEqProofs only[go_sem,e1];exact⟨(by(repeat apply ak rfl);exact hK),(by(repeat apply ak rfl);exact hKB),(by(repeat apply ak rfl);exact hKE),fun hgd=>hgd e he hd⟩
   ·have hv0:(Alg.mp ((p.c e).den:Int)).val≠0:=fun h=>hd (kx h);have e1:decide ((((Alg.mp ((p.c e).den:Int)).val:Nat):Int)=0)=false:=aj (by omega);obtain⟨v,hv,hpw⟩:=uV hd;have hrq:Alg.mp (p.c e).num*v=rq (p.c e):=by
     rw[rq];congr 1;exact oW (by rw[mul_comm];exact hv)
    simp -dsimp -implicitDefEqProofs only[go_sem,e1,Int.reduceToNat,Int.reduceLE,ag];refine ar (args':=[iZ (p.c e).num]) rfl (hres _ (ac (p9 hbd.1) (by omega))) ?_;simp -dsimp -implicitDefEqProofs only[go_sem];refine aa hpw rfl ?_;simp -dsimp -implicitDefEqProofs only[go_sem,zmul,hrq]
    repeat(refine And.intro (by omega) ?_)
    refine aH [(12,14),(42,58)] [] [] (fun n τ' β' ε'=>∃ w:Nat,n=4-w/\w<=4/\τ' 42 = .i (iN w)/\τ' 12 = .i (iz (rq (p.c e))))
     (fun e' τ' β' ε'=>e' = .exit 2/\τ' 12 = .i (iz (rq (p.c e)))) 4 ?_ ?_ ?_
    ·exact⟨0,rfl,by omega,rfl,rfl⟩
    ·rintro n2 τ2 β2 ε2 π2 hK2 hKB2 hKE2 ⟨w,hn2,hw,h42,q12⟩;have q41:τ2 41 = .i (.g [.v (.int .i64 (e:Int)),.v (.int .i64 0),.v (.int .i64 0),.v (.int .i64 0)]):=(hK2 41 rfl).trans rfl;have q1:τ2 1 = .i (iN 0):=(hK2 1 rfl).trans k1;have q2:τ2 2 = .i (.c (.v (.int .u64 (a:Int)))):=(hK2 2 rfl).trans k2;obtain rfl|rfl|rfl|rfl|rfl:w=4\/w=0\/w=1\/w=2\/w=3:=by omega
     ·have h42':τ2 42 = .i (iN 4):=h42;simp -dsimp -implicitDefEqProofs only[go_sem,h42',Int.reduceLT,decide_false];exact⟨(by(repeat apply ak rfl);exact hK2),(by(repeat apply ak rfl);exact hKB2),(by(repeat apply ak rfl);exact hKE2),q12⟩
     ·have h42':τ2 42 = .i (iN 0):=h42;simp -dsimp -implicitDefEqProofs only[go_sem,h42',q41,q1,q2,q12,Int.reduceLT,decide_true,Int.reduceToNat];refine⟨_,ixX ⟨(e:Int),0,0,0⟩ 0 (by omega),rfl,?_⟩
      repeat(refine And.intro (by omega) ?_)
      refine again (4-1) (by omega) ⟨(by(repeat apply ak rfl);exact hK2),(by(repeat apply ak rfl);exact hKB2),(by(repeat apply ak rfl);exact hKE2),1,rfl,by omega,rfl,q12⟩
     ·have h42':τ2 42 = .i (iN 1):=h42;have ex:((a:Int)+1) % 18446744073709551616=((a+1:Nat):Int):=by omega
      simp -dsimp -implicitDefEqProofs only[go_sem,h42',q41,q1,q2,q12,Int.reduceLT,decide_true,Int.reduceToNat];refine⟨_,ixX ⟨(e:Int),0,0,0⟩ 1 (by omega),rfl,?_⟩;simp -dsimp -implicitDefEqProofs only[go_sem,h42',q41,q1,q2,q12,Int.reduceEq,decide_false];refine ar (args':=[iz ⟨a+1,by omega⟩,iN 0]) ?_ (oG ⟨a+1,by omega⟩ 0 (by omega)) ?_
      ·rw[show((a:Int)+1 % 18446744073709551616) % 18446744073709551616=((a+1:Nat):Int)by omega];rfl
      simp -dsimp -implicitDefEqProofs only[go_sem,zmul,h42']
      repeat(refine And.intro (by omega) ?_)
      refine again (4-2) (by omega) ⟨(by(repeat apply ak rfl);exact hK2),(by(repeat apply ak rfl);exact hKB2),(by(repeat apply ak rfl);exact hKE2),2,rfl,by omega,rfl,?_⟩
      simp -dsimp -implicitDefEqProofs only[go_sem];rw[show Alg.pw (⟨a+1,by omega⟩:Zp) 0=1 from rfl,mul_one]
     ·have h42':τ2 42 = .i (iN 2):=h42;have ex:((a:Int)+2) % 18446744073709551616=((a+2:Nat):Int):=by omega
      simp -dsimp -implicitDefEqProofs only[go_sem,h42',q41,q1,q2,q12,Int.reduceLT,decide_true,Int.reduceToNat];refine⟨_,ixX ⟨(e:Int),0,0,0⟩ 2 (by omega),rfl,?_⟩;simp -dsimp -implicitDefEqProofs only[go_sem,h42',q41,q1,q2,q12,Int.reduceEq,decide_false];refine ar (args':=[iz ⟨a+2,by omega⟩,iN 0]) ?_ (oG ⟨a+2,by omega⟩ 0 (by omega)) ?_
      ·rw[show((a:Int)+2 % 18446744073709551616) % 18446744073709551616=((a+2:Nat):Int)by omega];rfl
      simp -dsimp -implicitDefEqProofs only[go_sem,zmul,h42']
      repeat(refine And.intro (by omega) ?_)
      refine again (4-3) (by omega) ⟨(by(repeat apply ak rfl);exact hK2),(by(repeat apply ak rfl);exact hKB2),(by(repeat apply ak rfl);exact hKE2),3,rfl,by omega,rfl,?_⟩
      simp -dsimp -implicitDefEqProofs only[go_sem];rw[show Alg.pw (⟨a+2,by omega⟩:Zp) 0=1 from rfl,mul_one]
     ·have h42':τ2 42 = .i (iN 3):=h42;have ex:((a:Int)+3) % 18446744073709551616=((a+3:Nat):Int):=by omega
      simp -dsimp -implicitDefEqProofs only[go_sem,h42',q41,q1,q2,q12,Int.reduceLT,decide_true,Int.reduceToNat];refine⟨_,ixX ⟨(e:Int),0,0,0⟩ 3 (by omega),rfl,?_⟩;simp -dsimp -implicitDefEqProofs only[go_sem,h42',q41,q1,q2,q12,Int.reduceEq,decide_false];refine ar (args':=[iz ⟨a+3,by omega⟩,iN 0]) ?_ (oG ⟨a+3,by omega⟩ 0 (by omega)) ?_
      ·rw[show((a:Int)+3 % 18446744073709551616) % 18446744073709551616=((a+3:Nat):Int)by omega];rfl
      simp -dsimp -implicitDefEqProofs only[go_sem,zmul,h42']
      repeat(refine And.intro (by omega) ?_)
      refine again (4-4) (by omega) ⟨(by(repeat apply ak rfl);exact hK2),(by(repeat apply ak rfl);exact hKB2),(by(repeat apply ak rfl);exact hKE2),4,rfl,by omega,rfl,?_⟩
      simp -dsimp -implicitDefEqProofs only[go_sem];rw[show Alg.pw (⟨a+3,by omega⟩:Zp) 0=1 from rfl,mul_one]
    ·rintro e' τ2 β2 ε2 π2 hK2 hKB2 hKE2 ⟨rfl,q12⟩;have r10:τ2 10 = .bp 10 ((β 10).gen+1) 0:=(hK2 10 rfl).trans rfl;have b10:β2 10=⟨(β 10).gen+1,eT (⟨(e:Int),0,0,0⟩,p.c e)⟩:=(hKB2 10 rfl).trans rfl;have r8:τ2 8 = .sl 19 1 (Alg.sz p):=(hK2 8 rfl).trans k8;have r1:τ2 1 = .i (iN 0):=(hK2 1 rfl).trans k1;have r22:τ2 22 = .i (iN i):=(hK2 22 rfl).trans h22;have f19:ε2 19=⟨1,1,rows,true,true⟩:=by rw[hKE2 19 (by decide)];exact h19
     have kO:=Kp.step2 hK hK2 (by intro n;simp[inR]<;>omega) (by(repeat apply ak rfl);exact hK)
     have kB:=Kp.step2 hKB hKB2 (by intro n;simp[inR]) (by(repeat apply ak rfl);exact hKB)
     have kE:=Kp.step2 hKE hKE2 (by intro n;simp[inR]) hKE;have hs0:seen p ((U p).take i) e=0:=by
      rw[seen,if_neg];rintro ⟨t,ht,hte⟩;obtain⟨j,hj,rfl⟩:=List.getElem_of_mem ht;simp only[List.length_take]at hj;rw[List.getElem_take]at hte;have h5:=(List.pairwise_iff_getElem.1 (jB p).srt) j i (by omega) hlt (by omega);rw[jb ((jB p).uv _ (List.getElem_mem _)) ((jB p).uv _ (List.getElem_mem _)),het]at h5;simp only at h5;omega
     have hr0:=hrows e he;rw[hs0]at hr0;have hse:∀ j,seen p ((U p).take (i+1)) j=if j=e then rq (p.c e)else seen p ((U p).take i) j:=fun j=>by
      rw[ab hlt,het,seen,seen];by_cases hj:j=e
      ·subst hj;rw[if_pos ⟨_,by simp;right;rfl,rfl⟩,if_pos rfl]
      ·rw[if_neg hj];congr 1;refine propext ⟨?_,fun⟨t,ht,h5⟩=>⟨t,by simp[ht],h5⟩⟩;rintro ⟨t,ht,h5⟩;rcases List.mem_append.1 ht with ht|ht
       ·exact⟨t,ht,h5⟩
       ·simp at ht;subst ht;simp only at h5;omega
     simp -dsimp -implicitDefEqProofs only[go_sem];refine an (by rfl) 16 [] false true (by rfl) (by rfl) (by decide +kernel) ?_;simp -dsimp -implicitDefEqProofs only[go_sem,r10,b10,r8,r1,q12,f19,Int.reduceToNat,Int.reduceLE,true_and,List.drop_zero,Int.toNat_natCast];refine⟨he,_,hr0,?_⟩;simp -dsimp -implicitDefEqProofs only[go_sem,zr,zadd,zadd'];refine⟨by decide,he,_,hr0,?_⟩;have hUl:=cO p;simp -dsimp -implicitDefEqProofs only[go_sem,r22,zr]
     repeat(refine And.intro (by omega) ?_)
     refine again ((U p).length-(i+1)) (by omega) ⟨(by(repeat apply ak rfl);exact kO),(by(repeat apply ak rfl);exact kB),(by(repeat apply ak rfl);exact kE),i+1,rows.set e (zr (0+rq (p.c e))),rfl,by omega,rfl,by simp -dsimp -implicitDefEqProofs only[go_sem,f19];rfl,fun j hj=>?_,fun t ht=>?_⟩
     ·rw[List.getElem?_set,hse];by_cases hje:e=j
      ·subst hje;rw[if_pos rfl,if_pos (List.getElem?_eq_some_iff.1 hr0).1,if_pos rfl,zero_add];rfl
      ·rw[if_neg hje,if_neg (fun h=>hje h.symm)];exact hrows j hj
     ·rw[ab hlt,het]at ht;rcases List.mem_append.1 ht with ht|ht
      ·exact hgood t ht
      ·simp at ht;subst ht;exact hd
  ·have hA:¬ (i:Int)<((U p).length:Int):=by omega
   obtain rfl:i=(U p).length:=by omega
   rw[List.take_length]at hrows hgood;simp -dsimp -implicitDefEqProofs only[go_sem,h22,k21,hA];refine⟨(by(repeat apply ak rfl);exact hK),(by(repeat apply ak rfl);exact hKB),(by(repeat apply ak rfl);exact hKE),?_,rows,h19,?_⟩
   ·intro j hj;by_cases hc:p.c j=0
    ·rw[hc];decide
    ·exact hgood _ (Ip hc)
   ·intro j hj;rw[<-xT p j];exact hrows j hj
 ·rintro e τ β ε π hK hKB hKE h;refine⟨_,aY.refl _,?_⟩;rcases h with⟨rfl,hg,rows,h19,hrows⟩|⟨rfl,hg,h6,h7⟩
  ·have k8:τ 8 = .sl 19 1 (Alg.sz p):=(hK 8 rfl).trans rfl;have el:(Alg.sz p:Int)-1=((Alg.sz p-1:Nat):Int):=by omega
   simp -dsimp -implicitDefEqProofs only[go_sem,k8];refine an (by rfl) 10 [] false true (by rfl) (by rfl) (by decide +kernel) ?_;simp -dsimp -implicitDefEqProofs only[go_sem,k8,h19,el]
   repeat(refine And.intro (by omega) ?_)
   refine⟨_,hrows (Alg.sz p-1) (by omega),?_⟩;simp -dsimp -implicitDefEqProofs only[go_sem,zr];have htake:rows.take (Alg.sz p)=(eA p).map zr:=by
    refine List.ext_getElem? fun j=>?_;rw[List.getElem?_take,List.getElem?_map];split
    ·rename_i hj;rw[hrows j hj,ah (by rw[dy];exact hj)];simp[eA]
    ·rename_i hj;rw[List.getElem?_eq_none (by rw[dy];omega)];rfl
   have hnz:(!decide ((((rq (p.c (Alg.sz p-1))).val:Nat):Int)=0))=decide (rq (lc p)≠0):=by
    rw[show lc p=p.c (Alg.sz p-1)from rfl];by_cases h0:rq (p.c (Alg.sz p-1))=0
    ·rw[h0];rfl
    ·have h1:(rq (p.c (Alg.sz p-1))).val≠0:=fun h=>h0 (kx h);rw[ai h0,aj (by omega)];rfl
   rw[qc,if_pos hg,htake,hnz]
  ·simp -dsimp -implicitDefEqProofs only[go_sem,h6,h7];rw[qc,if_neg hg]
end Go.AM
