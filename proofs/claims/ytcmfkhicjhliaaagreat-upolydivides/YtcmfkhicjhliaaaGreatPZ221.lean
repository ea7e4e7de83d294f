/- Lemmas, part 22 of 24: References R7, R9, R10: validity, equality of lists, trimming; Reference R10: sums, multiples; Reference R10: products, division; Reference R10: greatest common divisors, powers, values, validity; Reference R9: polynomials and fractions that are made of raw terms; Reference R9: raw terms; Reference R9: fractions that are made of raw terms; Reference R10: polynomials that are made of raw fractions; The law functions of chapter 10: made, number, x, over; UpolyRing under sanity; Packages mpoly, mgcd, frac in several variables: division by 1, quotients by 1. No condition. -/
import Derived.Test.YtcmfkhicjhliaaaGreatPZ220
set_option maxRecDepth 65536
set_option linter.unusedSimpArgs false
set_option linter.unusedVariables false
set_option linter.unusedSectionVars false
namespace Go.AM
open Alg
open Go.Proofs
open Classical
theorem ua {p:PQ} {h:Nat} (hp:Alg.HB h p) (hb:h<=137438953000) (sp:Alg.sz p<=1048576):Fn Tryz.prog 91 [iUp p] [iB true]:=by
 have hl:=cJ p;refine ak (fn:=Tryz.f91) (by rfl) rfl rfl rfl (by rfl) ?_;simp -dsimp -implicitDefEqProofs only[go_sem];refine aJ [(2,53)] [] [] (fun n τ β ε=>∃ i:Nat,n=(U p).length-i/\i<=(U p).length/\τ 3 = .i (iN i)) (fun e τ β ε=>e = .exit 0) (U p).length ?_ ?_ ?_
 ·exact⟨0,by omega,by omega,rfl⟩
 ·rintro n τ β ε π hK hKB hKE ⟨i,hn,hi,h3⟩;have k0:τ 0 = .i (iUp p):=(hK 0 rfl).trans rfl;by_cases hA:i<(U p).length
  ·have dA:decide ((i:Int)<((U p).length:Int))=true:=ai (by omega);have gp:(U p)[i]?=some (U p)[i]:=by simp[hA]
   have hN:decide (cr (U p)[i].1)=true:=ai (by
    have:=(il p).uv _ (List.getElem_mem hA);unfold Uv1 at this;unfold cr;omega)
   have hs:decide ((U p)[i].2.num.sign=0)=false:=by rw[bt];exact aj ((il p).nz _ (List.getElem_mem hA))
   simp -dsimp -implicitDefEqProofs only[go_sem,h3,k0,dA,af];refine ao (by rfl) 44 [] false true (by rfl) (by rfl) (by decide +kernel) ?_;simp -dsimp -implicitDefEqProofs only[go_sem,h3,k0];refine av gp ?_;simp -dsimp -implicitDefEqProofs only[go_sem,h3,k0,Int.reduceToNat,Int.reduceLE,ag];refine ar (args':=[iE (U p)[i].1]) rfl (fT _) ?_;simp -dsimp -implicitDefEqProofs only[go_sem,hN,h3,k0];refine av gp ?_;simp -dsimp -implicitDefEqProofs only[go_sem,h3,k0,Int.reduceToNat,Int.reduceLE,ag];refine ar (args':=[iQ (U p)[i].2]) rfl (B0 _ (HB.qb hp (by omega) _ (List.getElem_mem hA))) ?_;simp -dsimp -implicitDefEqProofs only[go_sem,h3,k0];refine av gp ?_;simp -dsimp -implicitDefEqProofs only[go_sem,h3,k0,Int.reduceToNat,Int.reduceLE,ag];refine ar (args':=[iQ (U p)[i].2]) rfl (gP _) ?_;simp -dsimp -implicitDefEqProofs only[go_sem,hs,h3,k0];by_cases hi0:i=0
   ·have d0:decide ((0:Int)<(i:Int))=false:=aj (by omega);simp -dsimp -implicitDefEqProofs only[go_sem,d0,h3]
    repeat(refine And.intro (by omega) ?_)
    exact again ((U p).length-(i+1)) (by omega) ⟨(by(repeat apply am rfl);exact hK),hKB,hKE,i+1,rfl,by omega,rfl⟩
   ·have d0:decide ((0:Int)<(i:Int))=true:=ai (by omega);have ei:(i:Int)-1=((i-1:Nat):Int):=by omega
    have gq:(U p)[i-1]?=some (U p)[i-1]:=ah (by omega);have hgr:decide (0<bO (U p)[i-1].1 (U p)[i].1)=true:=ai ((List.pairwise_iff_getElem.1 (il p).srt) (i-1) i (by omega) hA (by omega));simp -dsimp -implicitDefEqProofs only[go_sem,d0,h3,k0,ei]
    repeat(refine And.intro (by omega) ?_)
    refine av gq ?_;simp -dsimp -implicitDefEqProofs only[go_sem,h3,k0,Int.reduceToNat,Int.reduceLE,ag];refine av gp ?_;simp -dsimp -implicitDefEqProofs only[go_sem,h3,k0,Int.reduceToNat,Int.reduceLE,ag];refine ar (args':=[iE (U p)[i-1].1,iE (U p)[i].1]) rfl (jU _ _) ?_;simp -dsimp -implicitDefEqProofs only[go_sem,hgr,h3]
    repeat(refine And.intro (by omega) ?_)
    exact again ((U p).length-(i+1)) (by omega) ⟨(by(repeat apply am rfl);exact hK),hKB,hKE,i+1,rfl,by omega,rfl⟩
  ·have dA:decide ((i:Int)<((U p).length:Int))=false:=aj (by omega);simp -dsimp -implicitDefEqProofs only[go_sem,h3,k0,dA,af];exact⟨(by(repeat apply am rfl);exact hK),hKB,hKE⟩
 ·rintro e τ β ε π hK hKB hKE rfl;simp -dsimp -implicitDefEqProofs only[go_sem]
theorem BU {f:KQ} (hf:FW f):Fn Tryz.prog 45 [iK f] [iB true]:=by
 obtain⟨a1,a2,a3,a4⟩:=dG hf;obtain⟨n1,n2,n3,n4⟩:=cw f;obtain⟨g,hg,_,_,_,hgl,hG⟩:=zB (N:=1001) (w:=1000) n1 a1 a2 a3 a4 (by omega) (by rw[eJ];exact hf) (by rw[HI];omega);have h1:g=1:=by
  have:=jO hg ⟨Dv.one _,Dv.one _,n3⟩;rwa [jN,yn hgl]at this
 rw[h1]at hG;obtain⟨L,hL⟩:=fu n1;have cL:(U (Alg.nD f))[0]?=some (⟨((Alg.sz (Alg.nD f)-1:Nat):Int),0,0,0⟩,1):=by rw[hL,n2];rfl
 have dl:decide ((0:Int)<((U (Alg.nD f)).length:Int))=true:=ai (by rw[hL];simp);have eq:=oi (p:=1) (q:=1) (cF 0) (cF 0) (by omega) (by omega) (by rw[cf];omega);rw[ai rfl]at eq;refine ak (fn:=Tryz.f45) (by rfl) rfl rfl rfl (by rfl) ?_;simp -dsimp -implicitDefEqProofs only[go_sem,Int.reduceToNat,Int.reduceLE,ag];refine aa (ua a1 (by omega) (by omega)) rfl ?_;simp -dsimp -implicitDefEqProofs only[go_sem,Int.reduceToNat,Int.reduceLE,ag];refine aa (ua a2 (by omega) (by omega)) rfl ?_;simp -dsimp -implicitDefEqProofs only[go_sem,Int.reduceToNat,Int.reduceLE,ag];refine ao (by rfl) 30 [] false true (by rfl) (by rfl) (by decide +kernel) ?_;simp -dsimp -implicitDefEqProofs only[go_sem,Int.reduceToNat,Int.reduceLE,ag,af,dl];refine av cL ?_;simp -dsimp -implicitDefEqProofs only[go_sem,Int.reduceToNat,Int.reduceLE,ag];refine an (cY 1 (by decide)) ?_;simp -dsimp -implicitDefEqProofs only[go_sem,Int.reduceToNat,Int.reduceLE,ag];refine ar (args':=[iQ 1,iQ 1]) rfl (IK 1 1 (oo (n:=1) (by decide) _ (by decide)) (oo (n:=1) (by decide) _ (by decide))) ?_;have e0:decide ((1-1:Rat).num.sign=0)=true:=by rw[bt];exact ai (by rw[Rat.sub_self])
 simp -dsimp -implicitDefEqProofs only[go_sem,Int.reduceToNat,Int.reduceLE,ag,e0];refine aa hG rfl ?_;simp -dsimp -implicitDefEqProofs only[go_sem,Int.reduceToNat,Int.reduceLE,ag];refine an ub ?_;simp -dsimp -implicitDefEqProofs only[go_sem,Int.reduceToNat,Int.reduceLE,ag];refine an eq ?_;simp -dsimp -implicitDefEqProofs only[go_sem]
theorem xb (a b:List KQ) (hl:a.length<=1099511627776) (hx:∀ f∈a,FW f) (hy:∀ f∈b,FW f):Fn Tryz.prog 112 [kl a,kl b] [iB (decide (a=b))]:=by
 refine ak (fn:=Tryz.f112) (by rfl) rfl rfl rfl (by rfl) ?_;by_cases hab:a.length=b.length
 ·have e1:decide ((a.length:Int)=(b.length:Int))=true:=ai (by omega);simp -dsimp -implicitDefEqProofs only[go_sem,e1,af];refine aJ [(4,5),(11,26)] [] [] (fun n τ β ε=>∃ i:Nat,n=a.length-i/\i<=a.length/\a.take i=b.take i/\τ 5 = .i (iN i))
   (fun e τ β ε=>(e = .exit 0/\a=b)\/(e = .ret/\¬ a=b/\τ 4 = .i (.c (.v (.bool false))))) a.length ?_ ?_ ?_
  ·exact⟨0,by omega,by omega,rfl,rfl⟩
  ·rintro n τ β ε π hK hKB hKE ⟨i,hn,hi,he,h5⟩;have k0:τ 0 = .i (kl a):=(hK 0 rfl).trans rfl;have k1:τ 1 = .i (kl b):=(hK 1 rfl).trans rfl;by_cases hlt:i<a.length
   ·have dA:decide ((i:Int)<(a.length:Int))=true:=ai (by omega);have hlb:i<b.length:=by omega
    have ga:a[i]?=some a[i]:=by simp[hlt]
    have gb:b[i]?=some b[i]:=by simp[hlb]
    simp -dsimp -implicitDefEqProofs only[go_sem,h5,k0,dA,af];refine ao (by rfl) 10 [] false true (by rfl) (by rfl) (by decide +kernel) ?_;simp -dsimp -implicitDefEqProofs only[go_sem,h5,k0,k1];refine av ga ?_;simp -dsimp -implicitDefEqProofs only[go_sem,h5,k0,k1];refine av gb ?_;simp -dsimp -implicitDefEqProofs only[go_sem,h5,k0,k1];refine ar (args':=[iK a[i],iK b[i]]) rfl (ui (hx _ (List.getElem_mem _)) (hy _ (List.getElem_mem _))) ?_;by_cases hc:a[i]=b[i]
    ·have e2:decide (a[i]=b[i])=true:=ai hc;simp -dsimp -implicitDefEqProofs only[go_sem,e2,h5]
     repeat(refine And.intro (by omega) ?_)
     refine again (a.length-(i+1)) (by omega) ⟨(by(repeat apply am rfl);exact hK),hKB,hKE,i+1,rfl,by omega,?_,rfl⟩
     rw[ab hlt,ab hlb,he,hc]
    ·have e2:decide (a[i]=b[i])=false:=aj hc;simp -dsimp -implicitDefEqProofs only[go_sem,e2];exact⟨(by(repeat apply am rfl);exact hK),hKB,hKE,fun e=>hc (by simp[e])⟩
   ·have dA:decide ((i:Int)<(a.length:Int))=false:=aj (by omega);obtain rfl:i=a.length:=by omega
    simp -dsimp -implicitDefEqProofs only[go_sem,h5,k0,dA,af];have:a=b:=by rw[List.take_length,List.take_of_length_le (by omega)]at he;exact he
    exact⟨(by(repeat apply am rfl);exact hK),hKB,hKE,this⟩
  ·rintro e τ β ε π hK hKB hKE h;rcases h with⟨rfl,h⟩|⟨rfl,h,h6⟩
   ·simp -dsimp -implicitDefEqProofs only[go_sem,h]
   ·simp -dsimp -implicitDefEqProofs only[go_sem,h,h6]
 ·have e1:decide ((a.length:Int)=(b.length:Int))=false:=aj (by omega);simp -dsimp -implicitDefEqProofs only[go_sem,e1,af];have:¬ a=b:=fun e=>hab (by rw[e]);rw[aj this]
theorem ue (a b:List KQ) (hl:a.length<=1099511627776) (hx:∀ f∈a,FW f) (hy:∀ f∈b,FW f):Fn Tryz.prog 15 [kl a,kl b] [iB (decide (a=b))]:=by
 have h66:Fn Tryz.prog 66 [kl a,kl b] [iB (decide (a=b))]:=by
  refine ak (fn:=Tryz.f66) (by rfl) rfl rfl rfl (by rfl) ?_;simp -dsimp -implicitDefEqProofs only[go_sem];refine an (xb a b hl hx hy) ?_;simp -dsimp -implicitDefEqProofs only[go_sem]
 refine ak (fn:=Tryz.f15) (by rfl) rfl rfl rfl (by rfl) ?_;simp -dsimp -implicitDefEqProofs only[go_sem];refine an h66 ?_;simp -dsimp -implicitDefEqProofs only[go_sem]
theorem mP (l:List KQ) (hl:l.length<=1048576):Fn Tryz.prog 61 [kl l] [kl (dc l)]:=by
 refine ak (fn:=Tryz.f61) (by rfl) rfl rfl rfl (by rfl) ?_;simp -dsimp -implicitDefEqProofs only[go_sem,af];refine aJ [(3,3),(6,17)] [] [] (fun n τ β ε=>∃ t:Nat,n=t/\t<=l.length/\(∀ j (hj:j<l.length),t<=j->l[j]=0)/\τ 3 = .i (iN t))
  (fun e τ β ε=>e = .exit 0/\∃ t:Nat,t<=l.length/\dc l=l.take t/\τ 3 = .i (iN t)) l.length ?_ ?_ ?_
 ·exact⟨l.length,rfl,ae _,fun j hj h=>by omega,rfl⟩
 ·rintro n τ β ε π hK hKB hKE ⟨t,hn,ht,hz,h3⟩;have k0:τ 0 = .i (kl l):=(hK 0 rfl).trans rfl;by_cases ht0:t=0
  ·have dA:decide ((0:Int)<(t:Int))=false:=aj (by omega);simp -dsimp -implicitDefEqProofs only[go_sem,h3,dA];exact⟨(by(repeat apply am rfl);exact hK),hKB,hKE,t,ht,gD ht hz (fun _ h=>by omega),rfl⟩
  ·have dA:decide ((0:Int)<(t:Int))=true:=ai (by omega);have ei:(t:Int)-1=((t-1:Nat):Int):=by omega
   have gl:l[t-1]?=some l[t-1]:=ah (by omega);simp -dsimp -implicitDefEqProofs only[go_sem,h3,k0,dA,ei]
   repeat(refine And.intro (by omega) ?_)
   refine av gl ?_;simp -dsimp -implicitDefEqProofs only[go_sem,h3];refine ar (args':=[iK l[t-1]]) rfl (qn _) ?_;by_cases hc:l[t-1]=0
   ·have e2:decide (l[t-1]=0)=true:=ai hc;simp -dsimp -implicitDefEqProofs only[go_sem,e2,h3,ei]
    repeat(refine And.intro (by omega) ?_)
    refine again (t-1) (by omega) ⟨(by(repeat apply am rfl);exact hK),hKB,hKE,t-1,rfl,by omega,fun j hj h=>?_,rfl⟩
    by_cases e:j=t-1
    ·subst e;exact hc
    ·exact hz j hj (by omega)
   ·have e2:decide (l[t-1]=0)=false:=aj hc;simp -dsimp -implicitDefEqProofs only[go_sem,e2];exact⟨(by(repeat apply am rfl);exact hK),hKB,hKE,t,ht,gD ht hz (fun _ _=>hc),h3⟩
 ·rintro e τ β ε π hK hKB hKE ⟨rfl,t,ht,he,h3⟩;have k0:τ 0 = .i (kl l):=(hK 0 rfl).trans rfl;simp -dsimp -implicitDefEqProofs only[go_sem,h3,k0,Int.reduceToNat,Int.reduceLE,ag,af];refine⟨ht,fun r hr=>?_,by omega,?_⟩
  ·obtain⟨f,-,rfl⟩:=List.mem_map.1 (List.mem_of_mem_take hr);rfl
  ·rw[List.take_of_length_le (by simp),he,<-List.map_take]
theorem ul (l:List KQ) (i:Int):Fn Tryz.prog 72 [kl l,iN i] [iK (if i<0 then 0 else l.getD i.toNat 0)]:=by
 refine ak (fn:=Tryz.f72) (by rfl) rfl rfl rfl (by rfl) ?_;by_cases h0:i<0
 ·have d0:decide (i<0)=true:=ai h0;simp -dsimp -implicitDefEqProofs only[go_sem,d0];refine an (gO 0 (by decide)) ?_;simp -dsimp -implicitDefEqProofs only[go_sem];rw[if_pos h0,show kz 0=0 from fe]
 ·have d0:decide (i<0)=false:=aj h0;rw[if_neg h0];by_cases h1:i<l.length
  ·have d1:decide ((l.length:Int)<=i)=false:=aj (by omega);obtain⟨j,rfl⟩:∃ j:Nat,i=j:=⟨i.toNat,by omega⟩;have gl:l[j]?=some l[j]:=ah (by omega);simp -dsimp -implicitDefEqProofs only[go_sem,d0,d1,af];refine av gl ?_;simp -dsimp -implicitDefEqProofs only[go_sem];rw[List.getD_eq_getElem?_getD,gl];rfl
  ·have d1:decide ((l.length:Int)<=i)=true:=ai (by omega);simp -dsimp -implicitDefEqProofs only[go_sem,d0,d1,af];refine an (gO 0 (by decide)) ?_;simp -dsimp -implicitDefEqProofs only[go_sem];rw[show kz 0=0 from fe,List.getD_eq_getElem?_getD,List.getElem?_eq_none (by omega)];rfl
theorem rS {f:Nat->KQ} {n:Nat} {r:KP} (h1:∀ i,i<n->f i=r.c i) (h2:Alg.sz r<=n):dc ((List.range n).map f)=Alg.cl r:=by
 rw[fW];congr 1;refine Alg.P.ext fun i=>?_;rw[qZ];by_cases h:i<n
 ·rw[<-h1 i h];simp[List.getD,h]
 ·rw[au (by omega:Alg.sz r<=i)];simp[List.getD,h]
theorem fY (f:Nat->KQ) (n:Nat):((List.range n).map f).length=n:=by simp
theorem mg (f:Nat->KQ) (n:Nat):(List.range (n+1)).map f=(List.range n).map f++[f n]:=by rw[List.range_succ,List.map_append];rfl
theorem Ks (p:KP) (i:Nat):(if((i:Nat):Int)<0 then(0:KQ)else(Alg.cl p).getD ((i:Nat):Int).toNat 0)=p.c i:=by
 rw[if_neg (by omega),Int.toNat_natCast,li]
theorem Mp {p q:KP} {w v:Nat} (hp:PW w p) (hq:PW v q) (hb:w+v+1<=1000) (hs:Alg.sz p<=1000) (hs':Alg.sz q<=1000):Fn Tryz.prog 21 [ku p,ku q] [ku (p+q)]:=by
 have lp:=aD p;have lq:=aD q;refine ak (fn:=Tryz.f21) (by rfl) rfl rfl rfl (by rfl) ?_;simp -dsimp -implicitDefEqProofs only[go_sem];refine bL 5 7 2 (rs:=[]) rfl (by simp) ?_;refine aS [(5,6),(8,29)] [] [(7,7),(29,29)] (fun n τ β ε=>∃ i:Nat,n=max (Alg.sz p) (Alg.sz q)-i/\i<=max (Alg.sz p) (Alg.sz q)/\τ 6 = .i (iN i)/\Own 2 (((List.range i).map fun j=>p.c j+q.c j).map kr) 5 7 τ ε)
  (fun e τ β ε=>e = .exit 0/\Own 2 (((List.range (max (Alg.sz p) (Alg.sz q))).map fun j=>p.c j+q.c j).map kr) 5 7 τ ε) (max (Alg.sz p) (Alg.sz q)) ?_ ?_ ?_
 ·exact⟨0,by omega,by omega,rfl,Own.mk (g:=1) (mm:=false) (by omega) rfl rfl rfl⟩
 ·rintro n τ β ε π hK hKB hKE ⟨i,hn,hi,h6,g,mm,hg,h5,h7⟩;rw[af,fY]at h5;have k0:τ 0 = .i (ku p):=(hK 0 rfl).trans rfl;have k1:τ 1 = .i (ku q):=(hK 1 rfl).trans rfl;by_cases hlt:i<max (Alg.sz p) (Alg.sz q)
  ·have go:∀ K:Prop,K->K:=fun _ h=>h;have c1:=ul (Alg.cl p) (i:Int);have c2:=ul (Alg.cl q) (i:Int);rw[Ks]at c1 c2;by_cases hip:i<Alg.sz p
   ·have dA:decide ((i:Int)<(Alg.sz p:Int))=true:=ai (by omega);simp -dsimp -implicitDefEqProofs only[go_sem,h6,k0,k1,dA,af,lp,lq,h5];refine an c1 ?_;simp -dsimp -implicitDefEqProofs only[go_sem,h6,k0,k1];refine an c2 ?_;simp -dsimp -implicitDefEqProofs only[go_sem,h6,k0,k1];refine aa (un ((hp i).mono (by omega)) ((hq i).mono (by omega)) (((hp i).add (hq i)).mono (by omega))) rfl ?_;simp -dsimp -implicitDefEqProofs only[go_sem,h5,h7,hg,h6,af,List.length_range]
    repeat(refine And.intro (by omega) ?_)
    refine aH (max (Alg.sz p) (Alg.sz q)-(i+1)) 5 29 7 (by omega) rfl rfl (by omega) (by decide) ⟨(by(repeat apply am rfl);exact hK),hKB,(by(repeat apply am rfl);exact hKE),i+1,rfl,by omega,rfl,?_⟩
    exact Own.mk2 (Nat.succ_pos _) (by simp -dsimp -implicitDefEqProofs only[go_sem];rfl) (by simp -dsimp -implicitDefEqProofs only[go_sem];rfl) (by simp) (by rw[mg,List.map_append];rfl)
   ·have dA:decide ((i:Int)<(Alg.sz p:Int))=false:=aj (by omega);have dB:decide ((i:Int)<(Alg.sz q:Int))=true:=ai (by omega);simp -dsimp -implicitDefEqProofs only[go_sem,h6,k0,k1,dA,dB,af,lp,lq,h5];refine an c1 ?_;simp -dsimp -implicitDefEqProofs only[go_sem,h6,k0,k1];refine an c2 ?_;simp -dsimp -implicitDefEqProofs only[go_sem,h6,k0,k1];refine aa (un ((hp i).mono (by omega)) ((hq i).mono (by omega)) (((hp i).add (hq i)).mono (by omega))) rfl ?_;simp -dsimp -implicitDefEqProofs only[go_sem,h5,h7,hg,h6,af,List.length_range]
    repeat(refine And.intro (by omega) ?_)
    refine aH (max (Alg.sz p) (Alg.sz q)-(i+1)) 5 29 7 (by omega) rfl rfl (by omega) (by decide) ⟨(by(repeat apply am rfl);exact hK),hKB,(by(repeat apply am rfl);exact hKE),i+1,rfl,by omega,rfl,?_⟩
    exact Own.mk2 (Nat.succ_pos _) (by simp -dsimp -implicitDefEqProofs only[go_sem];rfl) (by simp -dsimp -implicitDefEqProofs only[go_sem];rfl) (by simp) (by rw[mg,List.map_append];rfl)
  ·obtain rfl:i=max (Alg.sz p) (Alg.sz q):=by omega
   have dA:decide (((max (Alg.sz p) (Alg.sz q):Nat):Int)<(Alg.sz p:Int))=false:=aj (by omega);have dB:decide (((max (Alg.sz p) (Alg.sz q):Nat):Int)<(Alg.sz q:Int))=false:=aj (by omega);simp -dsimp -implicitDefEqProofs only[go_sem,h6,k0,k1,dA,dB,af,lp,lq];exact⟨(by(repeat apply am rfl);exact hK),hKB,hKE,Own.mk hg h5 (by simp) h7⟩
 ·rintro e τ β ε π hK hKB hKE ⟨rfl,g,mm,hg,h5,h7⟩;rw[af,fY]at h5;refine⟨_,aY.freeze _ 7,?_⟩;simp -dsimp -implicitDefEqProofs only[go_sem,h5,h7,hg];refine ar (args':=[kl ((List.range (max (Alg.sz p) (Alg.sz q))).map fun j=>p.c j+q.c j)]) (by rw[List.take_of_length_le (by simp)]) (mP _ (by rw[fY];omega)) ?_;simp -dsimp -implicitDefEqProofs only[go_sem];rw[rS (r:=p+q) (fun i _=>(bK p q i).symm) (cT (by omega) (by omega))]
theorem Lj {p:KP} {c:KQ} {w v:Nat} (hp:PW w p) (hc:FB v c) (hb:w+v<=1000) (hs:Alg.sz p<=1000):Fn Tryz.prog 36 [ku p,iK c] [ku (p*Alg.C c)]:=by
 have lp:=aD p;refine ak (fn:=Tryz.f36) (by rfl) rfl rfl rfl (by rfl) ?_;simp -dsimp -implicitDefEqProofs only[go_sem];refine bL 5 7 2 (rs:=[]) rfl (by simp) ?_;refine aS [(5,6),(8,22)] [] [(7,7),(22,22)] (fun n τ β ε=>∃ i:Nat,n=Alg.sz p-i/\i<=Alg.sz p/\τ 6 = .i (iN i)/\Own 2 (((List.range i).map fun j=>p.c j*c).map kr) 5 7 τ ε)
  (fun e τ β ε=>e = .exit 0/\Own 2 (((List.range (Alg.sz p)).map fun j=>p.c j*c).map kr) 5 7 τ ε) (Alg.sz p) ?_ ?_ ?_
 ·exact⟨0,by omega,by omega,rfl,Own.mk (g:=1) (mm:=false) (by omega) rfl rfl rfl⟩
 ·rintro n τ β ε π hK hKB hKE ⟨i,hn,hi,h6,g,mm,hg,h5,h7⟩;rw[af,fY]at h5;have k0:τ 0 = .i (ku p):=(hK 0 rfl).trans rfl;have k3:τ 3 = .bp 3 1 0:=(hK 3 rfl).trans rfl;have b3:β 3=⟨1,kr c⟩:=(hKB 3 rfl).trans rfl;by_cases hlt:i<Alg.sz p
  ·have dA:decide ((i:Int)<(Alg.sz p:Int))=true:=ai (by omega);have gp:(Alg.cl p)[i]?=some (p.c i):=by rw[ah (by omega),ft]
   simp -dsimp -implicitDefEqProofs only[go_sem,h6,k0,k3,dA,af,lp,h5,b3];refine ao (by rfl) 10 [] true false (by rfl) (by rfl) (by decide +kernel) ?_;simp -dsimp -implicitDefEqProofs only[go_sem,h6,k0,k3,dA,af,lp,h5,b3];refine av gp ?_;simp -dsimp -implicitDefEqProofs only[go_sem,h6,k0,k3,dA,af,lp,h5,b3,Int.reduceToNat,Int.reduceLE,ag];refine aa (ug ((hp i).mono (by omega)) (hc.mono (by omega)) (((hp i).mul hc).mono (by omega))) rfl ?_;simp -dsimp -implicitDefEqProofs only[go_sem,h5,h7,hg,h6,af,List.length_range]
   repeat(refine And.intro (by omega) ?_)
   refine aH (Alg.sz p-(i+1)) 5 22 7 (by omega) rfl rfl (by omega) (by decide) ⟨(by(repeat apply am rfl);exact hK),hKB,(by(repeat apply am rfl);exact hKE),i+1,rfl,by omega,rfl,?_⟩
   exact Own.mk2 (Nat.succ_pos _) (by simp -dsimp -implicitDefEqProofs only[go_sem];rfl) (by simp -dsimp -implicitDefEqProofs only[go_sem];rfl) (by simp) (by rw[mg,List.map_append];rfl)
  ·obtain rfl:i=Alg.sz p:=by omega
   have dA:decide ((Alg.sz p:Int)<(Alg.sz p:Int))=false:=aj (by omega);simp -dsimp -implicitDefEqProofs only[go_sem,h6,k0,dA,af,lp];exact⟨(by(repeat apply am rfl);exact hK),hKB,hKE,Own.mk hg h5 (by simp) h7⟩
 ·rintro e τ β ε π hK hKB hKE ⟨rfl,g,mm,hg,h5,h7⟩;rw[af,fY]at h5;refine⟨_,aY.freeze _ 7,?_⟩;simp -dsimp -implicitDefEqProofs only[go_sem,h5,h7,hg];refine ar (args':=[kl ((List.range (Alg.sz p)).map fun j=>p.c j*c)]) (by rw[List.take_of_length_le (by simp)]) (mP _ (by rw[fY];omega)) ?_;simp -dsimp -implicitDefEqProofs only[go_sem];rw[rS (r:=p*Alg.C c) (fun i _=>(nf ..).symm) (cm fun i hi=>by rw[nf,au hi,zero_mul])]
theorem RKDiff {p:KP} {w:Nat} (hp:PW w p) (hb:w+10<=1000) (hs:Alg.sz p<=1000):Fn Tryz.prog 32 [ku p] [ku (der p)]:=by
 have lp:=aD p;refine ak (fn:=Tryz.f32) (by rfl) rfl rfl rfl (by rfl) ?_;simp -dsimp -implicitDefEqProofs only[go_sem];refine bL 3 5 2 (rs:=[]) rfl (by simp) ?_;refine aS [(3,4),(6,21)] [] [(5,5),(21,21)] (fun n τ β ε=>∃ i:Nat,n=Alg.sz p-i/\(i=0\/i+1<=Alg.sz p)/\τ 4 = .i (iN (i+1:Nat))/\Own 2 (((List.range i).map fun j=>kn (j+1:Nat)*p.c (j+1)).map kr) 3 5 τ ε)
  (fun e τ β ε=>e = .exit 0/\Own 2 (((List.range (Alg.sz p-1)).map fun j=>kn (j+1:Nat)*p.c (j+1)).map kr) 3 5 τ ε) (Alg.sz p) ?_ ?_ ?_
 ·exact⟨0,by omega,.inl rfl,rfl,Own.mk (g:=1) (mm:=false) (by omega) rfl rfl rfl⟩
 ·rintro n τ β ε π hK hKB hKE ⟨i,hn,hi,h4,g,mm,hg,h3,h5⟩;rw[af,fY]at h3;have k0:τ 0 = .i (ku p):=(hK 0 rfl).trans rfl;by_cases hlt:i+1<Alg.sz p
  ·have dA:decide (((i+1:Nat):Int)<(Alg.sz p:Int))=true:=ai (by omega);have gp:(Alg.cl p)[i+1]?=some (p.c (i+1)):=by rw[ah (by omega),ft]
   have hw:FB 10 (kn ((i+1:Nat):Int)):=jD (by rw[show(2:Nat) ^ 10=1024 from rfl];omega);simp -dsimp -implicitDefEqProofs only[go_sem,h4,k0,dA,af,lp,h3];refine ao (by rfl) 11 [] true false (by rfl) (by rfl) (by decide +kernel) ?_;simp -dsimp -implicitDefEqProofs only[go_sem,h4,k0,dA,af,lp,h3];refine an (gO ((i+1:Nat):Int) (by omega)) ?_;simp -dsimp -implicitDefEqProofs only[go_sem,h4,k0,dA,af,lp,h3];refine av gp ?_;simp -dsimp -implicitDefEqProofs only[go_sem,h4,k0,dA,af,lp,h3];refine ar (args':=[iK (kn ((i+1:Nat):Int)),iK (p.c (i+1))]) rfl (ug (hw.mono (by omega)) ((hp _).mono (by omega)) ((hw.mul (hp _)).mono (by omega))) ?_;simp -dsimp -implicitDefEqProofs only[go_sem,h3,h5,hg,h4,af,List.length_range]
   repeat(refine And.intro (by omega) ?_)
   refine aH (Alg.sz p-(i+1)) 3 21 5 (by omega) rfl rfl (by omega) (by decide) ⟨(by(repeat apply am rfl);exact hK),hKB,(by(repeat apply am rfl);exact hKE),i+1,rfl,by omega,rfl,?_⟩
   exact Own.mk2 (Nat.succ_pos _) (by simp -dsimp -implicitDefEqProofs only[go_sem];rfl) (by simp -dsimp -implicitDefEqProofs only[go_sem];rfl) (by simp) (by rw[mg,List.map_append];rfl)
  ·have dA:decide (((i+1:Nat):Int)<(Alg.sz p:Int))=false:=aj (by omega);have ei:Alg.sz p-1=i:=by omega
   simp -dsimp -implicitDefEqProofs only[go_sem,h4,k0,dA,af,lp];rw[ei];exact⟨(by(repeat apply am rfl);exact hK),hKB,hKE,Own.mk hg h3 (by simp) h5⟩
 ·rintro e τ β ε π hK hKB hKE ⟨rfl,g,mm,hg,h3,h5⟩;rw[af,fY]at h3;refine⟨_,aY.freeze _ 5,?_⟩;simp -dsimp -implicitDefEqProofs only[go_sem,h3,h5,hg];refine ar (args':=[kl ((List.range (Alg.sz p-1)).map fun j=>kn (j+1:Nat)*p.c (j+1))]) (by rw[List.take_of_length_le (by simp)]) (mP _ (by rw[fY];omega)) ?_;simp -dsimp -implicitDefEqProofs only[go_sem];have ht:=rS (r:=der p) (f:=fun j=>kn ((j+1:Nat):Int)*p.c (j+1)) (n:=Alg.sz p-1) (fun i _=>by rw[jt,CP]) (cm fun i hi=>by rw[jt,au (by omega),mul_zero]);rw[ht]
theorem Od:Fn Tryz.prog 73 [iN 0] [iK 0]:=by
 have:=gO 0 (by decide);rwa [show kz 0=0 from fe]at this
theorem Lk {p:KP} (n:Nat) (hn:n<=1000) (hs:Alg.sz p<=1000):Fn Tryz.prog 71 [ku p,iN n] [ku (mon n 1*p)]:=by
 have lp:=aD p;refine ak (fn:=Tryz.f71) (by rfl) rfl rfl rfl (by rfl) ?_;simp -dsimp -implicitDefEqProofs only[go_sem];refine bL 5 7 2 (rs:=[]) rfl (by simp) ?_;refine aS [(5,6),(8,16)] [] [(7,7),(16,16)] (fun m τ β ε=>∃ i:Nat,m=n-i/\i<=n/\τ 6 = .i (iN i)/\Own 2 (((List.range i).map fun _=>(0:KQ)).map kr) 5 7 τ ε)
  (fun e τ β ε=>e = .exit 0/\Own 2 (((List.range n).map fun _=>(0:KQ)).map kr) 5 7 τ ε) n ?_ ?_ ?_
 ·exact⟨0,by omega,by omega,rfl,Own.mk (g:=1) (mm:=false) (by omega) rfl rfl rfl⟩
 ·rintro m τ β ε π hK hKB hKE ⟨i,hm,hi,h6,g,mm,hg,h5,h7⟩;rw[af,fY]at h5;have k1:τ 1 = .i (iN n):=(hK 1 rfl).trans rfl;by_cases hlt:i<n
  ·have dA:decide ((i:Int)<(n:Int))=true:=ai (by omega);simp -dsimp -implicitDefEqProofs only[go_sem,h6,k1,dA,h5];refine an Od ?_;simp -dsimp -implicitDefEqProofs only[go_sem,h5,h7,hg,h6,af,List.length_range]
   repeat(refine And.intro (by omega) ?_)
   refine aH (n-(i+1)) 5 16 7 (by omega) rfl rfl (by omega) (by decide) ⟨(by(repeat apply am rfl);exact hK),hKB,(by(repeat apply am rfl);exact hKE),i+1,rfl,by omega,rfl,?_⟩
   exact Own.mk2 (Nat.succ_pos _) (by simp -dsimp -implicitDefEqProofs only[go_sem];rfl) (by simp -dsimp -implicitDefEqProofs only[go_sem];rfl) (by simp) (by rw[mg,List.map_append];rfl)
  ·obtain rfl:i=n:=by omega
   have dA:decide ((i:Int)<(i:Int))=false:=aj (by omega);simp -dsimp -implicitDefEqProofs only[go_sem,h6,k1,dA];exact⟨(by(repeat apply am rfl);exact hK),hKB,hKE,Own.mk hg h5 (by simp) h7⟩
 ·rintro e τ β ε π hK hKB hKE ⟨rfl,g,mm,hg,h5,h7⟩;rw[af,fY]at h5;have k0:τ 0 = .i (ku p):=(hK 0 rfl).trans rfl;refine⟨_,aY.refl _,?_⟩;simp -dsimp -implicitDefEqProofs only[go_sem,h5,h7,hg,k0,af,List.length_range,lp];refine⟨by omega,?_⟩;refine ar (args':=[kl ((List.range n).map (fun _=>(0:KQ))++Alg.cl p)]) (by rw[List.take_of_length_le (by simp[lp]),<-List.map_append]) (mP _ (by simp[lp];omega)) ?_;simp -dsimp -implicitDefEqProofs only[go_sem];have e:Alg.pl ((List.range n).map (fun _=>(0:KQ))++Alg.cl p)=mon n 1*p:=Alg.P.ext fun i=>by
   rw[qZ,bY,List.getD_eq_getElem?_getD];by_cases h:n<=i
   ·rw[if_pos h,one_mul,List.getElem?_append_right (by simp;exact h),<-li,List.getD_eq_getElem?_getD];simp
   ·rw[if_neg h,List.getElem?_append_left (by simp;omega)];simp[show i<n by omega]
  rw[fW,e]
theorem OP (p:KP) (n:Nat):Alg.sz (tk p n)<=n:=cm fun i hi=>by rw[Ec,if_neg (by omega)]
theorem O3 (n:Nat) (c:KQ):mon n 1*Alg.C c=mon n c:=by
 rw[<-cH,du,Nat.add_zero,one_mul]
theorem Mo {p q:KP} {w v:Nat} (hp:PW w p) (hq:PW v q) (hb:Alg.sz q*(v+w+1)<=1000) (hs:Alg.sz p+Alg.sz q<=1000):Fn Tryz.prog 19 [ku p,ku q] [ku (p*q)]:=by
 have lq:=aD q;refine ak (fn:=Tryz.f19) (by rfl) rfl rfl rfl (by rfl) ?_;simp -dsimp -implicitDefEqProofs only[go_sem];refine ni (aY.imm _ 5 (x:=kl []) rfl) ?_;refine aJ [(5,6),(8,23)] [] [] (fun n τ β ε=>∃ i:Nat,n=Alg.sz q-i/\i<=Alg.sz q/\τ 6 = .i (iN i)/\τ 5 = .i (ku (tk q i*p)))
  (fun e τ β ε=>e = .exit 0/\τ 5 = .i (ku (p*q))) (Alg.sz q) ?_ ?_ ?_
 ·exact⟨0,by omega,by omega,rfl,by simp -dsimp -implicitDefEqProofs only[go_sem];rw[kI,zero_mul,f7]⟩
 ·rintro n τ β ε π hK hKB hKE ⟨i,hn,hi,h6,h5⟩;have k0:τ 0 = .i (ku p):=(hK 0 rfl).trans rfl;have k1:τ 1 = .i (ku q):=(hK 1 rfl).trans rfl;by_cases hlt:i<Alg.sz q
  ·have dA:decide ((i:Int)<(Alg.sz q:Int))=true:=ai (by omega);have gq:(Alg.cl q)[i]?=some (q.c i):=by rw[ah (by omega),ft]
   have hm:(i+1)*(v+w+1)<=Alg.sz q*(v+w+1):=Nat.mul_le_mul_right _ (by omega);have hm1:1*(v+w+1)<=Alg.sz q*(v+w+1):=Nat.mul_le_mul_right _ (by omega);have e1:mon i 1*(p*Alg.C (q.c i))=mon i (q.c i)*p:=by rw[mul_comm p,<-mul_assoc,O3]
   have e2:tk q i*p+mon i (q.c i)*p=tk q (i+1)*p:=by rw[m5,add_mul]
   have s1:=aM (tk q i) p;have s2:=OP q i;have s3:Alg.sz (p*Alg.C (q.c i))<=Alg.sz p:=cm fun j hj=>by rw[nf,au hj,zero_mul]
   have s4:Alg.sz (mon i (q.c i)*p)<=i+Alg.sz p:=cm fun j hj=>by
    rw[bY];split
    ·rw[au (p:=p) (by omega),mul_zero]
    ·rfl
   have ad:=Mp (Ch hq hp i) (vc (i:=i) (hq i) hp) (by rw[Nat.succ_mul]at hm;omega) (by omega) (by omega);rw[e2]at ad;have ra:=Lk (p:=p*Alg.C (q.c i)) i (by omega) (by omega);rw[e1]at ra;simp -dsimp -implicitDefEqProofs only[go_sem,h6,h5,k0,k1,dA,af,lq];refine av gq ?_;simp -dsimp -implicitDefEqProofs only[go_sem,h6,h5,k0,k1];refine aa (Lj hp (hq i) (by omega) (by omega)) rfl ?_;simp -dsimp -implicitDefEqProofs only[go_sem,h6,h5,k0,k1];refine an ra ?_;simp -dsimp -implicitDefEqProofs only[go_sem,h6,h5,k0,k1];refine an ad ?_;simp -dsimp -implicitDefEqProofs only[go_sem,h6]
   repeat(refine And.intro (by omega) ?_)
   exact again (Alg.sz q-(i+1)) (by omega) ⟨(by(repeat apply am rfl);exact hK),hKB,hKE,i+1,rfl,by omega,rfl,rfl⟩
  ·obtain rfl:i=Alg.sz q:=by omega
   have dA:decide ((Alg.sz q:Int)<(Alg.sz q:Int))=false:=aj (by omega);rw[rU (ae _),mul_comm]at h5;simp -dsimp -implicitDefEqProofs only[go_sem,h6,k1,dA,af,lq];exact⟨(by(repeat apply am rfl);exact hK),hKB,hKE,h5⟩
 ·rintro e τ β ε π hK hKB hKE ⟨rfl,h5⟩;simp -dsimp -implicitDefEqProofs only[go_sem,h5]
theorem Oe {p q:KP} {w v:Nat} (hp:PW w p) (hq:PW v q) (hw:w<=1000) (hv:v<=1000) (hs:Alg.sz p<=1000):Fn Tryz.prog 15 [ku p,ku q] [iB (decide (p=q))]:=by
 have:=ue (Alg.cl p) (Alg.cl q) (by rw[aD];omega) (hp.fw hw) (hq.fw hv);have e:decide (Alg.cl p=Alg.cl q)=decide (p=q):=by rw[decide_eq_decide];exact⟨NO,fun h=>by rw[h]⟩
 rwa [e]at this
def wR (w v:Nat):Nat->Nat
 | 0=>w
 | n+1=>2*wR w v n+2*v+1
theorem zA {c:KQ} {w:Nat} (hc:FB w c) (hw:w<=1000):Fn Tryz.prog 22 [iK c] [ku (Alg.X-Alg.C c)]:=by
 have e:Alg.cl (Alg.X-Alg.C c)=[-c,1]:=by
  refine(C9 (l:=[-c,1]) (fun i hi=>?_) (fun i hi=>?_) (fun h=>?_)).symm
  ·match i,hi with
   | 0,_=>show -c=(0:KQ)-c;rw[sub_eq,zero_add]
   | 1,_=>show(1:KQ)=1-0;rw[sub_zero]
  ·match i,hi with
   | i+2,_=>show(0:KQ)-0=0;rw[sub_zero]
  ·exact one_ne
 refine ak (fn:=Tryz.f22) (by rfl) rfl rfl rfl (by rfl) ?_;simp -dsimp -implicitDefEqProofs only[go_sem];refine aa (zx (hc.mono hw)) rfl ?_;simp -dsimp -implicitDefEqProofs only[go_sem];refine an (gO 1 (by decide)) ?_;simp -dsimp -implicitDefEqProofs only[go_sem];have e2:ku (Alg.X-Alg.C c)=kl [-c,1]:=by show kl (Alg.cl _)=_;rw[e]
 rw[e2,show kz 1=1 from fp];rfl
noncomputable def hr (p:KP) (c:KQ):Nat->KQ
 | 0=>0
 | n+1=>hr p c n*c+p.c (Alg.sz p-(n+1))
theorem Dn {p:KP} {w:Nat} (hp:PW w p) (hw:w<=1000) (hs:Alg.sz p<=1000):Fn Tryz.prog 20 [ku p] [iB true]:=by
 have lp:=aD p;refine ak (fn:=Tryz.f20) (by rfl) rfl rfl rfl (by rfl) ?_;simp -dsimp -implicitDefEqProofs only[go_sem];refine aJ [(2,15)] [] [] (fun m τ β ε=>∃ i:Nat,m=Alg.sz p-i/\i<=Alg.sz p/\τ 3 = .i (iN i)) (fun e τ β ε=>e = .exit 0) (Alg.sz p) ?_ ?_ ?_
 ·exact⟨0,by omega,by omega,rfl⟩
 ·rintro m τ β ε π hK hKB hKE ⟨i,hm,hi,h3⟩;have k0:τ 0 = .i (ku p):=(hK 0 rfl).trans rfl;by_cases hlt:i<Alg.sz p
  ·have dA:decide ((i:Int)<(Alg.sz p:Int))=true:=ai (by omega);have gp:(Alg.cl p)[i]?=some (p.c i):=by rw[ah (by omega),ft]
   simp -dsimp -implicitDefEqProofs only[go_sem,h3,k0,dA,af,lp];refine av gp ?_;simp -dsimp -implicitDefEqProofs only[go_sem,h3,k0];refine aa (BU ((hp i).mono hw)) rfl ?_;simp -dsimp -implicitDefEqProofs only[go_sem,h3]
   repeat(refine And.intro (by omega) ?_)
   exact again (Alg.sz p-(i+1)) (by omega) ⟨(by(repeat apply am rfl);exact hK),hKB,hKE,i+1,rfl,by omega,rfl⟩
  ·have dA:decide ((i:Int)<(Alg.sz p:Int))=false:=aj (by omega);simp -dsimp -implicitDefEqProofs only[go_sem,h3,k0,dA,af,lp];exact⟨(by(repeat apply am rfl);exact hK),hKB,hKE⟩
 ·rintro e τ β ε π hK hKB hKE rfl;have k0:τ 0 = .i (ku p):=(hK 0 rfl).trans rfl;by_cases h0:Alg.sz p=0
  ·have d0:decide ((Alg.sz p:Int)=0)=true:=ai (by omega);simp -dsimp -implicitDefEqProofs only[go_sem,k0,af,lp,d0]
  ·have d0:decide ((Alg.sz p:Int)=0)=false:=aj (by omega);have ei:(Alg.sz p:Int)-1=((Alg.sz p-1:Nat):Int):=by omega
   have gp:(Alg.cl p)[Alg.sz p-1]?=some (p.c (Alg.sz p-1)):=by rw[ah (by omega),ft]
   have e0:decide (p.c (Alg.sz p-1)=0)=false:=aj (jJ h0);simp -dsimp -implicitDefEqProofs only[go_sem,k0,af,lp,d0,ei]
   repeat(refine And.intro (by omega) ?_)
   refine av gp ?_;simp -dsimp -implicitDefEqProofs only[go_sem];refine ar (args':=[iK (p.c (Alg.sz p-1))]) rfl (qn _) ?_;simp -dsimp -implicitDefEqProofs only[go_sem,e0]
theorem Km {x m:Tm} {L:List Tm} (h:0<bO x.1 m.1):nE (x::L) m=x::nE L m:=by
 unfold nE;rw[atR,if_pos h];rfl
theorem Kl {x m:Tm} {L:List Tm} (h:¬ 0<bO x.1 m.1):nE (x::L) m=(if(pY m (x::L)).1≠0/\cr m.1 then[(m.1,(pY m (x::L)).1)]else[])++(pY m (x::L)).2:=by
 unfold nE;rw[atR,if_neg h];rfl
theorem Aq {e:Ex} (h:Uv1 e):cr e:=by unfold Uv1 at h;unfold cr;omega
theorem HE {m:Tm} (hm:Uv1 m.1):∀{L:List Tm},Cn L->Cn (nE L m)/\toP (nE L m)=toP L+mon m.1.a.toNat m.2/\∀ t∈nE L m,t.1=m.1\/∃ u∈L,u.1=t.1
 | [],_=>by
  have e:nE [] m=if m.2=0 then[]else[m]:=by
   show(if m.2≠0/\cr m.1 then[(m.1,m.2)]else[])++[]=_
   by_cases h:m.2=0<;>simp[h,Aq hm]
  rw[e];by_cases h:m.2=0
  ·rw[if_pos h,h,i5,cj,add_zero];exact⟨⟨List.Pairwise.nil,by simp,by intro t ht;simp at ht⟩,rfl,by simp⟩
  ·rw[if_neg h,aG,cj,add_zero,zero_add];exact⟨⟨List.pairwise_singleton _ _,by simpa using h,by intro t ht;simp at ht;subst ht;exact hm⟩,rfl,by simp⟩
 | x::L,hc=>by
  have hx:=hc.uv x (by simp);by_cases h:0<bO x.1 m.1
  ·rw[Km h];obtain⟨i1,i2,i3⟩:=HE hm (c8 hc);refine⟨⟨List.pairwise_cons.2 ⟨fun t ht=>?_,i1.srt⟩,fun t ht=>?_,fun t ht=>?_⟩,?_,fun t ht=>?_⟩
   ·rcases i3 t ht with e|⟨u,hu,e⟩
    ·rw[e];exact h
    ·rw[<-e];exact(List.pairwise_cons.1 hc.srt).1 u hu
   ·rcases List.mem_cons.1 ht with rfl|ht
    ·exact hc.nz _ (by simp)
    ·exact i1.nz t ht
   ·rcases List.mem_cons.1 ht with rfl|ht
    ·exact hx
    ·exact i1.uv t ht
   ·rw[aG,aG,i2,add_assoc]
   ·rcases List.mem_cons.1 ht with rfl|ht
    ·exact .inr ⟨_,by simp,rfl⟩
    ·rcases i3 t ht with e|⟨u,hu,e⟩
     ·exact .inl e
     ·exact .inr ⟨u,by simp[hu],e⟩
  ·rw[Kl h];by_cases he:x.1=m.1
   ·rw[show pY m (x::L)=(m.2+x.2,L)from if_pos he];have key:toP (x::L)+mon m.1.a.toNat m.2=mon m.1.a.toNat (m.2+x.2)+toP L:=by
     rw[aG,he,show mon m.1.a.toNat (m.2+x.2)=mon m.1.a.toNat m.2+mon m.1.a.toNat x.2 from wA _ _ _];exact ring [mon m.1.a.toNat x.2,mon m.1.a.toNat m.2,toP L]
    by_cases h0:m.2+x.2=0
    ·simp only[h0,ne_eq,not_true,false_and,if_false,List.nil_append];refine⟨c8 hc,?_,fun t ht => .inr ⟨t,by simp[ht],rfl⟩⟩;rw[key,h0,i5,zero_add]
    ·simp only[ne_eq,h0,not_false_eq_true,Aq hm,and_self,if_true,List.singleton_append];refine⟨⟨List.pairwise_cons.2 ⟨fun t ht=>?_,(c8 hc).srt⟩,fun t ht=>?_,fun t ht=>?_⟩,?_,fun t ht=>?_⟩
     ·show 0<bO m.1 t.1;rw[<-he];exact(List.pairwise_cons.1 hc.srt).1 t ht
     ·rcases List.mem_cons.1 ht with rfl|ht
      ·exact h0
      ·exact(c8 hc).nz t ht
     ·rcases List.mem_cons.1 ht with rfl|ht
      ·exact hm
      ·exact(c8 hc).uv t ht
     ·rw[key,aG]
     ·rcases List.mem_cons.1 ht with rfl|ht
      ·exact .inl rfl
      ·exact .inr ⟨t,by simp[ht],rfl⟩
   ·rw[show pY m (x::L)=(m.2,x::L)from if_neg he];have hlt:0<bO m.1 x.1:=by
     have h1:bO x.1 m.1≠0:=fun e=>he ((i9 _ _).1 e);have h2:=nq x.1 m.1;omega
    by_cases h0:m.2=0
    ·simp only[h0,ne_eq,not_true,false_and,if_false,List.nil_append];exact⟨hc,by rw[i5,add_zero],fun t ht => .inr ⟨t,ht,rfl⟩⟩
    ·simp only[ne_eq,h0,not_false_eq_true,Aq hm,and_self,if_true,List.singleton_append];refine⟨⟨List.pairwise_cons.2 ⟨fun t ht=>?_,hc.srt⟩,fun t ht=>?_,fun t ht=>?_⟩,?_,fun t ht=>?_⟩
     ·show 0<bO m.1 t.1;rcases List.mem_cons.1 ht with rfl|ht
      ·exact hlt
      ·refine(jg hm (hc.uv t (by simp[ht]))).2 ?_;have h3:=(jg hm hx).1 hlt;have h4:=qR hc t ht;omega
     ·rcases List.mem_cons.1 ht with rfl|ht
      ·exact h0
      ·exact hc.nz t ht
     ·rcases List.mem_cons.1 ht with rfl|ht
      ·exact hm
      ·exact hc.uv t ht
     ·rw[aG,add_comm]
     ·rcases List.mem_cons.1 ht with rfl|ht
      ·exact .inl rfl
      ·exact .inr ⟨t,ht,rfl⟩
theorem Ny (p:PQ) {m:Tm} (hm:Uv1 m.1):nE (U p) m=U (p+mon m.1.a.toNat m.2):=by
 obtain⟨h1,h2,_⟩:=HE hm (il p);exact uO h1 (by rw[h2,gy])
theorem sS:∀(L:List Tm) (p:PQ),Uv L->L.foldl nE (U p)=U (p+toP L)
 | [],p,_=>by rw[cj,add_zero];rfl
 | t::L,p,h=>by
  rw[List.foldl_cons,Ny p (h t (by simp)),sS L _ (fun u hu=>h u (by simp[hu])),aG,add_assoc]
theorem CF {L:List Tm} (h:Uv L):mv L=U (toP L):=by
 have:=sS L 0 h;rw[bR,zero_add]at this;exact this
def Sml (t:Tm):Prop:=Uv1 t.1/\t.1.a<=2/\t.2.num.natAbs<=2 ^ 8/\t.2.den<=2 ^ 8
theorem LQ:∀{L:List Tm},(∀ t∈L,Sml t)->Alg.HB (9*L.length) (toP L)/\Alg.sz (toP L)<=3
 | [],_=>⟨Alg.HB.zero _,by rw[cj,ap.2 rfl];omega⟩
 | t::L,h=>by
  obtain⟨h1,h2,h3,h4⟩:=h t (by simp);obtain⟨i1,i2⟩:=LQ (L:=L) fun u hu=>h u (by simp[hu]);rw[aG];unfold Uv1 at h1;refine⟨((Alg.HB.mon _ h3 h4).add i1).mono (by simp only[List.length_cons];omega),cT (cm fun i hi=>by rw[bJ,if_neg (by omega)]) i2⟩
theorem Fu {L:List Tm} (h:∀ t∈L,Sml t) (hl:L.length<=100):Fn Tryz.prog 88 [iM L] [iUp (toP L)]:=by
 have hu:Uv L:=fun t ht=>(h t ht).1;have:=zz L (by omega) (fun t ht=>gB (h t ht).2.2.1 (h t ht).2.2.2 (by omega)) fun i hi=>by
  have hu':Uv (L.take i):=fun t ht=>hu t (List.mem_of_mem_take ht);obtain⟨s1,s2⟩:=LQ (L:=L.take i) fun t ht=>h t (List.mem_of_mem_take ht);rw[CF hu'];have hl':(L.take i).length<=100:=by simp;omega
  exact⟨HB.qb s1 (by omega),by have:=cJ (toP (L.take i));omega⟩
 rwa [CF hu]at this
structure T5 where
 a:Int
 b:Int
 c:Int
 d:Int
 e:Int
def T5.row (t:T5):List C:=[.v (.int .i8 t.a),.v (.int .i8 t.b),.v (.int .i8 t.c),.v (.int .i8 t.d),.v (.int .i8 t.e)]
def T5.ok (t:T5):Prop:=(-128<=t.a/\t.a<128) /\ -128<=t.e/\t.e<128
def T5.tm (t:T5):Tm:=(⟨t.a % 3,0,0,0⟩,(t.e:Rat))
abbrev tl (l:List T5):IV := .c (.lst (l.map T5.row))
theorem T5.sml {t:T5} (h:t.ok):Sml t.tm:=by
 unfold T5.ok at h;refine⟨⟨?_,rfl,rfl,rfl⟩,?_,?_,?_⟩
 ·show 0<=t.a % 3;omega
 ·show t.a % 3<=2;omega
 ·show(t.e:Rat).num.natAbs<=_;rw[Rat.num_intCast];omega
 ·show(t.e:Rat).den<=_;rw[Rat.den_intCast];decide
noncomputable def lH (l:List T5) (n:Nat):PQ:=toP ((l.take n).map T5.tm)
theorem wr64 {n:Int} (h : -9223372036854775808<=n/\n<9223372036854775808):IntKind.wrap .i64 n=n:=by
 simp[IntKind.wrap,IntKind.bits,IntKind.signed];omega
def tmR (l:List T5) (i:Nat):List (List C):=((l.take i).map T5.tm).map eT
theorem Ge {l:List T5} {i:Nat} (h:i<l.length):tmR l (i+1)=tmR l i++[eT l[i].tm]:=by
 unfold tmR;rw[ab h,List.map_append,List.map_append];rfl
theorem Jy {l:List T5} {i:Nat} (h:i<=l.length):(tmR l i).length=i:=by simp[tmR];omega
theorem qp (l:List T5) (n:Nat) (hn:n<=2) (hl:l.length<=9223372036854775807) (h:∀ t∈l,t.ok):Fn Tryz.prog 74 [tl l,iN n,iN 1] [iUp (lH l n)]:=by
 have hmk:=Fu (L:=(l.take n).map T5.tm) (fun t ht=>by
  obtain⟨u,hu,rfl⟩:=List.mem_map.1 ht;exact T5.sml (h u (List.mem_of_mem_take hu))) (by simp;omega)
 refine ak (fn:=Tryz.f74) (by rfl) rfl rfl rfl (by rfl) ?_;simp -dsimp -implicitDefEqProofs only[go_sem];refine bL 7 11 8 (rs:=[]) rfl (by simp) ?_;refine aS [(7,10),(12,52)] [(9,9)] [(11,11),(52,52)] (fun m τ β ε=>∃ i:Nat,m=n-i/\i<=n/\i<=l.length/\τ 8 = .i (iN i)/\Own 8 (tmR l i) 7 11 τ ε)
  (fun e τ β ε=>e = .exit 0/\Own 8 (tmR l n) 7 11 τ ε) n ?_ ?_ ?_
 ·exact⟨0,by omega,by omega,by omega,rfl,Own.mk (g:=1) (mm:=false) (by omega) rfl rfl rfl⟩
 ·rintro m τ β ε π hK hKB hKE ⟨i,hm,hi,hil,h8,g,mm,hg,h7,h11⟩;have hlen:(tmR l i).length=i:=Jy hil;rw[hlen]at h7;have k0:τ 0 = .i (tl l):=(hK 0 rfl).trans rfl;have k1:τ 1 = .i (iN n):=(hK 1 rfl).trans rfl;have k2:τ 2 = .i (iN 1):=(hK 2 rfl).trans rfl;by_cases hA:i<l.length
  ·have dA:decide ((i:Int)<(l.length:Int))=true:=ai (by omega);have gl:l[i]?=some l[i]:=by simp[hA]
   by_cases hB:i<n
   ·have dB:decide ((i:Int)<(n:Int))=true:=ai (by omega);have ht:=h _ (List.getElem_mem hA);unfold T5.ok at ht;simp -dsimp -implicitDefEqProofs only[go_sem,h8,k0,k1,dA,dB,af];refine av gl ?_;simp -dsimp -implicitDefEqProofs only[go_sem,T5.row,Int.reduceToNat,Int.reduceLE,ag,h8,k0];rw[wr64 (by omega)];refine aa (cY l[i].e (by omega)) rfl ?_;simp -dsimp -implicitDefEqProofs only[go_sem,Int.reduceToNat,Int.reduceLE,ag];refine aJ [(10,10),(31,48)] [(9,9)] [] (fun m τ' β' ε'=>∃ k:Nat,m=1-k/\k<=1/\τ' 10 = .i (iN k)/\β' 9=⟨(β 9).gen+1,eT (if k=0 then(e0,(l[i].e:Rat))else l[i].tm)⟩)
     (fun e τ' β' ε'=>e = .exit 2/\β' 9=⟨(β 9).gen+1,eT l[i].tm⟩) 1 ?_ ?_ ?_
    ·exact⟨0,by omega,by omega,rfl,rfl⟩
    ·rintro m2 τ2 β2 ε2 π2 hK2 hKB2 hKE2 ⟨k,hm2,hk,h10,b9⟩;have q0:τ2 0 = .i (tl l):=(hK2 0 rfl).trans k0;have q2:τ2 2 = .i (iN 1):=(hK2 2 rfl).trans k2;have q8:τ2 8 = .i (iN i):=(hK2 8 rfl).trans h8;have q9:τ2 9 = .bp 9 ((β 9).gen+1) 0:=(hK2 9 rfl).trans rfl;obtain rfl|rfl:k=0\/k=1:=by omega
     ·have h10':τ2 10 = .i (iN 0):=h10;rw[if_pos rfl]at b9;have em:(((IntKind.i64.wrap l[i].a).tmod 3)+3).tmod 3=l[i].a % 3:=by
       rw[wr64 (by omega)];rcases Int.le_total 0 l[i].a with hp|hp
       ·rw[Int.tmod_eq_emod_of_nonneg hp,Int.tmod_eq_emod_of_nonneg (by omega)];omega
       ·have:l[i].a.tmod 3 = -((-l[i].a) % 3):=by
         rw[<-Int.tmod_eq_emod_of_nonneg (by omega),Int.neg_tmod,Int.neg_neg]
        rw[this,Int.tmod_eq_emod_of_nonneg (by omega)];omega
      simp -dsimp -implicitDefEqProofs only[go_sem,h10',q0,q2,q8,q9,b9,Int.reduceToNat,Int.reduceLE,ag,Int.reduceLT,decide_true];refine av gl ?_;simp -dsimp -implicitDefEqProofs only[go_sem,T5.row,h10',q0,q2,q8,q9,b9,Int.reduceToNat,Int.reduceLE,ag,em];have eb : -3<=(IntKind.i64.wrap l[i].a).tmod 3/\(IntKind.i64.wrap l[i].a).tmod 3<=3:=by
       rw[wr64 (by omega)];rcases Int.le_total 0 l[i].a with hp|hp
       ·rw[Int.tmod_eq_emod_of_nonneg hp];omega
       ·have:l[i].a.tmod 3 = -((-l[i].a) % 3):=by
         rw[<-Int.tmod_eq_emod_of_nonneg (by omega),Int.neg_tmod,Int.neg_neg]
        omega
      repeat(refine And.intro (by omega) ?_)
      refine again 0 (by omega) ⟨(by(repeat apply am rfl);exact hK2),(by(repeat apply am rfl);exact hKB2),hKE2,1,rfl,by omega,rfl,?_⟩
      rw[if_neg (by decide)];simp -dsimp -implicitDefEqProofs only[go_sem];rfl
     ·have h10':τ2 10 = .i (iN 1):=h10;rw[if_neg (by decide)]at b9;simp -dsimp -implicitDefEqProofs only[go_sem,h10',q2,Int.reduceLT,decide_false];exact⟨(by(repeat apply am rfl);exact hK2),hKB2,hKE2,b9⟩
    ·rintro e τ2 β2 ε2 π2 hK2 hKB2 hKE2 ⟨rfl,b9⟩;have r9:τ2 9 = .bp 9 ((β 9).gen+1) 0:=(hK2 9 rfl).trans rfl;have r8:τ2 8 = .i (iN i):=(hK2 8 rfl).trans h8;have r7:τ2 7 = .sl 11 g i:=(hK2 7 rfl).trans h7;have f11:ε2 11=⟨g,8,tmR l i,mm,true⟩:=(hKE2 11 rfl).trans h11;have kO:=Kp.step2 hK hK2 (by intro n;simp[inR]<;>omega) (by(repeat apply am rfl);exact hK)
     have kB:=Kp.step2 hKB hKB2 (by intro n;simp[inR]<;>omega) (by(repeat apply am rfl);exact hKB)
     have kE:=Kp.step2 hKE hKE2 (by intro n;simp[inR]) hKE;simp -dsimp -implicitDefEqProofs only[go_sem,r9,r8,r7,f11,b9,hg,hlen]
     repeat(refine And.intro (by omega) ?_)
     refine aH (n-(i+1)) 7 52 11 (by omega) rfl rfl (by omega) (by decide) ⟨(by(repeat apply am rfl);exact kO),kB,(by(repeat apply am rfl);exact kE),i+1,rfl,by omega,by omega,rfl,?_⟩
     refine Own.mk2 (Nat.succ_pos _) (by simp -dsimp -implicitDefEqProofs only[go_sem];rfl) (by simp -dsimp -implicitDefEqProofs only[go_sem];rfl) (by rw[List.length_append,hlen];rfl) (Ge hA).symm
   ·have dB:decide ((i:Int)<(n:Int))=false:=aj (by omega);obtain rfl:i=n:=by omega
    simp -dsimp -implicitDefEqProofs only[go_sem,h8,k0,k1,dA,dB,af];exact⟨(by(repeat apply am rfl);exact hK),hKB,hKE,Own.mk hg h7 hlen.symm h11⟩
  ·have dA:decide ((i:Int)<(l.length:Int))=false:=aj (by omega);have et:tmR l n=tmR l i:=by unfold tmR;rw[List.take_of_length_le (by omega),List.take_of_length_le (by omega)]
   simp -dsimp -implicitDefEqProofs only[go_sem,h8,k0,k1,dA,af];rw[et];exact⟨(by(repeat apply am rfl);exact hK),hKB,hKE,Own.mk hg h7 hlen.symm h11⟩
 ·rintro e τ β ε π hK hKB hKE ⟨rfl,g,mm,hg,h7,h11⟩;refine⟨_,aY.freeze _ 11,?_⟩;simp -dsimp -implicitDefEqProofs only[go_sem,h7,h11,hg];refine ar (args':=[iM ((l.take n).map T5.tm)]) (by rw[List.take_of_length_le (ae _)];rfl) hmk ?_;simp -dsimp -implicitDefEqProofs only[go_sem];rw[lH,List.map_take]
theorem wl (L:List T5) (h:∀ t∈L,t.ok):∃ A:Alg.P Int,toP (L.map T5.tm)=toQ A/\Alg.n1 A<=128*L.length/\Alg.sz A<=3:=by
 induction L with
 | nil=>exact⟨0,by rw[cA];rfl,by rw[gS];omega,by rw[ap.2 rfl];omega⟩
 | cons t L ih =>
  obtain⟨A,h1,h2,h3⟩:=ih fun u hu=>h u (by simp[hu]);have ht:=h t (by simp);unfold T5.ok at ht;refine⟨mon (t.a % 3).toNat t.e+A,?_,?_,?_⟩
  ·rw[List.map_cons,aG,h1,jI,m3];rfl
  ·have e:=gG (t.a % 3).toNat t.e 1;rw[mul_one]at e;have e1:Alg.n1 (1:Alg.P Int)<=1:=by
    refine oU (n:=1) (H:=1) (Nat.le_of_eq (by rw[<-bU];exact iH (by decide))) (fun i=>?_);rw[<-bU];cases i with
    | zero=>exact ae 1
    | succ i=>exact Nat.zero_le 1
   have e2:t.e.natAbs*Alg.n1 (1:Alg.P Int)<=t.e.natAbs*1:=Nat.mul_le_mul_left _ e1;have:=kU (mon (t.a % 3).toNat t.e) A;simp only[List.length_cons];omega
  ·exact cT (cm fun i hi=>by rw[bJ,if_neg (by omega)]) h3
noncomputable def den1 (p:PQ):PQ:=if p=0 then 1 else p
theorem KL (p:PQ):den1 p≠0:=by
 unfold den1;split
 ·exact fa
 ·assumption
noncomputable def yv (N D:List T5) (n:Nat):KQ:=Alg.fr (lH N n) (den1 (lH D n))
theorem GG {N D:List T5} {n:Nat} (hn:n<=2) (hN:∀ t∈N,t.ok) (hD:∀ t∈D,t.ok):FB 8 (yv N D n):=by
 obtain⟨A,a1,a2,a3⟩:=wl (N.take n) fun t ht=>hN t (List.mem_of_mem_take ht);obtain⟨B,b1,b2,b3⟩:=wl (D.take n) fun t ht=>hD t (List.mem_of_mem_take ht);have la:(N.take n).length<=n:=by simp;omega
 have lb:(D.take n).length<=n:=by simp;omega
 have s1:Alg.sz (1:Alg.P Int)=1:=iH (R:=Int) (by decide);have e8:(2:Nat) ^ 8=256:=rfl;by_cases h:lH D n=0
 ·refine⟨A,1,fv (R:=Int) (by decide),?_,by omega,by omega,by omega,?_⟩
  ·rw[yv,den1,if_pos h,oF,<-a1];rfl
  ·rw[fQ (n:=1) (by omega)];show 0+Int.natAbs 1<=_;omega
 ·refine⟨A,B,fun e=>h (by rw[lH,b1,e,cA]),?_,by omega,by omega,by omega,by omega⟩;rw[yv,den1,if_neg h,<-a1,<-b1];rfl
theorem GF {N:List T5} {n:Nat} (hn:n<=2) (hN:∀ t∈N,t.ok):Alg.HB 8 (lH N n)/\Alg.sz (lH N n)<=3:=by
 obtain⟨A,a1,a2,a3⟩:=wl (N.take n) fun t ht=>hN t (List.mem_of_mem_take ht);have la:(N.take n).length<=n:=by simp;omega
 have e8:(2:Nat) ^ 8=256:=rfl;rw[lH,a1];exact⟨Alg.HB.of (by omega),by rw[fI];exact a3⟩
theorem Fv (N D:List T5) (n:Nat) (hn:n<=2) (lN:N.length<=9223372036854775807) (lD:D.length<=9223372036854775807) (hN:∀ t∈N,t.ok) (hD:∀ t∈D,t.ok) :
  Fn Tryz.prog 23 [.g [.lst (N.map T5.row),.lst (D.map T5.row)],iN n,iN 1] [iK (yv N D n)]:=by
 obtain⟨n1,n2⟩:=GF hn hN;obtain⟨d1,d2⟩:=GF hn hD;have d3:Alg.HB 8 (den1 (lH D n))/\Alg.sz (den1 (lH D n))<=3:=by
  unfold den1;split
  ·exact⟨cF _,by rw[cf];omega⟩
  ·exact⟨d1,d2⟩
 have of:=xa (KL (lH D n)) (n1.mono (by omega)) (d3.1.mono (by omega)) (by omega) (by omega) ((GG hn hN hD).mono (by omega));have hz:=hzU (lH D n);refine ak (fn:=Tryz.f23) (by rfl) rfl rfl rfl (by rfl) ?_;simp -dsimp -implicitDefEqProofs only[go_sem,Int.reduceToNat,Int.reduceLE,ag];refine aa (qp D n hn lD hD) rfl ?_;by_cases h:lH D n=0
 ·rw[ai h]at hz;simp -dsimp -implicitDefEqProofs only[go_sem,af,hz];refine an ub ?_;simp -dsimp -implicitDefEqProofs only[go_sem,Int.reduceToNat,Int.reduceLE,ag];refine aa (qp N n hn lN hN) rfl ?_;simp -dsimp -implicitDefEqProofs only[go_sem];refine ar (args':=[iUp (lH N n),iUp (den1 (lH D n))]) (by rw[den1,if_pos h]) of ?_;simp -dsimp -implicitDefEqProofs only[go_sem];rfl
 ·rw[aj h]at hz;simp -dsimp -implicitDefEqProofs only[go_sem,af,hz,Int.reduceToNat,Int.reduceLE,ag];refine aa (qp N n hn lN hN) rfl ?_;simp -dsimp -implicitDefEqProofs only[go_sem];refine ar (args':=[iUp (lH N n),iUp (den1 (lH D n))]) (by rw[den1,if_neg h]) of ?_;simp -dsimp -implicitDefEqProofs only[go_sem];rfl
structure iR where
 N:List T5
 D:List T5
def iR.row (x:iR):List C:=[.lst (x.N.map T5.row),.lst (x.D.map T5.row)]
def iR.ok (x:iR):Prop:=(x.N.length<=9223372036854775807/\x.D.length<=9223372036854775807)/\(∀ t∈x.N,t.ok)/\∀ t∈x.D,t.ok
noncomputable def iR.k (x:iR) (n:Nat):KQ:=yv x.N x.D n
abbrev rl (l:List iR):IV := .c (.lst (l.map iR.row))
noncomputable def mdR (l:List iR) (i:Nat):List KQ:=(l.take i).map fun x=>x.k 2
theorem Hf {l:List iR} {i:Nat} (h:i<l.length):mdR l (i+1)=mdR l i++[l[i].k 2]:=by
 unfold mdR;rw[ab h,List.map_append];rfl
theorem J6 {l:List iR} {i:Nat} (h:i<=l.length):(mdR l i).length=i:=by simp[mdR];omega
noncomputable def qH (l:List iR) (n:Nat):KP:=Alg.pl (mdR l n)
theorem CG {l:List iR} (n:Nat) (h:∀ x∈l,x.ok):PW 8 (qH l n):=fun i=>by
 rw[qH,qZ,List.getD_eq_getElem?_getD];by_cases hi:i<(mdR l n).length
 ·rw[ah hi];have hm:=List.getElem_mem hi;generalize (mdR l n)[i]=f at hm;obtain⟨x,hx,rfl⟩:=List.mem_map.1 hm;have hk:=h x (List.mem_of_mem_take hx);exact GG (by omega) hk.2.1 hk.2.2
 ·rw[List.getElem?_eq_none (by omega)];exact eD _
theorem yu (l:List iR) (n:Nat):Alg.sz (qH l n)<=n:=ac (LU _) (by simp[mdR];omega)
theorem vG (l:List iR) (n:Nat) (hn:n<=3) (hl:l.length<=9223372036854775807) (h:∀ x∈l,x.ok):Fn Tryz.prog 13 [rl l,iN n] [ku (qH l n)]:=by
 have htr:dc (mdR l n)=Alg.cl (qH l n):=fW _;have hln:(mdR l n).length<=3:=by simp[mdR];omega
 refine ak (fn:=Tryz.f13) (by rfl) rfl rfl rfl (by rfl) ?_;simp -dsimp -implicitDefEqProofs only[go_sem];refine bL 5 7 2 (rs:=[]) rfl (by simp) ?_;refine aS [(5,6),(8,26)] [] [(7,7),(26,26)] (fun m τ β ε=>∃ i:Nat,m=n-i/\i<=n/\i<=l.length/\τ 6 = .i (iN i)/\Own 2 ((mdR l i).map kr) 5 7 τ ε)
  (fun e τ β ε=>e = .exit 0/\Own 2 ((mdR l n).map kr) 5 7 τ ε) n ?_ ?_ ?_
 ·exact⟨0,by omega,by omega,by omega,rfl,Own.mk (g:=1) (mm:=false) (by omega) rfl rfl rfl⟩
 ·rintro m τ β ε π hK hKB hKE ⟨i,hm,hi,hil,h6,g,mm,hg,h5,h7⟩;have hlen:=J6 hil;rw[af,hlen]at h5;have k0:τ 0 = .i (rl l):=(hK 0 rfl).trans rfl;have k1:τ 1 = .i (iN n):=(hK 1 rfl).trans rfl;by_cases hA:i<l.length
  ·have dA:decide ((i:Int)<(l.length:Int))=true:=ai (by omega);have gl:l[i]?=some l[i]:=by simp[hA]
   by_cases hB:i<n
   ·have dB:decide ((i:Int)<(n:Int))=true:=ai (by omega);have ho:=h _ (List.getElem_mem hA);have mk:=Fv l[i].N l[i].D 2 (by omega) ho.1.1 ho.1.2 ho.2.1 ho.2.2;simp -dsimp -implicitDefEqProofs only[go_sem,h6,k0,k1,dA,dB,af];refine av gl ?_;simp -dsimp -implicitDefEqProofs only[go_sem,iR.row,h6,k0,k1,h5];refine aa mk rfl ?_;simp -dsimp -implicitDefEqProofs only[go_sem,h5,h7,hg,h6,af,hlen]
    repeat(refine And.intro (by omega) ?_)
    refine aH (n-(i+1)) 5 26 7 (by omega) rfl rfl (by omega) (by decide) ⟨(by(repeat apply am rfl);exact hK),hKB,(by(repeat apply am rfl);exact hKE),i+1,rfl,by omega,by omega,rfl,?_⟩
    exact Own.mk2 (Nat.succ_pos _) (by simp -dsimp -implicitDefEqProofs only[go_sem];rfl) (by simp -dsimp -implicitDefEqProofs only[go_sem];rfl) (by simp[hlen]) (by rw[Hf hA,List.map_append];rfl)
   ·have dB:decide ((i:Int)<(n:Int))=false:=aj (by omega);obtain rfl:i=n:=by omega
    simp -dsimp -implicitDefEqProofs only[go_sem,h6,k0,k1,dA,dB,af];exact⟨(by(repeat apply am rfl);exact hK),hKB,hKE,Own.mk hg h5 (by rw[af,hlen]) h7⟩
  ·have dA:decide ((i:Int)<(l.length:Int))=false:=aj (by omega);have et:mdR l n=mdR l i:=by unfold mdR;rw[List.take_of_length_le (by omega),List.take_of_length_le (by omega)]
   simp -dsimp -implicitDefEqProofs only[go_sem,h6,k0,k1,dA,af];rw[et];exact⟨(by(repeat apply am rfl);exact hK),hKB,hKE,Own.mk hg h5 (by rw[af,hlen]) h7⟩
 ·rintro e τ β ε π hK hKB hKE ⟨rfl,g,mm,hg,h5,h7⟩;refine⟨_,aY.freeze _ 7,?_⟩;simp -dsimp -implicitDefEqProofs only[go_sem,h5,h7,hg];refine ar (args':=[kl (mdR l n)]) rfl (mP _ (by omega)) ?_;simp -dsimp -implicitDefEqProofs only[go_sem];rw[htr]
theorem IT (l:List iR) (hl:l.length<=9223372036854775807) (h:∀ x∈l,x.ok):Fn Tryz.prog 12 [rl l] [ku (qH l 3)]:=by
 refine ak (fn:=Tryz.f12) (by rfl) rfl rfl rfl (by rfl) ?_;simp -dsimp -implicitDefEqProofs only[go_sem];refine aa (vG l 3 (by omega) hl h) rfl ?_;simp -dsimp -implicitDefEqProofs only[go_sem]
theorem ot (n:Int) (h : -9223372036854775808<=n/\n<9223372036854775808):Fn Tryz.prog 30 [iN n] [iK (kn n)]:=by
 refine ak (fn:=Tryz.f30) (by rfl) rfl rfl rfl (by rfl) ?_;simp -dsimp -implicitDefEqProofs only[go_sem];refine an (gO n h) ?_;simp -dsimp -implicitDefEqProofs only[go_sem]
theorem kA:Fn Tryz.prog 59 [] [iK (Alg.em Alg.X)]:=by
 refine ak (fn:=Tryz.f59) (by rfl) rfl rfl rfl (by rfl) ?_;simp -dsimp -implicitDefEqProofs only[go_sem];refine an Iz ?_;simp -dsimp -implicitDefEqProofs only[go_sem]
theorem pD {f g:KQ} (hf:FW f) (hg:FW g) (hg0:g≠0) (h:FW (f*Alg.inv g)):Fn Tryz.prog 60 [iK f,iK g] [iK (f*Alg.inv g)]:=by
 refine ak (fn:=Tryz.f60) (by rfl) rfl rfl rfl (by rfl) ?_;simp -dsimp -implicitDefEqProofs only[go_sem];refine aa (Ft hf hg hg0 h) rfl ?_;simp -dsimp -implicitDefEqProofs only[go_sem]
abbrev OkL (l:List iR):Prop:=l.length<=9223372036854775807/\∀ x∈l,x.ok
end Go.AM
namespace Go.AM
open Go.Proofs
open Classical
abbrev one1:List Tm:=[(e0,1)]
def Tok (t:Tm):Prop:=cr t.1/\t.1.lt 1099511627776/\t.2≠0/\QB 4294967296 t.2
theorem NJ (e:Ex):e0.add e=e:=by simp[e0,Ex.add]
theorem Fc (e:Ex):bO e e=0:=(i9 e e).2 rfl
theorem EL {m:Tm} (h:Tok m):EM one1 [m]=[m]:=by
 have e1:sumM one1 [m] []=[m]:=by
  simp only[sumM,rowM,List.foldl_cons,List.foldl_nil,addT,NJ];rw[show(1:Rat)*m.2=m.2 from Rat.one_mul _]
 rw[EM,e1,uJ];have e2:keep m=true:=by
  unfold keep;rw[ai h.1,ai h.2.2.1];rfl
 simp only[List.filter_cons,e2,if_true,List.filter_nil,Ei,o7]
theorem Ef (m:Tm) (R:List Tm):Eg (m::R) [m]=R:=by
 rw[Eg,iY _ (by decide),List.map_cons,List.map_nil,jc];simp only[Fc];rw[if_neg (by decide),if_neg (by decide),if_pos (by show m.2+m.2 * -1=0;rw[Rat.mul_neg,Rat.mul_one];exact Rat.add_neg_cancel _),jb]
theorem Cv (q:Rat):q/1=q:=by rw[Rat.div_def,show(1:Rat)⁻¹=1 by decide +kernel];exact Rat.mul_one q
theorem zR (N:List Tm) (hl:N.length<=1048576) (h:∀ t∈N,Tok t):Fn Tryz.prog 152 [iM N,iM one1] [iM N,iB true]:=by
 refine ak (fn:=Tryz.f152) (by rfl) rfl rfl rfl (by rfl) ?_;have c1:one1[0]?=some (e0,1):=rfl;have e1:decide (((1:Nat):Int)=0)=false:=rfl;simp -dsimp -implicitDefEqProofs only[go_sem,e1,af];refine bL 6 6 8 (rs:=[]) rfl (by simp) ?_;refine aS [(0,0),(4,8),(12,59)] [(7,7)] [(53,53),(6,6)] (fun n τ β ε=>∃ i:Nat,n=N.length-i/\i<=N.length/\τ 0 = .i (iM (N.drop i))/\Own 8 ((N.take i).map eT) 6 6 τ ε)
  (fun e τ β ε=>e = .exit 0/\Own 8 (N.map eT) 6 6 τ ε) N.length ?_ ?_ ?_
 ·exact⟨0,by omega,by omega,rfl,Own.mk (g:=1) (mm:=false) (by omega) rfl rfl rfl⟩
 ·rintro n τ β ε π hK hKB hKE ⟨i,hn,hi,h0,g,mm,hg,h6,hrow⟩;have hlen:(N.take i).length=i:=by simp;omega
  rw[af,hlen]at h6;have k1:τ 1 = .i (iM one1):=(hK 1 rfl).trans rfl;by_cases hlt:i<N.length
  ·obtain⟨m,hmi⟩:∃ m,N[i]=m:=⟨_,rfl⟩;obtain⟨R,eR⟩:∃ R,N.drop (i+1)=R:=⟨_,rfl⟩;have hdr:N.drop i=N[i]::N.drop (i+1):=List.drop_eq_getElem_cons hlt;have hm:=h _ (List.getElem_mem hlt);have htk:N.take (i+1)=N.take i++[N[i]]:=ab hlt;have hll:(N.drop (i+1)).length<=1048576:=by simp;omega
   rw[hmi,eR]at hdr;rw[hmi]at hm htk;rw[eR]at hll;have hRq:∀ t∈m::R,QB 8589934592 t.2:=fun t ht=>by
    rw[<-hdr]at ht;exact(h t (List.mem_of_mem_drop ht)).2.2.2.mono' (by omega)
   rw[hdr]at h0;have cR:(m::R)[0]?=some m:=rfl;have hA:(0:Int)<((R.length+1:Nat):Int):=by omega
   have lR:(m::R).length=R.length+1:=rfl;obtain⟨t1,t2,t3,t4⟩:=hm;have eN:decide (cr m.1)=true:=ai t1;unfold cr at t1;have t2':=t2;unfold Ex.lt at t2';simp -dsimp -implicitDefEqProofs only[go_sem,h0,hA,Int.reduceToNat,Int.reduceLE,ag];refine av cR ?_;simp -dsimp -implicitDefEqProofs only[go_sem,h0,hA,h6,hrow];refine aS [(8,8),(18,34)] [(7,7)] [] (fun n τ' β' ε'=>∃ i:Nat,n=4-i/\i<=4/\τ' 18 = .i (iN i)/\β' 7=⟨(β 7).gen+1,eT m⟩)
    (fun e τ' β' ε'=>e = .exit 2/\β' 7=⟨(β 7).gen+1,eT m⟩) 4 ?_ ?_ ?_
   ·exact⟨0,by omega,by omega,rfl,rfl⟩
   ·rintro n2 τ2 β2 ε2 π2 hK2 hKB2 hKE2 ⟨i,hn2,hi,h18,b7⟩;have q7:τ2 7 = .bp 7 ((β 7).gen+1) 0:=(hK2 7 rfl).trans rfl;have q1:τ2 1 = .i (iM one1):=(hK2 1 rfl).trans k1;obtain rfl|rfl|rfl|rfl|rfl:i=4\/i=0\/i=1\/i=2\/i=3:=by omega
    ·have h18':τ2 18 = .i (iN 4):=h18;simp -dsimp -implicitDefEqProofs only[go_sem,h18',Int.reduceLT,decide_false];exact⟨(by(repeat apply am rfl);exact hK2),hKB2,hKE2,b7⟩
    ·have h18':τ2 18 = .i (iN 0):=h18;simp -dsimp -implicitDefEqProofs only[go_sem,h18',Int.reduceLT,decide_true];refine ao (by rfl) 13 [] false true (by rfl) (by rfl) (by decide +kernel) ?_;simp -dsimp -implicitDefEqProofs only[go_sem,h18',q1,q7,b7,Int.reduceToNat,Int.reduceLE,ag,Int.reduceAdd];refine av c1 ?_;simp -dsimp -implicitDefEqProofs only[go_sem,h18',q1,q7,b7,Int.reduceToNat,Int.reduceLE,ag,Int.reduceAdd,e0,Int.sub_zero]
     repeat(refine And.intro (by omega) ?_)
     refine again (4-1) (by omega) ⟨(by(repeat apply am rfl);exact hK2),(by(repeat apply am rfl);exact hKB2),hKE2,1,rfl,by omega,rfl,?_⟩
     simp -dsimp -implicitDefEqProofs only[go_sem]
    ·have h18':τ2 18 = .i (iN 1):=h18;simp -dsimp -implicitDefEqProofs only[go_sem,h18',Int.reduceLT,decide_true];refine ao (by rfl) 13 [] false true (by rfl) (by rfl) (by decide +kernel) ?_;simp -dsimp -implicitDefEqProofs only[go_sem,h18',q1,q7,b7,Int.reduceToNat,Int.reduceLE,ag,Int.reduceAdd];refine av c1 ?_;simp -dsimp -implicitDefEqProofs only[go_sem,h18',q1,q7,b7,Int.reduceToNat,Int.reduceLE,ag,Int.reduceAdd,e0,Int.sub_zero]
     repeat(refine And.intro (by omega) ?_)
     refine again (4-2) (by omega) ⟨(by(repeat apply am rfl);exact hK2),(by(repeat apply am rfl);exact hKB2),hKE2,2,rfl,by omega,rfl,?_⟩
     simp -dsimp -implicitDefEqProofs only[go_sem]
    ·have h18':τ2 18 = .i (iN 2):=h18;simp -dsimp -implicitDefEqProofs only[go_sem,h18',Int.reduceLT,decide_true];refine ao (by rfl) 13 [] false true (by rfl) (by rfl) (by decide +kernel) ?_;simp -dsimp -implicitDefEqProofs only[go_sem,h18',q1,q7,b7,Int.reduceToNat,Int.reduceLE,ag,Int.reduceAdd];refine av c1 ?_;simp -dsimp -implicitDefEqProofs only[go_sem,h18',q1,q7,b7,Int.reduceToNat,Int.reduceLE,ag,Int.reduceAdd,e0,Int.sub_zero]
     repeat(refine And.intro (by omega) ?_)
     refine again (4-3) (by omega) ⟨(by(repeat apply am rfl);exact hK2),(by(repeat apply am rfl);exact hKB2),hKE2,3,rfl,by omega,rfl,?_⟩
     simp -dsimp -implicitDefEqProofs only[go_sem]
    ·have h18':τ2 18 = .i (iN 3):=h18;simp -dsimp -implicitDefEqProofs only[go_sem,h18',Int.reduceLT,decide_true];refine ao (by rfl) 13 [] false true (by rfl) (by rfl) (by decide +kernel) ?_;simp -dsimp -implicitDefEqProofs only[go_sem,h18',q1,q7,b7,Int.reduceToNat,Int.reduceLE,ag,Int.reduceAdd];refine av c1 ?_;simp -dsimp -implicitDefEqProofs only[go_sem,h18',q1,q7,b7,Int.reduceToNat,Int.reduceLE,ag,Int.reduceAdd,e0,Int.sub_zero]
     repeat(refine And.intro (by omega) ?_)
     refine again (4-4) (by omega) ⟨(by(repeat apply am rfl);exact hK2),(by(repeat apply am rfl);exact hKB2),hKE2,4,rfl,by omega,rfl,?_⟩
     simp -dsimp -implicitDefEqProofs only[go_sem]
   ·rintro e τ2 β2 ε2 π2 hK2 hKB2 hKE2 ⟨rfl,b7⟩;refine⟨_,aY.refl _,?_⟩;have r7:τ2 7 = .bp 7 ((β 7).gen+1) 0:=(hK2 7 rfl).trans rfl;have r1:τ2 1 = .i (iM one1):=(hK2 1 rfl).trans k1;have r0:τ2 0 = .i (iM (m::R)):=(hK2 0 rfl).trans h0;have r6:τ2 6 = .sl 6 g i:=(hK2 6 rfl).trans h6;have rr:ε2 6=⟨g,8,(N.take i).map eT,mm,true⟩:=(hKE2 6 rfl).trans hrow;have kO:=Kp.step2 hK hK2 (by intro n;simp[inR]<;>omega) (by(repeat apply am rfl);exact hK)
    have kB:=Kp.step2 hKB hKB2 (by intro n;simp[inR]<;>omega) (by(repeat apply am rfl);exact hKB)
    have kE:=Kp.step2 hKE hKE2 (by intro n;simp[inR]) hKE;have hq1:QB 17179869184 (1:Rat):=mS;have hq2:=t4.mono' (m:=8589934592) (by omega);have hmm:(1:Rat)*m.2=m.2:=Rat.one_mul _;simp -dsimp -implicitDefEqProofs only[go_sem,r7,b7,r1,r0];refine ar (args':=[iE m.1]) rfl (kT _) ?_;simp -dsimp -implicitDefEqProofs only[go_sem,eN];refine aZ (by rfl) 9 11 [] true [.tmp 49] none (by rfl) (by rfl) (by rfl) (by rfl) (by decide +kernel) ?_;simp -dsimp -implicitDefEqProofs only[go_sem,r7,b7,r1,r0,Int.reduceToNat,Int.reduceLE,ag];refine av c1 ?_;simp -dsimp -implicitDefEqProofs only[go_sem,r7,b7,r1,r0,Int.reduceToNat,Int.reduceLE,ag];refine ar (args':=[iQ m.2,iQ 1]) rfl (rG _ _ (by decide) (t4.mono' (by omega)) hq1) ?_;rw[Cv];simp -dsimp -implicitDefEqProofs only[go_sem,r7,b7,r1,r0,Int.reduceToNat,Int.reduceLE,ag];simp -dsimp -implicitDefEqProofs only[go_sem,r6,rr,hg,af,hlen]
    repeat(refine And.intro (by omega) ?_)
    simp -dsimp -implicitDefEqProofs only[go_sem,r7,r1,r0];refine ar (args':=[iM one1,iM [m]]) rfl (xe one1 [m] (by decide) (by simp) (fun t ht=>by simp at ht;subst ht;simp[Ex.lt,e0]) (fun t ht=>by simp at ht;subst ht;unfold Ex.lt;omega)
     (fun t ht=>by simp at ht;subst ht;exact hq1) (fun t ht=>by simp at ht;subst ht;exact t4.mono' (by omega)) ?_) ?_
    ·intro i' j' hi' hj';obtain rfl:i'=0:=by simp at hi';omega
     obtain rfl:j'=0:=by simp at hj';omega
     refine⟨?_,fun e q hq=>?_⟩
     ·show QB 8589934592 ((1:Rat)*m.2);rw[hmm];exact hq2
     ·simp[rowM,sumM]at hq
    rw[EL ⟨by unfold cr;exact t1,t2,t3,t4⟩];simp -dsimp -implicitDefEqProofs only[go_sem,r0];refine aa (Dt (m::R) [m] (by simp;omega) hRq (fun t ht=>by simp at ht;subst ht;exact hq2)) rfl ?_;rw[Ef];simp -dsimp -implicitDefEqProofs only[go_sem];refine aH (N.length-(i+1)) 6 53 6 (by omega) rfl rfl (by omega) (by decide) ⟨(by(repeat apply am rfl);exact kO),(by(repeat apply am rfl);exact kB),(by(repeat apply am rfl);exact kE),i+1,rfl,by omega,by rw[eR];simp -dsimp -implicitDefEqProofs only[go_sem],?_⟩
    exact Own.mk2 (Nat.succ_pos _) (by simp -dsimp -implicitDefEqProofs only[go_sem];rfl) (by simp -dsimp -implicitDefEqProofs only[go_sem];rfl) (by simp;omega) (by simp only[<-List.map_take];rw[htk,List.map_append];rfl)
  ·have hA:¬ (0:Int)<((0:Nat):Int):=by omega
   obtain rfl:i=N.length:=by omega
   rw[List.take_length]at hrow;rw[List.drop_length]at h0;simp -dsimp -implicitDefEqProofs only[go_sem,h0,hA];exact⟨(by(repeat apply am rfl);exact hK),hKB,hKE,Own.mk hg h6 (by simp) hrow⟩
 ·rintro e τ β ε π hK hKB hKE ⟨rfl,g,mm,hg,h6,hrow⟩;refine⟨_,aY.refl _,?_⟩;rw[af]at h6;simp -dsimp -implicitDefEqProofs only[go_sem,h6,hrow,hg]
theorem I3 {N:List Tm} (hN:N≠[]):Fn Tryz.prog 151 [iM N,iM one1] [iM one1]:=by
 have e1:decide ((N.length:Int)=0)=false:=aj fun h=>hN (List.eq_nil_of_length_eq_zero (by omega));have e2:decide (((1:Nat):Int)=0)=false:=rfl;refine ak (fn:=Tryz.f151) (by rfl) rfl rfl rfl (by rfl) ?_;simp -dsimp -implicitDefEqProofs only[go_sem,e1,e2,af];refine aa (mG N) rfl ?_;by_cases h1:yF N=true
 ·simp -dsimp -implicitDefEqProofs only[go_sem,h1];refine an AW ?_;simp -dsimp -implicitDefEqProofs only[go_sem]
 ·have e3:yF N=false:=by simpa using h1
  simp -dsimp -implicitDefEqProofs only[go_sem,e3];refine aa (mG one1) rfl ?_;rw[show yF one1=true from rfl];simp -dsimp -implicitDefEqProofs only[go_sem];refine an AW ?_;simp -dsimp -implicitDefEqProofs only[go_sem]
theorem sf (N:List Tm):dE N 1=N:=by
 rw[iY _ (by decide)]
 conv=>rhs;rw[<-List.map_id N]
 exact List.map_congr_left fun t _=>by rw[Rat.mul_one];rfl
theorem xO:∀ t∈one1,Tok t:=by
 intro t ht;simp at ht;subst ht;refine⟨by simp[cr,e0],by simp[Ex.lt,e0],by decide,?_,?_⟩
 ·exact ac (eG (k:=1) (by decide)) (by omega)
 ·exact ac (eG (k:=1) (by decide)) (by omega)
theorem zO (N:List Tm) (hl:N.length<=1048576) (h:∀ t∈N,Tok t):Fn Tryz.prog 110 [iM N,iM one1] [iF N one1,iN 0]:=by
 by_cases hN:N=[]
 ·subst hN;exact zM (by simp)
 have q1:∀ t∈N,QB 17179869184 t.2:=fun t ht=>(h t ht).2.2.2.mono' (by omega);have:=Ja (N:=N) (D:=one1) (G:=one1) (N1:=N) (D1:=one1) (c:=1) (x:=(e0,1)) (by simp) hN (I3 hN) (zR N hl h) (zR one1 (by decide) xO) rfl (by decide) mS (Cv 1).symm
  (jy N 1 (by omega) q1 mS) (jy one1 1 (by decide) (fun t ht=>(xO t ht).2.2.2.mono' (by omega)) mS)
 rw[sf,sf]at this;exact this
end Go.AM
