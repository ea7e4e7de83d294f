/- Lemmas, part 11 of 24: The reference of integers: Euclid; The package of rational numbers; The package of rational numbers: sums and products; The reference of rational numbers; Terms of polynomials in several variables: comparing, collecting; The least of four numbers, read out of an array as a slice; Sums of terms in a map; Loops over states with maps; a region with the length of a map. No condition. -/
import Derived.Test.YtcmfkhicjhliaaaGreatPZ209
set_option maxRecDepth 65536
set_option linter.unusedSimpArgs false
set_option linter.unusedVariables false
set_option linter.unusedSectionVars false
namespace Go.AM
open Go.Proofs
theorem ve (a:Int) (hla:(lb a).length<1099511627776):Fn Tryz.prog 162 [iL (lb a),iB (decide (a<0))] [iZ a]:=by
 have:=cX (lb a) (decide (a<0)) (bC a) hla;rw[a6]at this;rwa [show(if decide (a<0)then -(a.natAbs:Int)else a.natAbs)=a from by split<;>rename_i h<;>simp only[decide_eq_true_eq]at h<;>omega]at this
theorem yt (a:Int) (hla:(lb a).length<1099511627776):Fn Tryz.prog 162 [iL (lb a),iB false] [iZ a.natAbs]:=by
 have:=cX (lb a) false (bC a) hla;rwa [a6]at this
theorem xV (r:Int) (h:0<=r):decide (0<r.sign)=decide (r≠0):=by
 by_cases h0:r=0
 ·subst h0;simp
 ·rw[Int.sign_eq_one_of_pos (by omega)];simp[h0]
theorem m8 (r:Int):decide (r.sign=0)=decide (r=0):=by simp[Int.sign_eq_zero_iff_zero]
theorem jz (a b:Int) (hb:b≠0) (hla:(lb a).length<68719476736) (hlb:(lb b).length<68719476736):Fn Tryz.prog 200 [iZ a,iZ b] [iZ (a/b),iZ (a % b),iN 0]:=by
 have hf:=BW a b hb hla hlb;have hb0:0<(b.natAbs:Int):=by omega
 have hdm:=Int.emod_add_mul_ediv (a.natAbs:Int) b.natAbs;have hy0:=Int.emod_nonneg (a.natAbs:Int) (b:=b.natAbs) (by omega);have hy1:=Int.emod_lt_of_pos (a.natAbs:Int) hb0;have hq0:=Int.ediv_nonneg (a:=(a.natAbs:Int)) (b:=b.natAbs) (by omega) (by omega);have hq1:(a.natAbs:Int)/b.natAbs<=a.natAbs:=Int.ediv_le_self _ (by omega);obtain⟨q,hq⟩:∃ q,q=(a.natAbs:Int)/b.natAbs:=⟨_,rfl⟩;obtain⟨r,hr⟩:∃ r,r=(a.natAbs:Int) % b.natAbs:=⟨_,rfl⟩;rw[<-hq]at hdm hq0 hq1 hf;rw[<-hr]at hdm hy0 hy1 hf;have hql:(lb q).length<=(lb a).length:=kY (by omega);have hrl:(lb r).length<=(lb b).length:=kY (by omega);have fin:∀{u v:Int},v+b*u=a->0<=v->v<b.natAbs->some [iZ u,iZ v,iN 0]=some [iZ (a/b),iZ (a % b),iN 0]:=fun h1 h2 h3=>by
  obtain⟨e1,e2⟩:=C4 hb h1 h2 h3;rw[e1,e2]
 have l1:(lb 1).length<=1:=CM (by omega) (by omega);have hz:decide (b.sign=0)=false:=by rw[m8];exact aj hb
 refine ak (fn:=Tryz.f200) (by rfl) rfl rfl rfl (by rfl) ?_;simp -dsimp -implicitDefEqProofs only[go_sem];refine ao (by rfl) 10 [] false true (by rfl) (by rfl) (by decide +kernel) ?_;simp -dsimp -implicitDefEqProofs only[go_sem];refine an (ve a (by omega)) ?_;simp -dsimp -implicitDefEqProofs only[go_sem];refine an (ve b (by omega)) ?_;simp -dsimp -implicitDefEqProofs only[go_sem];refine aa (ib b) rfl ?_;simp -dsimp -implicitDefEqProofs only[go_sem,hz];refine an hf ?_;by_cases ha:a<0
 ·rw[show(a.natAbs:Int) = -a from by omega]at hdm;simp -dsimp -implicitDefEqProofs only[go_sem,ha];refine aa (ib r) rfl ?_;by_cases hr0:r=0
  ·have e0:decide (¬ r=0)=false:=aj (fun h=>h hr0);by_cases hbn:b<0<;>simp -dsimp -implicitDefEqProofs only[go_sem,ha,hbn,xV r hy0,e0]
   ·refine aZ (by rfl) 1 2 [] true [.tmp 4] (some (.tmp 8)) (by rfl) (by rfl) (by rfl) (by rfl) (by decide +kernel) ?_;simp -dsimp -implicitDefEqProofs only[go_sem,ha,hbn];refine fin ?_ (by omega) (by omega);rw[show(b.natAbs:Int) = -b from by omega]at hdm
    grind
   ·refine ar (args':=[iZ (q)]) rfl (lv _ (by omega)) ?_;simp -dsimp -implicitDefEqProofs only[go_sem,ha,hbn];refine aZ (by rfl) 1 2 [] true [.tmp 4] (some (.tmp 8)) (by rfl) (by rfl) (by rfl) (by rfl) (by decide +kernel) ?_;simp -dsimp -implicitDefEqProofs only[go_sem,ha,hbn];refine fin ?_ (by omega) (by omega);rw[show(b.natAbs:Int)=b from by omega]at hdm
    grind
  ·have e0:decide (¬ r=0)=true:=ai hr0;have hqp:(lb (q+1)).length<=(lb a).length+1+1:=A7 (by omega) (by omega);simp -dsimp -implicitDefEqProofs only[go_sem,ha,xV r hy0,e0];refine ao (by rfl) 3 [] false true (by rfl) (by rfl) (by decide +kernel) ?_;simp -dsimp -implicitDefEqProofs only[go_sem,ha];refine an (uf 1 (by decide)) ?_;simp -dsimp -implicitDefEqProofs only[go_sem,ha];refine aa (rF q 1 (by omega) (by omega)) rfl ?_;simp -dsimp -implicitDefEqProofs only[go_sem,ha];refine ao (by rfl) 5 [] false true (by rfl) (by rfl) (by decide +kernel) ?_;simp -dsimp -implicitDefEqProofs only[go_sem,ha];refine aa (yt b (by omega)) rfl ?_;simp -dsimp -implicitDefEqProofs only[go_sem,ha];refine ar (args':=[iZ b.natAbs,iZ r]) rfl (Dj _ _ (by rw[wC];omega) (by omega)) ?_;by_cases hbn:b<0<;>simp -dsimp -implicitDefEqProofs only[go_sem,ha,hbn]
   ·refine aZ (by rfl) 1 2 [] true [.tmp 4] (some (.tmp 8)) (by rfl) (by rfl) (by rfl) (by rfl) (by decide +kernel) ?_;simp -dsimp -implicitDefEqProofs only[go_sem,ha,hbn];refine fin ?_ (by omega) (by omega);rw[show(b.natAbs:Int) = -b from by omega]at hdm ⊢
    grind
   ·refine ar (args':=[iZ (q+1)]) rfl (lv _ (by omega)) ?_;simp -dsimp -implicitDefEqProofs only[go_sem,ha,hbn];refine aZ (by rfl) 1 2 [] true [.tmp 4] (some (.tmp 8)) (by rfl) (by rfl) (by rfl) (by rfl) (by decide +kernel) ?_;simp -dsimp -implicitDefEqProofs only[go_sem,ha,hbn];refine fin ?_ (by omega) (by omega);rw[show(b.natAbs:Int)=b from by omega]at hdm ⊢
    grind
 ·rw[show(a.natAbs:Int)=a from by omega]at hdm;by_cases hbn:b<0<;>simp -dsimp -implicitDefEqProofs only[go_sem,ha,hbn]
  ·refine ar (args':=[iZ (q)]) rfl (lv _ (by omega)) ?_;simp -dsimp -implicitDefEqProofs only[go_sem,ha,hbn];refine aZ (by rfl) 1 2 [] true [.tmp 4] (some (.tmp 8)) (by rfl) (by rfl) (by rfl) (by rfl) (by decide +kernel) ?_;simp -dsimp -implicitDefEqProofs only[go_sem,ha,hbn];refine fin ?_ (by omega) (by omega);rw[show(b.natAbs:Int) = -b from by omega]at hdm
   grind
  ·refine aZ (by rfl) 1 2 [] true [.tmp 4] (some (.tmp 8)) (by rfl) (by rfl) (by rfl) (by rfl) (by decide +kernel) ?_;simp -dsimp -implicitDefEqProofs only[go_sem,ha,hbn];refine fin ?_ (by omega) (by omega);rw[show(b.natAbs:Int)=b from by omega]at hdm
   grind
theorem HO (x y:Int):Int.gcd y (x % y)=Int.gcd y x:=by
 conv=>rhs;rw[<-Int.emod_add_mul_ediv x y]
 simp
theorem xd (a b:Int) (hla:(lb a).length<68719476736) (hlb:(lb b).length<68719476736):Fn Tryz.prog 165 [iZ a,iZ b] [iZ (Int.gcd a b)]:=by
 refine ak (fn:=Tryz.f165) (by rfl) rfl rfl rfl (by rfl) ?_;simp -dsimp -implicitDefEqProofs only[go_sem];refine aJ [(5,19)] [(2,3),(5,6)] [] (fun m τ β _=>∃ x y:Int,m=y.natAbs/\β 2=⟨1,eZ x⟩/\β 3=⟨1,eZ y⟩/\Int.gcd x y=Int.gcd a b/\(lb x).length<68719476736/\(lb y).length<68719476736)
  (fun e τ β _=>e = .exit 0/\∃ x:Int,β 2=⟨1,eZ x⟩/\x.natAbs=Int.gcd a b/\(lb x).length<68719476736) b.natAbs ?_ ?_ ?_
 ·exact⟨a,b,rfl,rfl,rfl,rfl,hla,hlb⟩
 ·rintro m τ β ε π hK hKB hKE ⟨x,y,hm,h2,h3,hg,hx,hy⟩;have k2:τ 2 = .bp 2 1 0:=hK 2 (by decide);have k3:τ 3 = .bp 3 1 0:=hK 3 (by decide);simp -dsimp -implicitDefEqProofs only[go_sem,k2,k3,h2,h3];refine aa (ib y) rfl ?_;simp -dsimp -implicitDefEqProofs only[go_sem,k2,k3,h2,h3,m8];by_cases hy0:y=0
  ·simp -dsimp -implicitDefEqProofs only[go_sem,hy0,k2,k3,h2,h3];subst hy0;exact⟨(by(repeat apply am rfl);exact hK),hKB,hKE,x,rfl,by rw[<-hg,Int.gcd_zero_right],hx⟩
  ·simp -dsimp -implicitDefEqProofs only[go_sem,hy0,k2,k3,h2,h3];refine aa (jz x y hy0 hx hy) rfl ?_;simp -dsimp -implicitDefEqProofs only[go_sem,k2,k3,h2,h3];refine aZ (by rfl) 1 2 [] true [.tmp 2] (some (.tmp 6)) (by rfl) (by rfl) (by rfl) (by rfl) (by decide +kernel) ?_;simp -dsimp -implicitDefEqProofs only[go_sem,k2,k3,h2,h3];have hm0:=Int.emod_nonneg x hy0;have hm1:=Int.emod_lt x hy0;refine again (x % y).natAbs (by omega) ⟨(by(repeat apply am rfl);exact hK),(by(repeat apply am rfl);exact hKB),hKE,y,x % y,rfl,rfl,rfl,?_,hy,?_⟩
   ·rw[<-hg,Int.gcd_comm x y];exact HO x y
   ·exact Nat.lt_of_le_of_lt (kY (by omega)) hy
 ·rintro e τ β ε π hK hKB hKE ⟨rfl,x,h2,hg,hx⟩;have k2:τ 2 = .bp 2 1 0:=hK 2 (by decide);have k4:τ 4 = .bp 4 1 0:=hK 4 (by decide);have hb4:β 4=⟨1,kw false []⟩:=hKB 4 (by decide);simp -dsimp -implicitDefEqProofs only[go_sem,k2,k4,h2,hb4];refine aa (yt x (by omega)) rfl ?_;simp -dsimp -implicitDefEqProofs only[go_sem,k2,k4,h2,hb4];rw[hg];rfl
theorem MV:tinfo Tryz.prog 186=some ⟨false,1,24,some [C.lst []],some 92,none,[]⟩:=by rfl
theorem MU:tinfo Tryz.prog 189=some ⟨false,1,24,some [C.lst []],some 3,none,[]⟩:=by rfl
attribute [go_sem] MV MU
def eQ (q:Rat):List C:=eZ q.num++eZ q.den
theorem Pq (q:Rat):eQ q=[.v (.bool (decide (q.num<0))),.lst ((lb q.num).map bc),.v (.bool (decide ((q.den:Int)<0))),.lst ((lb q.den).map bc)]:=rfl
attribute [go_sem] Pq
abbrev iQ (q:Rat):IV := .g (eQ q)
def QB (k:Nat) (q:Rat):Prop:=(lb q.num).length<=k/\(lb q.den).length<=k
theorem gL (n d:Int) (hd:d≠0):(Rat.divInt n d).num=(if d<0 then -n else n)/(Int.gcd n d:Int):=by
 rw[Rat.num_divInt,Int.gcd_comm];split
 ·rw[Int.sign_eq_neg_one_of_neg (by assumption)];congr 1;omega
 ·rw[Int.sign_eq_one_of_pos (by omega)];congr 1;omega
theorem gM (n d:Int) (hd:d≠0):((Rat.divInt n d).den:Int)=(d.natAbs:Int)/(Int.gcd n d:Int):=by
 rw[Rat.den_divInt,if_neg hd,Int.gcd_comm];rfl
theorem ro (d:Int):decide (d.sign<0)=decide (d<0):=by
 rw[decide_eq_decide];exact Int.sign_neg_iff
theorem qd (n d:Int) (hd:d≠0) (hn:(lb n).length<68719476736) (hd':(lb d).length<68719476736):Fn Tryz.prog 184 [iZ n,iZ d] [iQ (Rat.divInt n d)]:=by
 have key:∀{u v:Int},u=(Rat.divInt n d).num->v=(Rat.divInt n d).den->some [IV.g (eZ u++eZ v)]=some [iQ (Rat.divInt n d)]:=fun h1 h2=>by rw[h1,h2];rfl
 refine ak (fn:=Tryz.f184) (by rfl) rfl rfl rfl (by rfl) ?_;simp -dsimp -implicitDefEqProofs only[go_sem];refine aa (t7 d) rfl ?_;have hg0:(Int.gcd n d:Int)≠0:=by
  intro h;have:=Int.gcd_eq_zero_iff.1 (Int.ofNat.inj h);exact hd this.2
 have hgl:(lb (Int.gcd n d:Int)).length<=(lb d).length:=eG (by
  have h1:=fj d;have h2:Int.gcd n d<=d.natAbs:=Nat.le_of_dvd (by omega) (Int.gcd_dvd_natAbs_right n d);omega)
 have l1:(lb 1).length<=1:=CM (by omega) (by omega);by_cases hs:d<0
 ·have es:decide (d.sign<0)=true:=by rw[ro];exact ai hs
  simp -dsimp -implicitDefEqProofs only[go_sem,es];refine ao (by rfl) 4 [] false true (by rfl) (by rfl) (by decide +kernel) ?_;simp -dsimp -implicitDefEqProofs only[go_sem];refine aa (pz n) rfl ?_;simp -dsimp -implicitDefEqProofs only[go_sem];refine aa (pz d) rfl ?_;simp -dsimp -implicitDefEqProofs only[go_sem];refine aa (I0 (-n) (-d) (by rw[jo];omega) (by rw[jo];omega)) rfl ?_;simp -dsimp -implicitDefEqProofs only[go_sem];refine ao (by rfl) 4 [] false true (by rfl) (by rfl) (by decide +kernel) ?_;simp -dsimp -implicitDefEqProofs only[go_sem];refine an (us 1 (by decide)) ?_;simp -dsimp -implicitDefEqProofs only[go_sem];rw[Int.neg_gcd,Int.gcd_neg];generalize hg:(Int.gcd n d:Int)=g at *
  refine aa (B8 g 1 (by omega) (by omega)) rfl ?_;simp -dsimp -implicitDefEqProofs only[go_sem];by_cases h1:g=1
  ·have e0:decide (ef g 1=0)=true:=by rw[h1];decide
   simp -dsimp -implicitDefEqProofs only[go_sem,e0];refine key ?_ ?_
   ·rw[gL n d hd,hg,h1,if_pos hs,Int.ediv_one]
   ·rw[gM n d hd,hg,h1,Int.ediv_one];omega
  ·have e0:decide (ef g 1=0)=false:=aj (fun h=>h1 (cU.1 h));simp -dsimp -implicitDefEqProofs only[go_sem,e0];refine aa (nC (-n) g hg0 (by rw[jo];omega) (by omega)) rfl ?_;simp -dsimp -implicitDefEqProofs only[go_sem,e0];refine aa (nC (-d) g hg0 (by rw[jo];omega) (by omega)) rfl ?_;simp -dsimp -implicitDefEqProofs only[go_sem,e0];refine key ?_ ?_
   ·rw[gL n d hd,hg,if_pos hs]
   ·rw[gM n d hd,hg];congr 1;omega
 ·have es:decide (d.sign<0)=false:=by rw[ro];exact aj hs
  simp -dsimp -implicitDefEqProofs only[go_sem,es];refine aa (I0 (n) (d) (by omega) (by omega)) rfl ?_;simp -dsimp -implicitDefEqProofs only[go_sem];refine ao (by rfl) 4 [] false true (by rfl) (by rfl) (by decide +kernel) ?_;simp -dsimp -implicitDefEqProofs only[go_sem];refine an (us 1 (by decide)) ?_;simp -dsimp -implicitDefEqProofs only[go_sem];generalize hg:(Int.gcd n d:Int)=g at *
  refine aa (B8 g 1 (by omega) (by omega)) rfl ?_;simp -dsimp -implicitDefEqProofs only[go_sem];by_cases h1:g=1
  ·have e0:decide (ef g 1=0)=true:=by rw[h1];decide
   simp -dsimp -implicitDefEqProofs only[go_sem,e0];refine key ?_ ?_
   ·rw[gL n d hd,hg,h1,if_neg hs,Int.ediv_one]
   ·rw[gM n d hd,hg,h1,Int.ediv_one];omega
  ·have e0:decide (ef g 1=0)=false:=aj (fun h=>h1 (cU.1 h));simp -dsimp -implicitDefEqProofs only[go_sem,e0];refine aa (nC (n) g hg0 (by omega) (by omega)) rfl ?_;simp -dsimp -implicitDefEqProofs only[go_sem,e0];refine aa (nC (d) g hg0 (by omega) (by omega)) rfl ?_;simp -dsimp -implicitDefEqProofs only[go_sem,e0];refine key ?_ ?_
   ·rw[gL n d hd,hg,if_neg hs]
   ·rw[gM n d hd,hg];congr 1;omega
theorem fX (a b:Int) (hla:(lb a).length<34359738368) (hlb:(lb b).length<34359738368):Fn Tryz.prog 186 [.c (.lst [eZ a,eZ b])] [iZ (a*b)]:=by
 have l1:(lb 1).length<=1:=CM (by omega) (by omega);refine ak (fn:=Tryz.f186) (by rfl) rfl rfl rfl (by rfl) ?_;simp -dsimp -implicitDefEqProofs only[go_sem];refine an (us 1 (by decide)) ?_;simp -dsimp -implicitDefEqProofs only[go_sem];refine aJ [(5,5),(9,16)] [(3,3),(5,5)] [] (fun m τ β _=>∃ i:Nat,m=2-i/\i<=2/\τ 9=aI i/\β 3=⟨1,eZ (if i=0 then 1 else if i=1 then a else a*b)⟩)
  (fun e τ β _=>e = .exit 0/\β 3=⟨1,eZ (a*b)⟩) 2 ?_ ?_ ?_
 ·exact⟨0,rfl,by omega,rfl,rfl⟩
 ·rintro m τ β ε π hK hKB hKE ⟨i,hm,hi,h9,h3⟩;have k3:τ 3 = .bp 3 1 0:=hK 3 (by decide);have k7:τ 7 = .i (.c (.lst ([a,b].map eZ))):=hK 7 (by decide);have k8:τ 8=aI 2:=hK 8 (by decide);obtain rfl|rfl|rfl:i=0\/i=1\/i=2:=by omega
  ·replace h9:τ 9=aI 0:=h9
   replace h3:β 3=⟨1,eZ (1)⟩:=h3
   have hd:decide ((0:Int)<2)=true:=rfl;simp -dsimp -implicitDefEqProofs only[go_sem,k3,k7,k8,h9,h3,hd]
   repeat(refine And.intro (by omega) ?_)
   refine bD 0 rfl (by simp) ?_;simp -dsimp -implicitDefEqProofs only[go_sem,k3,k7,k8,h9,h3,List.getElem_cons_zero,List.getElem_cons_succ];refine aa (IQ (1) a (by omega) (by omega)) rfl ?_;simp -dsimp -implicitDefEqProofs only[go_sem,k3,k7,k8,h9,h3]
   repeat(refine And.intro (by omega) ?_)
   refine again 1 (by omega) ⟨(by(repeat apply am rfl);exact hK),(by(repeat apply am rfl);exact hKB),hKE,1,rfl,by omega,rfl,?_⟩
   simp -dsimp -implicitDefEqProofs only[go_sem,Int.one_mul]
  ·replace h9:τ 9=aI 1:=h9
   replace h3:β 3=⟨1,eZ (a)⟩:=h3
   have hd:decide ((1:Int)<2)=true:=rfl;simp -dsimp -implicitDefEqProofs only[go_sem,k3,k7,k8,h9,h3,hd]
   repeat(refine And.intro (by omega) ?_)
   refine bD 1 rfl (by simp) ?_;simp -dsimp -implicitDefEqProofs only[go_sem,k3,k7,k8,h9,h3,List.getElem_cons_zero,List.getElem_cons_succ];refine aa (IQ (a) b (by omega) (by omega)) rfl ?_;simp -dsimp -implicitDefEqProofs only[go_sem,k3,k7,k8,h9,h3]
   repeat(refine And.intro (by omega) ?_)
   refine again 0 (by omega) ⟨(by(repeat apply am rfl);exact hK),(by(repeat apply am rfl);exact hKB),hKE,2,rfl,by omega,rfl,?_⟩
   simp -dsimp -implicitDefEqProofs only[go_sem,Int.one_mul]
  ·replace h9:τ 9=aI 2:=h9
   replace h3:β 3=⟨1,eZ (a*b)⟩:=h3
   have hd:decide ((2:Int)<2)=false:=rfl;simp -dsimp -implicitDefEqProofs only[go_sem,k3,k7,k8,h9,h3,hd];exact⟨(by(repeat apply am rfl);exact hK),hKB,hKE⟩
 ·rintro e τ β ε π hK hKB hKE ⟨rfl,h3⟩;have k2:τ 2 = .bp 2 1 0:=hK 2 (by decide);have k3:τ 3 = .bp 3 1 0:=hK 3 (by decide);have hb2:β 2=⟨1,kw false []⟩:=hKB 2 (by decide);simp -dsimp -implicitDefEqProofs only[go_sem,k2,k3,h3,hb2];rfl
theorem Of (n d:Int) (hd:d≠0) (hn:(lb n).length<68719476736) (hd':(lb d).length<68719476736):Fn Tryz.prog 196 [iZ n,iZ d] [iQ (Rat.divInt n d),iN 0]:=by
 have e0:decide (d.sign=0)=false:=by rw[m8];exact aj hd
 refine ak (fn:=Tryz.f196) (by rfl) rfl rfl rfl (by rfl) ?_;simp -dsimp -implicitDefEqProofs only[go_sem];refine aa (t7 d) rfl ?_;simp -dsimp -implicitDefEqProofs only[go_sem,e0];refine aa (qd n d hd hn hd') rfl ?_;simp -dsimp -implicitDefEqProofs only[go_sem];rfl
theorem py (q:Rat):Fn Tryz.prog 150 [iQ q] [iN q.num.sign]:=by
 refine ak (fn:=Tryz.f150) (by rfl) rfl rfl rfl (by rfl) ?_;simp -dsimp -implicitDefEqProofs only[go_sem,eQ];refine aa (t7 q.num) rfl ?_;simp -dsimp -implicitDefEqProofs only[go_sem]
theorem gk (n:Int) (h : -9223372036854775808<=n/\n<9223372036854775808):Fn Tryz.prog 106 [iN n] [iQ n]:=by
 refine ak (fn:=Tryz.f106) (by rfl) rfl rfl rfl (by rfl) ?_;simp -dsimp -implicitDefEqProofs only[go_sem];refine an (us n h) ?_;simp -dsimp -implicitDefEqProofs only[go_sem];refine an (us 1 (by decide)) ?_;simp -dsimp -implicitDefEqProofs only[go_sem];rfl
theorem ik (q:Rat):(q.den:Int)≠0:=by have:=q.den_nz;omega
theorem tY (a b:Rat):Rat.divInt (a.num*b.den+b.num*a.den) (a.den*b.den)=a+b:=by
 conv=>rhs;rw[<-Rat.num_divInt_den a,<-Rat.num_divInt_den b]
 rw[Rat.divInt_add_divInt _ _ (ik a) (ik b)]
theorem sL (a b:Rat):Rat.divInt (a.num*b.num) (a.den*b.den)=a*b:=by
 conv=>rhs;rw[<-Rat.num_divInt_den a,<-Rat.num_divInt_den b]
 rw[Rat.divInt_mul_divInt]
theorem Dq (a b:Rat) (ha:QB 17179869184 a) (hb:QB 17179869184 b):Fn Tryz.prog 156 [iQ a,iQ b] [iQ (a*b)]:=by
 obtain⟨a1,a2⟩:=ha;obtain⟨b1,b2⟩:=hb;have h1:=dY a.num b.num;have h2:=dY a.den b.den;refine ak (fn:=Tryz.f156) (by rfl) rfl rfl rfl (by rfl) ?_;simp -dsimp -implicitDefEqProofs only[go_sem];refine ao (by rfl) 13 [] false true (by rfl) (by rfl) (by decide +kernel) ?_;simp -dsimp -implicitDefEqProofs only[go_sem];refine ar (args':=[.c (.lst [eZ a.num,eZ b.num])]) rfl (fX _ _ (by omega) (by omega)) ?_;simp -dsimp -implicitDefEqProofs only[go_sem];refine ar (args':=[.c (.lst [eZ a.den,eZ b.den])]) rfl (fX _ _ (by omega) (by omega)) ?_;simp -dsimp -implicitDefEqProofs only[go_sem];refine ar (args':=[iZ (a.num*b.num),iZ (a.den*b.den)]) rfl (qd _ _ (Int.mul_ne_zero (ik a) (ik b)) (by omega) (by omega)) ?_;simp -dsimp -implicitDefEqProofs only[go_sem];rw[sL];rfl
theorem Dr (a b:Rat) (ha:QB 8589934592 a) (hb:QB 8589934592 b):Fn Tryz.prog 149 [iQ a,iQ b] [iQ (a+b)]:=by
 obtain⟨a1,a2⟩:=ha;obtain⟨b1,b2⟩:=hb;have h1:=dY a.num b.den;have h2:=dY b.num a.den;have h3:=dY a.den b.den;have h4:(lb (a.num*b.den+b.num*a.den)).length<=17179869184+1:=A7 (by omega) (by omega);refine ak (fn:=Tryz.f149) (by rfl) rfl rfl rfl (by rfl) ?_;simp -dsimp -implicitDefEqProofs only[go_sem];refine ao (by rfl) 20 [] false true (by rfl) (by rfl) (by decide +kernel) ?_;simp -dsimp -implicitDefEqProofs only[go_sem];refine ar (args':=[.c (.lst [eZ a.num,eZ b.den])]) rfl (fX _ _ (by omega) (by omega)) ?_;simp -dsimp -implicitDefEqProofs only[go_sem];refine ar (args':=[.c (.lst [eZ b.num,eZ a.den])]) rfl (fX _ _ (by omega) (by omega)) ?_;simp -dsimp -implicitDefEqProofs only[go_sem];refine ar (args':=[iZ (a.num*b.den),iZ (b.num*a.den)]) rfl (Ca _ _ (by omega) (by omega)) ?_;simp -dsimp -implicitDefEqProofs only[go_sem];refine ar (args':=[.c (.lst [eZ a.den,eZ b.den])]) rfl (fX _ _ (by omega) (by omega)) ?_;simp -dsimp -implicitDefEqProofs only[go_sem];refine ar (args':=[iZ (a.num*b.den+b.num*a.den),iZ (a.den*b.den)]) rfl (qd _ _ (Int.mul_ne_zero (ik a) (ik b)) (by omega) (by omega)) ?_;simp -dsimp -implicitDefEqProofs only[go_sem];rw[tY];rfl
theorem GY {q:Rat} (h:q≠0):q.num≠0:=fun e=>h (Rat.num_eq_zero.1 e)
theorem tN (a b:Rat):Rat.divInt (a.num*b.den) (a.den*b.num)=a/b:=by
 conv=>rhs;rw[Rat.div_def,<-Rat.num_divInt_den a,<-Rat.num_divInt_den b]
 rw[Rat.inv_divInt,Rat.divInt_mul_divInt]
theorem rG (a b:Rat) (hb0:b≠0) (ha:QB 17179869184 a) (hb:QB 17179869184 b):Fn Tryz.prog 154 [iQ a,iQ b] [iQ (a/b),iN 0]:=by
 obtain⟨a1,a2⟩:=ha;obtain⟨b1,b2⟩:=hb;have h1:=dY a.num b.den;have h2:=dY a.den b.num;refine ak (fn:=Tryz.f154) (by rfl) rfl rfl rfl (by rfl) ?_;simp -dsimp -implicitDefEqProofs only[go_sem];refine ao (by rfl) 15 [] false true (by rfl) (by rfl) (by decide +kernel) ?_;simp -dsimp -implicitDefEqProofs only[go_sem];refine ar (args':=[.c (.lst [eZ a.num,eZ b.den])]) rfl (fX _ _ (by omega) (by omega)) ?_;simp -dsimp -implicitDefEqProofs only[go_sem];refine ar (args':=[.c (.lst [eZ a.den,eZ b.num])]) rfl (fX _ _ (by omega) (by omega)) ?_;simp -dsimp -implicitDefEqProofs only[go_sem];refine ar (args':=[iZ (a.num*b.den),iZ (a.den*b.num)]) rfl (Of _ _ (Int.mul_ne_zero (ik a) (GY hb0)) (by omega) (by omega)) ?_;simp -dsimp -implicitDefEqProofs only[go_sem];rw[tN];rfl
theorem Lm (a b:Rat) (ha:QB 17179869184 a) (hb:QB 17179869184 b):Fn Tryz.prog 177 [iQ a,iQ b] [iN (ef (a.num*b.den) (b.num*a.den))]:=by
 obtain⟨a1,a2⟩:=ha;obtain⟨b1,b2⟩:=hb;have h1:=dY a.num b.den;have h2:=dY b.num a.den;refine ak (fn:=Tryz.f177) (by rfl) rfl rfl rfl (by rfl) ?_;simp -dsimp -implicitDefEqProofs only[go_sem];refine ao (by rfl) 14 [] false true (by rfl) (by rfl) (by decide +kernel) ?_;simp -dsimp -implicitDefEqProofs only[go_sem];refine ar (args':=[.c (.lst [eZ a.num,eZ b.den])]) rfl (fX _ _ (by omega) (by omega)) ?_;simp -dsimp -implicitDefEqProofs only[go_sem];refine ar (args':=[.c (.lst [eZ b.num,eZ a.den])]) rfl (fX _ _ (by omega) (by omega)) ?_;simp -dsimp -implicitDefEqProofs only[go_sem];refine ar (args':=[iZ (a.num*b.den),iZ (b.num*a.den)]) rfl (B8 _ _ (by omega) (by omega)) ?_;simp -dsimp -implicitDefEqProofs only[go_sem]
theorem cY (n:Int) (h : -9223372036854775808<=n/\n<9223372036854775808):Fn Tryz.prog 86 [iN n] [iQ n]:=by
 refine ak (fn:=Tryz.f86) (by rfl) rfl rfl rfl (by rfl) ?_;simp -dsimp -implicitDefEqProofs only[go_sem];refine an (uf n h) ?_;simp -dsimp -implicitDefEqProofs only[go_sem];refine an (uf 1 (by decide)) ?_;simp -dsimp -implicitDefEqProofs only[go_sem];rfl
theorem gP (q:Rat):Fn Tryz.prog 102 [iQ q] [iN q.num.sign]:=by
 refine ak (fn:=Tryz.f102) (by rfl) rfl rfl rfl (by rfl) ?_;simp -dsimp -implicitDefEqProofs only[go_sem];refine aa (ib q.num) rfl ?_;simp -dsimp -implicitDefEqProofs only[go_sem]
theorem II (q:Rat) (h:QB 17179869184 q):Fn Tryz.prog 166 [iQ q] [iQ (-q)]:=by
 obtain⟨h1,h2⟩:=h;refine ak (fn:=Tryz.f166) (by rfl) rfl rfl rfl (by rfl) ?_;simp -dsimp -implicitDefEqProofs only[go_sem];refine ao (by rfl) 6 [] false true (by rfl) (by rfl) (by decide +kernel) ?_;simp -dsimp -implicitDefEqProofs only[go_sem];refine aa (lv q.num (by omega)) rfl ?_;simp -dsimp -implicitDefEqProofs only[go_sem];rfl
theorem Fx (a b:Rat) (ha:QB 17179869184 a) (hb:QB 17179869184 b):Fn Tryz.prog 128 [iQ a,iQ b] [iB (decide (a=b))]:=by
 obtain⟨a1,a2⟩:=ha;obtain⟨b1,b2⟩:=hb;refine ak (fn:=Tryz.f128) (by rfl) rfl rfl rfl (by rfl) ?_;simp -dsimp -implicitDefEqProofs only[go_sem];refine ar (args':=[iZ a.num,iZ b.num]) rfl (ud _ _ (by omega) (by omega)) ?_;by_cases h:a.num=b.num
 ·simp -dsimp -implicitDefEqProofs only[go_sem,h];refine ar (args':=[iZ a.den,iZ b.den]) rfl (ud _ _ (by omega) (by omega)) ?_;simp -dsimp -implicitDefEqProofs only[go_sem];refine congrArg (fun x=>some [iB x]) ?_;rw[decide_eq_decide];exact⟨fun h'=>Rat.ext h (by omega),fun h'=>by rw[h']⟩
 ·simp -dsimp -implicitDefEqProofs only[go_sem,h];refine congrArg (fun x=>some [iB x]) ?_;rw[eq_comm,decide_eq_false_iff_not];exact fun h'=>h (by rw[h'])
theorem Dp (n d:Int) (hd:d≠0) (hn:(lb n).length<68719476736) (hd':(lb d).length<68719476736):Fn Tryz.prog 181 [iZ n,iZ d] [iQ (Rat.divInt n d),iN 0]:=by
 have key:∀{u v:Int},u=(Rat.divInt n d).num->v=(Rat.divInt n d).den->some [IV.g (eZ u++eZ v),iN 0]=some [iQ (Rat.divInt n d),iN 0]:=fun h1 h2=>by rw[h1,h2];rfl
 have e0:decide (d.sign=0)=false:=by rw[m8];exact aj hd
 have hg0:(Int.gcd n d:Int)≠0:=by
  intro h;have:=Int.gcd_eq_zero_iff.1 (Int.ofNat.inj h);exact hd this.2
 have hgl:(lb (Int.gcd n d:Int)).length<=(lb d).length:=eG (by
  have h1:=fj d;have h2:Int.gcd n d<=d.natAbs:=Nat.le_of_dvd (by omega) (Int.gcd_dvd_natAbs_right n d);omega)
 refine ak (fn:=Tryz.f181) (by rfl) rfl rfl rfl (by rfl) ?_;simp -dsimp -implicitDefEqProofs only[go_sem];refine aa (ib d) rfl ?_;simp -dsimp -implicitDefEqProofs only[go_sem,e0];by_cases hs:d<0
 ·have es:decide (d.sign<0)=true:=by rw[ro];exact ai hs
  refine aa (ib d) rfl ?_;simp -dsimp -implicitDefEqProofs only[go_sem,es];refine ao (by rfl) 4 [] false true (by rfl) (by rfl) (by decide +kernel) ?_;simp -dsimp -implicitDefEqProofs only[go_sem];refine aa (lv n (by omega)) rfl ?_;simp -dsimp -implicitDefEqProofs only[go_sem];refine aa (lv d (by omega)) rfl ?_;simp -dsimp -implicitDefEqProofs only[go_sem];refine aa (xd (-n) (-d) (by rw[jo];omega) (by rw[jo];omega)) rfl ?_;rw[Int.neg_gcd,Int.gcd_neg];generalize hg:(Int.gcd n d:Int)=g at *
  simp -dsimp -implicitDefEqProofs only[go_sem];refine aa (jz (-n) g hg0 (by rw[jo];omega) (by omega)) rfl ?_;simp -dsimp -implicitDefEqProofs only[go_sem];refine aa (jz (-d) g hg0 (by rw[jo];omega) (by omega)) rfl ?_;simp -dsimp -implicitDefEqProofs only[go_sem];refine key ?_ ?_
  ·rw[gL n d hd,hg,if_pos hs]
  ·rw[gM n d hd,hg];congr 1;omega
 ·have es:decide (d.sign<0)=false:=by rw[ro];exact aj hs
  refine aa (ib d) rfl ?_;simp -dsimp -implicitDefEqProofs only[go_sem,es];refine aa (xd (n) (d) (by omega) (by omega)) rfl ?_;generalize hg:(Int.gcd n d:Int)=g at *
  simp -dsimp -implicitDefEqProofs only[go_sem];refine aa (jz (n) g hg0 (by omega) (by omega)) rfl ?_;simp -dsimp -implicitDefEqProofs only[go_sem];refine aa (jz (d) g hg0 (by omega) (by omega)) rfl ?_;simp -dsimp -implicitDefEqProofs only[go_sem];refine key ?_ ?_
  ·rw[gL n d hd,hg,if_neg hs]
  ·rw[gM n d hd,hg];congr 1;omega
theorem Do (n d:Int) (hd:d≠0) (hn:(lb n).length<68719476736) (hd':(lb d).length<68719476736):Fn Tryz.prog 141 [iZ n,iZ d] [iQ (Rat.divInt n d)]:=by
 refine ak (fn:=Tryz.f141) (by rfl) rfl rfl rfl (by rfl) ?_;simp -dsimp -implicitDefEqProofs only[go_sem];refine aa (Dp n d hd hn hd') rfl ?_;simp -dsimp -implicitDefEqProofs only[go_sem];rfl
theorem IJ (a b:Rat) (ha:QB 17179869184 a) (hb:QB 17179869184 b):Fn Tryz.prog 143 [iQ a,iQ b] [iQ (a*b)]:=by
 obtain⟨a1,a2⟩:=ha;obtain⟨b1,b2⟩:=hb;have h1:=dY a.num b.num;have h2:=dY a.den b.den;refine ak (fn:=Tryz.f143) (by rfl) rfl rfl rfl (by rfl) ?_;simp -dsimp -implicitDefEqProofs only[go_sem];refine ao (by rfl) 11 [] false true (by rfl) (by rfl) (by decide +kernel) ?_;simp -dsimp -implicitDefEqProofs only[go_sem];refine ar (args':=[iZ a.num,iZ b.num]) rfl (gW _ _ (by omega) (by omega)) ?_;simp -dsimp -implicitDefEqProofs only[go_sem];refine ar (args':=[iZ a.den,iZ b.den]) rfl (gW _ _ (by omega) (by omega)) ?_;simp -dsimp -implicitDefEqProofs only[go_sem];refine ar (args':=[iZ (a.num*b.num),iZ (a.den*b.den)]) rfl (Do _ _ (Int.mul_ne_zero (ik a) (ik b)) (by omega) (by omega)) ?_;simp -dsimp -implicitDefEqProofs only[go_sem];rw[sL];rfl
theorem uo (a b:Rat) (ha:QB 8589934592 a) (hb:QB 8589934592 b):Fn Tryz.prog 101 [iQ a,iQ b] [iQ (a+b)]:=by
 obtain⟨a1,a2⟩:=ha;obtain⟨b1,b2⟩:=hb;have h1:=dY a.num b.den;have h2:=dY b.num a.den;have h3:=dY a.den b.den;have h4:(lb (a.num*b.den+b.num*a.den)).length<=17179869184+1:=A7 (by omega) (by omega);refine ak (fn:=Tryz.f101) (by rfl) rfl rfl rfl (by rfl) ?_;simp -dsimp -implicitDefEqProofs only[go_sem];refine ao (by rfl) 12 [5] false true (by rfl) (by rfl) (by decide +kernel) ?_;simp -dsimp -implicitDefEqProofs only[go_sem];refine ar (args':=[iZ a.num,iZ b.den]) rfl (gW _ _ (by omega) (by omega)) ?_;simp -dsimp -implicitDefEqProofs only[go_sem];refine ar (args':=[iZ b.num,iZ a.den]) rfl (gW _ _ (by omega) (by omega)) ?_;simp -dsimp -implicitDefEqProofs only[go_sem];refine ar (args':=[iZ (a.num*b.den),iZ (b.num*a.den)]) rfl (rF _ _ (by omega) (by omega)) ?_;simp -dsimp -implicitDefEqProofs only[go_sem];refine ao (by rfl) 7 [] false true (by rfl) (by rfl) (by decide +kernel) ?_;simp -dsimp -implicitDefEqProofs only[go_sem];refine ar (args':=[iZ a.den,iZ b.den]) rfl (gW _ _ (by omega) (by omega)) ?_;simp -dsimp -implicitDefEqProofs only[go_sem];refine ar (args':=[iZ (a.num*b.den+b.num*a.den),iZ (a.den*b.den)]) rfl (Do _ _ (Int.mul_ne_zero (ik a) (ik b)) (by omega) (by omega)) ?_;simp -dsimp -implicitDefEqProofs only[go_sem];rw[tY];rfl
theorem IH (a b:Rat) (ha:QB 8589934592 a) (hb:QB 8589934592 b):Fn Tryz.prog 127 [iQ a,iQ b] [iQ (a-b)]:=by
 obtain⟨b1,b2⟩:=hb;refine ak (fn:=Tryz.f127) (by rfl) rfl rfl rfl (by rfl) ?_;simp -dsimp -implicitDefEqProofs only[go_sem];refine ao (by rfl) 4 [] false true (by rfl) (by rfl) (by decide +kernel) ?_;simp -dsimp -implicitDefEqProofs only[go_sem];refine aa (II b ⟨by omega,by omega⟩) rfl ?_;simp -dsimp -implicitDefEqProofs only[go_sem];refine aa (uo a (-b) ha ⟨by rw[Rat.neg_num,jo];omega,by rw[Rat.neg_den];omega⟩) rfl ?_;simp -dsimp -implicitDefEqProofs only[go_sem];rw[Rat.sub_eq_add_neg];rfl
theorem IK (a b:Rat) (ha:QB 8589934592 a) (hb:QB 8589934592 b):Fn Tryz.prog 92 [iQ a,iQ b] [iN (a-b).num.sign]:=by
 refine ak (fn:=Tryz.f92) (by rfl) rfl rfl rfl (by rfl) ?_;simp -dsimp -implicitDefEqProofs only[go_sem];refine aa (IH a b ha hb) rfl ?_;simp -dsimp -implicitDefEqProofs only[go_sem];refine aa (gP (a-b)) rfl ?_;simp -dsimp -implicitDefEqProofs only[go_sem]
theorem zF (a b:Rat) (hb0:b≠0) (ha:QB 17179869184 a) (hb:QB 17179869184 b):Fn Tryz.prog 199 [iQ a,iQ b] [iQ (a/b),iN 0]:=by
 obtain⟨a1,a2⟩:=ha;obtain⟨b1,b2⟩:=hb;have h1:=dY a.num b.den;have h2:=dY a.den b.num;refine ak (fn:=Tryz.f199) (by rfl) rfl rfl rfl (by rfl) ?_;simp -dsimp -implicitDefEqProofs only[go_sem];refine ao (by rfl) 13 [] false true (by rfl) (by rfl) (by decide +kernel) ?_;simp -dsimp -implicitDefEqProofs only[go_sem];refine ar (args':=[iZ a.num,iZ b.den]) rfl (gW _ _ (by omega) (by omega)) ?_;simp -dsimp -implicitDefEqProofs only[go_sem];refine ar (args':=[iZ a.den,iZ b.num]) rfl (gW _ _ (by omega) (by omega)) ?_;simp -dsimp -implicitDefEqProofs only[go_sem];refine ar (args':=[iZ (a.num*b.den),iZ (a.den*b.num)]) rfl (Dp _ _ (Int.mul_ne_zero (ik a) (GY hb0)) (by omega) (by omega)) ?_;simp -dsimp -implicitDefEqProofs only[go_sem];rw[tN];rfl
theorem vH (a b:Rat) (hb0:b≠0) (ha:QB 17179869184 a) (hb:QB 17179869184 b):Fn Tryz.prog 159 [iQ a,iQ b] [iQ (a/b)]:=by
 refine ak (fn:=Tryz.f159) (by rfl) rfl rfl rfl (by rfl) ?_;simp -dsimp -implicitDefEqProofs only[go_sem];refine aa (zF a b hb0 ha hb) rfl ?_;simp -dsimp -implicitDefEqProofs only[go_sem];rfl
theorem B0 (q:Rat) (h:QB 17179869184 q):Fn Tryz.prog 126 [iQ q] [iB true]:=by
 obtain⟨h1,h2⟩:=h;have hd:decide (((q.den:Int)).sign<=0)=false:=by
  have:=q.den_pos;rw[Int.sign_eq_one_of_pos (by omega)];rfl
 have hg:Int.gcd q.num q.den=1:=q.reduced;refine ak (fn:=Tryz.f126) (by rfl) rfl rfl rfl (by rfl) ?_;simp -dsimp -implicitDefEqProofs only[go_sem];refine ar (args':=[iZ q.num]) rfl (vB _ (by omega)) ?_;simp -dsimp -implicitDefEqProofs only[go_sem];refine ar (args':=[iZ q.den]) rfl (vB _ (by omega)) ?_;simp -dsimp -implicitDefEqProofs only[go_sem];refine ar (args':=[iZ q.den]) rfl (ib _) ?_;simp -dsimp -implicitDefEqProofs only[go_sem,hd];refine ar (args':=[iZ q.num,iZ q.den]) rfl (xd _ _ (by omega) (by omega)) ?_;rw[hg];simp -dsimp -implicitDefEqProofs only[go_sem];refine an (uf 1 (by decide)) ?_;simp -dsimp -implicitDefEqProofs only[go_sem];refine aa (ud 1 1 (by decide +kernel) (by decide +kernel)) rfl ?_;simp -dsimp -implicitDefEqProofs only[go_sem]
theorem PM (e:Ex):e.cs=[.v (.int .i64 e.a),.v (.int .i64 e.b),.v (.int .i64 e.c),.v (.int .i64 e.d)]:=rfl
attribute [go_sem] PM
abbrev iE (e:Ex):IV := .g e.cs
theorem pi (e f:Ex):bO e f=if e.d≠f.d then ef e.d f.d else if e.c≠f.c then ef e.c f.c else if e.b≠f.b then ef e.b f.b else ef e.a f.a:=rfl
theorem Ff (x:Int):ef x x=0:=cU.2 rfl
theorem qQ (e f:Ex):Fn Tryz.prog 148 [iE e,iE f] [iN (bO e f)]:=by
 refine ak (fn:=Tryz.f148) (by rfl) rfl rfl rfl (by rfl) ?_;simp -dsimp -implicitDefEqProofs only[go_sem];refine aJ [(4,20)] [] [] (fun n τ β _=>n<=4/\τ 5=aI ((n:Int)-1)/\(n<=3->e.d=f.d)/\(n<=2->e.c=f.c)/\(n<=1->e.b=f.b)/\(n<=0->e.a=f.a))
  (fun x τ β _=>x = .exit 0/\bO e f=0\/x = .ret/\τ 4=aI (bO e f)) 4 ?_ ?_ ?_
 ·exact⟨ae _,rfl,by omega,by omega,by omega,by omega⟩
 ·rintro n τ β ε π hK hKB hKE ⟨hn,h5,h1,h2,h3,h4⟩;have k2:τ 2 = .bp 2 1 0:=hK 2 (by decide);have k3:τ 3 = .bp 3 1 0:=hK 3 (by decide);have b2:β 2=⟨1,e.cs⟩:=hKB 2 (by decide);have b3:β 3=⟨1,f.cs⟩:=hKB 3 (by decide);obtain rfl|rfl|rfl|rfl|rfl:n=0\/n=1\/n=2\/n=3\/n=4:=by omega
  ·replace h5:τ 5=aI (-1):=h5
   have e0:decide ((0:Int) <= -1)=false:=rfl;simp -dsimp -implicitDefEqProofs only[go_sem,h5,e0];refine⟨(by(repeat apply am rfl);exact hK),hKB,hKE,?_⟩
   rw[pi,h1 (by omega),h2 (by omega),h3 (by omega),h4 (by omega)];simp[Ff]
  ·replace h5:τ 5=aI 0:=h5
   have e0:decide ((0:Int)<=0)=true:=rfl;simp -dsimp -implicitDefEqProofs only[go_sem,h5,k2,k3,b2,b3,e0];refine ao (by rfl) 8 [] false true (by rfl) (by rfl) (by decide +kernel) ?_;simp -dsimp -implicitDefEqProofs only[go_sem,h5,k2,k3,b2,b3,Int.reduceToNat,Int.reduceLE,true_and];refine an (eP _ _) ?_;simp -dsimp -implicitDefEqProofs only[go_sem,h5,k2,k3,b2,b3,Int.reduceToNat,Int.reduceLE,true_and];refine aO (fun h=>?_) (fun h=>?_)
   ·simp -dsimp -implicitDefEqProofs only[go_sem,h5]
    repeat(refine And.intro (by omega) ?_)
    refine again 0 (by omega) ⟨(by(repeat apply am rfl);exact hK),hKB,hKE,by omega,rfl,fun _=>h1 (by omega),fun _=>h2 (by omega),fun _=>h3 (by omega),fun _=>cU.1 h⟩
   ·simp -dsimp -implicitDefEqProofs only[go_sem];refine⟨(by(repeat apply am rfl);exact hK),hKB,hKE,ia ?_⟩
    rw[pi,h1 (by omega),h2 (by omega),h3 (by omega)];simp
  ·replace h5:τ 5=aI 1:=h5
   have e0:decide ((0:Int)<=1)=true:=rfl;simp -dsimp -implicitDefEqProofs only[go_sem,h5,k2,k3,b2,b3,e0];refine ao (by rfl) 8 [] false true (by rfl) (by rfl) (by decide +kernel) ?_;simp -dsimp -implicitDefEqProofs only[go_sem,h5,k2,k3,b2,b3,Int.reduceToNat,Int.reduceLE,true_and];refine an (eP _ _) ?_;simp -dsimp -implicitDefEqProofs only[go_sem,h5,k2,k3,b2,b3,Int.reduceToNat,Int.reduceLE,true_and];refine aO (fun h=>?_) (fun h=>?_)
   ·simp -dsimp -implicitDefEqProofs only[go_sem,h5]
    repeat(refine And.intro (by omega) ?_)
    refine again 1 (by omega) ⟨(by(repeat apply am rfl);exact hK),hKB,hKE,by omega,rfl,fun _=>h1 (by omega),fun _=>h2 (by omega),fun _=>cU.1 h,by omega⟩
   ·simp -dsimp -implicitDefEqProofs only[go_sem];refine⟨(by(repeat apply am rfl);exact hK),hKB,hKE,ia ?_⟩
    have h':e.b≠f.b:=fun e=>h (cU.2 e);rw[pi,h1 (by omega),h2 (by omega)];simp[h']
  ·replace h5:τ 5=aI 2:=h5
   have e0:decide ((0:Int)<=2)=true:=rfl;simp -dsimp -implicitDefEqProofs only[go_sem,h5,k2,k3,b2,b3,e0];refine ao (by rfl) 8 [] false true (by rfl) (by rfl) (by decide +kernel) ?_;simp -dsimp -implicitDefEqProofs only[go_sem,h5,k2,k3,b2,b3,Int.reduceToNat,Int.reduceLE,true_and];refine an (eP _ _) ?_;simp -dsimp -implicitDefEqProofs only[go_sem,h5,k2,k3,b2,b3,Int.reduceToNat,Int.reduceLE,true_and];refine aO (fun h=>?_) (fun h=>?_)
   ·simp -dsimp -implicitDefEqProofs only[go_sem,h5]
    repeat(refine And.intro (by omega) ?_)
    refine again 2 (by omega) ⟨(by(repeat apply am rfl);exact hK),hKB,hKE,by omega,rfl,fun _=>h1 (by omega),fun _=>cU.1 h,by omega,by omega⟩
   ·simp -dsimp -implicitDefEqProofs only[go_sem];refine⟨(by(repeat apply am rfl);exact hK),hKB,hKE,ia ?_⟩
    have h':e.c≠f.c:=fun e=>h (cU.2 e);rw[pi,h1 (by omega)];simp[h']
  ·replace h5:τ 5=aI 3:=h5
   have e0:decide ((0:Int)<=3)=true:=rfl;simp -dsimp -implicitDefEqProofs only[go_sem,h5,k2,k3,b2,b3,e0];refine ao (by rfl) 8 [] false true (by rfl) (by rfl) (by decide +kernel) ?_;simp -dsimp -implicitDefEqProofs only[go_sem,h5,k2,k3,b2,b3,Int.reduceToNat,Int.reduceLE,true_and];refine an (eP _ _) ?_;simp -dsimp -implicitDefEqProofs only[go_sem,h5,k2,k3,b2,b3,Int.reduceToNat,Int.reduceLE,true_and];refine aO (fun h=>?_) (fun h=>?_)
   ·simp -dsimp -implicitDefEqProofs only[go_sem,h5]
    repeat(refine And.intro (by omega) ?_)
    refine again 3 (by omega) ⟨(by(repeat apply am rfl);exact hK),hKB,hKE,by omega,rfl,fun _=>cU.1 h,by omega,by omega,by omega⟩
   ·simp -dsimp -implicitDefEqProofs only[go_sem];refine⟨(by(repeat apply am rfl);exact hK),hKB,hKE,ia ?_⟩
    have h':e.d≠f.d:=fun e=>h (cU.2 e);rw[pi];simp[h']
 ·rintro x τ β ε π hK hKB hKE (⟨rfl,h⟩|⟨rfl,h⟩)
  ·simp -dsimp -implicitDefEqProofs only[go_sem,h]
  ·simp -dsimp -implicitDefEqProofs only[go_sem,h]
theorem R8.parts (x:R8):∃ p q r s,x.l=[.int .i64 x.e.a,.int .i64 x.e.b,.int .i64 x.e.c,.int .i64 x.e.d,p,q,r,s]:=by
 have h1:=x.hl;have h2:=x.he
 match hx:x.l,h1,h2 with
 | [a,b,c,d,p,q,r,s],_,h2 =>
  simp at h2;obtain⟨rfl,rfl,rfl,rfl⟩:=h2;exact⟨p,q,r,s,rfl⟩
theorem Fg (x y:R8):Fn Tryz.prog 198 [.g (x.l.map C.v),.g (y.l.map C.v)] [.c (.v (.int .i64 (cfX x y)))]:=by
 obtain⟨p,q,r,s,hx⟩:=x.parts;obtain⟨p',q',r',s',hy⟩:=y.parts;rw[hx,hy];refine ak (fn:=Tryz.f198) (by rfl) rfl rfl rfl (by rfl) ?_;simp -dsimp -implicitDefEqProofs only[go_sem,List.map_cons,List.map_nil];refine ar (args':=[iE y.e,iE x.e]) rfl (qQ _ _) ?_;simp -dsimp -implicitDefEqProofs only[go_sem];rfl
def cr (e:Ex):Prop:=0<=e.a/\0<=e.b/\0<=e.c/\0<=e.d
instance (e:Ex):Decidable (cr e):=inferInstanceAs (Decidable (_/\_))
section
variable {P:Program} {st:St} {Q:aK->St->Prop}
theorem WP.boxSlice (kind:FuncId->CK) {id:Nat} {o1 o2:Oper} {rest:List Oper} {d1 d2 x t f g:Nat} {T I:TypeId} {ts:Array TypeId} {vs:List Int} {res:Value} {i:TypeInfo} (h1:o1.op = .slice T (.tmp x) none none none) (g1:o1.guard=none) (e1:o1.dst=some d1)
  (h2:o2.op = .call ⟨.value (.func f),#[.tmp d1],ts⟩) (g2:o2.guard=none) (e2:o2.dst=some d2) (hx:st.t x = .bp t g 0) (hg:(st.b t).gen=g) (h0:0<g) (hc:(st.b t).cs=vs.map fun i=>C.v (.int .i64 i))
  (hT:P.underlying T=some (.array vs.length I)) (hi:P.info? I=some i) (hf:Fn P f [.c (.lst (vs.map fun i=>[C.v (.int .i64 i)]))] [.c (.v res)])
  (h:WsF P kind (o1::o2::rest) rest (Q .normal) ((st.setT d1 .any).setT d2 (sc res))):WP P (.region id (o1::o2::rest).toArray false) Q st:=by
 intro ρ W0 M0 N G w a S hd;have hN:=dv hd;have hd1:d1<N:=hN 0 o1 (by simp) d1 e1;have hd2:d2<N:=hN 1 o2 (by simp) d2 e2;have hv:=S.fr x;rw[hx]at hv;have hxv:=hv.2 hg h0;obtain⟨hown,ys,Ty,hy,hr⟩:=S.bx t (by omega);rw[hc]at hr;have key:∀{l:List Int} {zs:List Value},aC w (G.M M0) (l.map fun i=>C.v (.int .i64 i)) zs->zs=l.map (.int .i64):=by
  intro l
  induction l with
  | nil=>intro zs h;cases zs with|nil=>rfl|cons _ _=>exact h.elim
  | cons x l ih =>
   intro zs h;cases zs with
   | nil=>exact h.elim
   | cons z zs=>rw[h.1.1,ih h.2];rfl
 have hys:=key hr;have hrows:∀(l:List Int) (off:Nat),(∀ j,j<l.length->w.cell? ⟨G.A t,off+j,none⟩=(l[j]?).map (.int .i64))->aw w (fun _=>False) (l.map fun i=>[C.v (.int .i64 i)]) (G.A t) off 1:=by
  intro l
  induction l with
  | nil=>intro off _;simp only[List.map_nil,aw]
  | cons x l ih =>
   intro off hh;simp only[List.map_cons,aw,aT];refine⟨rfl,⟨⟨.int .i64 x,?_,⟨rfl,rfl⟩⟩,trivial⟩,ih (off+1) fun j hj=>?_⟩
   ·have:=hh 0 (by simp);simpa using this
   ·have:=hh (j+1) (by simpa using hj);rw[show off+1+j=off+(j+1)from by omega];simpa using this
 have hrow:aw w (fun _=>False) (vs.map fun i=>[C.v (.int .i64 i)]) (G.A t) 0 1:=hrows vs 0 fun j hj=>by
  rw[bz hy];have:ys[0+j]?=ys.toList[j]?:=by simp
  rw[this,hys,List.getElem?_map]
 have hb:=(S.own (G.A t) (by simp[hown])).2;refine wpIn_region ?_;have hsz:(o1::o2::rest).toArray.size=(rest.length+1)+1:=by simp
 rw[hsz,List.range_eq_range',List.range'_succ,List.range'_succ,wpOpsIn_cons];simp only[wpOpIn,List.getElem?_toArray,List.getElem?_cons_zero];have w1:∀(o:Oper) tm,o.guard=none->Region.wanted o tm=true:=fun o tm h=>by unfold Region.wanted;rw[h]
 rw[w1 o1 _ g1];simp only[if_true];refine bP (by intro c e;rw[h1]at e;cases e) ?_;have ev1:a.eval (.tmp x) = .pointer (some ⟨G.A t,0,none⟩):=by
  show a.tmps.getD x undef=_;rw[Array.getD_eq_getD_getElem?]at hxv;simpa using hxv
 refine a8 (y := .slice (some ⟨G.A t,0,none⟩) vs.length vs.length) (w':=w) ?_ ?_
 ·simp only[execOp,h1,ev1,Option.map_none,Instr.sliceAt,Instr.sureAddr,Sem.run_bind,run_underlying hT,Result.andThen_ok,Instr.sliceBounds,Sem.run_pure,run_sizeOf w hi];split<;>simp[Addr.add]
 rw[e1,wpOpsIn_cons];simp only[wpOpIn,List.getElem?_toArray,List.getElem?_cons_succ,List.getElem?_cons_zero];rw[w1 o2 _ g2];simp only[if_true];have S1:Sim W0 M0 N (st.setT d1 .any) G w (a.put (some d1) (.slice (some ⟨G.A t,0,none⟩) vs.length vs.length)) :=
  S.put (dst:=some d1) (v := .any) (fun d h=>by cases h;exact hd1) (aR.refl _ _) fun _=>trivial
 refine bP (by intro c e;rw[h2]at e;cases e) ?_;have ev2:(a.put (some d1) (.slice (some ⟨G.A t,0,none⟩) vs.length vs.length)).eval (.tmp d1) = .slice (some ⟨G.A t,0,none⟩) vs.length vs.length:=by
  have hsz:=S.size;simp[Act.eval,Act.put,undef,hsz,hd1]
 have hrun:=ky S1 (o:=o2) (c:=⟨.value (.func f),#[.tmp d1],ts⟩) (f:=f) h2 (by simp[cD,St.ev]) hf.1;simp only[Oper.wp,hrun,Oper.upon];have hargs:(([Operand.tmp d1]).map (a.put (some d1) (.slice (some ⟨G.A t,0,none⟩) vs.length vs.length)).eval).toArray = #[Value.slice (some ⟨G.A t,0,none⟩) vs.length vs.length]:=by
  rw[List.map_cons,ev2];rfl
 change Calls P f (([Operand.tmp d1]).map (a.put (some d1) (.slice (some ⟨G.A t,0,none⟩) vs.length vs.length)).eval).toArray w _
 rw[hargs];refine(hf.2 w (fun _=>False) [_] (fun _ h=>h.elim) ⟨?_,trivial⟩).mono ?_
 ·refine⟨_,_,_,rfl,by simp,ae _,?_⟩;exact .inr ⟨_,0,1,rfl,hb,fun h=>h,hrow⟩
 ·rintro e w' ⟨y,rfl,hy',hbl⟩;have hy2:y=res:=hy'.1;subst hy2;rw[e2];have S2:Sim W0 M0 N ((st.setT d1 .any).setT d2 (sc y)) G w' ((a.put (some d1) (.slice (some ⟨G.A t,0,none⟩) vs.length vs.length)).put (some d2) y) :=
   S1.put (dst:=some d2) (v:=sc y) (fun d h=>by cases h;exact hd2) hbl fun _=>hy'
  exact eO (ρ:=ρ) (P:=P) (kind:=kind) (K:=Q .normal) (Q:=fun e a' w'=>∃ x st' G',aX e=some x/\Q x st'/\Sim W0 M0 N st' G' w' a') hN rest 2 (fun i=>by simp[Nat.add_comm 2]) S2 (cE (ops:=(o1::o2::rest).toArray) h)
   (fun a' w' ⟨st',G',h1,h2⟩=>⟨.normal,st',G',rfl,h1,h2⟩)
end
theorem Lo (a b c d:Int):Fn Tryz.prog 218 [.c (.lst [[.v (.int .i64 a)],[.v (.int .i64 b)],[.v (.int .i64 c)],[.v (.int .i64 d)]])] [iN (min (min (min a b) c) d)]:=by
 refine ak (fn:=Tryz.f218) (by rfl) rfl rfl rfl (by rfl) ?_;have e1:decide (((4:Nat):Int)<1)=false:=rfl;simp -dsimp -implicitDefEqProofs only[go_sem,e1,Int.reduceToNat,Int.reduceLE,true_and];refine aJ [(3,4),(12,23)] [] [] (fun n τ β _=>∃ i:Nat,n=4-i/\1<=i/\i<=4/\τ 4=aI i/\τ 3=aI (if i=1 then a else if i=2 then min a b else if i=3 then min (min a b) c else min (min (min a b) c) d))
  (fun x τ β _=>x = .exit 0/\τ 3=aI (min (min (min a b) c) d)) 3 ?_ ?_ ?_
 ·exact⟨1,rfl,by omega,by omega,rfl,rfl⟩
 ·rintro n τ β ε π hK hKB hKE ⟨i,hn,h1,h2,h4,h3⟩;have k0:τ 0 = .i (.c (.lst [[.v (.int .i64 a)],[.v (.int .i64 b)],[.v (.int .i64 c)],[.v (.int .i64 d)]])):=hK 0 (by decide);obtain rfl|rfl|rfl|rfl:i=1\/i=2\/i=3\/i=4:=by omega
  ·replace h3:τ 3=aI a:=h3
   have e0:decide (((1:Nat):Int)<((4:Nat):Int))=true:=rfl;simp -dsimp -implicitDefEqProofs only[go_sem,k0,h3,h4,e0];refine⟨by omega,again 2 (by omega) ⟨(by(repeat apply am rfl);exact hK),hKB,hKE,2,rfl,by omega,by omega,rfl,rfl⟩⟩
  ·replace h3:τ 3=aI (min a b):=h3
   have e0:decide (((2:Nat):Int)<((4:Nat):Int))=true:=rfl;simp -dsimp -implicitDefEqProofs only[go_sem,k0,h3,h4,e0];refine⟨by omega,again 1 (by omega) ⟨(by(repeat apply am rfl);exact hK),hKB,hKE,3,rfl,by omega,by omega,rfl,rfl⟩⟩
  ·replace h3:τ 3=aI (min (min a b) c):=h3
   have e0:decide (((3:Nat):Int)<((4:Nat):Int))=true:=rfl;simp -dsimp -implicitDefEqProofs only[go_sem,k0,h3,h4,e0];refine⟨by omega,again 0 (by omega) ⟨(by(repeat apply am rfl);exact hK),hKB,hKE,4,rfl,by omega,by omega,rfl,rfl⟩⟩
  ·replace h3:τ 3=aI (min (min (min a b) c) d):=h3
   have e0:decide (((4:Nat):Int)<((4:Nat):Int))=false:=rfl;simp -dsimp -implicitDefEqProofs only[go_sem,k0,h3,h4,e0];exact⟨(by(repeat apply am rfl);exact hK),hKB,hKE⟩
 ·rintro x τ β ε π hK hKB hKE ⟨rfl,h⟩;simp -dsimp -implicitDefEqProofs only[go_sem,h]
theorem kT (e:Ex):Fn Tryz.prog 195 [iE e] [iB (decide (cr e))]:=by
 refine zL (fn:=Tryz.f195) (by rfl) rfl (by rfl) (by simp) (by rfl) ?_;refine WP.seq (br (kind:=kd) _ ?_);simp -dsimp -implicitDefEqProofs only[go_sem];refine WP.seq ?_;refine WP.boxSlice kd (d1:=3) (d2:=4) (x:=1) (t:=1) (f:=218) (g:=1) (T:=100) (I:=3) (vs:=[e.a,e.b,e.c,e.d]) (res := .int .i64 (min (min (min e.a e.b) e.c) e.d)) rfl rfl rfl rfl rfl rfl ?_ ?_ (by omega) ?_ rfl rfl (Lo _ _ _ _) ?_
 ·simp -dsimp -implicitDefEqProofs only[go_sem]
 ·simp -dsimp -implicitDefEqProofs only[go_sem]
 ·simp -dsimp -implicitDefEqProofs only[go_sem]
 simp -dsimp -implicitDefEqProofs only[go_sem];refine br (kind:=kd) _ ?_;simp -dsimp -implicitDefEqProofs only[go_sem];have:decide (0<=min (min (min e.a e.b) e.c) e.d)=decide (cr e):=by
  rw[decide_eq_decide];unfold cr;omega
 rw[this];refine⟨.inr rfl,?_⟩;show dI _ [ResultVar.tmp 2]=_;simp -dsimp -implicitDefEqProofs only[go_sem]
abbrev Tm:=Ex×Rat
def zq:Array Value := #[.bool false,.slice none 0 0,.bool false,.slice none 0 0]
theorem mt:gu Tryz.prog 153 100 94 3 zq where
 hu:=rfl
 hk:=rfl
 hI:=rfl
 hi:=⟨_,rfl,rfl⟩
 hz:=fun w=>by
  have h:∃ i,Tryz.prog.info? 94=some i/\i.zero=some (.agg zq):=⟨_,rfl,rfl⟩;obtain⟨i,h1,h2⟩:=h;simp[zeroValue,typeInfo,h1,h2]
theorem zq1:∀ x∈zq.toList,x.oneCell'=true:=by decide
def dH (L:List Tm):List (Ex×List C):=L.map fun t=>(t.1,eQ t.2)
def addT:List Tm->Ex->Rat->List Tm
 | [],e,c=>[(e,c)]
 | x::L,e,c=>if e=x.1 then(e,x.2+c)::L else x::addT L e c
theorem Mc (e:Ex) (c:Rat):∀(L:List Tm) (i:Nat),(gz e (dH L) i=none/\dH (addT L e c)=dH L++[(e,eQ c)]) \/
  ∃ j q,gz e (dH L) i=some (i+j,eQ q)/\(e,q)∈L/\dH (addT L e c)=(dH L).set j (e,eQ (q+c))
 | [],_ => .inl ⟨rfl,rfl⟩
 | x::L,i=>by
  by_cases h:e=x.1
  ·subst h;exact .inr ⟨0,x.2,by simp[dH,gz],by simp,by simp[dH,addT]⟩
  ·rcases Mc e c L (i+1)with⟨h1,h2⟩|⟨j,q,h1,h2,h3⟩
   ·left;refine⟨?_,?_⟩
    ·simpa [dH,gz,h]using h1
    ·simpa [dH,addT,h]using h2
   ·right;refine⟨j+1,q,?_,by simp[h2],?_⟩
    ·rw[show i+(j+1)=i+1+j from by omega];simpa [dH,gz,h]using h1
    ·simpa [dH,addT,h]using h3
theorem H5 (P:Program) (rl:List ResultVar) (res:List IV) (kv':List (List C×List C)) (e:aK) (st:St) :
 H6 P rl res kv' e st=((e = .normal\/e = .ret)/\dI (st.res1 P) rl=some res/\(st.p 0).gen=1/\(st.p 0).of=none/\(st.p 0).kv=kv'):=rfl
def Be (args:List IV) (n:Nat):AV:=match n with|0 => .mp 0 1|n+1=>tc args n
def gJ (kv:List (List C×List C)) (n:Nat):MP:=if n=0 then{ gen:=1,kv:=kv }else{ gen:=0,kv:=[] }
theorem EZ (kv:List (List C×List C)) (args:List IV):mA kv args=⟨Be args,lF,nI,gJ kv⟩:=rfl
theorem yJ (args:List IV):Be args 0 = .mp 0 1:=rfl
theorem yL (args:List IV) (n:Nat):Be args (n+1)=tc args n:=rfl
theorem yM (kv:List (List C×List C)):gJ kv 0={ gen:=1,kv:=kv }:=rfl
theorem tg (kv:List (List C×List C)):∀ t,0<(gJ kv t).gen->(gJ kv t).of≠some 0:=fun t _=>by
 unfold gJ;split<;>simp
attribute [go_sem] H5 EZ yJ yL yM
theorem Bm {e:Ex} {L:List (Ex×List C)} (h:gz e L 0=none):tE zq e L=[.g [.v (.bool false),.lst [],.v (.bool false),.lst []],iB false]:=by unfold tE;rw[h];rfl
theorem Bk {e:Ex} {L:List (Ex×List C)} {j:Nat} {cs:List C} (h:gz e L 0=some (j,cs)):tE zq e L=[.g cs,iB true]:=by unfold tE;rw[h]
theorem Ea {e:Ex} {cs:List C} {L:List (Ex×List C)} (h:gz e L 0=none):vT e cs L=L++[(e,cs)]:=by unfold vT;rw[h]
theorem D9 {e:Ex} {cs cs':List C} {L:List (Ex×List C)} {j:Nat} (h:gz e L 0=some (j,cs')):vT e cs L=L.set j (e,cs):=by unfold vT;rw[h]
theorem vd (L:List Tm) (e:Ex) (c:Rat) (hL:∀ q,(e,q)∈L->QB 8589934592 q) (hc:QB 8589934592 c):I6 Tryz.prog 155 (kvE (dH L)) (kvE (dH (addT L e c))) [iE e,iQ c] []:=by
 refine B5 kd (fn:=Tryz.f155) (by rfl) rfl rfl rfl (by rfl) (by simp) (by rfl) ?_;simp -dsimp -implicitDefEqProofs only[go_sem];refine A2 mt zq1 (t:=0) (g:=1) (e:=e) (L:=dH L) rfl rfl (by omega) rfl rfl rfl ?_;rcases Mc e c L 0 with⟨h1,h2⟩|⟨j,q,h1,h2,h3⟩
 ·simp -dsimp -implicitDefEqProofs only[go_sem,Bm h1];refine nH mt (t:=0) (g:=1) (e:=e) (cs:=eQ c) (L:=dH L) rfl rfl (by omega) rfl rfl (by simp -dsimp -implicitDefEqProofs only[go_sem];exact tg _) rfl rfl ?_;simp -dsimp -implicitDefEqProofs only[go_sem,Ea h1,h2]
 ·rw[Nat.zero_add]at h1;simp -dsimp -implicitDefEqProofs only[go_sem,Bk h1];refine aa (Dr q c (hL q h2) hc) rfl ?_;simp -dsimp -implicitDefEqProofs only[go_sem];refine nH mt (t:=0) (g:=1) (e:=e) (cs:=eQ (q+c)) (L:=dH L) rfl rfl (by omega) rfl rfl (by simp -dsimp -implicitDefEqProofs only[go_sem];exact tg _) rfl rfl ?_;simp -dsimp -implicitDefEqProofs only[go_sem,D9 h1,h3]
abbrev LI:=(Nat->AV)->(Nat->BX)->(Nat->EN)->(Nat->MP)->Prop
def B9 (I:Nat->LI) (n:Nat) (s:St):Prop:=∃ m τ β ε π,aY s ⟨τ,β,ε,π⟩/\m<n/\I m τ β ε π
theorem jw {I:Nat->LI} {n:Nat} (m:Nat) {τ:Nat->AV} {β:Nat->BX} {ε:Nat->EN} {π:Nat->MP} (hm:m<n) (h:I m τ β ε π):B9 I n ⟨τ,β,ε,π⟩:=⟨m,τ,β,ε,π,aY.refl _,hm,h⟩
theorem w5 {I:Nat->LI} {n:Nat} (m n0 k d:Nat) {g len:Nat} {τ:Nat->AV} {β:Nat->BX} {ε:Nat->EN} {π:Nat->MP} (hm:m<n) (h:τ n0 = .sl k g len) (hg:(ε k).gen=g) (hg0:0<g) (hkd:k≠d)
  (hI:I m (upd τ n0 (.sl d ((ε d).gen+1) len)) β (upd (upd ε k ⟨(ε k).gen+1,0,[],false,false⟩) d { ε k with gen:=(ε d).gen+1 }) π):B9 I n ⟨τ,β,ε,π⟩ :=
 ⟨m,_,_,_,_,aY.rekey ⟨τ,β,ε,π⟩ n0 k d h hg hg0 hkd,hm,hI⟩
def O7 (Mid:aK->LI) (e:aK) (s:St):Prop:=Mid e s.t s.b s.e s.p
theorem J3 (Mid:aK->LI) (e:aK) (τ:Nat->AV) (β:Nat->BX) (ε:Nat->EN) (π:Nat->MP):O7 Mid e ⟨τ,β,ε,π⟩=Mid e τ β ε π:=rfl
attribute [go_sem] J3
theorem kX {P:Program} {kind:FuncId->CK} {c:Code} {Q:aK->St->Prop} (A B E:List (Nat×Nat)) (I:Nat->LI) (Mid:aK->LI) (n:Nat)
  {τ0:Nat->AV} {β0:Nat->BX} {ε0:Nat->EN} {π0:Nat->MP} (h0:I n τ0 β0 ε0 π0)
  (round:∀ n τ β ε π,Kp A τ0 τ->Kp B β0 β->Kp E ε0 ε->I n τ β ε π->CW P kind c (iq (B9 (fun n τ β ε π=>Kp A τ0 τ/\Kp B β0 β/\Kp E ε0 ε/\I n τ β ε π) n) (O7 (fun e τ β ε π=>Kp A τ0 τ/\Kp B β0 β/\Kp E ε0 ε/\Mid e τ β ε π))) ⟨τ,β,ε,π⟩)
  (fin:∀ e τ β ε π,Kp A τ0 τ->Kp B β0 β->Kp E ε0 ε->Mid e τ β ε π->∃ s',aY ⟨τ,β,ε,π⟩ s'/\Q e s'):lT P kind c Q ⟨τ0,β0,ε0,π0⟩ ⟨⟩:=by
 refine WP.post (WP.mono (Q:=fun e s=>Kp A τ0 s.t/\Kp B β0 s.b/\Kp E ε0 s.e/\Mid e s.t s.b s.e s.p) (WP.loop (fun n s=>Kp A τ0 s.t/\Kp B β0 s.b/\Kp E ε0 s.e/\I n s.t s.b s.e s.p) (n:=n) ⟨_,aY.refl _,Kp.refl _ _,Kp.refl _ _,Kp.refl _ _,h0⟩ fun n s hs=>?_) fun e s hs=>fin e s.t s.b s.e s.p hs.1 hs.2.1 hs.2.2.1 hs.2.2.2);refine(br c (round n s.t s.b s.e s.p hs.1 hs.2.1 hs.2.2.1 hs.2.2.2)).mono fun e s' h'=>?_;cases e with
 | normal =>
  obtain⟨m,τ,β,ε,π,hw,hm,hI⟩:=h';exact⟨⟨τ,β,ε,π⟩,m,hw,hm,hI⟩
 | exit id=>exact h'
 | ret=>exact h'
section
variable {P:Program} {st:St} {Q:aK->St->Prop} {kind:FuncId->CK}
theorem WP.reg2 {id:Nat} {o1 o2:Oper} {rest:List Oper} (g1:o1.guard=none) (g2:o2.guard=none) (hnd:∀ c,o2.op ≠ .defer c)
  (h:W P kind none o1.dst (fun s=>pr P o2 s (fun s'=>WsF P kind (o1::o2::rest) rest (Q .normal) s')) st o1.op):WP P (.region id (o1::o2::rest).toArray false) Q st:=by
 intro ρ W0 M0 N G w a S hd;have hN:=dv hd;refine wpIn_region ?_;have hsz:(o1::o2::rest).toArray.size=(rest.length+1)+1:=by simp
 have w1:∀(o:Oper) tm,o.guard=none->Region.wanted o tm=true:=fun o tm h=>by unfold Region.wanted;rw[h]
 rw[hsz,List.range_eq_range',List.range'_succ,List.range'_succ,wpOpsIn_cons];simp only[wpOpIn,List.getElem?_toArray,List.getElem?_cons_zero];rw[w1 o1 _ g1];simp only[if_true];have hA:=nv h;refine bP (oz hA) (Oper.wp_mono ?_ (gN S (hN 0 o1 (by simp)) hA));rintro a1 w1' ⟨s1,G1,hs1,S1⟩;rw[wpOpsIn_cons];simp only[wpOpIn,List.getElem?_toArray,List.getElem?_cons_succ,List.getElem?_cons_zero];rw[w1 o2 _ g2];simp only[if_true];refine bP hnd (Oper.wp_mono ?_ (hs1 W0 M0 N G1 w1' a1 _ S1 (hN 1 o2 (by simp))));rintro a2 w2 ⟨s2,G2,hs2,S2⟩;exact eO (ρ:=ρ) (P:=P) (kind:=kind) (K:=Q .normal) (Q:=fun e a' w'=>∃ x st' G',aX e=some x/\Q x st'/\Sim W0 M0 N st' G' w' a') hN rest 2 (fun i=>by simp[Nat.add_comm 2]) S2 (cE (ops:=(o1::o2::rest).toArray) hs2)
  (fun a' w' ⟨st',G',h1,h2⟩=>⟨.normal,st',G',rfl,h1,h2⟩)
theorem Ka {Kt V I:TypeId} {z:Array Value} {o:Oper} {K:St->Prop} {x:Operand} {T:TypeId} {t g:Nat} (hT:gu P T Kt V I z) (ho:o.op = .call ⟨.builtin .len,#[x],#[T]⟩) (hx:st.ev x = .mp t g) (hg:(st.p t).gen=g) (h0:0<g) (hof:(st.p t).of=none)
  (hK:K (st.put o.dst (sc (.int .i64 (st.p t).kv.length)))):pr P o st K:=by
 intro W0 M0 N G w a Q S hd;obtain⟨hxv,hown,hmp⟩:=n8 S hx hg h0;rw[hof]at hmp hxv;obtain⟨es,clock,h1,h2,h3⟩:=hmp;have hl:=h3.len;refine a8 (y := .int .i64 (st.p t).kv.length) (w':=w) ?_ ⟨_,G,hK,S.put hd (aR.refl _ _) fun _=>⟨rfl,rfl⟩⟩;have hget:(getObj (G.Q t)).run P w = .ok (.map es clock) w:=by simp[getObj,Sem.run,h1]
 simp[execOp,ho,hxv,lC,resolve,invoke,builtin,Builtin.len_,run_underlying hT.hu,hget,hl,goInt]
end
def eT (t:Tm):List C:=t.1.cs++eQ t.2
def keep (t:Tm):Bool:=decide (cr t.1) && decide (t.2≠0)
def o7 (t:Tm):List Tm->List Tm
 | []=>[t]
 | x::R=>if 0<bO t.1 x.1 then t::x::R else x::o7 t R
def Ei:List Tm->List Tm
 | []=>[]
 | t::L=>o7 t (Ei L)
def uJ (L:List Tm):List Tm:=Ei (L.filter keep)
def Srt (L:List Tm):Prop:=L.Pairwise fun x y=>0<bO x.1 y.1
theorem hZ (e f:Ex):0<bO e f↔f.d<e.d\/e.d=f.d/\(f.c<e.c\/e.c=f.c/\(f.b<e.b\/e.b=f.b/\f.a<e.a)):=by
 unfold bO uK
 (repeat' split)<;>omega
theorem i9 (e f:Ex):bO e f=0↔e=f:=by
 constructor
 ·intro h;cases e;cases f;unfold bO uK at h;simp only[Ex.mk.injEq]
  (repeat' split at h)<;>simp_all<;>omega
 ·rintro rfl;unfold bO uK;simp
theorem qf (t:Tm):∀ R,(o7 t R).Perm (t::R)
 | [] => .refl _
 | x::R=>by
  simp only[o7];split
  ·exact .refl _
  ·exact((qf t R).cons x).trans (.swap _ _ _)
theorem j9:∀ L,(Ei L).Perm L
 | [] => .refl _
 | t::L=>(qf t _).trans ((j9 L).cons t)
theorem yH (t:Tm):∀{R},Srt R->(∀ x∈R,x.1≠t.1)->Srt (o7 t R)
 | [],_,_=>List.pairwise_singleton _ _
 | x::R,h,hn=>by
  have h1:=List.pairwise_cons.1 h;simp only[o7];split
  ·rename_i hp;refine List.pairwise_cons.2 ⟨fun y hy=>?_,h⟩;rcases List.mem_cons.1 hy with rfl|hy
   ·exact hp
   ·have:=h1.1 y hy;rw[hZ]at *;omega
  ·rename_i hp;refine List.pairwise_cons.2 ⟨fun y hy=>?_,yH t h1.2 fun y hy=>hn y (by simp[hy])⟩;rcases List.mem_cons.1 ((qf t R).mem_iff.1 hy)with rfl|hy
   ·have h3:bO y.1 x.1≠0:=fun e=>hn x (by simp) ((i9 _ _).1 e).symm;rw[hZ]at *
    have h4:=fun h=>h3 ((i9 _ _).2 h);by_cases e1:y.1.d=x.1.d<;>by_cases e2:y.1.c=x.1.c<;>by_cases e3:y.1.b=x.1.b<;>by_cases e4:y.1.a=x.1.a<;>first|omega|(exfalso;apply h4;rcases y with⟨⟨⟩,_⟩;rcases x with⟨⟨⟩,_⟩;simp_all)
   ·exact h1.1 y hy
theorem rZ:∀{L:List Tm},(L.map (·.1)).Nodup->Srt (Ei L)
 | [],_=>List.Pairwise.nil
 | t::L,h=>by
  simp only[List.map_cons,List.nodup_cons]at h;refine yH t (rZ h.2) fun x hx e=>h.1 ?_;have:=(j9 L).mem_iff.1 hx;exact e ▸ List.mem_map.2 ⟨x,this,rfl⟩
theorem Eh {L R:List Tm} (hn:(L.map (·.1)).Nodup) (hp:L.Perm R) (hs:R.Pairwise fun x y=>0<=bO x.1 y.1):R=Ei L:=by
 have hnR:(R.map (·.1)).Nodup:=(hp.map _).nodup_iff.1 hn;have h2:=rZ hn;refine List.Perm.eq_of_pairwise (le:=fun x y=>0<=bO x.1 y.1) (fun a b ha hb h1 h3=>?_) hs (h2.imp fun h=>Int.le_of_lt h) (hp.symm.trans (j9 L).symm);have e:a.1=b.1:=by
  rw[<-i9];have e1:bO b.1 a.1 = -bO a.1 b.1:=by unfold bO uK;(repeat' split)<;>omega
  omega
 have hb':b∈R:=hp.mem_iff.1 ((j9 L).mem_iff.1 hb);obtain⟨i,hi⟩:=List.getElem?_of_mem ha;obtain⟨j,hj⟩:=List.getElem?_of_mem hb';have hi':=List.getElem?_eq_some_iff.1 hi;have hj':=List.getElem?_eq_some_iff.1 hj;obtain⟨i1,i2⟩:=hi';obtain⟨j1,j2⟩:=hj';have hij:i=j:=by
  have:=List.pairwise_iff_getElem.1 (List.pairwise_map.1 hnR);rcases Nat.lt_trichotomy i j with h|h|h
  ·exact absurd (by rw[i2,j2];exact e) (this i j i1 j1 h)
  ·exact h
  ·exact absurd (by rw[i2,j2];exact e.symm) (this j i j1 i1 h)
 subst hij;rw[<-i2,<-j2]
def IP (rs:List (List C)) (n k:Nat) (τ:Nat->AV) (ε:Nat->EN):Prop:=∃ g,0<g/\τ n = .sl k g rs.length/\ε k=⟨g,8,rs,true,true⟩
theorem Ki {rem:List Tm} {i:Nat} {y:List C×List C} (h:(kvE (dH rem))[i]?=some y):∃ t,rem[i]?=some t/\y=(t.1.cs,eQ t.2):=by
 unfold kvE dH at h;simp only[List.getElem?_map]at h;cases ht:rem[i]? with
 | none=>simp[ht]at h
 | some t=>simp[ht]at h;exact⟨t,rfl,h.symm⟩
theorem jY {α β:Type} (f:α->β):∀(l:List α) (j:Nat),(l.eraseIdx j).map f=(l.map f).eraseIdx j
 | [],_=>by simp
 | _::_,0=>by simp
 | a::r,j+1=>by simp[jY f r j]
theorem EW (rem:List Tm) (i:Nat):(kvE (dH rem)).eraseIdx i=kvE (dH (rem.eraseIdx i)):=by
 unfold kvE dH;rw[<-jY,<-jY]
theorem Kh {rem:List Tm} (h:kvE (dH rem)=[]):rem=[]:=by
 unfold kvE dH at h;simpa using h
theorem sG {α:Type}:∀{l:List α} {i:Nat} {x:α},l[i]?=some x->l.Perm (x::l.eraseIdx i)
 | [],_,_,h=>by simp at h
 | a::l,0,x,h=>by simp at h;subst h;simp
 | a::l,i+1,x,h=>by
  simp only[List.eraseIdx_cons_succ];exact((sG (by simpa using h)).cons a).trans (.swap _ _ _)
theorem Cq (D:List Tm):D.map eT=(dH D).map mf:=by unfold dH eT mf;simp
theorem yS (t:Tm):eT t=[.v (.int .i64 t.1.a),.v (.int .i64 t.1.b),.v (.int .i64 t.1.c),.v (.int .i64 t.1.d),.v (.bool (decide (t.2.num<0))),.lst ((lb t.2.num).map bc),.v (.bool (decide ((t.2.den:Int)<0))),.lst ((lb t.2.den).map bc)]:=rfl
attribute [go_sem] yS
theorem O0 (kv:List (List C×List C)) (q:MP) (k:Nat) (hq:q.of=some 0) (hk:k≠0) (t:Nat) (_:0<(upd (gJ kv) 10 q t).gen):(upd (gJ kv) 10 q t).of≠some k:=by
 rw[bB];split
 ·rw[hq];simp;omega
 ·unfold gJ;split<;>simp
theorem hY (D:List Tm) (t:Tm):((D++[t]).filter keep).map eT=(D.filter keep).map eT++(if keep t then[eT t]else[]):=by
 rw[List.filter_append,List.map_append];cases h:keep t<;>simp[h]
theorem IP.mk {rs rs':List (List C)} {n k g len:Nat} {τ:Nat->AV} {ε:Nat->EN} (hg:0<g) (h:τ n = .sl k g len) (he:ε k=⟨g,8,rs',true,true⟩) (hl:len=rs'.length) (hr:rs'=rs):IP rs n k τ ε:=⟨g,hg,by rw[h,hl,hr],by rw[he,hr]⟩
theorem GM {α β:Type} (f:α->β) {l' L':List β} (h:l'.Perm L'):∀{l:List α},l'=l.map f->∃ R,l.Perm R/\L'=R.map f:=by
 induction h with
 | nil=>intro l h;exact⟨l,.refl _,h⟩
 | cons x h ih =>
  intro l hl;cases l with
  | nil=>simp at hl
  | cons y l =>
   simp at hl;obtain⟨R,h1,h2⟩:=ih hl.2;exact⟨y::R,h1.cons y,by simp[hl.1,h2]⟩
 | swap x y l0 =>
  intro l hl
  match l,hl with
  | a::b::l,hl =>
   simp at hl;exact⟨b::a::l,.swap _ _ _,by simp[hl]⟩
 | trans _ _ ih1 ih2 =>
  intro l hl;obtain⟨R1,h1,h2⟩:=ih1 hl;obtain⟨R2,h3,h4⟩:=ih2 h2;exact⟨R2,h1.trans h3,h4⟩
theorem tV (L:List Tm) (hn:(L.map (·.1)).Nodup) (hl:L.length<=1099511627776):I6 Tryz.prog 157 (kvE (dH L)) (kvE (dH L)) [] [.c (.lst ((uJ L).map eT))]:=by
 refine uw (fn:=Tryz.f157) (by rfl) rfl rfl (by rfl) (by simp) (by rfl) ?_;refine WP.seq (br (kind:=kd) _ ?_);simp -dsimp -implicitDefEqProofs only[go_sem];refine WP.seq (WP.reg2 (kind:=kd) rfl rfl (by intro c e;cases e) ?_);simp -dsimp -implicitDefEqProofs only[go_sem];refine Ka mt (t:=0) (g:=1) rfl rfl rfl (by omega) rfl ?_;have hkl:(kvE (dH L)).length=L.length:=by unfold kvE dH;simp
 simp -dsimp -implicitDefEqProofs only[go_sem,hkl];refine⟨by omega,⟨by simp,by omega,by omega⟩,?_⟩;refine br (kind:=kd) _ ?_;simp -dsimp -implicitDefEqProofs only[go_sem];refine Ew mt (d:=10) (t:=0) (g:=1) rfl rfl (by omega) rfl (by decide) (by simp -dsimp -implicitDefEqProofs only[go_sem];intro t h;unfold gJ;split<;>simp) ?_;simp -dsimp -implicitDefEqProofs only[go_sem];refine kX [(3,5),(11,28)] [(4,5)] [(8,8),(28,28)] (fun n τ β ε π=>∃(D rem:List Tm),n=rem.length/\(D++rem).Perm L/\(∃ q,π=upd (gJ (kvE (dH L))) 10 q/\q.gen=1/\q.of=some 0/\q.kv=kvE (dH rem))/\IP ((D.filter keep).map eT) 3 8 τ ε)
  (fun e τ β ε π=>e = .exit 0/\(∃(D:List Tm),D.Perm L/\IP ((D.filter keep).map eT) 3 8 τ ε)/\∃ q,π=upd (gJ (kvE (dH L))) 10 q/\q.of=some 0) L.length ?_ ?_ ?_
 ·exact⟨[],L,rfl,.refl _,⟨_,rfl,rfl,rfl,rfl⟩,1,by omega,rfl,rfl⟩
 ·rintro n τ β ε π hK hKB hKE ⟨D,rem,hn',hp,⟨q,rfl,hqg,hqo,hqk⟩,g,hg,h3,h8⟩;have k10:τ 10 = .mp 10 1:=hK 10 (by decide);simp -dsimp -implicitDefEqProofs only[go_sem,k10];refine G9 (t:=10) (g:=1) (k:=0) (by simp -dsimp -implicitDefEqProofs only[go_sem,k10]) (by simp -dsimp -implicitDefEqProofs only[go_sem,hqg]) (by omega) (by simp -dsimp -implicitDefEqProofs only[go_sem,hqo]) (O0 _ _ _ hqo (by omega)) ?_ ?_
  ·intro hnil;have hr:rem=[]:=Kh (by have:=hnil;simp -dsimp -implicitDefEqProofs only[go_sem,hqk]at this;exact this);subst hr;rw[List.append_nil]at hp;simp -dsimp -implicitDefEqProofs only[go_sem];exact⟨(by(repeat apply am rfl);exact hK),hKB,hKE,⟨D,hp,g,hg,h3,h8⟩,_,rfl,hqo⟩
  ·intro i y hy;obtain⟨t,ht,rfl⟩:=Ki (by have:=hy;simp -dsimp -implicitDefEqProofs only[go_sem,hqk]at this;exact this);simp -dsimp -implicitDefEqProofs only[go_sem,k10];refine E7 (t:=10) (g:=1) (k:=0) (y:=(t.1.cs,eQ t.2)) (by simp -dsimp -implicitDefEqProofs only[go_sem,k10]) rfl (by omega) rfl rfl ?_;have hil:=(List.getElem?_eq_some_iff.1 ht).1;have hrl:(rem.eraseIdx i).length=rem.length-1:=List.length_eraseIdx_of_lt hil;have hp':((D++[t])++rem.eraseIdx i).Perm L:=by
    rw[List.append_assoc];exact(((sG ht).symm.append_left D)).trans hp
   have hlen:((D++[t]).filter keep).length<=L.length:=ac (List.length_filter_le _ _) (by have:=hp'.length_eq;simp at this ⊢;omega);have hQ0:decide (t.2.num.sign=0)=decide (t.2=0):=by rw[decide_eq_decide,Int.sign_eq_zero_iff_zero,Rat.num_eq_zero]
   have hpi:∃ q',upd (upd (gJ (kvE (dH L))) 10 q) 10 { gen:=1,kv:=q.kv.eraseIdx i,of:=some 0,cur:=some (t.1.cs,eQ t.2) }=upd (gJ (kvE (dH L))) 10 q'/\q'.gen=1/\q'.of=some 0/\q'.kv=kvE (dH (rem.eraseIdx i)):=by
    refine⟨{ gen:=1,kv:=q.kv.eraseIdx i,of:=some 0,cur:=some (t.1.cs,eQ t.2) },?_,rfl,rfl,by rw[hqk];exact EW rem i⟩;funext k;simp only[bB];split<;>rfl
   simp -dsimp -implicitDefEqProofs only[go_sem];refine aa (kT t.1) rfl ?_;by_cases hN:cr t.1
   ·have e1:decide (cr t.1)=true:=ai hN;simp -dsimp -implicitDefEqProofs only[go_sem,e1];refine aa (py t.2) rfl ?_;by_cases hq:t.2=0
    ·have e2:decide (t.2.num.sign=0)=true:=by rw[hQ0];exact ai hq
     have hk:keep t=false:=by simp[keep,hq]
     simp -dsimp -implicitDefEqProofs only[go_sem,e1,e2];refine jw (rem.length-1) (by omega) ⟨(by(repeat apply am rfl);exact hK),(by(repeat apply am rfl);exact hKB),hKE,D++[t],rem.eraseIdx i,hrl.symm,hp',?_,g,hg,?_,?_⟩
     ·have:=hpi;simp -dsimp -implicitDefEqProofs only[go_sem]at this ⊢;exact this
     ·simp -dsimp -implicitDefEqProofs only[go_sem,h3,hY,hk]
     ·simp -dsimp -implicitDefEqProofs only[go_sem,h8,hY,hk]
    ·have e2:decide (t.2.num.sign=0)=false:=by rw[hQ0];exact aj hq
     have hk:keep t=true:=by simp[keep,hN,hq]
     rw[List.filter_append,List.length_append,List.filter_cons,hk]at hlen;simp only[if_true,List.filter_nil,List.length_cons,List.length_nil]at hlen;simp -dsimp -implicitDefEqProofs only[go_sem,e1,e2,h3,h8];refine⟨hg,by omega,w5 (rem.length-1) 3 28 8 (by omega) rfl rfl (by omega) (by decide) ⟨?_,?_,?_,D++[t],rem.eraseIdx i,hrl.symm,hp',?_,?_⟩⟩
     ·exact(by(repeat apply am rfl);exact hK)
     ·exact(by(repeat apply am rfl);exact hKB)
     ·exact(by(repeat apply am rfl);exact hKE)
     ·have:=hpi;simp -dsimp -implicitDefEqProofs only[go_sem]at this ⊢;exact this
     ·exact IP.mk (Nat.succ_pos _) (by simp -dsimp -implicitDefEqProofs only[go_sem];rfl) (by simp -dsimp -implicitDefEqProofs only[go_sem];rfl) (by simp) (by rw[hY,hk];rfl)
   ·have e1:decide (cr t.1)=false:=aj hN;have hk:keep t=false:=by simp[keep,hN]
    simp -dsimp -implicitDefEqProofs only[go_sem,e1];refine jw (rem.length-1) (by omega) ⟨(by(repeat apply am rfl);exact hK),(by(repeat apply am rfl);exact hKB),hKE,D++[t],rem.eraseIdx i,hrl.symm,hp',?_,g,hg,?_,?_⟩
    ·have:=hpi;simp -dsimp -implicitDefEqProofs only[go_sem]at this ⊢;exact this
    ·simp -dsimp -implicitDefEqProofs only[go_sem,h3,hY,hk]
    ·simp -dsimp -implicitDefEqProofs only[go_sem,h8,hY,hk]
 ·rintro e τ β ε π hK hKB hKE ⟨rfl,⟨D,hp,g,hg,h3,h8⟩,q,rfl,hqo⟩;refine⟨_,aY.refl _,?_⟩;simp -dsimp -implicitDefEqProofs only[go_sem,h3];have hfl:(D.filter keep).length<=L.length:=ac (List.length_filter_le _ _) (Nat.le_of_eq hp.length_eq);have hml:(dH (D.filter keep)).length=(D.filter keep).length:=by simp[dH]
  refine Gn (f:=197) (g:=198) (x := .tmp 29) (t:=8) (gn:=g) (L:=dH (D.filter keep)) rfl rfl rfl ⟨Tryz.f197,_,rfl,rfl,rfl⟩ (fun b cap d w h1 h2 h3=>v7 Fg b cap d w h1 h2 h3) (by simp -dsimp -implicitDefEqProofs only[go_sem,hml]) (by simp -dsimp -implicitDefEqProofs only[go_sem,h8]) hg (by simp -dsimp -implicitDefEqProofs only[go_sem,h8]) (by simp -dsimp -implicitDefEqProofs only[go_sem,h8]) (by simp -dsimp -implicitDefEqProofs only[go_sem,h8];exact Cq _) ?_ (by omega) ?_
  ·intro x hx;obtain⟨t,_,rfl⟩:=List.mem_map.1 hx;rfl
  ·intro L' hp' hs';obtain⟨R,hR,hL'⟩:=GM _ hp' rfl;have hfp:(L.filter keep).Perm R:=((hp.symm.filter keep)).trans hR;have hu:R=uJ L:=Eh ((List.Sublist.map _ List.filter_sublist).nodup hn) hfp (List.pairwise_map.1 (hL' ▸ hs'));have hlen:(D.filter keep).length=(uJ L).length:=by rw[<-hu];exact hR.length_eq
   have he:L'.map mf=(uJ L).map eT:=by rw[<-hu,hL'];exact(Cq R).symm
   simp -dsimp -implicitDefEqProofs only[go_sem,h8,h3,he,hlen,af,hg]
end Go.AM
