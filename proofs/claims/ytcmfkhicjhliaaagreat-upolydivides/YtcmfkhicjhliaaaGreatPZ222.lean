/- Lemmas, part 23 of 24: Package upoly: From and To; Polynomials of degree 1 over a field; Euclid's pairs of small ones; Weights of polynomials over rational functions, with a common denominator; Package upoly: greatest common divisors and Euclid's pairs of small polynomials; The fixed example in two variables; Two different linear polynomials: remainders of their products; The fixed examples in one variable: division, equations, resultants; The fixed example of a resultant; Squarefree decompositions of products of two linear polynomials; Squarefree decompositions: one root, two roots; The fixed examples (law function 11); UpolyDivides (law function 4); How arguments that are read as data lie as values of the abstract machine; How a law's statement follows from the contract of its function. No condition. -/
import Derived.Test.YtcmfkhicjhliaaaGreatPZ221
import Derived.ProofKit
import Derived.Deep.Slices
import Derived.OpenShut
import Derived.Test.YtcmfkhicjhliaaaGreatRows
set_option maxRecDepth 65536
set_option linter.unusedSimpArgs false
set_option linter.unusedVariables false
set_option linter.unusedSectionVars false
namespace Go.AM
open Go.Proofs
open Classical
abbrev F2:=List Tm×List Tm
def fr2 (x:F2):List C:=[cM x.1,cM x.2]
abbrev fl (l:List F2):IV := .c (.lst (l.map fr2))
theorem Lv {a:List Tm} {v:Nat} {L:List (List Tm)} (hl:L.length<=1099511627776) (h:FnM Tryz.prog 89 [iM a,iN v] 1 (L.map fun N=>[cM N])):Fn Tryz.prog 43 [iM a,iN v] [fl (L.map fun N=>(N,one1))]:=by
 refine ak (fn:=Tryz.f43) (by rfl) rfl rfl rfl (by rfl) ?_;simp -dsimp -implicitDefEqProofs only[go_sem];refine bQ h ?_;simp -dsimp -implicitDefEqProofs only[go_sem,af];refine bL 5 5 2 (rs:=[]) rfl (by simp) ?_;refine aS [(5,5),(7,7),(12,21)] [] [(20,20),(5,5)] (fun n τ β ε=>∃ i:Nat,n=L.length-i/\i<=L.length/\τ 12 = .i (iN i)/\Own 2 ((L.take i).map fun N=>fr2 (N,one1)) 5 5 τ ε)
  (fun e τ β ε=>e = .exit 0/\Own 2 (L.map fun N=>fr2 (N,one1)) 5 5 τ ε) L.length ?_ ?_ ?_
 ·exact⟨0,by omega,by omega,rfl,Own.mk (g:=1) (mm:=false) (len:=0) (by omega) rfl rfl rfl⟩
 ·rintro n τ β ε π hK hKB hKE ⟨i,hn,hi,h12,g,mm,hg,h5,hrow⟩;have k10:τ 10 = .sl 10 1 L.length:=(hK 10 rfl).trans rfl;have k11:τ 11 = .i (iN L.length):=(hK 11 rfl).trans rfl;have e10:ε 10=⟨1,1,L.map fun N=>[cM N],!L.isEmpty,true⟩:=by rw[hKE 10 (by decide)];simp -dsimp -implicitDefEqProofs only[go_sem,List.isEmpty_map]
  have hlen:(L.take i).length=i:=by simp;omega
  rw[af,hlen]at h5;by_cases hlt:i<L.length
  ·have hA:(i:Int)<(L.length:Int):=by omega
   have hgl:L[i]?=some L[i]:=ah hlt;have htk:L.take (i+1)=L.take i++[L[i]]:=ab hlt;simp -dsimp -implicitDefEqProofs only[go_sem,h12,k10,k11,e10,hA,af];refine⟨hlt,av hgl ?_⟩;simp -dsimp -implicitDefEqProofs only[go_sem,h12,k10,k11,e10,h5,hrow];refine ar (args':=[iM L[i]]) rfl (ux _) ?_;simp -dsimp -implicitDefEqProofs only[go_sem,h12,h5,hrow,hg,af,hlen]
   repeat(refine And.intro (by omega) ?_)
   refine aH (L.length-(i+1)) 5 20 5 (by omega) rfl rfl (by omega) (by decide) ⟨(by(repeat apply am rfl);exact hK),hKB,(by(repeat apply am rfl);exact hKE),i+1,rfl,by omega,rfl,?_⟩
   exact Own.mk2 (Nat.succ_pos _) (by simp -dsimp -implicitDefEqProofs only[go_sem];rfl) (by simp -dsimp -implicitDefEqProofs only[go_sem];rfl) (by simp;omega) (by simp only[<-List.map_take];rw[htk,List.map_append];rfl)
  ·have hA:¬ (i:Int)<(L.length:Int):=by omega
   obtain rfl:i=L.length:=by omega
   rw[List.take_length]at hrow;simp -dsimp -implicitDefEqProofs only[go_sem,h12,k11,hA];exact⟨(by(repeat apply am rfl);exact hK),hKB,hKE,Own.mk hg h5 (by simp) hrow⟩
 ·rintro e τ β ε π hK hKB hKE ⟨rfl,g,mm,hg,h5,hrow⟩;refine⟨_,aY.refl _,?_⟩;rw[af]at h5;simp -dsimp -implicitDefEqProofs only[go_sem,h5,hrow,hg];simp[Function.comp_def]
theorem Oo (rs:List (List C)):FnC Tryz.prog 95 [.c (.lst rs)] 136 [[.lst rs]]:=by
 refine qw kd (fn:=Tryz.f95) (by rfl) rfl rfl rfl (by rfl) (by simp) (by rfl) ?_;simp -dsimp -implicitDefEqProofs only[go_sem,ju];refine kW (ts:=[(1,1)]) (by simp -dsimp -implicitDefEqProofs only[go_sem]) (by simp -dsimp -implicitDefEqProofs only[go_sem]) ?_;simp -dsimp -implicitDefEqProofs only[go_sem,wL];exact⟨[(1,1)],rfl,by simp,by simp,rfl⟩
theorem LJ (l:List F2) (hl:l.length<=1099511627776):IZ Tryz.prog 136 [[.lst (l.map fr2)]] (vv (fun x=>iF x.1 x.2) l):=by
 refine ou (fn:=Tryz.f136) (by rfl) rfl rfl rfl (by rfl) (by simp) (by rfl) ?_;intro c hc hbl hL;rw[yE];have hb1:c.bs.length=1:=hbl;refine WPi.seq_k hc kd fun K hK _=>?_;simp -dsimp -implicitDefEqProofs only[go_sem,af]
 repeat(refine And.intro (by omega) ?_)
 refine hK _ (cn hb1) ?_;refine WPi.block (WPi.loop (fun n s k=>∃ τ,s=⟨τ,upd lF 1000 ⟨1,[.lst (l.map fr2)]⟩,nI,mz⟩/\τ 0=sc (.func (.yield c.l) #[] #[])/\τ 1 = .bp 1000 1 0/\n<=l.length/\τ 3 = .i (iN ((n:Int)-1))/\k=some (l.length-n)) (n:=l.length) ⟨_,rfl,rfl,rfl,ae _,rfl,by simp⟩ ?_);rintro n s k ⟨τ,rfl,h0,h1,hn,h3,rfl⟩;refine WPi.seq_k hc kd fun K hK hK2=>?_;cases n with
 | zero =>
  have e1:decide ((0:Int)<=((0:Nat):Int)-1)=false:=rfl;simp -dsimp -implicitDefEqProofs only[go_sem,h3,e1];refine hK2 _ _ (by simp) (cn hb1) ?_;refine⟨.inl rfl,.inl ?_⟩;rw[ja];simp
 | succ n =>
  have en:((n+1:Nat):Int)-1=(n:Int):=by omega
  rw[en]at h3;have e1:decide ((0:Int)<=(n:Int))=true:=ai (by omega);have hg:l[n]?=some l[n]:=ah (by omega);simp -dsimp -implicitDefEqProofs only[go_sem,h3,e1];refine hK _ (cn hb1) ?_;refine WPi.seq ?_;refine WPi.block ?_;refine WPi.seq ?_;refine WPi.yreg_k hc kd 6 17 (l.length-(n+1)) [iN (n:Int),iF l[n].1 l[n].2] rfl rfl rfl rfl (by rw[hL];exact nu _ _ (by omega)) fun K1 K2 hK1 hK2=>?_;simp -dsimp -implicitDefEqProofs only[go_sem,h0,h1,h3];refine av hg ?_;simp -dsimp -implicitDefEqProofs only[go_sem,h0,h1,h3,fr2];refine⟨cn hb1,rfl,?_⟩;refine⟨hK1 _ (cn hb1) ?_,hK2 _ (cn hb1) ?_⟩
  ·refine WPi.end_k hc kd fun K hK=>?_;simp -dsimp -implicitDefEqProofs only[go_sem];refine hK _ _ (cn hb1) ?_;refine WPi.end_k hc kd fun K hK=>?_;simp -dsimp -implicitDefEqProofs only[go_sem,h3]
   repeat(refine And.intro (by omega) ?_)
   refine hK _ _ (cn hb1) ?_;refine⟨n,by omega,_,rfl,h0,h1,by omega,rfl,?_⟩;congr 1;omega
  ·refine WPi.end_k hc kd fun K hK=>?_;simp -dsimp -implicitDefEqProofs only[go_sem];refine hK _ _ (cn hb1) ?_;exact⟨.inr rfl,.inr rfl⟩
theorem PK (l:List F2) (v:Nat) (hv:v<4) (hl:l.length<=1099511627776) (o:Nat->F2) (h0:Fn Tryz.prog 63 [iN 0] [.g (fr2 (o 0))])
  (H:∀(k:Nat) (h:k<l.length),∃ m:F2,Fn Tryz.prog 65 [.g (fr2 (o k)),iF [(e0.to v 1,1)] one1] [.g (fr2 m)]/\Fn Tryz.prog 64 [.g (fr2 m),.g (fr2 l[l.length-(k+1)])] [.g (fr2 (o (k+1)))]) :
  Fn Tryz.prog 48 [fl l,iN v] [.g (fr2 (o l.length))]:=by
 refine nA (fn:=Tryz.f48) (by rfl) rfl rfl rfl (by rfl) (by simp) (by rfl) ?_;refine WPn.seq_k kd fun K hK _=>?_;simp -dsimp -implicitDefEqProofs only[go_sem];refine hK _ ?_;refine WPn.seq_k kd fun K hK _=>?_;simp -dsimp -implicitDefEqProofs only[go_sem];refine an h0 ?_;simp -dsimp -implicitDefEqProofs only[go_sem];refine⟨rfl,hK _ ?_⟩;refine WPn.seq ?_;refine WPn.seq_k kd fun K hK _=>?_;simp -dsimp -implicitDefEqProofs only[go_sem];refine ns [1000] rfl rfl rfl (Oo (l.map fr2)) (by simp) rfl ?_;rw[y8];simp -dsimp -implicitDefEqProofs only[go_sem];refine hK _ (WPn.block (WPn.rangeFunc (ts:=[(1000,1)]) [3,5] (fun k cs=>cs=[[C.v (.int .i64 (v:Int))],fr2 (o k)]) (fun _ _=>False) (by simp -dsimp -implicitDefEqProofs only[go_sem]) (by simp -dsimp -implicitDefEqProofs only[go_sem]) (by simp) rfl (LJ l hl) (by simp) (by simp -dsimp -implicitDefEqProofs only[go_sem];decide) ?_ ?_ ?_ ?_ ?_))
 ·simp -dsimp -implicitDefEqProofs only[go_sem];rfl
 ·intro x hx;obtain⟨p,-,rfl⟩:=List.mem_map.1 hx;rfl
 ·rintro k x cs hx rfl -;have hk:k<l.length:=by
   have:=(List.getElem?_eq_some_iff.1 hx).1;rwa [ja]at this
  have hx2:=nu (fun x:F2=>iF x.1 x.2) l (i:=l.length-(k+1)) (by omega);rw[show l.length-(l.length-(k+1)+1)=k by omega,hx]at hx2;cases hx2;obtain⟨m,H1,H2⟩:=H k hk;generalize hs:bE _ _ _ _ _=s;obtain⟨τ,β,ε,π⟩:=s;have h12:τ 12 = .i (iF l[l.length-(k+1)].1 l[l.length-(k+1)].2):=by
   rw[qV hs];simp -dsimp -implicitDefEqProofs only[go_sem,bE,ir]
  have h3:τ 3 = .bp 3 1 0:=by
   rw[qV hs];simp -dsimp -implicitDefEqProofs only[go_sem,bE,ir];rw[nZ]<;>simp -dsimp -implicitDefEqProofs only[go_sem]
  have h5:τ 5 = .bp 5 1 0:=by
   rw[qV hs];simp -dsimp -implicitDefEqProofs only[go_sem,bE,ir];rw[nZ]<;>simp -dsimp -implicitDefEqProofs only[go_sem]
  have b3:β 3=⟨1,[C.v (.int .i64 (v:Int))]⟩:=by
   rw[BO hs];simp -dsimp -implicitDefEqProofs only[go_sem,bE,dX]
  have b5:β 5=⟨1,fr2 (o k)⟩:=by
   rw[BO hs];simp -dsimp -implicitDefEqProofs only[go_sem,bE,dX]
  clear hs;generalize l[l.length-(k+1)]=y at *
  refine WP.end_k kd fun K hK=>?_;simp -dsimp -implicitDefEqProofs only[go_sem,h12];refine hK _ _ ⟨rfl,?_⟩;refine WP.end_k kd fun K hK=>?_;simp -dsimp -implicitDefEqProofs only[go_sem,h12,h3,h5,b3,b5];refine ao (by rfl) 6 [] false true (by rfl) (by rfl) (by decide +kernel) ?_;simp -dsimp -implicitDefEqProofs only[go_sem,h12,h3,h5,b3,b5];refine aa (Lw v hv) rfl ?_;simp -dsimp -implicitDefEqProofs only[go_sem,h12,h3,h5,b3,b5,fr2];refine aa H1 rfl ?_;simp -dsimp -implicitDefEqProofs only[go_sem,h12,h3,h5,b3,b5,fr2];refine aa H2 rfl ?_;simp -dsimp -implicitDefEqProofs only[go_sem,h12,h3,h5,b3,b5,fr2];refine hK _ _ ⟨by simp -dsimp -implicitDefEqProofs only[go_sem,b3],?_⟩;simp -dsimp -implicitDefEqProofs only[go_sem,b3];rfl
 ·rintro cs γs rfl-hγ;obtain⟨g,rfl⟩:=List.length_eq_one_iff.1 hγ;rw[ja];rw[gU,iG];refine WPn.end_k kd fun K hK=>?_;dsimp only[List.map,setB];simp -dsimp -implicitDefEqProofs only[go_sem,fr2];refine hK _ _ ⟨.inr rfl,?_⟩;simp -dsimp -implicitDefEqProofs only[go_sem,fr2]
 ·intro e cs γs _ h;exact h.elim
end Go.AM
namespace Alg
open Classical
section
variable {F:Type} [CR F] [Fd F]
theorem X_c (i:Nat):(X:P F).c i=if i=1 then 1 else 0:=rfl
theorem yy (c:F) (i:Nat):(X-C c).c i=if i=0 then -c else if i=1 then 1 else 0:=by
 rw[iu,X_c]
 match i with
 | 0=>rw[if_neg (by omega),mJ,if_pos rfl,sub_eq,zero_add]
 | 1=>rw[if_pos rfl,gh,sub_zero];rfl
 | i+2=>rw[if_neg (by omega),gh,sub_zero];rfl
theorem eF (c:F):sz (X-C c)=2:=jK (fun i hi=>by rw[yy,if_neg (by omega),if_neg (by omega)]) fun _=>by rw[yy,if_neg (by omega),if_pos rfl];exact one_ne
theorem jm (c:F):(X-C c:P F)≠0:=fun h=>by
 have:=eF c;rw[h,ap.2 rfl]at this;omega
theorem A4 (c:F):lc (X-C c)=1:=by rw[lc,eF,yy,if_neg (by omega),if_pos rfl]
theorem J9 (c:F):der (X-C c)=1:=by rw[KI,Pu,Pv,sub_zero]
theorem AU:sz (1:P F)=1:=iH (R:=F) one_ne
theorem u4 {a b q r:P F} (h:a=q*b+r) (hr:sz r<sz b):re a b=r:=(kM h hr).2
theorem OY {a b q r:P F} (h:a=q*b+r) (hr:sz r<sz b):qu a b=q:=(kM h hr).1
theorem sA {a b q:P F} (hb:b≠0) (h:a=q*b):re a b=0:=u4 (q:=q) (by rw[h,add_zero]) (by rw[ap.2 rfl];exact az hb)
theorem mi {a b q:P F} (hb:b≠0) (h:a=q*b):qu a b=q:=OY (q:=q) (r:=0) (by rw[h,add_zero]) (by rw[ap.2 rfl];exact az hb)
theorem jk {a:P F} {c:F} (hc:c≠0):re a (C c)=0:=sA (q:=a*C (inv c)) (fv hc) (by rw[mul_assoc,<-bf,cx hc,bU,mul_one])
theorem eu1 {a b:P F} (hb:b≠0) (h:re a b=0):eu a b=[(a,b)]:=by rw[jS hb,h,iJ]
theorem eu2 {a b r:P F} (hb:b≠0) (h:re a b=r) (hr:r≠0) (h2:re b r=0):eu a b=[(a,b),(b,r)]:=by rw[jS hb,h,eu1 hr h2]
theorem eu3 {a b r s:P F} (hb:b≠0) (h:re a b=r) (hr:r≠0) (h2:re b r=s) (hs:s≠0) (h3:re r s=0):eu a b=[(a,b),(b,r),(r,s)]:=by rw[jS hb,h,eu2 hr h2 hs h3]
theorem gd1 {a b:P F} (hb:b≠0) (h:re a b=0):gd a b=mn b:=by
 rw[<-HL hb,h,pa]
theorem gd2 {a b r:P F} (hb:b≠0) (h:re a b=r) (hr:r≠0) (h2:re b r=0):gd a b=mn r:=by
 rw[<-HL hb,h,gd1 hr h2]
theorem mn_C {c:F} (hc:c≠0):mn (C c)=1:=by rw[mn,n9,<-bf,cx hc,bU]
theorem Nn (c:F):mn (X-C c)=X-C c:=oW (A4 c)
end
def PC (w:Nat) (p:P KQ):Prop:=∃(B:P Int) (A:Nat->P Int),B≠0/\(∀ i,p.c i*em (toQ B)=em (toQ (A i)))/\sz B<=w+1/\n1 B<=2 ^ w/\∀ i,sz (A i)<=w+1/\n1 (A i)<=2 ^ w
theorem PC.mono {w v:Nat} {p:P KQ} (h:PC w p) (hv:w<=v):PC v p:=by
 obtain⟨B,A,h1,h2,h3,h4,h5⟩:=h;exact⟨B,A,h1,h2,by omega,ac h4 (cq hv),fun i=>⟨by have:=(h5 i).1;omega,ac (h5 i).2 (cq hv)⟩⟩
theorem PC.fb {w:Nat} {p:P KQ} (h:PC w p) (i:Nat):FB w (p.c i):=by
 obtain⟨B,A,h1,h2,h3,h4,h5⟩:=h;exact⟨A i,B,h1,NC (cN h1) (h2 i),(h5 i).1,(h5 i).2,h3,h4⟩
theorem vW {A:P Int}:toQ A=0↔A=0:=⟨fun h=>Classical.byContradiction fun h'=>cN h' h,fun h=>by rw[h,cA]⟩
theorem CC {p:P KQ} {A:Nat->P Int} {B:P Int} (h:∀ i,p.c i*em (toQ B)=em (toQ (A i))) {i:Nat} (hi:p.c i=0):A i=0:=by
 have:=h i;rw[hi,zero_mul,<-nm]at this;exact vW.1 (wM this).symm
theorem AY {H:Nat}:∀(n s:Nat) {f:Nat->Nat->P Int},(∀ i j,s<=i->f i j=0)->(∀ i j,n1 (f i j)<=H)->n1 (tri f n)<=s*H
 | 0,s,f,hz,hH=>by
  cases s with
  | zero=>simp only[tri];rw[hz 0 0 (ae _),gS];omega
  | succ s=>simp only[tri];exact ac (hH 0 0) (Nat.le_mul_of_pos_left _ (by omega))
 | n+1,s,f,hz,hH=>by
  simp only[tri];cases s with
  | zero =>
   rw[hz 0 _ (ae _),zero_add];exact AY n 0 (f:=fun i j=>f (i+1) j) (fun i j _=>hz _ _ (by omega)) (fun i j=>hH _ _)
  | succ s =>
   have h1:=AY n s (f:=fun i j=>f (i+1) j) (fun i j h=>hz _ _ (by omega)) (fun i j=>hH _ _);have h2:=kU (f 0 (n+1)) (tri (fun i j=>f (i+1) j) n);have h3:=hH 0 (n+1);rw[Nat.succ_mul];omega
theorem Gf {N:Nat}:∀(n:Nat) {f:Nat->Nat->P Int},(∀ i j,sz (f i j)<=N)->sz (tri f n)<=N
 | 0,f,h=>h 0 0
 | n+1,f,h=>by
  simp only[tri];exact cT (h _ _) (Gf n fun i j=>h _ _)
theorem H7:∀(n:Nat) (f:Nat->Nat->P Int),em (toQ (tri f n))=tri (fun i j=>em (toQ (f i j))) n
 | 0,f=>rfl
 | n+1,f=>by
  simp only[tri];rw[jI,tJ,H7 n]
theorem PC.mul {w v k:Nat} {p q:P KQ} (h:PC w p) (h':PC v q) (hk:sz p<=2 ^ k):PC (w+v+k) (p*q):=by
 obtain⟨B,A,h1,h2,h3,h4,h5⟩:=h;obtain⟨B',A',k1,k2,k3,k4,k5⟩:=h';refine⟨B*B',fun n=>tri (fun i j=>A i*A' j) n,aE h1 k1,fun n=>?_,?_,?_,fun n=>⟨?_,?_⟩⟩
 ·rw[H7,gA,mul_comm,<-rj];refine dD fun i j _=>?_;rw[bN,oc,bN,oc,<-h2,<-k2];exact ring [p.c i,q.c j,em (toQ B),em (toQ B')]
 ·have:=fB h3 k3;omega
 ·exact ac (ij _ _) (ac (aN h4 k4) (cq (by omega)))
 ·exact ac (Gf (N:=w+v+1) n (f:=fun i j=>A i*A' j) fun i j=>fB (h5 i).1 (k5 j).1) (by omega)
 ·have:=AY (H:=2 ^ (w+v)) n (sz p) (f:=fun i j=>A i*A' j) (fun i j hi=>by rw[CC h2 (au hi),zero_mul]) fun i j=>ac (ij _ _) (aN (h5 i).2 (k5 j).2);refine ac this (ac (aN hk (ae _)) (cq (by omega)))
theorem PC.add {w v:Nat} {p q:P KQ} (h:PC w p) (h':PC v q):PC (w+v+1) (p+q):=by
 obtain⟨B,A,h1,h2,h3,h4,h5⟩:=h;obtain⟨B',A',k1,k2,k3,k4,k5⟩:=h';refine⟨B*B',fun i=>A i*B'+A' i*B,aE h1 k1,fun i=>?_,?_,?_,fun i=>⟨?_,?_⟩⟩
 ·rw[bK,bN,oc,jI,tJ,bN,oc,bN,oc,<-h2,<-k2];exact ring [p.c i,q.c i,em (toQ B),em (toQ B')]
 ·have:=fB h3 k3;omega
 ·exact ac (ij _ _) (ac (aN h4 k4) (cq (by omega)))
 ·refine cT ?_ ?_
  ·have:=fB (h5 i).1 k3;omega
  ·have:=fB (k5 i).1 h3;omega
 ·have e1:=ac (ij (A i) B') (aN (h5 i).2 k4);have e2:=ac (ij (A' i) B) (aN (k5 i).2 h4);rw[Nat.add_comm v w]at e2;exact ac (kU _ _) (jx e1 e2)
theorem PC.neg {w:Nat} {p:P KQ} (h:PC w p):PC w (-p):=by
 obtain⟨B,A,h1,h2,h3,h4,h5⟩:=h;exact⟨B,fun i => -A i,h1,fun i=>by rw[vu,neg_mul,h2,oG,Bs],h3,h4,fun i=>by rw[kJ,qa];exact h5 i⟩
theorem PC.sub {w v:Nat} {p q:P KQ} (h:PC w p) (h':PC v q):PC (w+v+1) (p-q):=by rw[sub_eq];exact h.add h'.neg
theorem PC.C {w:Nat} {c:KQ} (h:FB w c):PC w (C c):=by
 obtain⟨A,B,h1,h2,h3,h4,h5,h6⟩:=h;refine⟨B,fun i=>if i=0 then A else 0,h1,fun i=>?_,h5,h6,fun i=>?_⟩
 ·cases i with
  | zero=>dsimp only;rw[if_pos rfl,mJ,h2,vm (cN h1)]
  | succ i=>dsimp only;rw[if_neg (by omega),gh,zero_mul,cA,nm]
 ·dsimp only;split
  ·exact⟨h3,h4⟩
  ·exact⟨by rw[ap.2 rfl];omega,by rw[gS];exact Nat.zero_le _⟩
theorem PC.lin {w:Nat} {c:KQ} (h:FB w c):PC w (X-Alg.C c):=by
 obtain⟨A,B,h1,h2,h3,h4,h5,h6⟩:=h;refine⟨B,fun i=>if i=0 then -A else if i=1 then B else 0,h1,fun i=>?_,h5,h6,fun i=>?_⟩
 ·dsimp only;rw[yy];by_cases h0:i=0
  ·rw[if_pos h0,if_pos h0,h2,neg_mul,vm (cN h1),oG,Bs]
  ·rw[if_neg h0,if_neg h0];by_cases h9:i=1
   ·rw[if_pos h9,if_pos h9,one_mul]
   ·rw[if_neg h9,if_neg h9,zero_mul,cA,nm]
 ·dsimp only;split
  ·exact⟨by rw[kJ];exact h3,by rw[qa];exact h4⟩
  ·split
   ·exact⟨h5,h6⟩
   ·exact⟨by rw[ap.2 rfl];omega,by rw[gS];exact Nat.zero_le _⟩
theorem O1 (n:Nat):n1 (nc n:P Int)<=n:=by
 induction n with
 | zero=>exact Nat.le_of_eq gS
 | succ n ih =>
  have h1:n1 (1:P Int)<=1:=by
   rw[fQ (n:=1) (by rw[show sz (1:P Int)=1 from iH (R:=Int) (by decide)];exact ae _)];exact ae 1
  have:=kU (nc n:P Int) 1;show n1 (nc n+1:P Int)<=_;omega
theorem Po (n:Nat):em (toQ (nc n:P Int))=(nc n:KQ):=by
 induction n with
 | zero=>exact(congrArg em cA).trans nm
 | succ n ih =>
  show em (toQ (nc n+1:P Int))=nc n+1;rw[jI,tJ,ih,oF,NI]
theorem OQ (n:Nat):sz (nc n:P Int)<=1:=by rw[<-Oj];exact cm fun i hi=>by cases i with|zero=>omega|succ i=>rfl
theorem PC.der {w k:Nat} {p:P KQ} (h:PC w p) (hk:sz p<=2 ^ k):PC (w+k) (der p):=by
 obtain⟨B,A,h1,h2,h3,h4,h5⟩:=h;refine⟨B,fun i=>if sz p<=i then 0 else nc (i+1)*A (i+1),h1,fun i=>?_,by omega,ac h4 (cq (by omega)),fun i=>?_⟩
 ·dsimp only;rw[jt,mul_assoc,h2];split
  ·rename_i hi;rw[CC h2 (au (p:=p) (i:=i+1) (by omega)),cA,nm,mul_zero]
  ·rw[bN,oc,Po]
 ·dsimp only;split
  ·exact⟨by rw[ap.2 rfl];omega,by rw[gS];exact Nat.zero_le _⟩
  ·rename_i hi;refine⟨?_,?_⟩
   ·have:=aM (nc (i+1):P Int) (A (i+1));have:=OQ (i+1);have:=(h5 (i+1)).1;omega
   ·refine ac (ij _ _) ?_;rw[Nat.add_comm w k];exact aN (ac (O1 _) (by omega)) (h5 _).2
end Alg
namespace Go.AM
open Alg
open Go.Proofs
open Classical
theorem PC.pw {w:Nat} {p:KP} (h:Alg.PC w p):PW w p:=fun i=>h.fb i
theorem wD2 (w v:Nat) {n:Nat} (h:n<=2):wD w v n<=4*w+6*v+3:=by
 refine ac (jG w v h) ?_;simp only[wD];omega
theorem ut {p q:KP} {w v:Nat} (hq0:q≠0) (hp:PW w p) (hq:PW v q) (hn:Alg.sz p<=Alg.sz q+1) (hb:4*w+6*v+3<=1000) (hs:Alg.sz q<=900):Fn Tryz.prog 82 [ku p,ku q] [ku (Alg.re p q)] :=
 KReP hq0 hp hq (ac (wD2 w v (by omega)) hb) (by omega) (by omega) (by omega)
theorem Fz {p q:KP} {w v:Nat} (hq0:q≠0) (hp:PW w p) (hq:PW v q) (hn:Alg.sz p<=Alg.sz q+1) (hb:4*w+6*v+3<=1000) (hs:Alg.sz q<=900):Fn Tryz.prog 81 [ku p,ku q] [ku (qu p q)] :=
 Oi hq0 hp hq (ac (wD2 w v (by omega)) hb) (by omega) (by omega) (by omega)
theorem Mt {a:KP} {w:Nat} (ha:PW w a) (hw:2*w<=1000) (hs:Alg.sz a<=900):Fn Tryz.prog 24 [ku a,ku 0] [ku (Alg.gd a 0)] :=
 xg (fun x hx=>by rw[iJ]at hx;simp at hx) (by rw[mC];exact rH ha hw (by omega))
theorem Ms {a b:KP} {v:Nat} (hb0:b≠0) (hb:PW v b) (hv:2*v<=1000) (hs:Alg.sz b<=900) (hr:Alg.re a b=0) (c1:Fn Tryz.prog 82 [ku a,ku b] [ku (Alg.re a b)]):Fn Tryz.prog 24 [ku a,ku b] [ku (Alg.gd a b)] :=
 xg (fun x hx=>by rw[eu1 hb0 hr]at hx;simp at hx;subst hx;exact c1) (by rw[pc hb0,hr,mC];exact rH hb hv (by omega))
theorem Mr {a b r:KP} {v:Nat} (hb0:b≠0) (hr:Alg.re a b=r) (hr0:r≠0) (h2:Alg.re b r=0) (hw:PW v r) (hv:2*v<=1000) (hs:Alg.sz r<=900) (c1:Fn Tryz.prog 82 [ku a,ku b] [ku (Alg.re a b)]) (c2:Fn Tryz.prog 82 [ku b,ku r] [ku (Alg.re b r)]):Fn Tryz.prog 24 [ku a,ku b] [ku (Alg.gd a b)] :=
 xg (fun x hx=>by
  rw[eu2 hb0 hr hr0 h2]at hx;simp at hx;rcases hx with rfl|rfl
  ·exact c1
  ·exact c2) (by rw[pc hb0,hr,pc hr0,h2,mC];exact rH hw hv (by omega))
theorem QB1 (k:Nat) (h:2<=k):QB k 1:=⟨ac (eG (k:=1) (by decide)) (by omega),ac (eG (k:=1) (by decide)) (by omega)⟩
def T1 (t:Tm):Prop:=cr t.1/\t.1.lt 1099511627776/\t.2=1
theorem T1.tok {t:Tm} (h:T1 t):Tok t:=⟨h.1,h.2.1,by rw[h.2.2];decide,by rw[h.2.2];exact QB1 _ (by omega)⟩
theorem T1.q {t:Tm} (h:T1 t) {k:Nat} (hk:2<=k):QB k t.2:=by rw[h.2.2];exact QB1 _ hk
theorem T1.l {t:Tm} (h:T1 t):t.1.lt 2305843009213693952:=by
 obtain⟨-,h,-⟩:=h;unfold Ex.lt at h ⊢;omega
abbrev ma:List Tm:=[(⟨1,0,0,0⟩,1)]
abbrev mb:List Tm:=[(⟨0,1,0,0⟩,1)]
abbrev mbb:List Tm:=[(⟨0,2,0,0⟩,1)]
abbrev mabb:List Tm:=[(⟨1,2,0,0⟩,1)]
abbrev mab:List Tm:=[(⟨1,1,0,0⟩,1)]
abbrev mab1:List Tm:=[(⟨1,1,0,0⟩,1),(e0,1)]
abbrev mL:List Tm:=[(⟨1,2,0,0⟩,1),(⟨0,1,0,0⟩,1)]
theorem nX (a b:Nat) (ha:a<=5) (hb:b<=5):T1 (⟨a,b,0,0⟩,1):=⟨by simp[cr],by simp[Ex.lt];omega,rfl⟩
theorem pL {L:List Tm} (h:∃ l:List (Nat×Nat),L=l.map (fun p=>((⟨p.1,p.2,0,0⟩:Ex),(1:Rat)))/\∀ p∈l,p.1<=5/\p.2<=5):∀ t∈L,T1 t:=by
 obtain⟨l,rfl,h⟩:=h;intro t ht;obtain⟨p,hp,rfl⟩:=List.mem_map.1 ht;exact nX _ _ (h p hp).1 (h p hp).2
theorem O2 (t u:Tm) (hu:u.2=1):sM [t] [u]=[(t.1.add u.1,t.2)]:=by
 simp only[sM,List.foldl_cons,List.foldl_nil,gj,ez,mu,hu,List.map_cons,List.map_nil];rw[if_neg (by decide),show t.2*(1:Rat)=t.2 from Rat.mul_one _]
theorem Mn (t u:Tm) (ht:T1 t) (hu:T1 u):Fn Tryz.prog 57 [iM [t],iM [u]] [iM [(t.1.add u.1,1)]]:=by
 have:=zy [t] [u] (by simp) (by simp) (fun x hx=>by simp at hx;subst hx;exact ht.q (by omega)) (fun x hx=>by simp at hx;subst hx;exact hu.q (by omega)) (fun x hx=>by simp at hx;subst hx;exact ht.l) (fun x hx=>by simp at hx;subst hx;exact hu.l)
  (fun i hi=>by
   obtain rfl:i=0:=by simp at hi;omega
   refine⟨fun x hx=>by simp[sM]at hx,fun x hx=>?_,by simp[sM]⟩;simp only[List.getElem_cons_zero,ez,mu,hu.2.2,List.map_cons,List.map_nil]at hx;rw[if_neg (by decide)]at hx;simp at hx;subst hx;rw[ht.2.2];exact QB1 _ (by omega))
 rwa [O2 _ _ hu.2.2,ht.2.2]at this
theorem OU:Fn Tryz.prog 57 [iM mb,iM mb] [iM mbb]:=Mn _ _ (nX 0 1 (by omega) (by omega)) (nX 0 1 (by omega) (by omega))
theorem LR:Fn Tryz.prog 57 [iM ma,iM mbb] [iM mabb]:=Mn _ _ (nX 1 0 (by omega) (by omega)) (nX 0 2 (by omega) (by omega))
theorem PD:fM mabb mb=mL:=by
 rw[jc,if_pos (by decide),gj]
theorem sML:Fn Tryz.prog 56 [iM mabb,iM mb] [iM mL]:=by
 have:=px mabb mb (by simp) (fun x hx=>by simp at hx;subst hx;exact QB1 _ (by omega)) (fun x hx=>by simp at hx;subst hx;exact QB1 _ (by omega));rwa [PD]at this
abbrev cs3:List F2:=[([],one1),(one1,one1),(ma,one1)]
theorem OW:Fn Tryz.prog 43 [iM mL,iN 1] [fl cs3]:=by
 have h:=vK mL 1 (by omega) (by simp) (fun t ht=>by
  simp at ht;rcases ht with rfl|rfl
  ·exact⟨by decide,by decide⟩
  ·exact⟨by decide,by decide⟩) (by decide) (by simp)
 rw[show ph mL 1=[[],one1,ma]by decide +kernel]at h;exact Lv (v:=1) (by simp) h
theorem Hv (n:PQ):kr (Alg.em n)=fr2 (U n,one1):=by
 obtain⟨h1,h2⟩:=G7 n;rw[kr,h1,h2,vy];rfl
theorem CO:kr 0=fr2 ([],one1):=by
 have:=Hv 0;rwa [bR]at this
theorem U_Xm:U Alg.X=ma:=zt 1 (by decide)
noncomputable abbrev xK:KQ:=Alg.em Alg.X
theorem NN:fl cs3=kl [0,1,xK]:=by
 have e1:kr 1=fr2 (one1,one1):=by
  have:=Hv 1;rwa [vy]at this
 have e2:kr xK=fr2 (ma,one1):=by
  have:=Hv Alg.X;rwa [U_Xm]at this
 show IV.c (.lst _)=IV.c (.lst _);simp only[List.map_cons,List.map_nil,CO,e1,e2]
theorem Mq (a:List Tm) (u:Tm) (R:List Tm) (ha:∀ t∈a,T1 t) (hu:T1 u) (hl:a.length<=2) (hm:EM a [u]=R) (hq:∀ i<a.length,∀ e q,(e,q)∈sumM (a.take i) [u] []->q=1):Fn Tryz.prog 111 [iM a,iM [u]] [iM R]:=by
 have:=xe a [u] (by omega) (by simp) (fun t ht=>(ha t ht).l) (fun t ht=>by simp at ht;subst ht;exact hu.l) (fun t ht=>(ha t ht).q (by omega)) (fun t ht=>by simp at ht;subst ht;exact hu.q (by omega))
  (by
   intro i j hi hj;have hj':j<1:=hj;obtain rfl:j=0:=by omega
   refine⟨?_,fun e q hq'=>?_⟩
   ·show QB _ (a[i].2*u.2);rw[(ha _ (List.getElem_mem hi)).2.2,hu.2.2,show(1:Rat)*1=1 from Rat.mul_one 1];exact QB1 8589934592 (by omega)
   ·rw[hq i hi e q hq'];exact QB1 _ (by omega))
 rwa [hm]at this
theorem same1:Fn Tryz.prog 138 [iM one1,iM one1] [iB true]:=by
 have:=zQ one1 one1 (by simp) (fun t ht=>by simp at ht;subst ht;exact QB1 _ (by omega)) (fun t ht=>by simp at ht;subst ht;exact QB1 _ (by omega));rwa [ai rfl]at this
theorem mul11:Fn Tryz.prog 111 [iM one1,iM one1] [iM one1]:=Mq one1 (e0,1) one1 (pL ⟨[(0,0)],rfl,by simp⟩) (nX 0 0 (by omega) (by omega)) (by simp) (by decide +kernel) (fun i hi e q h=>by
 obtain rfl:i=0:=by simp at hi;omega
 simp[sumM]at h)
theorem Jc (a:List Tm) (u:Tm) (R:List Tm) (ha:∀ t∈a,T1 t) (hu:T1 u) (hl:a.length<=2) (hm:EM a [u]=R) (hq:∀ i<a.length,∀ e q,(e,q)∈sumM (a.take i) [u] []->q=1) (hR:∀ t∈R,T1 t) (lR:R.length<=2) :
  Fn Tryz.prog 65 [iF a one1,iF [u] one1] [iF R one1]:=Dw (Mq a u R ha hu hl hm hq) mul11 (zO R (by omega) fun t ht=>(hR t ht).tok)
theorem Jd (a b R:List Tm) (ha:∀ t∈a,T1 t) (hb:∀ t∈b,T1 t) (hla:a.length<=2) (hlb:b.length<=2) (hm:fM a b=R) (hR:∀ t∈R,T1 t) (lR:R.length<=2):Fn Tryz.prog 64 [iF a one1,iF b one1] [iF R one1]:=by
 have h:=xf a b (by omega) (fun t ht=>(ha t ht).q (by omega)) (fun t ht=>(hb t ht).q (by omega));rw[hm]at h;exact Dx (pH same1 h (zO R (by omega) fun t ht=>(hR t ht).tok)) ⟨_,_,rfl⟩ ⟨_,_,rfl⟩ ⟨_,_,rfl⟩
def oT:Nat->F2
 | 0=>([],one1)
 | 1=>(ma,one1)
 | 2=>(mab1,one1)
 | _=>(mL,one1)
theorem sTo:Fn Tryz.prog 48 [fl cs3,iN 1] [iF mL one1]:=by
 have ta:∀ t∈ma,T1 t:=pL ⟨[(1,0)],rfl,by simp⟩;have t1:∀ t∈one1,T1 t:=pL ⟨[(0,0)],rfl,by simp⟩;have tab:∀ t∈mab,T1 t:=pL ⟨[(1,1)],rfl,by simp⟩;have tab1:∀ t∈mab1,T1 t:=pL ⟨[(1,1),(0,0)],rfl,by simp⟩;have tL:∀ t∈mL,T1 t:=pL ⟨[(1,2),(0,1)],rfl,by simp⟩;have t0:∀ t∈([]:List Tm),T1 t:=by simp
 have tb:T1 (⟨0,1,0,0⟩,1):=nX 0 1 (by omega) (by omega);refine PK cs3 1 (by omega) (by simp) oT ?_ fun k hk=>?_
 ·have:=bX 0 (by decide);have e:IV.g (fr2 (oT 0))=iK (kn 0):=by
   rw[fe];show IV.g (fr2 ([],one1))=IV.g (kr 0);rw[CO]
  rw[e];exact this
 ·have hk3:k<3:=hk;obtain rfl|rfl|rfl:k=0\/k=1\/k=2:=by omega
  ·exact⟨([],one1),Jc [] _ [] t0 tb (by simp) (by decide +kernel) (fun i hi=>absurd hi (by simp)) t0 (by simp),Jd [] ma ma t0 ta (by simp) (by simp) (gj _) ta (by simp)⟩
  ·refine⟨(mab,one1),Jc ma _ mab ta tb (by simp) (by decide +kernel) (fun i hi e q h=>?_) tab (by simp),Jd mab one1 mab1 tab t1 (by simp) (by simp) ?_ tab1 (by simp)⟩
   ·obtain rfl:i=0:=by simp at hi;omega
    simp[sumM]at h
   ·rw[jc,if_pos (by decide),gj]
  ·refine⟨(mL,one1),Jc mab1 _ mL tab1 tb (by simp) (by decide +kernel) (fun i hi e q h=>?_) tL (by simp),Jd mL [] mL tL t0 (by simp) (by simp) (jb _) tL (by simp)⟩;have hi':i<2:=hi;obtain rfl|rfl:i=0\/i=1:=by omega
   ·simp[sumM]at h
   ·simp[sumM,rowM,addT]at h;exact h.2
theorem OT:Fn Tryz.prog 49 [iM mL] [iF mL one1]:=by
 have:=vD mL;rwa [vy]at this
theorem M9:Fn Tryz.prog 41 [iF mL one1,iF mL one1] [iB true]:=by
 have tq:∀ L:List Tm,(L=mL\/L=one1)->∀ t∈L,QB 17179869184 t.2:=fun L hL t ht=>by
  rcases hL with rfl|rfl<;>simp at ht
  ·rcases ht with rfl|rfl<;>exact QB1 _ (by omega)
  ·subst ht;exact QB1 _ (by omega)
 have e1:=qq mL mL (by simp) (tq _ (.inl rfl)) (tq _ (.inl rfl));have e2:=qq one1 one1 (by simp) (tq _ (.inr rfl)) (tq _ (.inr rfl));rw[ai rfl]at e1 e2;have h87:Fn Tryz.prog 87 [iF mL one1,iF mL one1] [iB true]:=by
  refine ak (fn:=Tryz.f87) (by rfl) rfl rfl rfl (by rfl) ?_;simp -dsimp -implicitDefEqProofs only[go_sem,Int.reduceToNat,Int.reduceLE,ag];refine aa e1 rfl ?_;simp -dsimp -implicitDefEqProofs only[go_sem,Int.reduceToNat,Int.reduceLE,ag];refine aa e2 rfl ?_;simp -dsimp -implicitDefEqProofs only[go_sem]
 refine ak (fn:=Tryz.f41) (by rfl) rfl rfl rfl (by rfl) ?_;simp -dsimp -implicitDefEqProofs only[go_sem];refine aa h87 rfl ?_;simp -dsimp -implicitDefEqProofs only[go_sem]
end Go.AM
namespace Alg
open Classical
section
variable {F:Type} [CR F] [Fd F]
theorem J8 (a b:F):(X-C a)-(X-C b)=C (b-a):=by rw[Mu];exact ring [X,C a,C b]
theorem M7 {a b:F} (h:a≠b):b-a≠0:=fun e=>h (by
 have:=congrArg (· + a) e;simp only[sub_eq,zero_add]at this;rw[add_assoc,neg_add,add_zero]at this;exact this.symm)
theorem div9 {t:F} (ht:t*ic 9=1) (f g:P F):f*g=C t*(f+f+g)*(g+g+f)+(-(C t*ic 2*(f-g)*(f-g))):=by
 have e:C t*(ic 9:P F)=1:=by rw[<-PN,<-bf,ht,bU]
 have h:f*g*(C t*ic 9)=C t*(f+f+g)*(g+g+f)+(-(C t*ic 2*(f-g)*(f-g))):=ring [f,g,C t];rwa [e,mul_one]at h
theorem Nv {t a b:F} : -(C t*ic 2*((X-C a)-(X-C b))*((X-C a)-(X-C b)))=C (-(t*ic 2*(b-a)*(b-a))):=by
 rw[J8,kC,bf,bf,bf,PN]
theorem Hj (c:F):(X-C c).c 1=1:=by rw[yy,if_neg (by omega),if_pos rfl]
theorem l5 (a b:F) (h3:(ic 3:F)≠0):sz ((X-C b)+(X-C b)+(X-C a))=2:=jK (fun i hi=>by rw[bK,bK,au (by rw[eF];omega),au (by rw[eF];omega),add_zero,add_zero]) fun _=>by
 show((X-C b)+(X-C b)+(X-C a)).c 1≠0;rw[bK,bK,Hj,Hj];intro e;refine h3 ?_;rw[<-e];exact ring []
theorem k_ne {t a b:F} (h:a≠b) (ht:t≠0) : -(t*(b-a)*(b-a))≠0:=fun e=>by
 have h1:=M7 h;have h2:t*(b-a)*(b-a)=0:=by
  have:=congrArg (fun x => -x) e;rwa [neg_neg,f0]at this
 exact aE (aE ht h1) h1 h2
end
end Alg
namespace Go.AM
open Alg
open Go.Proofs
open Classical
theorem fg:xK≠0:=C3 fun h=>by
 have:=congrArg Alg.sz h;rw[ap.2 rfl,show(Alg.X:PQ)=mon 1 1 from rfl,lZ 1 (by decide)]at this;omega
theorem dN:FB 1 xK:=by
 refine⟨Alg.X,1,fv (R:=Int) (by decide),?_,?_,?_,?_,?_⟩
 ·rw[oF];show xK=Alg.em (toQ Alg.X);rw[show(toQ Alg.X:PQ)=Alg.X from m3 1 1]
 ·rw[show(Alg.X:Alg.P Int)=mon 1 1 from rfl,lZ 1 (by decide)];omega
 ·rw[fQ (n:=2) (by rw[show(Alg.X:Alg.P Int)=mon 1 1 from rfl,lZ 1 (by decide)];omega)];exact(by decide:1<=2)
 ·rw[show Alg.sz (1:Alg.P Int)=1 from iH (R:=Int) (by decide)];omega
 ·rw[fQ (n:=1) (by rw[show Alg.sz (1:Alg.P Int)=1 from iH (R:=Int) (by decide)];exact ae _)];exact(by decide:1<=2)
theorem vf {l:List KQ} (h:∀ h:l.length-1<l.length,l[l.length-1]≠0):kl l=ku (Alg.pl l):=by
 rw[ku,<-C9 (l:=l) (p:=Alg.pl l) (fun i hi=>by rw[qZ];simp[List.getD,hi]) (fun i hi=>by rw[qZ];simp[List.getD,List.getElem?_eq_none hi]) h]
theorem pl2 (a b:KQ):Alg.pl [a,b]=Alg.C a+Alg.C b*Alg.X:=Alg.P.ext fun i=>by
 rw[qZ,bK,bA,X_c]
 match i with
 | 0=>rw[if_neg (by omega),mul_zero,add_zero];rfl
 | 1=>rw[if_pos rfl,mul_one,gh,zero_add];rfl
 | i+2=>rw[if_neg (by omega),mul_zero,gh,zero_add];rfl
theorem pl1 (a:KQ):Alg.pl [a]=Alg.C a:=Alg.P.ext fun i=>by
 match i with
 | 0=>rfl
 | i+1=>rw[gh];rfl
theorem uq:PW 0 (Alg.X:KP):=fun i=>by
 rw[X_c];split
 ·exact jD (z:=1) (by decide)
 ·exact eD 0
theorem uP {w:Nat} {c:KQ} (h:FB w c):PW w (Alg.C c):=fun i=>by
 cases i with
 | zero=>exact h
 | succ i=>exact eD w
theorem Ln:PW 0 (1:KP):=uP (jD (z:=1) (by decide))
theorem jL:Alg.sz (Alg.X:KP)=2:=lZ 1 one_ne
theorem Ht:kl [kn 0,kn 1]=ku Alg.X:=by
 rw[vf (fun _=>yC (by decide)),pl2,fe,fp,cu,zero_add,bU,one_mul]
noncomputable abbrev yK:KQ:=Alg.inv xK
theorem xy:(Alg.C xK:KP)*Alg.C yK=1:=by rw[<-bf,mul_inv fg,bU]
theorem lM:FB 1 yK:=dN.inv fg
theorem xu:yK≠0:=eH fg
noncomputable abbrev dQ:KP:=Alg.C (-(yK*yK))+Alg.C yK*Alg.X
theorem JE:(Alg.X*Alg.X:KP)=dQ*(Alg.C 1+Alg.C xK*Alg.X)+Alg.C (yK*yK):=by
 have h:dQ*(Alg.C 1+Alg.C xK*Alg.X)+Alg.C (yK*yK)=(Alg.X*Alg.X:KP)-(1-Alg.C xK*Alg.C yK)*(Alg.X*Alg.X-Alg.C yK*Alg.X):=by
  rw[dQ,kC,bf,bU];exact ring [Alg.X,Alg.C xK,Alg.C yK]
 rw[h,xy,sub_self,zero_mul,sub_zero]
theorem Cj:Alg.sz (Alg.C 1+Alg.C xK*Alg.X:KP)=2:=jK (fun i hi=>by
 rw[bK,bA,X_c,if_neg (by omega),mul_zero,add_zero];cases i with
 | zero=>omega
 | succ i=>rfl) fun _=>by
 show(Alg.C 1+Alg.C xK*Alg.X:KP).c 1≠0;rw[bK,bA,X_c,if_pos rfl,mul_one,gh,zero_add];exact fg
theorem jh (c:KQ):Alg.sz (Alg.C c:KP)<=1:=cm fun i hi=>by cases i with|zero=>omega|succ i=>rfl
theorem IN {c:KQ} {w:Nat} (h:FB w c):PW w (Alg.C c*Alg.X:KP):=by
 have:=uq.scale h;rwa [mul_comm,Nat.zero_add]at this
theorem PL:PW 2 (Alg.C 1+Alg.C xK*Alg.X:KP):=(uP (jD (z:=1) (w:=0) (by decide))).add (IN dN)
theorem Na:Fn Tryz.prog 14 [ku Alg.X,ku Alg.X] [ku (Alg.X*Alg.X)]:=zK uq uq (by rw[jL];omega) (by rw[jL];omega) (by rw[jL];omega) (by omega) (by omega)
theorem sDiv:Fn Tryz.prog 18 [ku (Alg.X*Alg.X),ku (Alg.C 1+Alg.C xK*Alg.X)] [ku dQ,ku (Alg.C (yK*yK)),iN 0]:=by
 have hq0:(Alg.C 1+Alg.C xK*Alg.X:KP)≠0:=fun h=>by have:=Cj;rw[h,ap.2 rfl]at this;omega
 have hsz:Alg.sz (Alg.X*Alg.X:KP)<=3:=by have:=aM (Alg.X:KP) Alg.X;rw[jL]at this;omega
 have h:=mU hq0 (LW uq uq) PL (by
  rw[jL,Cj];exact ac (wD2 _ _ (by omega)) (by omega)) (by omega) (by omega) (by rw[Cj];omega)
 obtain⟨e1,e2⟩:=kM JE (by rw[Cj];have:=jh (yK*yK);omega);rwa [e1,e2]at h
noncomputable abbrev lX:KP:=Alg.X-Alg.C xK
theorem mT {w:Nat} {c:KQ} (h:FB w c):PW w (Alg.X-Alg.C c:KP):=PC.pw (Alg.PC.lin h)
theorem Nq:kl [-xK,kn 1]=ku lX:=by
 rw[vf (fun _=>yC (by decide)),pl2,fp,kC,bU,one_mul];show ku _=ku _;rw[show -Alg.C xK+Alg.X=(lX:KP)from ring [Alg.C xK,Alg.X]]
theorem L5:kl [kn 1]=ku 1:=CN.symm
theorem reX:Alg.re Alg.X lX=Alg.C xK:=u4 (q:=1) (ring [Alg.X,Alg.C xK]) (by rw[eF];have:=jh xK;omega)
theorem OV:Fn Tryz.prog 24 [ku Alg.X,ku lX] [ku (Alg.gd Alg.X lX)] :=
 Mr (jm _) reX (fv fg) (Alg.jk fg) (uP dN) (by omega) (by have:=jh xK;omega) (ut (jm _) uq (mT dN) (by rw[jL,eF];omega) (by omega) (by rw[eF];omega))
  (ut (fv fg) (mT dN) (uP dN) (by rw[eF,iH fg];omega) (by omega) (by have:=jh xK;omega))
theorem gdX:Alg.gd Alg.X lX=1:=by rw[gd2 (jm _) reX (fv fg) (Alg.jk fg),mn_C fg]
theorem Ck {c:KQ} (h:c≠0):Alg.sz (Alg.C c:KP)=1:=iH h
theorem JD:Fn Tryz.prog 28 [ku Alg.X,ku lX,ku 1] [ku (Alg.C yK),ku (-Alg.C yK),iN 0]:=by
 have h1:qu 1 (Alg.re Alg.X lX)=Alg.C yK:=by
  rw[reX];exact mi (fv fg) (by rw[mul_comm,xy])
 have szl:Alg.sz lX=2:=eF _;have s1:Alg.sz (1:KP)=1:=AU;have e1:(1:KP)*Alg.C yK=Alg.C yK:=one_mul _;have hre:Alg.re (1*Alg.C yK) lX=Alg.C yK:=u4 (q:=0) (by rw[zero_mul,zero_add,e1]) (by rw[szl];have:=jh yK;omega);have wy:PW 1 (Alg.C yK:KP):=uP lM;have wyX:PW 2 (Alg.C yK*Alg.X:KP):=(IN lM).mono (by omega);have hsm:=aM (Alg.C yK:KP) Alg.X;rw[jL]at hsm;have sy:=jh yK;have hq:qu (1-Alg.C yK*Alg.X) lX = -Alg.C yK:=mi (jm _) (by
  have : -Alg.C yK*lX=Alg.C xK*Alg.C yK-Alg.C yK*Alg.X:=ring [Alg.X,Alg.C xK,Alg.C yK];rw[this,xy])
 refine B2 OV (by rw[gdX,AU]) szl (by rw[reX,Ck fg]) (ut (jm _) uq (mT dN) (by rw[jL,szl];omega) (by omega) (by rw[szl];omega)) ?_ ?_ ?_ ?_ ?_ ?_
 ·rw[reX];exact Fz (fv fg) Ln (uP dN) (by rw[s1,Ck fg];omega) (by omega) (by rw[Ck fg];omega)
 ·rw[h1];exact zK Ln wy (by rw[s1];omega) (by rw[s1];omega) (by omega) (by omega) (by omega)
 ·rw[h1];have:=ut (p:=1*Alg.C yK) (jm xK) (by rw[e1];exact wy) (mT dN) (by rw[e1,eF];omega) (by omega) (by rw[eF];omega);rwa [hre]at this
 ·exact zK wy uq (ac (Nat.mul_le_mul_right _ sy) (by omega)) (by omega) (by rw[jL];omega) (by omega) (by omega)
 ·exact IU Ln wyX (by omega) (by rw[s1];omega) (by omega)
 ·have:=Fz (p:=1-Alg.C yK*Alg.X) (jm xK) (Ln.sub wyX) (mT dN) (by
   rw[eF];have:=fP (p:=(1:KP)) (q:=Alg.C yK*Alg.X) (n:=2) (by rw[s1];omega) (by omega);omega) (by omega) (by rw[eF];omega)
  rwa [hq]at this
theorem JC:Fn Tryz.prog 28 [ku Alg.X,ku Alg.X,ku 1] [ku 0,ku 0,iN 60]:=by
 have hX:(Alg.X:KP)≠0:=fun h=>by have:=jL;rw[h,ap.2 rfl]at this;omega
 have hr:Alg.re (Alg.X:KP) Alg.X=0:=sA (q:=1) hX (one_mul _).symm;refine Fy (Ms hX uq (by omega) (by rw[jL];omega) hr (ut hX uq uq (by omega) (by omega) (by rw[jL];omega))) ?_;rw[gd1 hX hr,LY,jL];omega
noncomputable abbrev sq1:KP:=1+Alg.X*Alg.X
theorem M8:kl [kn 1,kn 0,kn 1]=ku sq1:=by
 rw[vf (fun _=>yC (by decide))];show ku _=ku _;congr 1;have:Alg.pl [kn 1,kn 0,kn 1]=(1+Alg.X*Alg.X:KP):=Alg.P.ext fun i=>by
  rw[qZ,bK,show(Alg.X*Alg.X:KP)=mon 1 1*mon 1 1 from rfl,du,bJ,mul_one,fe,fp]
  match i with
  | 0=>rw[if_neg (by omega),add_zero];rfl
  | 1=>rw[if_neg (by omega),add_zero];rfl
  | 2=>rw[if_pos rfl];exact(zero_add _).symm
  | i+3=>rw[if_neg (by omega),add_zero];rfl
 rw[this]
theorem Co (i:Nat):sq1.c i=if i=0\/i=2 then 1 else 0:=by
 rw[bK,show(Alg.X*Alg.X:KP)=mon 1 1*mon 1 1 from rfl,du,bJ,mul_one]
 match i with
 | 0=>rw[if_neg (by omega),add_zero];rfl
 | 1=>rw[if_neg (by omega),add_zero];rfl
 | 2=>rw[if_pos rfl];exact zero_add _
 | i+3=>rw[if_neg (by omega),add_zero];rfl
theorem ii:Alg.sz sq1=3:=jK (fun i hi=>by rw[Co,if_neg (by omega)]) fun _=>by rw[Co,if_pos (by omega)];exact one_ne
theorem wB:lc sq1=1:=by rw[lc,ii,Co,if_pos (by omega)]
theorem IM:PW 0 sq1:=fun i=>by
 rw[Co];split
 ·exact jD (z:=1) (by decide)
 ·exact eD 0
noncomputable abbrev kR:KQ:=1+xK*xK
theorem FB1 (w:Nat):FB w 1:=(jD (z:=1) (w:=0) (by decide)).mono (Nat.zero_le w)
theorem s7:FB 4 kR:=((FB1 0).add (dN.mul dN)).mono (by omega)
theorem vg:kR≠0:=fun h=>by
 have h1:(Alg.em (1+Alg.X*Alg.X):KQ)=Alg.em 0:=by
  rw[tJ,oc];exact h
 have h2:=congrArg (fun p=>p.c 0) (wM h1);rw[show(Alg.X*Alg.X:PQ)=mon 1 1*mon 1 1 from rfl,du]at h2;exact absurd h2 (by decide +kernel)
theorem Nf:Alg.re lX sq1=lX:=u4 (q:=0) (by rw[zero_mul,zero_add]) (by rw[eF,ii];omega)
theorem Nd:Alg.re sq1 lX=Alg.C kR:=u4 (q:=Alg.X+Alg.C xK) (by
 rw[Dy,bf,bU];exact ring [Alg.X,Alg.C xK]) (by rw[eF];have:=jh kR;omega)
theorem sRes:Fn Tryz.prog 35 [ku lX,ku sq1] [iK (kz 1+xK*xK)]:=by
 have sl:Alg.sz lX=2:=eF _;have ll:lc lX=1:=A4 _;have hq0:sq1≠0:=fun h=>by have:=ii;rw[h,ap.2 rfl]at this;omega
 have he:eu lX sq1=[(lX,sq1),(sq1,lX),(lX,Alg.C kR)]:=eu3 hq0 Nf (jm _) Nd (fv vg) (Alg.jk vg);have sk:Alg.sz (Alg.C kR:KP)=1:=Ck vg;have pw1:∀ n,Alg.pw (1:KQ) n=1:=fun n=>by
  induction n with
  | zero=>rfl
  | succ n ih=>simp only[Alg.pw,ih,mul_one]
 have o1:lI lX sq1 1=1:=by
  rw[pZ (x:=(lX,sq1)) (by rw[he];rfl)];simp only[wB,pw1,sgR,sl,ii];rw[if_neg (by omega)];exact mul_one _
 have o2:lI lX sq1 2=1:=by
  rw[pZ (x:=(sq1,lX)) (by rw[he];rfl)];simp only[ll,pw1,sgR,sl,ii,o1];rw[if_neg (by omega)];exact mul_one _
 have lk:lc (Alg.C kR:KP)=kR:=n9 _;have pk:Alg.pw kR 1=kR:=by simp only[Alg.pw,one_mul,mul_one]
 have f1:FW (1:KQ):=FB1 1000;have fk:FW kR:=s7.mono (by omega);have h:=Lr (a:=lX) (b:=sq1) (m:=2) (z:=(lX,Alg.C kR)) (jm _) hq0 (by omega) (by rw[ii];omega) (by rw[he];rfl) (by rw[he];rfl) fun k x hx=>by
  rw[he]at hx
  match k,hx with
  | 0,hx =>
   simp at hx;subst hx;exact⟨ut hq0 (mT dN) IM (by rw[sl,ii];omega) (by omega) (by rw[ii];omega),by dsimp only;omega,by rw[ii];omega,by rw[wB];exact f1,f1,by rw[wB,pw1];exact f1,by rw[wB,pw1];exact(FB1 0).mul (FB1 1000) |>.mono (by omega),fun h=>absurd h (by rw[ii];omega)⟩
  | 1,hx =>
   simp at hx;subst hx;exact⟨ut (jm _) IM (mT dN) (by rw[sl,ii];omega) (by omega) (by rw[sl];omega),by rw[ii];omega,by dsimp only;omega,by rw[ll];exact f1,by rw[o1];exact f1,by rw[ll,pw1];exact f1,by rw[ll,pw1,o1];exact(FB1 0).mul (FB1 1000) |>.mono (by omega),fun h=>absurd h (by rw[sl];omega)⟩
  | 2,hx =>
   simp at hx;subst hx;exact⟨ut (fv vg) (mT dN) (uP s7) (by rw[sl,sk];omega) (by omega) (by rw[sk];omega),by dsimp only;omega,by rw[sk];omega,by rw[lk];exact fk,by rw[o2];exact f1,by
    rw[lk,Alg.jk vg,sl,ap.2 rfl];simp only[Alg.pw,one_mul];exact(s7.mul s7).mono (by omega),by
    rw[lk,Alg.jk vg,sl,ap.2 rfl,o2];simp only[Alg.pw,one_mul];exact(s7.mul s7).mono (by omega),fun _=>by
    rw[lk,sl,o2];show FW (Alg.pw kR 1)/\FW (1*Alg.pw kR 1);rw[pk,one_mul];exact⟨fk,fk⟩⟩
  | n+3,hx=>simp at hx
 rw[Es,if_pos sk,o2,lk,sl]at h;rw[show Alg.pw kR (2-1)=kR from pk,one_mul]at h;exact h
theorem SqOf {p P D G Q1 Q2:KP} {m w wp wg wd:Nat} {out:List (KP×Nat)} (hp2:2<=Alg.sz p) (hs:Alg.sz p<=5) (hm:m<=1000) (wp0:PW wp p) (hwp:2*wp<=1000) (hP:mn p=P) (wP:PW w P) (hw:w<=990) (hD:der P=D) (wD0:PW wd D) (hG:Alg.gd P D=G)
  (cG:Fn Tryz.prog 24 [ku P,ku D] [ku (Alg.gd P D)]) (wG:PW wg G) (hwg:wg<=1000) (hG0:G≠0) (e1:P=Q1*G) (e2:D=Q2*G) (b1:wD w wg (Alg.sz P+1-Alg.sz G)<=1000) (b2:wD wd wg (Alg.sz D+1-Alg.sz G)<=1000) (hsG:Alg.sz G<=900)
  (hR:SqR m 1 Q1 Q2 out):Fn Tryz.prog 31 [ku p] [.c (.lst (out.map sqr))]:=by
 have sP:Alg.sz P=Alg.sz p:=by rw[<-hP,LY]
 have sD:Alg.sz D<=Alg.sz P-1:=by rw[<-hD];exact Bx P
 have q1:=mi hG0 e1;have q2:=mi hG0 e2;subst hP hD hG;refine B1 hp2 hm (rH wp0 hwp (by omega)) (B4 wP (by omega) (by omega)) cG (Oi hG0 wP wG b1 hwg (by omega) (by omega)) (Oi hG0 wD0 wG b2 hwg (by omega) (by omega)) ?_;rw[q1,q2];exact hR
theorem Ob {b:KP} {n w:Nat} (wb:PW w b) (hw:24*w+7<=1000) (hl:lc b=1) (hs:2<=Alg.sz b) (hs':Alg.sz b<=5):SqR 1 n b (der b) [(b,n)]:=by
 have hb0:b≠0:=fun h=>by rw[h,ap.2 rfl]at hs;omega
 have e0:der b-der b=0:=sub_self _;have eg:Alg.gd b (der b-der b)=b:=by rw[e0,pa,oW hl]
 have wd:=Mh wb (by omega);have sd:=Bx b;have q1:qu b b=1:=mi hb0 (one_mul _).symm;have q2:qu 0 b=0:=mi hb0 (zero_mul _).symm;have w0:PW 0 (0:KP):=fun i=>eD 0;have s0:Alg.sz (0:KP)=0:=ap.2 rfl;have step:=SqR.step (m:=0) (n:=n) (b:=b) (c:=der b) (out:=[]) (by omega) (B4 wb (by omega) (by omega)) (IU wd wd (by omega) (by omega) (by omega)) (by rw[e0];exact Mt wb (by omega) (by omega))
  (by rw[eg];exact Fz hb0 wb wb (by omega) (by omega) (by omega)) (by rw[eg,e0];exact Fz hb0 w0 wb (by omega) (by omega) (by omega)) (by rw[eg,e0,q1,q2];exact SqR.stop (by rw[AU];omega))
 rw[eg,if_pos (by omega)]at step;exact step
theorem Oa {b c d g:KP} {m n w v u k:Nat} {out:List (KP×Nat)} (wb:PW w b) (wc:PW v c) (wd:PW u d) (wg:PW k g) (hw:w+10+v+1<=1000) (hs:2<=Alg.sz b) (hs':Alg.sz b<=3) (hsc:Alg.sz c<=3) (hd:c-der b=d) (hg:Alg.gd b d=g) (hsg:Alg.sz g=2) (hsd:Alg.sz d<=3) {q1 q2:KP}
  (cG:Fn Tryz.prog 24 [ku b,ku d] [ku (Alg.gd b d)]) (hb1:4*w+6*k+3<=1000) (hb2:4*u+6*k+3<=1000) (e1:b=q1*g) (e2:d=q2*g) (hR:SqR m (n+1) q1 q2 out):SqR (m+1) n b c ((g,n)::out):=by
 have hg0:g≠0:=fun h=>by rw[h,ap.2 rfl]at hsg;omega
 have h1:=mi hg0 e1;have h2:=mi hg0 e2;have sd:=Bx b;have step:=SqR.step (m:=m) (n:=n) (b:=b) (c:=c) (out:=out) (by omega) (B4 wb (by omega) (by omega)) (IU wc (Mh wb (by omega)) (by omega) (by omega) (by omega)) (by rw[hd];exact cG)
  (by rw[hd,hg];exact Fz hg0 wb wg (by omega) hb1 (by omega)) (by rw[hd,hg];exact Fz hg0 wd wg (by omega) hb2 (by omega)) (by rw[hd,hg,h1,h2];exact hR)
 rw[hd,hg,if_pos (by omega)]at step;exact step
theorem L7 (n:Nat):(ic (n:Int):KQ)=kn (n:Int):=by rw[HG,CP]
theorem tj {n:Nat} (h:n≠0):(ic (n:Int):KQ)≠0:=by rw[L7];exact yC (by omega)
theorem L8 {n w:Nat} (h:n<=2 ^ w):FB w (ic (n:Int):KQ):=by rw[L7];exact jD (by simpa using h)
noncomputable abbrev t4:KQ:=Alg.inv (ic 4)
noncomputable abbrev t9:KQ:=Alg.inv (ic 9)
theorem OO:FB 4 t9:=(L8 (n:=9) (by decide)).inv (tj (n:=9) (by decide))
theorem M5:t9*ic 9=1:=cx (tj (n:=9) (by decide))
section
variable {a b:KQ}
noncomputable abbrev LN (c:KQ):KP:=Alg.X-Alg.C c
theorem qJ (c:KQ):Alg.sz (LN c)=2:=eF c
theorem kj (c:KQ):LN c≠0:=jm c
theorem yx (c:KQ):lc (LN c)=1:=A4 c
theorem sV (c:KQ):der (LN c)=1:=J9 c
theorem szm {p q:KP} (hp:p≠0) (hq:q≠0):Alg.sz (p*q)=Alg.sz p+Alg.sz q-1:=cO hp hq
theorem lcm1 {p q:KP} (hp:lc p=1) (hq:lc q=1):lc (p*q)=1:=by rw[f6,hp,hq,one_mul]
theorem Gg (p:KP) {c:KQ} (hc:c≠0):Alg.sz (p*Alg.C c)=Alg.sz p:=by rw[mul_comm,bF hc]
theorem LZ {p:KP} {c:KQ} (hc:c≠0) (hl:lc p=1):mn (p*Alg.C c)=p:=by rw[mul_comm,yp hc,oW hl]
theorem LS {p g q:KP} {c:KQ} (hc:c≠0) (hg:g≠0) (h:p=q*g):Alg.re p (g*Alg.C c)=0:=by
 refine sA (q:=q*Alg.C (Alg.inv c)) (aE hg (fv hc)) ?_;have e:(Alg.C c:KP)*Alg.C (Alg.inv c)=1:=by rw[<-bf,mul_inv hc,bU]
 have h2:q*Alg.C (Alg.inv c)*(g*Alg.C c)=q*g*(Alg.C c*Alg.C (Alg.inv c)):=ring [q,g,Alg.C c,Alg.C (Alg.inv c)];rw[h2,e,mul_one,h]
noncomputable abbrev k11 (a b:KQ):KQ := -(t4*(b-a)*(b-a))
noncomputable abbrev k21 (a b:KQ):KQ := -(t9*ic 2*(b-a)*(b-a))
theorem wF (h:a≠b):k21 a b≠0:=k_ne h (aE (eH (tj (n:=9) (by decide))) (tj (n:=2) (by decide)))
theorem Nu (ha:FB 8 a) (hb:FB 8 b):FB 39 (k21 a b):=(((OO.mul (L8 (n:=2) (w:=1) (by decide))).mul (hb.sub ha)).mul (hb.sub ha)).neg.mono (by omega)
theorem d21:der (LN a*LN a*LN b)=LN a*(LN b+LN b+LN a):=by
 rw[wS,wS,sV,sV];exact ring [LN a,LN b]
theorem re21:Alg.re (LN a*LN a*LN b) (LN a*(LN b+LN b+LN a))=LN a*Alg.C (k21 a b):=by
 have h3:Alg.sz (LN b+LN b+LN a)=2:=l5 a b (tj (n:=3) (by decide));have hn:LN b+LN b+LN a≠0:=fun h=>by rw[h,ap.2 rfl]at h3;omega
 have h9:=div9 M5 (LN a) (LN b);rw[Nv]at h9;refine u4 (q:=Alg.C t9*(LN a+LN a+LN b)) ?_ ?_
 ·have e1:LN a*LN a*LN b=LN a*(LN a*LN b):=mul_assoc _ _ _;rw[e1,h9];exact ring [LN a,LN b,Alg.C t9,Alg.C (k21 a b)]
 ·rw[szm (kj a) hn,h3,qJ];have:=aM (LN a) (Alg.C (k21 a b));have:=jh (k21 a b);rw[qJ]at *
  omega
theorem gd21 (h:a≠b):Alg.gd (LN a*LN a*LN b) (LN a*(LN b+LN b+LN a))=LN a:=by
 have h3:Alg.sz (LN b+LN b+LN a)=2:=l5 a b (tj (n:=3) (by decide));have hn:LN b+LN b+LN a≠0:=fun h=>by rw[h,ap.2 rfl]at h3;omega
 rw[gd2 (aE (kj a) hn) re21 (aE (kj a) (fv (wF h))) (LS (wF h) (kj a) (mul_comm _ _)),LZ (wF h) (yx a)]
theorem ye (ha:FB 8 a):Alg.PC 8 (LN a):=Alg.PC.lin ha
theorem GN (ha:FB 8 a) (hb:FB 8 b):Alg.PC 17 (LN a*LN b):=(ye ha).mul (ye hb) (k:=1) (by rw[qJ];decide)
theorem GO (ha:FB 8 a) (hb:FB 8 b):Alg.PC 27 (LN a*LN a*LN b):=(GN ha ha).mul (ye hb) (k:=2) (by rw[szm (kj a) (kj a),qJ];decide)
theorem Sq21 {c:KQ} (hab:a≠b) (ha:FB 8 a) (hb:FB 8 b) (hc0:c≠0) (hc:FB 8 c):Fn Tryz.prog 31 [ku (LN a*LN a*LN b*Alg.C c)] [.c (.lst ([(LN b,1),(LN a,2)].map sqr))]:=by
 have na:=kj a;have nb:=kj b;have naa:=aE na na;have nP:=aE naa nb;have sa:=qJ a;have sb:=qJ b;have sP:Alg.sz (LN a*LN a*LN b)=4:=by rw[szm naa nb,szm na na,sa,sb]
 have lP:lc (LN a*LN a*LN b)=1:=lcm1 (lcm1 (yx a) (yx a)) (yx b);have h3:Alg.sz (LN b+LN b+LN a)=2:=l5 a b (tj (n:=3) (by decide));have n3:LN b+LN b+LN a≠0:=fun h=>by rw[h,ap.2 rfl]at h3;omega
 have sD:Alg.sz (LN a*(LN b+LN b+LN a))=3:=by rw[szm na n3,sa,h3]
 have nD:=aE na n3;have wP:=PC.pw (GO ha hb);have wDD:PW 29 (LN a*(LN b+LN b+LN a)):=by
  have:=PC.pw ((GO ha hb).der (k:=2) (by rw[sP];decide));rwa [d21]at this
 have k0:=wF hab;have wr:PW 47 (LN a*Alg.C (k21 a b)):=(PC.pw (ye ha)).scale (Nu ha hb);have nr:=aE na (fv k0);have sr:Alg.sz (LN a*Alg.C (k21 a b))=2:=by rw[Gg _ k0,sa]
 have rr:Alg.re (LN a*(LN b+LN b+LN a)) (LN a*Alg.C (k21 a b))=0:=LS k0 na (mul_comm _ _);have cG:=Mr nD re21 nr rr wr (by omega) (by omega) (ut nD wP wDD (by omega) (by omega) (by omega)) (ut nr wDD wr (by omega) (by omega) (by omega));have wa:=PC.pw (ye ha);have wb:=PC.pw (ye hb);have wab:=PC.pw (GN ha hb);have wfg:PW 17 (LN a+LN b):=by
  have:=wa.add wb;exact this
 have dab:der (LN a*LN b)=LN a+LN b:=by
  rw[wS,sV,sV];exact ring [LN a,LN b]
 have wc:PW 35 (LN b+LN b+LN a):=((wb.add wb).add wa).mono (by omega);refine SqOf (P:=LN a*LN a*LN b) (D:=LN a*(LN b+LN b+LN a)) (G:=LN a) (Q1:=LN a*LN b) (Q2:=LN b+LN b+LN a) (m:=2) (wp:=35) (w:=27) (wg:=8) (wd:=29) ?_ ?_ (by omega) (wP.scale hc) (by omega) (LZ hc0 lP) wP (by omega) d21 wDD (gd21 hab) cG wa (by omega) na (ring [LN a,LN b]) (mul_comm _ _) ?_ ?_ (by omega) ?_
 ·rw[Gg _ hc0,sP];omega
 ·rw[Gg _ hc0,sP];omega
 ·rw[sP,sa];simp only[wD];omega
 ·rw[sD,sa];simp only[wD];omega
 ·have e0:LN b+LN b+LN a-der (LN a*LN b)=LN b:=by
   rw[dab];exact ring [LN a,LN b]
  have rg:Alg.re (LN a*LN b) (LN b)=0:=sA nb rfl;have eg:Alg.gd (LN a*LN b) (LN b)=LN b:=by rw[gd1 nb rg,Nn]
  have last:SqR 1 2 (LN a) 1 [(LN a,2)]:=by
   have:=Ob (n:=2) wa (by omega) (yx a) (by omega) (by omega);rwa [sV]at this
  have sab:Alg.sz (LN a*LN b)=3:=by rw[szm na nb,sa,sb]
  exact Oa (u:=8) (k:=8) wab wc wb wb (by omega) (by omega) (by omega) (by omega) e0 eg sb (by omega) (Ms nb wb (by omega) (by omega) rg (ut nb wab wb (by omega) (by omega) (by omega))) (by omega) (by omega) rfl (one_mul _).symm last
end
theorem Pe:kl [kn 1,xK]=ku (Alg.C 1+Alg.C xK*Alg.X):=by rw[vf (fun _=>fg),pl2,fp]
theorem gF {p:KP} {w:Nat} (h:PW w p) (hw:w<=1000) (hs:Alg.sz p<=1000):Fn Tryz.prog 15 [ku p,ku p] [iB true]:=by
 have:=Oe h h hw hw hs;rwa [ai rfl]at this
theorem Hh (a:KQ):kn (-1)*a = -a:=by
 rw[show kn (-1) = -(1:KQ)from(Hw 1).trans (by rw[fp]),neg_mul,one_mul]
theorem HC:Alg.inv (xK*xK)=yK*yK:=s9 _ _
theorem Pw:kl [kn (-1)*Alg.inv (xK*xK),kn 1*yK]=ku dQ:=by
 rw[Hh,HC,fp,one_mul,vf (fun _=>xu),pl2]
theorem Hx {c:KQ} (h:c≠0):kl [c]=ku (Alg.C c):=by rw[vf (l:=[c]) (fun _=>h),pl1]
theorem Jk:xK≠kn (-1):=fun h=>by
 have h2:=congrArg Alg.sz (wM h);rw[show(Alg.X:PQ)=mon 1 1 from rfl,lZ 1 (by decide),iH (R:=Rat) (by decide)]at h2;omega
theorem sU:FB 8 (kn (-1)):=jD (by decide)
theorem rL:FB 8 xK:=dN.mono (by omega)
theorem Nt:kl [kn 1*Alg.inv (xK*xK)]=ku (Alg.C (yK*yK)):=by rw[HC,fp,one_mul,Hx (aE xu xu)]
theorem Pd:kl [kn 1*yK]=ku (Alg.C yK):=by rw[fp,one_mul,Hx xu]
theorem Ns:kl [kn (-1)*yK]=ku (-Alg.C yK):=by
 have h : -yK≠0:=fun e=>xu (by have:=congrArg (fun x => -x) e;rwa [neg_neg,f0]at this);rw[Hh,Hx h,kC]
set_option maxHeartbeats 4000000 in
theorem El:Fn Tryz.prog 11 [] [iB true]:=by
 have m0:=ot 0 (by decide);have m1:=ot 1 (by decide);have mm:=ot (-1) (by decide);have fx:FW xK:=dN.mono (by omega);have f1:FW (kn 1):=FB1 1000;have fm:FW (kn (-1)):=sU.mono (by omega);have fxx:FW (xK*xK):=(dN.mul dN).mono (by omega);have xx0:xK*xK≠0:=aE fg fg;have fy:FW yK:=lM.mono (by omega);have hneg:=zx fx;have hsq:=ug fx fx fxx;have o1:=pD fm fxx xx0 ((sU.mul ((dN.mul dN).inv xx0)).mono (by omega));have o2:=pD f1 fx fg (((FB1 0).mul lM).mono (by omega));have o3:=pD f1 fxx xx0 (((FB1 0).mul ((dN.mul dN).inv xx0)).mono (by omega));have o4:=pD fm fx fg ((sU.mul lM).mono (by omega));have hlx:=zA dN (by omega);have hlm:=zA sU (by omega);have wx:=PC.pw (ye rL);have wxx:=PC.pw (GN rL rL);have wm:=PC.pw (ye sU);have sx:=qJ xK;have sm:=qJ (kn (-1));have sxx:Alg.sz (LN xK*LN xK)=3:=by rw[szm (kj _) (kj _),sx]
 have s21:Alg.sz (LN xK*LN xK*LN (kn (-1)))=4:=by rw[szm (aE (kj _) (kj _)) (kj _),sxx,sm]
 have g1:=zK wx wx (by rw[sx];omega) (by omega) (by omega) (by omega) (by omega);have g2:=zK wxx wm (by rw[sxx];omega) (by omega) (by omega) (by omega) (by omega);have g3:=Lq (PC.pw (GO rL sU)) rL (by omega) (by omega);have g4:=Sq21 (c:=xK) Jk rL sU fg rL;have wy:PW 1 (Alg.C yK:KP):=uP lM;have wyn:PW 1 (-Alg.C yK:KP):=fun i=>(wy i).neg;have wR:PW 2 (Alg.C (yK*yK):KP):=uP (lM.mul lM);have wQ:PW 4 dQ:=(uP (lM.mul lM).neg).add (IN lM);have sy:=jh yK;have syn:Alg.sz (-Alg.C yK:KP)<=1:=by rw[kJ];exact sy
 have sR:=jh (yK*yK);have sQ:Alg.sz dQ<=2:=cT (ac (jh _) (by omega)) (by have:=aM (Alg.C yK:KP) Alg.X;rw[jL]at this;omega);have d2:decide (((2:Nat):Int)=2)=true:=rfl;have d1:decide (((1:Nat):Int)=1)=true:=rfl;have d0:decide (((0:Nat):Int)=0)=true:=rfl;have s3:=ue [0,1,xK] [0,1,xK] (by simp) (fun f hf=>by
  simp at hf;rcases hf with rfl|rfl|rfl
  ·exact eD _
  ·exact FB1 _
  ·exact fx) (fun f hf=>by
  simp at hf;rcases hf with rfl|rfl|rfl
  ·exact eD _
  ·exact FB1 _
  ·exact fx)
 rw[ai rfl]at s3;have s3':Fn Tryz.prog 15 [fl cs3,kl [kn 0,kn 1,xK]] [iB true]:=by rw[NN,fe,fp];exact s3
 have fs:FW (xK*xK+kn 1):=((dN.mul dN).add (FB1 0)).mono (by omega);have hadd:=un fxx f1 fs;have hsame:=Fr (f:=kz 1+xK*xK) (g:=xK*xK+kn 1) (s7.mono (by omega)) fs;rw[ai (add_comm _ _)]at hsame;have hTrim:=jB [kn 0] (by simp);have et:dc [kn 0]=[]:=by
  rw[fW,pl1,fe,cu,pm]
 rw[et]at hTrim;have hGcd:=Mt (a:=0) (w:=0) (fun i=>eD 0) (by omega) (by rw[ap.2 rfl];omega);rw[pa,ng,f7]at hGcd;have hz:=qn (kn 0);rw[ai fe]at hz;refine ak (fn:=Tryz.f11) (by rfl) rfl rfl rfl (by rfl) ?_;simp -dsimp -implicitDefEqProofs only[go_sem];refine an m1 ?_;simp -dsimp -implicitDefEqProofs only[go_sem];refine ao (by rfl) 4 [] false true (by rfl) (by rfl) (by decide +kernel) ?_;simp -dsimp -implicitDefEqProofs only[go_sem];refine an m0 ?_;simp -dsimp -implicitDefEqProofs only[go_sem];refine an (gV 0 (by omega)) ?_;simp -dsimp -implicitDefEqProofs only[go_sem];refine an (gV 1 (by omega)) ?_;simp -dsimp -implicitDefEqProofs only[go_sem];refine an (gV 1 (by omega)) ?_;simp -dsimp -implicitDefEqProofs only[go_sem];refine aa OU rfl ?_;simp -dsimp -implicitDefEqProofs only[go_sem];refine aa LR rfl ?_;simp -dsimp -implicitDefEqProofs only[go_sem];refine an (gV 1 (by omega)) ?_;simp -dsimp -implicitDefEqProofs only[go_sem];refine aa sML rfl ?_;simp -dsimp -implicitDefEqProofs only[go_sem];refine aa OW rfl ?_;simp -dsimp -implicitDefEqProofs only[go_sem];refine ao (by rfl) 14 [] false true (by rfl) (by rfl) (by decide +kernel) ?_;simp -dsimp -implicitDefEqProofs only[go_sem];refine ar (args':=[ku Alg.X,ku Alg.X]) (by rw[<-Ht];rfl) Na ?_;simp -dsimp -implicitDefEqProofs only[go_sem];refine an kA ?_;simp -dsimp -implicitDefEqProofs only[go_sem];refine ar (args':=[ku (Alg.X*Alg.X),ku (Alg.C 1+Alg.C xK*Alg.X)]) (by rw[<-Pe];rfl) sDiv ?_;simp -dsimp -implicitDefEqProofs only[go_sem];refine ar (args':=[ku Alg.X,ku 0]) (by rw[<-Ht,f7];rfl) (pF Alg.X) ?_;simp -dsimp -implicitDefEqProofs only[go_sem];refine ao (by rfl) 15 [] false true (by rfl) (by rfl) (by decide +kernel) ?_;simp -dsimp -implicitDefEqProofs only[go_sem];refine an kA ?_;simp -dsimp -implicitDefEqProofs only[go_sem];refine aa hneg rfl ?_;simp -dsimp -implicitDefEqProofs only[go_sem];refine ar (args':=[ku Alg.X,ku lX,ku 1]) (by rw[<-Ht,<-Nq,<-L5];rfl) JD ?_;simp -dsimp -implicitDefEqProofs only[go_sem];refine ar (args':=[ku Alg.X,ku Alg.X,ku 1]) (by rw[<-Ht,<-L5];rfl) JC ?_;simp -dsimp -implicitDefEqProofs only[go_sem];refine an kA ?_;simp -dsimp -implicitDefEqProofs only[go_sem];refine aa hlx rfl ?_;simp -dsimp -implicitDefEqProofs only[go_sem];refine an kA ?_;simp -dsimp -implicitDefEqProofs only[go_sem];refine aa hlx rfl ?_;simp -dsimp -implicitDefEqProofs only[go_sem];refine aa g1 rfl ?_;simp -dsimp -implicitDefEqProofs only[go_sem];refine an mm ?_;simp -dsimp -implicitDefEqProofs only[go_sem];refine aa hlm rfl ?_;simp -dsimp -implicitDefEqProofs only[go_sem];refine aa g2 rfl ?_;simp -dsimp -implicitDefEqProofs only[go_sem];refine an kA ?_;simp -dsimp -implicitDefEqProofs only[go_sem];refine aa g3 rfl ?_;simp -dsimp -implicitDefEqProofs only[go_sem];refine aa g4 rfl ?_;simp -dsimp -implicitDefEqProofs only[go_sem];refine an kA ?_;simp -dsimp -implicitDefEqProofs only[go_sem];refine an kA ?_;simp -dsimp -implicitDefEqProofs only[go_sem];refine aa hsq rfl ?_;simp -dsimp -implicitDefEqProofs only[go_sem];refine ao (by rfl) 26 [] false true (by rfl) (by rfl) (by decide +kernel) ?_;simp -dsimp -implicitDefEqProofs only[go_sem];refine an mm ?_;simp -dsimp -implicitDefEqProofs only[go_sem];refine aa o1 rfl ?_;simp -dsimp -implicitDefEqProofs only[go_sem];refine an kA ?_;simp -dsimp -implicitDefEqProofs only[go_sem];refine aa o2 rfl ?_;simp -dsimp -implicitDefEqProofs only[go_sem];refine ar (args':=[ku dQ,ku dQ]) (by rw[<-Pw];rfl) (gF wQ (by omega) (by omega)) ?_;simp -dsimp -implicitDefEqProofs only[go_sem];refine aa o3 rfl ?_;simp -dsimp -implicitDefEqProofs only[go_sem];refine ar (args':=[ku (Alg.C (yK*yK)),ku (Alg.C (yK*yK))]) (by rw[<-Nt];rfl) (gF wR (by omega) (by omega)) ?_;simp -dsimp -implicitDefEqProofs only[go_sem];refine ao (by rfl) 23 [] false true (by rfl) (by rfl) (by decide +kernel) ?_;simp -dsimp -implicitDefEqProofs only[go_sem];refine an kA ?_;simp -dsimp -implicitDefEqProofs only[go_sem];refine aa o2 rfl ?_;simp -dsimp -implicitDefEqProofs only[go_sem];refine ar (args':=[ku (Alg.C yK),ku (Alg.C yK)]) (by rw[<-Pd];rfl) (gF wy (by omega) (by omega)) ?_;simp -dsimp -implicitDefEqProofs only[go_sem];refine an mm ?_;simp -dsimp -implicitDefEqProofs only[go_sem];refine an kA ?_;simp -dsimp -implicitDefEqProofs only[go_sem];refine aa o4 rfl ?_;simp -dsimp -implicitDefEqProofs only[go_sem];refine ar (args':=[ku (-Alg.C yK),ku (-Alg.C yK)]) (by rw[<-Ns];rfl) (gF wyn (by omega) (by omega)) ?_;simp -dsimp -implicitDefEqProofs only[go_sem];refine ao (by rfl) 36 [] false true (by rfl) (by rfl) (by decide +kernel) ?_;simp -dsimp -implicitDefEqProofs only[go_sem];simp -dsimp -implicitDefEqProofs only[go_sem,d2,d1,Int.reduceToNat,Int.reduceLE,ag,sqr];refine an mm ?_;simp -dsimp -implicitDefEqProofs only[go_sem];refine aa hlm rfl ?_;simp -dsimp -implicitDefEqProofs only[go_sem];refine aa (gF wm (by omega) (by omega)) rfl ?_;simp -dsimp -implicitDefEqProofs only[go_sem,Int.reduceToNat,Int.reduceLE,ag,sqr];refine an kA ?_;simp -dsimp -implicitDefEqProofs only[go_sem];refine aa hlx rfl ?_;simp -dsimp -implicitDefEqProofs only[go_sem];refine aa (gF wx (by omega) (by omega)) rfl ?_;simp -dsimp -implicitDefEqProofs only[go_sem];refine ao (by rfl) 59 [] false true (by rfl) (by rfl) (by decide +kernel) ?_;simp -dsimp -implicitDefEqProofs only[go_sem];refine an m0 ?_;simp -dsimp -implicitDefEqProofs only[go_sem];refine an kA ?_;simp -dsimp -implicitDefEqProofs only[go_sem];refine aa s3' rfl ?_;simp -dsimp -implicitDefEqProofs only[go_sem];refine an kA ?_;simp -dsimp -implicitDefEqProofs only[go_sem];refine aa hlx rfl ?_;simp -dsimp -implicitDefEqProofs only[go_sem];refine an m0 ?_;simp -dsimp -implicitDefEqProofs only[go_sem];refine ar (args':=[ku lX,ku sq1]) (by rw[<-M8];rfl) sRes ?_;simp -dsimp -implicitDefEqProofs only[go_sem];refine aa hadd rfl ?_;simp -dsimp -implicitDefEqProofs only[go_sem];refine aa hsame rfl ?_;simp -dsimp -implicitDefEqProofs only[go_sem];refine aa sTo rfl ?_;simp -dsimp -implicitDefEqProofs only[go_sem];refine an (gV 0 (by omega)) ?_;simp -dsimp -implicitDefEqProofs only[go_sem];refine an (gV 1 (by omega)) ?_;simp -dsimp -implicitDefEqProofs only[go_sem];refine an (gV 1 (by omega)) ?_;simp -dsimp -implicitDefEqProofs only[go_sem];refine aa OU rfl ?_;simp -dsimp -implicitDefEqProofs only[go_sem];refine aa LR rfl ?_;simp -dsimp -implicitDefEqProofs only[go_sem];refine an (gV 1 (by omega)) ?_;simp -dsimp -implicitDefEqProofs only[go_sem];refine aa sML rfl ?_;simp -dsimp -implicitDefEqProofs only[go_sem];refine aa OT rfl ?_;simp -dsimp -implicitDefEqProofs only[go_sem];refine aa M9 rfl ?_;simp -dsimp -implicitDefEqProofs only[go_sem];refine an m0 ?_;simp -dsimp -implicitDefEqProofs only[go_sem];refine aa hTrim rfl ?_;simp -dsimp -implicitDefEqProofs only[go_sem,d0];refine aa hGcd rfl ?_;simp -dsimp -implicitDefEqProofs only[go_sem,d0];refine ar (args':=[ku 0,ku Alg.X]) (by rw[<-Ht,f7];rfl) (IW (.inl rfl)) ?_;simp -dsimp -implicitDefEqProofs only[go_sem];refine aa hz rfl ?_;simp -dsimp -implicitDefEqProofs only[go_sem]
theorem Ci (x y:KP):Alg.sz (x*y)<=Alg.sz x+Alg.sz y-1:=aM x y
theorem mulw {p q:KP} {w v n:Nat} (hp:PW w p) (hq:PW v q) (hs:Alg.sz p<=n):PW (n*(w+v+1)) (p*q):=(LW hp hq).mono (Nat.mul_le_mul_right _ hs)
set_option maxHeartbeats 8000000 in
theorem yW (a b:List iR) (ha:OkL a) (hb:OkL b):Fn Tryz.prog 4 [rl a,rl b] [iB true]:=by
 have hs:=El;have m1:=IT a ha.1 ha.2;have m2:=vG b 2 (by omega) hb.1 hb.2;have wp:=CG 3 ha.2;have wd:=CG 2 hb.2;have sp:=yu a 3;have sd:=yu b 2;generalize qH a 3=p at *
 generalize qH b 2=d at *
 clear ha hb;have d0:decide (((0:Nat):Int)=0)=true:=rfl;refine ak (fn:=Tryz.f4) (by rfl) rfl rfl rfl (by rfl) ?_;simp -dsimp -implicitDefEqProofs only[go_sem];refine an hs ?_;simp -dsimp -implicitDefEqProofs only[go_sem];refine an m1 ?_;simp -dsimp -implicitDefEqProofs only[go_sem];refine aa m2 rfl ?_;simp -dsimp -implicitDefEqProofs only[go_sem];by_cases hd:d=0
 ·have e1:decide ((Alg.sz d:Int)=0)=true:=by rw[hd,ap.2 rfl];rfl
  have f1:=pF p;rw[<-hd]at f1;refine aa f1 rfl ?_;simp -dsimp -implicitDefEqProofs only[go_sem,af,aD,e1]
 ·have hsd:=az hd;have e1:decide ((Alg.sz d:Int)=0)=false:=aj (by omega);obtain⟨wq,wr,sq,sr⟩:=Pt hd wp wd;have hn:Alg.sz p+1-Alg.sz d<=3:=by omega
  have hw3:wD 8 8 (Alg.sz p+1-Alg.sz d)<=183:=ac (jG 8 8 hn) (by decide);have wq':=wq.mono hw3;have wr':=wr.mono hw3;have f1:=mU hd wp wd (by omega) (by omega) (by omega) (by omega);have wpd:PW 51 (p*d):=mulw wp wd sp;have spd:=Ci p d;have hn2:Alg.sz (p*d)+1-Alg.sz d<=3:=by omega
  have hw4:wD 51 8 (Alg.sz (p*d)+1-Alg.sz d)<=527:=ac (jG 51 8 hn2) (by decide);have f2:=Mo wp wd (ac (Nat.mul_le_mul_right _ sd) (by omega)) (by omega);have f3:=mU hd wpd wd (by omega) (by omega) (by omega) (by omega);have hre:Alg.re (p*d) d=0:=sA hd rfl;have hqu:qu (p*d) d=p:=Nh hd;rw[hre,hqu]at f3;have hqr:=(qure (a:=p) hd).1;generalize qu p d=q at *
  generalize Alg.re p d=r at *
  have sqd:=Ci q d;have g1:=Dn wq' (by omega) (by omega);have g2:=Dn wr' (by omega) (by omega);have g3:=Mo wq' wd (ac (Nat.mul_le_mul_right _ sd) (by omega)) (by omega);have wqd:PW 576 (q*d):=mulw wq' wd (by omega:Alg.sz q<=3);have g4:=Mp wqd wr' (by omega) (by omega) (by omega);rw[<-hqr]at g4;have g5:=gF wp (by omega) (by omega);have e2:decide ((Alg.sz r:Int)<(Alg.sz d:Int))=true:=ai (by omega);have e3:decide ((Alg.sz (0:KP):Int)=0)=true:=by rw[ap.2 rfl];rfl
  refine aa f1 rfl ?_;simp -dsimp -implicitDefEqProofs only[go_sem,af,aD,e1];refine aa f2 rfl ?_;simp -dsimp -implicitDefEqProofs only[go_sem];refine aa f3 rfl ?_;simp -dsimp -implicitDefEqProofs only[go_sem,af,aD,e2];refine aa g1 rfl ?_;simp -dsimp -implicitDefEqProofs only[go_sem];refine aa g2 rfl ?_;simp -dsimp -implicitDefEqProofs only[go_sem];refine aa g3 rfl ?_;simp -dsimp -implicitDefEqProofs only[go_sem];refine aa g4 rfl ?_;simp -dsimp -implicitDefEqProofs only[go_sem];refine aa g5 rfl ?_;simp -dsimp -implicitDefEqProofs only[go_sem];refine aa g5 rfl ?_;simp -dsimp -implicitDefEqProofs only[go_sem,af,aD,e3]
end Go.AM
namespace Go.AM
open Go.Deep
section
variable {H:Type} {enc:TypeId×Value->H} {P:Program} {w:World} {base:Nat} {spare:Nat->Bool} {held:Bool}
abbrev nob:Nat->Prop:=fun _=>False
theorem Iq {a:Addr} (h:a.spot=none) (n:Nat):a.add n=⟨a.block,a.off+n,none⟩:=by
 obtain⟨b,o,s⟩:=a;subst h;unfold Addr.add;by_cases hn:n=0
 ·subst hn;rfl
 ·simp[hn]
theorem Ej {a:Addr} {v:Value} (h:w.cell? a=some v):a.spot=none/\a.block<w.heap.size:=by
 unfold World.cell? at h;split at h
 ·rename_i hb;refine⟨?_,(Array.getElem?_eq_some_iff.1 hb).1⟩;cases hs:a.spot with
  | none=>rfl
  | some _=>simp[hs]at h
 ·simp at h
theorem sw {α:Type} [Inhabited α] {t e:TypeId} {fuel:Nat} {cs:List Value} {x:DataW H×List MemPlace} (F:α->List C) (ok:α->Prop) {n:Nat} (hn:0<n) (ht:P.underlying t=some (.slice e)) (hc:P.cellsOf e=n)
  (he:∀ fuel cs x,DataW.trod enc P w base spare held fuel e cs=some x->cs.length=n->∃ r:α,ok r/\(F r).length=n/\aC w nob (F r) cs)
  (h:DataW.trod enc P w base spare held fuel t cs=some x):∃ l:List α,(∀ r∈l,ok r)/\l.length<=maxLen/\∃ y,cs=[y]/\bT w nob (.lst (l.map F)) y:=by
 rcases open_slice ht h with⟨rfl,_⟩|⟨a,len,cap,m,k,D,Pl,rfl,hb,hl,hcap,hm,_,hx⟩
 ·refine⟨[],by simp,by simp,_,rfl,?_⟩;simp only[List.map_nil,bT];exact⟨none,0,0,rfl,rfl,ae _,.inl trivial⟩
 rw[hc]at hx;have hlm:len<=m:=by rw[hm];split<;>omega
 obtain⟨f,hf⟩:=choose_lt (α:=α) (n:=len) (p:=fun i r=>ok r/\(F r).length=n/\∃ cs',w.cells? base (a.add (i*n)) n=some cs'/\aC w nob (F r) cs') (fun i hi=>by
  obtain⟨cs',h1,h2⟩:=hx i (by omega);obtain⟨r,h3,h4,h5⟩:=he _ _ _ h2 (World.cells?_some h1).2.1;exact⟨r,h3,h4,cs',h1,h5⟩)
 refine⟨(List.range len).map f,fun r hr=>?_,by simp;omega,_,rfl,?_⟩
 ·obtain⟨i,hi,rfl⟩:=List.mem_map.1 hr;exact(hf i (List.mem_range.1 hi)).1
 simp only[bT];refine⟨some a,len,cap,rfl,by simp,hl,?_⟩;by_cases h0:len=0
 ·subst h0;exact .inl rfl
 ·right;have hs:a.spot=none/\a.block<w.heap.size:=by
   obtain⟨_,h2,cs',h1,_⟩:=hf 0 (by omega);obtain⟨_,h4,h5⟩:=World.cells?_some h1;have h6:=h5 0 hn;rw[ah (by omega)]at h6;simp only[Nat.zero_mul,Addr.add,if_true]at h6;exact Ej h6
  refine⟨a.block,a.off,n,?_,hs.2,id,aw.of_get fun i r hi=>?_⟩
  ·obtain⟨b,o,s⟩:=a;obtain⟨rfl,_⟩:=hs;rfl
  ·rw[List.map_map,List.getElem?_map]at hi;by_cases hil:i<len
   ·rw[List.getElem?_range hil]at hi;simp only[Option.map_some,Option.some.injEq,Function.comp]at hi;subst hi;obtain⟨_,h2,cs',h1,h3⟩:=hf i hil;obtain⟨_,h4,h5⟩:=World.cells?_some h1;refine⟨h2,aT.of_reps h3 fun j hj=>?_⟩;rw[<-h5 j (by omega),add_add,Iq hs.1,Nat.add_assoc]
   ·rw[List.getElem?_eq_none (by simp;omega)]at hi;simp at hi
theorem aC.split {w:World} {M:Nat->Prop} {cs:List C} {ys:List Value} (n:Nat) {bs:List C} (h1:aC w M bs (ys.take n)) (h2:aC w M cs (ys.drop n)):aC w M (bs++cs) ys:=by
 have:=h1.append h2;rwa [List.take_append_drop]at this
end
theorem AQ {H:Type} {enc:TypeId×Value->H} {P:Program} {f:Func} {s:ChangeSpec} {fresh handsOn:Bool} {W W':World} {args:Array Value} {ds:List (DataW H)} {before:List MemPlace} {t:TypeId} (hl:laidOutB P=true)
  (hW:DataW.Whole enc P f.params.toList s.vars false W args.toList ds [] before) (hv:s.vars=[]) (hrt:f.resultTypes = #[t]) (ht:P.underlying t=some .bool) (hres:(s.fn H (ds++[])).results=[.lit (.bool true)])
  (hargs:(s.fn H (ds++[])).args=ds) (hvars:(s.fn H (ds++[])).vars=[]) (hrd:∀ t∈f.params.toList,P.readableRec t=true/\t<P.types.size) (hb:aR W.heap.size W W') :
  s.post enc P f false fresh handsOn false W args (.bool true) W':=by
 have hB:Go.RowKit.Below W.heap.size W W':=⟨hb.os,hb.tape,hb.output,hb.size,hb.block⟩;have hlt:=hW.lt;have hW':=hW;obtain⟨p,q,hA,hV,rfl,-,-⟩:=hW;refine⟨ds,[],_,[],p,[],hW',?_,?_,?_,hB.frame _,fun h=>by cases h⟩
 ·rw[hres,hrt];exact Go.ChangeShapes.trodAll_mk1 (Go.RowKit.shut_bool ht true)
 ·rw[hargs];have key:∀(ts:List TypeId) (vs:List Value) (ds:List (DataW H)) (ps:List MemPlace),(∀ t∈ts,P.readableRec t=true/\t<P.types.size)->(∀ x∈ps,x.block<W.heap.size)->DataW.TrodAll enc P W 0 (fun _=>true) true ts vs ds ps ->
    DataW.TrodAll enc P W' 0 (fun b=>decide (b<W.heap.size)) true ts vs ds ps:=by
   intro ts
   induction ts with
   | nil=>intro vs ds ps _ _ h;cases vs<;>cases ds<;>first|exact h|exact h.elim
   | cons t ts ih =>
    intro vs ds ps hr hx h;cases vs with
    | nil=>exact h.elim
    | cons v vs =>
     cases ds with
     | nil=>exact h.elim
     | cons d ds =>
      obtain⟨p,q,h1,h2,rfl⟩:=h;have hrt:=hr t (by simp);exact⟨p,q,Go.RowKit.Below.trod hl hrt.1 hrt.2 h1 hB (fun x hx'=>hx x (by simp[hx'])),ih vs ds q (fun t ht=>hr t (by simp[ht])) (fun x hx'=>hx x (by simp[hx'])) h2,rfl⟩
  exact key _ _ _ _ hrd (fun x hx=>hlt x (by simp[hx])) hA
 ·rw[hvars,hv];rfl
end Go.AM
namespace Go.AM
open Go.Proofs
open Go.Deep Go.ChangeShapes Go.WideShapes Go.ChangeAt Go.RowKit
section
variable {H:Type} {enc:TypeId×Value->H} {w:World} {base:Nat} {spare:Nat->Bool} {held:Bool}
theorem Pf {cs:List Value} (h:cs.length=5):∃ c0 c1 c2 c3 c4,cs=[c0,c1,c2,c3,c4]:=by
 match cs,h with
 | [c0,c1,c2,c3,c4],_=>exact⟨c0,c1,c2,c3,c4,rfl⟩
theorem twoV {cs:List Value} (h:cs.length=2):∃ c0 c1,cs=[c0,c1]:=by
 match cs,h with
 | [c0,c1],_=>exact⟨c0,c1,rfl⟩
instance:Inhabited T5:=⟨⟨0,0,0,0,0⟩⟩
instance:Inhabited iR:=⟨⟨[],[]⟩⟩
theorem cells124:Tryz.prog.cellsOf 124=5:=by kernel_rfl
theorem cells97:Tryz.prog.cellsOf 97=1:=by kernel_rfl
theorem cells37:Tryz.prog.cellsOf 37=1:=by kernel_rfl
theorem cells39:Tryz.prog.cellsOf 39=2:=by kernel_rfl
theorem LM {n:Int} (h:(Lit.int .i8 n).wf=true) : -128<=n/\n<128:=by
 have:=bounds_i8 h;omega
theorem rep5 {fuel:Nat} {cs:List Value} {x:DataW H×List MemPlace} (h:DataW.trod enc Tryz.prog w base spare held fuel 124 cs=some x):∃ t:T5,t.ok/\t.row.length=5/\aC w nob t.row cs:=by
 obtain⟨xs,m,-,-,hl,hx,he⟩:=DataW.trod_array Tryz.underlying124 h;rw[cells124]at hl;obtain⟨c0,c1,c2,c3,c4,rfl⟩:=Pf hl
 ·have key:∀ i,i<5->∃ n,(([c0,c1,c2,c3,c4]:List Value).drop (i*1)).take 1=[.int .i8 n]/\(Lit.int .i8 n).wf=true:=fun i hi=>by
   have h1:=he i hi;rw[ah (by omega),show Tryz.prog.cellsOf 97=1 from cells97]at h1;obtain⟨n,h2,_,h3⟩:=DataW.trod_int Tryz.underlying97 h1;exact⟨n,h2,h3⟩
  obtain⟨a,ha,wa⟩:=key 0 (by omega);obtain⟨b,hb,wb⟩:=key 1 (by omega);obtain⟨c,hc,wc⟩:=key 2 (by omega);obtain⟨d,hd,wd⟩:=key 3 (by omega);obtain⟨e,he5,we⟩:=key 4 (by omega);simp only[Nat.zero_mul,Nat.one_mul,Nat.reduceMul,ag,List.take_succ_cons,List.take_zero,List.cons.injEq,and_true]at ha hb hc hd he5;subst ha hb hc hd he5;refine⟨⟨a,b,c,d,e⟩,⟨LM wa,LM we⟩,rfl,?_⟩;simp only[T5.row,aC,bT,Value.oneCell',and_self]
theorem repR {fuel:Nat} {cs:List Value} {x:DataW H×List MemPlace} (h:DataW.trod enc Tryz.prog w base spare held fuel 39 cs=some x):∃ t:iR,t.ok/\t.row.length=2/\aC w nob t.row cs:=by
 obtain⟨y0,y1,n,-,hl,h0,h1⟩:=trod_struct2 Tryz.underlying39 h;rw[cells39]at hl;obtain⟨c0,c1,rfl⟩:=twoV hl
 ·simp only[cells37,ag,List.take_succ_cons,List.take_zero]at h0 h1;obtain⟨l0,k0,b0,v0,e0,r0⟩:=sw T5.row T5.ok (by decide) Tryz.underlying37 cells124 (fun f cs x h _=>rep5 h) h0;obtain⟨l1,k1,b1,v1,e1,r1⟩:=sw T5.row T5.ok (by decide) Tryz.underlying37 cells124 (fun f cs x h _=>rep5 h) h1;simp only[List.cons.injEq,and_true]at e0 e1;subst e0 e1;exact⟨⟨l0,l1⟩,⟨⟨b0,b1⟩,k0,k1⟩,rfl,r0,r1,trivial⟩
theorem OX {v:Value} {d:DataW H} {ps:List MemPlace} (hv:∃ a len cap,v = .slice a len cap) (h:DataW.Trod enc Tryz.prog w base spare held 22 v d ps):∃ l:List iR,OkL l/\im w nob (rl l) v:=by
 obtain⟨a,len,cap,rfl⟩:=hv;obtain⟨fuel,hf⟩:=h;obtain⟨l,k,b,y,e,r⟩:=sw iR.row iR.ok (by decide) Tryz.underlying22 cells39 (fun f cs x h _=>repR h) hf;have e':Value.slice a len cap=y:=by simpa [Value.cells]using e
 subst e';exact⟨l,⟨b,k⟩,r⟩
end
theorem own:ownKnob Tryz.prog.godebug=none:=by kernel_rfl
theorem Kg:laidOutB Tryz.prog=true:=by kernel_rfl
theorem rd22:Tryz.prog.readableRec 22=true/\22<Tryz.prog.types.size:=⟨by kernel_rfl,of_decide_eq_true (by kernel_rfl)⟩
abbrev iT:IV := .c (.v (.bool true))
set_option maxRecDepth 100000 in
theorem Hm {f:FuncId} {fn:Func} {s:ChangeSpec} (hv:s.vars=[]) (hrt:fn.resultTypes = #[4]) (hrd:∀ t∈fn.params.toList,Tryz.prog.readableRec t=true/\t<Tryz.prog.types.size) {H:Type} {enc:TypeId×Value->H}
  (hc:∀(W:World) (base:Nat) (args:Array Value) (ds:List (DataW H)) (p:List MemPlace),(∀(j:Nat) t v,fn.params[j]?=some t->args[j]?=some v->Value.okWide Tryz.prog W .any base t v)->DataW.TrodAll enc Tryz.prog W 0 (fun _=>true) true fn.params.toList args.toList ds p ->
   (∃ ivs,Fn Tryz.prog f ivs [iT]/\cv W nob ivs args.toList)/\(s.fn H (ds++[])).results=[.lit (.bool true)]/\(s.fn H (ds++[])).args=ds/\(s.fn H (ds++[])).vars=[])
  (W:World) (base:Nat) (args:Array Value) (ds gs:List (DataW H)) (before:List MemPlace) (hval:∀(j:Nat) t v,fn.params[j]?=some t->args[j]?=some v->Value.okWide Tryz.prog W .any base t v)
  (hW:DataW.Whole enc Tryz.prog fn.params.toList s.vars false W args.toList ds gs before):Calls Tryz.prog f args W fun e W'=>∃ v,e = .returned v/\s.post enc Tryz.prog fn false true false false W args v W':=by
 have hW':=hW;obtain⟨p,q,hA,hV,rfl,-,-⟩:=hW;rw[hv]at hV;obtain⟨rfl,rfl⟩:=trodVars_none hV;obtain⟨⟨ivs,hf,hr⟩,h1,h2,h3⟩:=hc W base args ds p hval hA;have hcall:=hf.2 W nob args.toList (fun _ h=>h.elim) hr;rw[Array.toArray_toList]at hcall;refine hcall.mono ?_;rintro e W' ⟨y,rfl,hy,hB⟩;obtain⟨rfl,_⟩:y = .bool true/\_:=by simpa only[xc,im,bT]using hy
 exact⟨_,rfl,AQ Kg hW' hv hrt Tryz.underlying4 h1 h2 h3 hrd hB⟩
end Go.AM
