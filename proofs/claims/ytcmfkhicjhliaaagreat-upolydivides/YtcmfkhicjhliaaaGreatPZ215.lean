/- Lemmas, part 16 of 24: Package mgcd: greatest common divisors in one variable; Package frac: what needs no greatest common divisors; The reduced form of a rational function; Sizes of reduced forms; Package frac: quotients in one variable; Package frac: rational functions in one variable; Package upoly: lists of rational functions; numbers; Package upoly: multiples; Package upoly: sums; Package upoly: monic polynomials; Package upoly: equality; Package upoly: derivatives; Package upoly: quotients and remainders, over the contract of DivMod; The abstract machine, part 30: functions that have captured boxes. No condition. -/
import Derived.Test.YtcmfkhicjhliaaaGreatPZ214
set_option maxRecDepth 65536
set_option linter.unusedSimpArgs false
set_option linter.unusedVariables false
set_option linter.unusedSectionVars false
namespace Go.AM
open Alg
open Go.Proofs
open Classical
theorem cF (h:Nat):Alg.HB h (1:PQ):=by
 have:=Alg.HB.mon (h:=h) 0 (c:=1) (by have:=fN h;show 1<=_;omega) (by have:=fN h;show 1<=_;omega);rwa [cH]at this
theorem cf:Alg.sz (1:PQ)=1:=iH (R:=Rat) (by decide)
theorem fa:(1:PQ)≠0:=fv (R:=Rat) (by decide)
theorem uX {a b:PQ} {w h:Nat} (hs:Sm w a b) (ha:Alg.HB h a) (hb:Alg.HB h b) (sa:2<=Alg.sz a) (sb:2<=Alg.sz b) (hle:Alg.sz b<=Alg.sz a) :
  IsG (nY a b) a b/\Alg.HB (2*(Alg.hN w+h)+1) (nY a b)/\Alg.sz (nY a b)<=Alg.sz b/\nY a b≠0:=by
 have hb0:b≠0:=fun e=>by rw[e,ap.2 rfl]at sb;omega
 rw[nY];by_cases hm:bnd a b=0
 ·rw[if_pos hm];exact⟨⟨Dv.one _,Dv.one _,Da sa sb hm⟩,cF _,by rw[cf];omega,fa⟩
 ·rw[if_neg hm];by_cases hd:Dv b a/\bnd a b=(Alg.sz b:Int)-1
  ·rw[if_pos hd];exact⟨⟨hd.1,Dv.refl _,fun x _ hx=>hx⟩,hb.mono (by omega),ae _,hb0⟩
  ·rw[if_neg hd];exact pP hs ha hb _ (ae _) hb0 hle (.inl ⟨rfl,rfl⟩) (ha.mono (by omega)) (hb.mono (by omega))
theorem pN {n d:PQ} {w h:Nat} (hs:Sm w n d) (hn:Alg.HB h n) (hd:Alg.HB h d) (sn:2<=Alg.sz n) (sd:2<=Alg.sz d) :
  IsG (pO n d) n d/\Alg.HB (2*(Alg.hN w+h)+1) (pO n d)/\Alg.sz (pO n d)<=Alg.sz d/\pO n d≠0:=by
 rw[pO];by_cases hlt:Alg.sz n<Alg.sz d
 ·rw[if_pos hlt];obtain⟨h1,h2,h3,h4⟩:=uX hs.symm hd hn sd sn (by omega);exact⟨h1.symm,h2,by omega,h4⟩
 ·rw[if_neg hlt];exact uX hs hn hd sn sd (by omega)
theorem Lu (hres:iw) {n d:PQ} {w h N:Nat} (hs:Sm w n d) (hn:Alg.HB h n) (hd:Alg.HB h d) (sn:2<=Alg.sz n) (sd:2<=Alg.sz d) (tn:Alg.sz n<=N) (td:Alg.sz d<=N) (hN:N<=500000)
  (hb:(2*(Alg.hN w+h)+1)+(N+2)*((2*(Alg.hN w+h)+1)+1)+(2*(Alg.hN w+h)+1)<=68719476000):Fn Tryz.prog 151 [iUp n,iUp d] [iUp (Alg.mo (pO n d))]:=by
 have hz:∀ x:PQ,2<=Alg.sz x->decide (((U x).length:Int)=0)=false:=fun x hx=>aj fun h=>by
  have:x=0:=mN.1 (List.eq_nil_of_length_eq_zero (by omega));rw[this,ap.2 rfl]at hx;omega
 have n0:n≠0:=fun e=>by rw[e,ap.2 rfl]at sn;omega
 have d0:d≠0:=fun e=>by rw[e,ap.2 rfl]at sd;omega
 have seq:=Lg hres hs hn hd sn sd tn td hN hb;obtain⟨_,hH,hsz,_⟩:=pN hs hn hd sn sd;have hNn:(Alg.sz n+2)<=(N+2)*((2*(Alg.hN w+h)+1)+1):=ac (by omega) (Nat.le_mul_of_pos_right _ (by omega));have hNd:(Alg.sz d+2)<=(N+2)*((2*(Alg.hN w+h)+1)+1):=ac (by omega) (Nat.le_mul_of_pos_right _ (by omega));have c1:decide (Alg.sz n=1)=false:=aj (by omega);have c2:decide (Alg.sz d=1)=false:=aj (by omega);have c3:decide ((Alg.sz d:Int)-1=0)=false:=aj (by omega);have c4:decide ((Alg.sz n:Int)-1=0)=false:=aj (by omega);have g11:kq 1 1=(1:PQ):=by rw[kq,if_neg fa,if_neg fa]
 have base:=xj (p:=1) (q:=1) (cF 0) (cF 0) (by omega) (by omega) (by rw[cf];omega) (by rw[cf];omega) (.inr (.inr (.inl cf)));rw[g11]at base;refine ak (fn:=Tryz.f151) (by rfl) rfl rfl rfl (by rfl) ?_;simp -dsimp -implicitDefEqProofs only[go_sem,hz n sn,hz d sd,af];refine aa (gg n) rfl ?_;simp -dsimp -implicitDefEqProofs only[go_sem,c1];refine aa (gg d) rfl ?_;simp -dsimp -implicitDefEqProofs only[go_sem,c2];refine an (Bh sn d0 (by omega) (by omega)) ?_;simp -dsimp -implicitDefEqProofs only[go_sem];refine aa (gv d (by omega)) rfl ?_;simp -dsimp -implicitDefEqProofs only[go_sem,c3];refine aa (gv n (by omega)) rfl ?_;simp -dsimp -implicitDefEqProofs only[go_sem,c4];refine aa (mW hn (by omega) n0 (by omega)) rfl ?_;simp -dsimp -implicitDefEqProofs only[go_sem];refine aa (mW hd (by omega) d0 (by omega)) rfl ?_;simp -dsimp -implicitDefEqProofs only[go_sem];refine an base ?_;simp -dsimp -implicitDefEqProofs only[go_sem];refine aa (ur hn (cF 0) fa (by omega) (by omega) (by rw[cf];omega) (s:=n) (mul_one n).symm) rfl ?_;simp -dsimp -implicitDefEqProofs only[go_sem];refine aa (ur hd (cF 0) fa (by omega) (by omega) (by rw[cf];omega) (s:=d) (mul_one d).symm) rfl ?_;simp -dsimp -implicitDefEqProofs only[go_sem];refine an seq ?_;simp -dsimp -implicitDefEqProofs only[go_sem];have mul:=cK (cF 0) hH (by omega) (by omega) (by rw[cf];omega) (by omega);rw[one_mul]at mul;refine an mul ?_;simp -dsimp -implicitDefEqProofs only[go_sem];refine an (jA hH (by omega) (by omega)) ?_;simp -dsimp -implicitDefEqProofs only[go_sem]
end Go.AM
namespace Go.AM
open Go.Proofs
abbrev iF (N D:List Tm):IV := .g [cM N,cM D]
theorem ux (N:List Tm):Fn Tryz.prog 90 [iM N] [iF N [(e0,1)]]:=by
 refine ak (fn:=Tryz.f90) (by rfl) rfl rfl rfl (by rfl) ?_;simp -dsimp -implicitDefEqProofs only[go_sem];refine an Cf ?_;simp -dsimp -implicitDefEqProofs only[go_sem]
theorem FD (c:Rat):Fn Tryz.prog 105 [iQ c] [iF (fL c) [(e0,1)]]:=by
 refine ak (fn:=Tryz.f105) (by rfl) rfl rfl rfl (by rfl) ?_;simp -dsimp -implicitDefEqProofs only[go_sem];refine aa (pI c) rfl ?_;simp -dsimp -implicitDefEqProofs only[go_sem];refine an (ux _) ?_;simp -dsimp -implicitDefEqProofs only[go_sem]
theorem Lw (v:Nat) (hv:v<4):Fn Tryz.prog 96 [iN v] [iF [(e0.to v 1,1)] [(e0,1)]]:=by
 refine ak (fn:=Tryz.f96) (by rfl) rfl rfl rfl (by rfl) ?_;simp -dsimp -implicitDefEqProofs only[go_sem];refine an (Le v hv) ?_;simp -dsimp -implicitDefEqProofs only[go_sem];refine an (ux _) ?_;simp -dsimp -implicitDefEqProofs only[go_sem]
theorem I7 (N D:List Tm):Fn Tryz.prog 97 [iF N D] [iB (decide (N=[]))]:=by
 refine ak (fn:=Tryz.f97) (by rfl) rfl rfl rfl (by rfl) ?_;have e:decide ((N.length:Int)=0)=decide (N=[]):=by
  rw[decide_eq_decide];exact⟨fun h=>List.eq_nil_of_length_eq_zero (by omega),fun h=>by rw[h];rfl⟩
 simp -dsimp -implicitDefEqProofs only[go_sem,af,e]
theorem ig (N D:List Tm) (n:Int):Fn Tryz.prog 109 [iF N D,iN n] [iF N D]:=by
 refine ak (fn:=Tryz.f109) (by rfl) rfl rfl rfl (by rfl) ?_;simp -dsimp -implicitDefEqProofs only[go_sem]
theorem zG (q:Rat) (n:Int):Fn Tryz.prog 153 [iQ q,iN n] [iQ q]:=by
 refine ak (fn:=Tryz.f153) (by rfl) rfl rfl rfl (by rfl) ?_;simp -dsimp -implicitDefEqProofs only[go_sem];rfl
theorem Lz (N D:List Tm) (h1:N.length<=1099511627776) (q1:∀ t∈N,QB 17179869184 t.2):Fn Tryz.prog 84 [iF N D] [iF (dE N (-1)) D]:=by
 refine ak (fn:=Tryz.f84) (by rfl) rfl rfl rfl (by rfl) ?_;simp -dsimp -implicitDefEqProofs only[go_sem];refine ao (by rfl) 7 [] false true (by rfl) (by rfl) (by decide +kernel) ?_;simp -dsimp -implicitDefEqProofs only[go_sem,ag];refine an (gk (-1) (by decide)) ?_;simp -dsimp -implicitDefEqProofs only[go_sem];refine ar (args':=[iM N,iQ (-1)]) rfl (jy N (-1) h1 q1 (om _ (by omega))) ?_;simp -dsimp -implicitDefEqProofs only[go_sem,ag]
theorem Ja {N D G N1 D1:List Tm} {c:Rat} {x:Tm} (hD:D≠[]) (hN:N≠[]) (hG:Fn Tryz.prog 151 [iM N,iM D] [iM G]) (hn:Fn Tryz.prog 152 [iM N,iM G] [iM N1,iB true]) (hd:Fn Tryz.prog 152 [iM D,iM G] [iM D1,iB true])
  (hx:D1[0]?=some x) (hx0:x.2≠0) (hxq:QB 17179869184 x.2) (hc:c=1/x.2) (hn1:Fn Tryz.prog 120 [iM N1,iQ c] [iM (dE N1 c)]) (hd1:Fn Tryz.prog 120 [iM D1,iQ c] [iM (dE D1 c)]) :
  Fn Tryz.prog 110 [iM N,iM D] [iF (dE N1 c) (dE D1 c),iN 0]:=by
 have hz:∀ L:List Tm,L≠[]->decide ((L.length:Int)=0)=false:=fun L hL=>aj fun h=>hL (List.eq_nil_of_length_eq_zero (by omega));refine ak (fn:=Tryz.f110) (by rfl) rfl rfl rfl (by rfl) ?_;simp -dsimp -implicitDefEqProofs only[go_sem,af,hz D hD,hz N hN];refine an hG ?_;simp -dsimp -implicitDefEqProofs only[go_sem];refine an hn ?_;simp -dsimp -implicitDefEqProofs only[go_sem];refine an hd ?_;simp -dsimp -implicitDefEqProofs only[go_sem];refine ao (by rfl) 10 [7] false true (by rfl) (by rfl) (by decide +kernel) ?_;simp -dsimp -implicitDefEqProofs only[go_sem];refine an (gk 1 (by decide)) ?_;simp -dsimp -implicitDefEqProofs only[go_sem,Int.reduceToNat,Int.reduceLE,ag];refine av hx ?_;simp -dsimp -implicitDefEqProofs only[go_sem,Int.reduceToNat,Int.reduceLE,ag];refine aa (rG 1 x.2 hx0 mS hxq) rfl ?_;simp -dsimp -implicitDefEqProofs only[go_sem];refine ar (args':=[iQ (1/x.2),iN 0]) rfl (zG _ 0) ?_;simp -dsimp -implicitDefEqProofs only[go_sem];refine ao (by rfl) 7 [] false true (by rfl) (by rfl) (by decide +kernel) ?_;simp -dsimp -implicitDefEqProofs only[go_sem];refine ar (args':=[iM N1,iQ c]) ?_ hn1 ?_
 ·rw[hc];rfl
 simp -dsimp -implicitDefEqProofs only[go_sem];refine ar (args':=[iM D1,iQ c]) ?_ hd1 ?_
 ·rw[hc];rfl
 simp -dsimp -implicitDefEqProofs only[go_sem]
theorem zM {D:List Tm} (hD:D≠[]):Fn Tryz.prog 110 [iM [],iM D] [iF [] [(e0,1)],iN 0]:=by
 have hz:∀ L:List Tm,L≠[]->decide ((L.length:Int)=0)=false:=fun L hL=>aj fun h=>hL (List.eq_nil_of_length_eq_zero (by omega));have h0:decide (((0:Nat):Int)=0)=true:=rfl;refine ak (fn:=Tryz.f110) (by rfl) rfl rfl rfl (by rfl) ?_;simp -dsimp -implicitDefEqProofs only[go_sem,af,hz D hD,h0];refine an Cf ?_;simp -dsimp -implicitDefEqProofs only[go_sem];rfl
theorem Dw {N D N' D' X Y A B:List Tm} (h1:Fn Tryz.prog 111 [iM N,iM N'] [iM X]) (h2:Fn Tryz.prog 111 [iM D,iM D'] [iM Y]) (h3:Fn Tryz.prog 110 [iM X,iM Y] [iF A B,iN 0]):Fn Tryz.prog 65 [iF N D,iF N' D'] [iF A B]:=by
 refine ak (fn:=Tryz.f65) (by rfl) rfl rfl rfl (by rfl) ?_;simp -dsimp -implicitDefEqProofs only[go_sem];refine ao (by rfl) 14 [] false true (by rfl) (by rfl) (by decide +kernel) ?_;simp -dsimp -implicitDefEqProofs only[go_sem,ag];refine an h1 ?_;simp -dsimp -implicitDefEqProofs only[go_sem,ag];refine an h2 ?_;simp -dsimp -implicitDefEqProofs only[go_sem];refine an h3 ?_;simp -dsimp -implicitDefEqProofs only[go_sem];refine an (ig A B 0) ?_;simp -dsimp -implicitDefEqProofs only[go_sem]
theorem LA {N D N' D' X Y A B:List Tm} {n:Int} (h1:Fn Tryz.prog 111 [iM N,iM D'] [iM X]) (h2:Fn Tryz.prog 111 [iM D,iM N'] [iM Y]) (h3:Fn Tryz.prog 110 [iM X,iM Y] [iF A B,iN n]):Fn Tryz.prog 69 [iF N D,iF N' D'] [iF A B,iN n]:=by
 refine ak (fn:=Tryz.f69) (by rfl) rfl rfl rfl (by rfl) ?_;simp -dsimp -implicitDefEqProofs only[go_sem];refine ao (by rfl) 13 [] false true (by rfl) (by rfl) (by decide +kernel) ?_;simp -dsimp -implicitDefEqProofs only[go_sem,ag];refine an h1 ?_;simp -dsimp -implicitDefEqProofs only[go_sem,ag];refine an h2 ?_;simp -dsimp -implicitDefEqProofs only[go_sem];refine an h3 ?_;simp -dsimp -implicitDefEqProofs only[go_sem]
theorem pH {N D N' X A B:List Tm} (h0:Fn Tryz.prog 138 [iM D,iM D] [iB true]) (h1:Fn Tryz.prog 108 [iM N,iM N'] [iM X]) (h3:Fn Tryz.prog 110 [iM X,iM D] [iF A B,iN 0]) :
  Fn Tryz.prog 107 [iF N D,iF N' D,.c (.v (.func (.func 108) #[] #[]))] [iF A B]:=by
 refine ak (fn:=Tryz.f107) (by rfl) rfl rfl rfl (by rfl) ?_;simp -dsimp -implicitDefEqProofs only[go_sem,ag];refine an h0 ?_;simp -dsimp -implicitDefEqProofs only[go_sem];refine ao (by rfl) 12 [] false true (by rfl) (by rfl) (by decide +kernel) ?_;simp -dsimp -implicitDefEqProofs only[go_sem,ag];refine an h1 ?_;simp -dsimp -implicitDefEqProofs only[go_sem,ag];refine an h3 ?_;simp -dsimp -implicitDefEqProofs only[go_sem];refine an (ig A B 0) ?_;simp -dsimp -implicitDefEqProofs only[go_sem]
theorem xm {N D N' D' X Y Z W A B:List Tm} (h0:Fn Tryz.prog 138 [iM D,iM D'] [iB false]) (h1:Fn Tryz.prog 111 [iM N,iM D'] [iM X]) (h2:Fn Tryz.prog 111 [iM N',iM D] [iM Y]) (h3:Fn Tryz.prog 108 [iM X,iM Y] [iM Z]) (h4:Fn Tryz.prog 111 [iM D,iM D'] [iM W]) (h5:Fn Tryz.prog 110 [iM Z,iM W] [iF A B,iN 0]) :
  Fn Tryz.prog 107 [iF N D,iF N' D',.c (.v (.func (.func 108) #[] #[]))] [iF A B]:=by
 refine ak (fn:=Tryz.f107) (by rfl) rfl rfl rfl (by rfl) ?_;simp -dsimp -implicitDefEqProofs only[go_sem,ag];refine an h0 ?_;simp -dsimp -implicitDefEqProofs only[go_sem];refine ao (by rfl) 21 [] false true (by rfl) (by rfl) (by decide +kernel) ?_;simp -dsimp -implicitDefEqProofs only[go_sem,ag];refine an h1 ?_;simp -dsimp -implicitDefEqProofs only[go_sem,ag];refine an h2 ?_;simp -dsimp -implicitDefEqProofs only[go_sem,ag];refine an h3 ?_;simp -dsimp -implicitDefEqProofs only[go_sem,ag];refine an h4 ?_;simp -dsimp -implicitDefEqProofs only[go_sem];refine an h5 ?_;simp -dsimp -implicitDefEqProofs only[go_sem];refine an (ig A B 0) ?_;simp -dsimp -implicitDefEqProofs only[go_sem]
theorem Dx {x y z:IV} (h:Fn Tryz.prog 107 [x,y,.c (.v (.func (.func 108) #[] #[]))] [z]) (hx:∃ N D,x=iF N D) (hy:∃ N D,y=iF N D) (hz:∃ N D,z=iF N D):Fn Tryz.prog 64 [x,y] [z]:=by
 obtain⟨N,D,rfl⟩:=hx;obtain⟨N',D',rfl⟩:=hy;obtain⟨A,B,rfl⟩:=hz;refine ak (fn:=Tryz.f64) (by rfl) rfl rfl rfl (by rfl) ?_;simp -dsimp -implicitDefEqProofs only[go_sem,ag];refine an h ?_;simp -dsimp -implicitDefEqProofs only[go_sem]
theorem xk {N D N' X A B:List Tm} (h0:Fn Tryz.prog 138 [iM D,iM D] [iB true]) (h1:Fn Tryz.prog 113 [iM N,iM N'] [iM X]) (h3:Fn Tryz.prog 110 [iM X,iM D] [iF A B,iN 0]) :
  Fn Tryz.prog 107 [iF N D,iF N' D,.c (.v (.func (.func 113) #[] #[]))] [iF A B]:=by
 refine ak (fn:=Tryz.f107) (by rfl) rfl rfl rfl (by rfl) ?_;simp -dsimp -implicitDefEqProofs only[go_sem,ag];refine an h0 ?_;simp -dsimp -implicitDefEqProofs only[go_sem];refine ao (by rfl) 12 [] false true (by rfl) (by rfl) (by decide +kernel) ?_;simp -dsimp -implicitDefEqProofs only[go_sem,ag];refine an h1 ?_;simp -dsimp -implicitDefEqProofs only[go_sem,ag];refine an h3 ?_;simp -dsimp -implicitDefEqProofs only[go_sem];refine an (ig A B 0) ?_;simp -dsimp -implicitDefEqProofs only[go_sem]
theorem xl {N D N' D' X Y Z W A B:List Tm} (h0:Fn Tryz.prog 138 [iM D,iM D'] [iB false]) (h1:Fn Tryz.prog 111 [iM N,iM D'] [iM X]) (h2:Fn Tryz.prog 111 [iM N',iM D] [iM Y]) (h3:Fn Tryz.prog 113 [iM X,iM Y] [iM Z]) (h4:Fn Tryz.prog 111 [iM D,iM D'] [iM W]) (h5:Fn Tryz.prog 110 [iM Z,iM W] [iF A B,iN 0]) :
  Fn Tryz.prog 107 [iF N D,iF N' D',.c (.v (.func (.func 113) #[] #[]))] [iF A B]:=by
 refine ak (fn:=Tryz.f107) (by rfl) rfl rfl rfl (by rfl) ?_;simp -dsimp -implicitDefEqProofs only[go_sem,ag];refine an h0 ?_;simp -dsimp -implicitDefEqProofs only[go_sem];refine ao (by rfl) 21 [] false true (by rfl) (by rfl) (by decide +kernel) ?_;simp -dsimp -implicitDefEqProofs only[go_sem,ag];refine an h1 ?_;simp -dsimp -implicitDefEqProofs only[go_sem,ag];refine an h2 ?_;simp -dsimp -implicitDefEqProofs only[go_sem,ag];refine an h3 ?_;simp -dsimp -implicitDefEqProofs only[go_sem,ag];refine an h4 ?_;simp -dsimp -implicitDefEqProofs only[go_sem];refine an h5 ?_;simp -dsimp -implicitDefEqProofs only[go_sem];refine an (ig A B 0) ?_;simp -dsimp -implicitDefEqProofs only[go_sem]
theorem Lx {x y z:IV} (h:Fn Tryz.prog 107 [x,y,.c (.v (.func (.func 113) #[] #[]))] [z]) (hx:∃ N D,x=iF N D) (hy:∃ N D,y=iF N D) (hz:∃ N D,z=iF N D):Fn Tryz.prog 70 [x,y] [z]:=by
 obtain⟨N,D,rfl⟩:=hx;obtain⟨N',D',rfl⟩:=hy;obtain⟨A,B,rfl⟩:=hz;refine ak (fn:=Tryz.f70) (by rfl) rfl rfl rfl (by rfl) ?_;simp -dsimp -implicitDefEqProofs only[go_sem,ag];refine an h ?_;simp -dsimp -implicitDefEqProofs only[go_sem]
end Go.AM
namespace Alg
open Classical
abbrev KQ:=K (P Rat)
theorem MK {u v:P Rat} (h:u*v=1):∃ x:Rat,x≠0/\u=C x:=by
 have h1:(1:P Rat)≠0:=fv (R:=Rat) (by decide);have hu:u≠0:=fun e=>h1 (by rw[<-h,e,zero_mul]);have hv:v≠0:=fun e=>h1 (by rw[<-h,e,mul_zero]);have hs:=cO hu hv;have h2:sz (1:P Rat)=1:=iH (R:=Rat) (by decide);have:=az hu;have:=az hv;rw[h,h2]at hs;have h3:=eX (p:=u) (by omega);exact⟨u.c 0,fun e=>hu (by rw[h3,e];exact cu),h3⟩
theorem Mi {a b:P Rat} {x:Rat} (hx:x≠0) (h:Cop a b):Cop (C x*a) (C x*b):=fun d h1 h2=>by
 have back:∀ y:P Rat,Dv d (C x*y)->Dv d y:=fun y hy=>by
  have:=hy.mul_left (C (inv x));rwa [<-mul_assoc,<-bf,cx hx,bU,one_mul]at this
 exact h d (back a h1) (back b h2)
theorem G6 (f:KQ):∃ p:P Rat×P Rat,p.2≠0/\lc p.2=1/\Cop p.1 p.2/\f=fr p.1 p.2:=by
 obtain⟨a,b,hb,hc,e⟩:=EQ f;have hl:=eH (bu hb);refine⟨(C (inv (lc b))*a,mo b),it hb,CL hb,Mi hl hc,?_⟩;rw[e];exact(eC hb (it hb)).2 (by rw[mo];exact ring [a,b,C (inv (lc b))])
noncomputable def nN (f:KQ):P Rat:=(choose (G6 f)).1
noncomputable def nD (f:KQ):P Rat:=(choose (G6 f)).2
theorem cw (f:KQ):nD f≠0/\lc (nD f)=1/\Cop (nN f) (nD f)/\f=fr (nN f) (nD f):=choose_spec (G6 f)
theorem oS {n d:P Rat} {f:KQ} (hd:d≠0) (hl:lc d=1) (hc:Cop n d) (e:f=fr n d):nN f=n/\nD f=d:=by
 obtain⟨h1,h2,h3,h4⟩:=cw f;obtain⟨u,v,huv,e1,e2⟩:=yw h1 hd h3 hc (h4.symm.trans e);obtain⟨x,hx,rfl⟩:=MK huv;have h5:lc d=x*lc (nD f):=by rw[e2,f6,n9]
 rw[hl,h2,mul_one]at h5;rw[<-h5,show C (1:Rat)=1 from rfl,one_mul]at e1;rw[<-h5,show C (1:Rat)=1 from rfl,one_mul]at e2;exact⟨e1.symm,e2.symm⟩
theorem kS:nN 0=0/\nD 0=1:=oS (fv (R:=Rat) (by decide)) (n9 (1:Rat)) (fun _ _ h=>h) wE
theorem G8 {n d g n1 d1:P Rat} (hd:d≠0) (hg:IsG g n d) (e1:n=n1*g) (e2:d=d1*g):nN (fr n d)=n1*C (1/lc d1)/\nD (fr n d)=d1*C (1/lc d1):=by
 have hg0:g≠0:=fun e=>hd (by rw[e2,e,mul_zero]);have hd1:d1≠0:=fun e=>hd (by rw[e2,e,zero_mul]);have hl:=bu hd1;have hi:(1:Rat)/lc d1=inv (lc d1):=by show(1:Rat)/lc d1=(lc d1)⁻¹;rw[Rat.div_def];exact Rat.one_mul _
 have hi0:(1:Rat)/lc d1≠0:=by rw[hi];exact eH hl
 have hcop:Cop n1 d1:=fun x h1 h2=>by
  have h3:Dv (g*x) (g*1):=by
   rw[mul_one];refine hg.2.2 _ ?_ ?_
   ·rw[e1,mul_comm n1];exact(Dv.refl g).mul h1
   ·rw[e2,mul_comm d1];exact(Dv.refl g).mul h2
  exact h3.cancel hg0
 refine oS ?_ ?_ ?_ ?_
 ·exact aE hd1 (fv hi0)
 ·rw[f6,n9,hi,mul_inv hl]
 ·rw[mul_comm n1,mul_comm d1];exact Mi hi0 hcop
 ·exact(eC hd (aE hd1 (fv hi0))).2 (by rw[e1,e2];exact ring [n1,d1,g,C (1/lc d1)])
def FB (w:Nat) (f:KQ):Prop:=∃ A B:P Int,B≠0/\f=fr (toQ A) (toQ B)/\sz A<=w+1/\n1 A<=2 ^ w/\sz B<=w+1/\n1 B<=2 ^ w
theorem FB.mono {w v:Nat} {f:KQ} (h:FB w f) (hv:w<=v):FB v f:=by
 obtain⟨A,B,h1,h2,h3,h4,h5,h6⟩:=h;exact⟨A,B,h1,h2,by omega,ac h4 (cq hv),by omega,ac h6 (cq hv)⟩
theorem KN {n d:P Rat} (hn:n≠0) (hd:d≠0) (hc:Cop n d):∃ s t,Row n d 1 s t 0 d (-n):=by
 obtain⟨s,t,e⟩:=BM hc;have h1:sz (1:P Rat)=1:=iH (R:=Rat) (by decide);have h0:sz (0:P Rat)=0:=ap.2 rfl;have:=az hn;have:=az hd;refine⟨s,t,e.symm,by rw[neg_mul,mul_comm n,iP],⟨-1,wz (by decide),?_⟩,by omega,by rw[kJ,h1],by omega,by omega⟩;rw[show C (-1:Rat) = -(1:P Rat)from kC (1:Rat),<-e];exact ring [s,t,n,d]
theorem wv {f:KQ} {w:Nat} (h:FB w f) (hf:f≠0):HB (hN w) (nN f)/\HB (hN w) (nD f)/\sz (nN f)<=w+1/\sz (nD f)<=w+1:=by
 obtain⟨A,B,hB,e,hA1,hA2,hB1,hB2⟩:=h;obtain⟨h1,h2,h3,h4⟩:=cw f;have hB':=cN hB;have hv:nN f*toQ B=nD f*toQ A:=by
  have:=(eC h1 hB').1 (h4.symm.trans e);rw[this,mul_comm]
 have hn0:nN f≠0:=fun e0=>hf (by rw[h4,e0];exact(cd h1).2 rfl);obtain⟨s,t,row⟩:=KN hn0 h1 h3;obtain⟨S,T,k,hk,eS,eT,hS,hT⟩:=small row hB hv hA1 hA2 hB1 hB2;have hS0:S≠0:=fun e0=>by
  rw[e0,cA]at eS;exact aE (fv hk) h1 eS.symm
 have hlS:hQ.f (lc S)=k:=by rw[<-Hq,eS,f6,n9,h2,mul_one]
 have hlS0:lc S≠0:=bu hS0;have hlb:(lc S).natAbs<=2 ^ hN w:=ac (iO S _) hS;have hdA:Dv (nN f) (toQ A):=h3.dvd ⟨toQ B,hv.symm⟩;have hdB:Dv (nD f) (toQ B):=h3.symm.dvd ⟨toQ A,hv⟩;have szle:∀{x y:P Rat},Dv x y->y≠0->sz x<=sz y:=fun{x y} hd hy=>by
  obtain⟨c,hc⟩:=hd;have hx0:x≠0:=fun e=>hy (by rw[hc,e,zero_mul]);have hc0:c≠0:=fun e=>hy (by rw[hc,e,mul_zero]);have:=cO hx0 hc0;have:=az hc0;rw[hc];omega
 have hA0:toQ A≠0:=fun e0=>hf (by rw[e,e0];exact(cd hB').2 rfl);refine⟨⟨lc S,-T,hlS0,hlb,by rw[qa];exact hT,?_⟩,⟨lc S,S,hlS0,hlb,hS,by rw[hlS,eS]⟩,?_,?_⟩
 ·rw[oG,eT,hlS,mul_neg,neg_neg]
 ·have:=szle hdA hA0;rw[fI]at this;omega
 ·have:=szle hdB hB';rw[fI]at this;omega
theorem fB {A B:P Int} {w v:Nat} (h:sz A<=w+1) (h':sz B<=v+1):sz (A*B)<=w+v+1:=by
 have:=aM A B;omega
theorem FB.mul {w v:Nat} {f g:KQ} (h:FB w f) (h':FB v g):FB (w+v) (f*g):=by
 obtain⟨A,B,h1,h2,h3,h4,h5,h6⟩:=h;obtain⟨A',B',k1,k2,k3,k4,k5,k6⟩:=h';exact⟨A*A',B*B',aE h1 k1,by rw[h2,k2,dZ (cN h1) (cN k1),bN,bN],fB h3 k3,ac (ij _ _) (aN h4 k4),fB h5 k5,ac (ij _ _) (aN h6 k6)⟩
theorem FB.add {w v:Nat} {f g:KQ} (h:FB w f) (h':FB v g):FB (w+v+1) (f+g):=by
 obtain⟨A,B,h1,h2,h3,h4,h5,h6⟩:=h;obtain⟨A',B',k1,k2,k3,k4,k5,k6⟩:=h';refine⟨A*B'+A'*B,B*B',aE h1 k1,by rw[h2,k2,fq (cN h1) (cN k1),jI,bN,bN,bN],?_,?_,?_,?_⟩
 ·refine cT ?_ ?_
  ·have:=fB h3 k5;omega
  ·have:=fB k3 h5;omega
 ·refine ac (kU _ _) ?_;have e1:=ac (ij A B') (aN h4 k6);have e2:=ac (ij A' B) (aN k4 h6);rw[Nat.add_comm v w]at e2;exact jx e1 e2
 ·have:=fB h5 k5;omega
 ·exact ac (ac (ij _ _) (aN h6 k6)) (cq (by omega))
theorem FB.neg {w:Nat} {f:KQ} (h:FB w f):FB w (-f):=by
 obtain⟨A,B,h1,h2,h3,h4,h5,h6⟩:=h;exact⟨-A,B,h1,by rw[h2,tz (cN h1),oG],by rw[kJ];exact h3,by rw[qa];exact h4,h5,h6⟩
theorem FB.sub {w v:Nat} {f g:KQ} (h:FB w f) (h':FB v g):FB (w+v+1) (f-g):=by rw[sub_eq];exact h.add h'.neg
theorem FB.inv {w:Nat} {f:KQ} (h:FB w f) (hf:f≠0):FB w (Alg.inv f):=by
 obtain⟨A,B,h1,h2,h3,h4,h5,h6⟩:=h;have hA:A≠0:=fun e=>hf (by rw[h2,e,cA];exact(cd (cN h1)).2 rfl);exact⟨B,A,hA,by rw[h2,wI (cN hA) (cN h1)],h5,h6,h3,h4⟩
end Alg
namespace Go.AM
open Alg
open Go.Proofs
open Classical
noncomputable abbrev iK (f:KQ):IV:=iF (U (nN f)) (U (Alg.nD f))
theorem wH {u n d:PQ} (hu:u≠0) (h:IsG u n d):IsG (Alg.mo u) n d:=by
 have e:Alg.C (lc u)*Alg.mo u=u:=by
  rw[Alg.mo,<-mul_assoc,<-bf,mul_inv (bu hu),bU,one_mul]
 have h1:Dv (Alg.mo u) u:=⟨Alg.C (lc u),by rw[mul_comm,e]⟩;exact⟨h1.trans h.1,h1.trans h.2.1,fun x hx hx'=>(h.2.2 x hx hx').trans (by rw[Alg.mo];exact(Dv.refl u).mul_left _)⟩
theorem sZ:lc (1:PQ)=1:=n9 (1:Rat)
theorem Ly (hres:iw) {n d:PQ} {h N w:Nat} (hd0:d≠0) (hn:Alg.HB h n) (hd:Alg.HB h d) (tn:Alg.sz n<=N) (td:Alg.sz d<=N) (hN:N<=500000) (hf:FB w (Alg.fr n d))
  (hb:(2*(Alg.hN w+h)+1)+(N+2)*((2*(Alg.hN w+h)+1)+1)+(2*(Alg.hN w+h)+1)<=68719476000):Fn Tryz.prog 110 [iUp n,iUp d] [iK (Alg.fr n d),iN 0]:=by
 have hdl:U d≠[]:=fun e=>hd0 (mN.1 e);by_cases hn0:n=0
 ·have e0:Alg.fr n d=0:=by rw[hn0];exact(cd hd0).2 rfl
  have:=zM hdl;rw[e0,hn0];show Fn Tryz.prog 110 [iM (U 0),iM (U d)] [iF (U (nN 0)) (U (Alg.nD 0)),iN 0];rw[kS.1,kS.2,bR,vy];exact this
 have hf0:Alg.fr n d≠0:=fun e=>hn0 ((cd hd0).1 e);have hs:Sm w n d:=by
  obtain⟨A,B,h1,h2,h3,h4,h5,h6⟩:=hf;have hA:A≠0:=fun e=>hf0 (by rw[h2,e,cA];exact(cd (cN h1)).2 rfl);exact⟨A,B,hA,h1,by rw[(eC hd0 (cN h1)).1 h2,mul_comm],h3,h4,h5,h6⟩
 obtain⟨zN,zD,_,_⟩:=wv hf hf0;obtain⟨g,hg,hgH,hgs,hg0,hgl,hG⟩:∃ g:PQ,IsG g n d/\Alg.HB (2*(Alg.hN w+h)+1) g/\Alg.sz g<=Alg.sz d/\g≠0/\lc g=1/\Fn Tryz.prog 151 [iUp n,iUp d] [iUp g]:=by
  by_cases hbig:2<=Alg.sz n/\2<=Alg.sz d
  ·obtain⟨h1,h2,h3,h4⟩:=pN hs hn hd hbig.1 hbig.2;exact⟨_,wH h4 h1,h2.mo,by rw[fh];exact h3,it h4,CL h4,Lu hres hs hn hd hbig.1 hbig.2 tn td hN hb⟩
  ·have p1:=az hn0;have p2:=az hd0;have hone:Alg.sz n=1\/Alg.sz d=1:=by omega
   have unit:∀ x:PQ,Alg.sz x=1->Dv x 1:=fun x hx=>by
    have h3:=eX (Nat.le_of_eq hx);have h4:x.c 0≠0:=fun e9=>by
     rw[e9,show Alg.C (0:Rat)=0 from cu]at h3;rw[h3,ap.2 rfl]at hx;omega
    exact⟨Alg.C (Alg.inv (x.c 0)),by rw[h3];simp only[mJ];rw[<-bf,mul_inv h4];rfl⟩
   have call:=xj hn hd (by omega) (by omega) (by omega) (by omega) (.inr (.inr hone));rw[kq,if_neg hn0,if_neg hd0]at call;refine⟨1,⟨Dv.one _,Dv.one _,fun x h1 h2=>?_⟩,cF _,by rw[cf];omega,fa,sZ,call⟩;rcases hone with h3|h3
   ·exact h1.trans (unit n h3)
   ·exact h2.trans (unit d h3)
 obtain⟨n1,e1⟩:=hg.1;obtain⟨d1,e2⟩:=hg.2.1;rw[mul_comm]at e1 e2;have hd1:d1≠0:=fun e=>hd0 (by rw[e2,e,zero_mul]);have hn1:n1≠0:=fun e=>hn0 (by rw[e1,e,zero_mul]);have hl:lc d1=lc d:=by rw[e2,f6,hgl,mul_one]
 have hl0:lc d1≠(0:Rat):=bu hd1;obtain⟨f1,f2⟩:=G8 hd0 hg e1 e2;have back:∀ x:PQ,x=x*Alg.C (1/lc d1)*Alg.C (lc d1):=fun x=>by
  rw[mul_assoc,<-bf];have:(1:Rat)/lc d1*lc d1=1:=Rat.div_mul_cancel hl0;rw[show((1:Rat)/lc d1*lc d1:Rat)=1 from this,bU,mul_one]
 have hC:Alg.HB h (Alg.C (lc d1)):=by rw[hl];exact lL hd _
 have bn:Alg.HB (Alg.hN w+h) n1:=by rw[back n1,<-f1];exact zN.mul hC
 have bd:Alg.HB (Alg.hN w+h) d1:=by rw[back d1,<-f2];exact zD.mul hC
 have s1:=cO hn1 hg0;have s2:=cO hd1 hg0;rw[<-e1]at s1;rw[<-e2]at s2;have pg:=az hg0;have hH1:(Alg.sz n+2)*((2*(Alg.hN w+h)+1)+1)<=(N+2)*((2*(Alg.hN w+h)+1)+1):=Nat.mul_le_mul_right _ (by omega);have hH2:(Alg.sz d+2)*((2*(Alg.hN w+h)+1)+1)<=(N+2)*((2*(Alg.hN w+h)+1)+1):=Nat.mul_le_mul_right _ (by omega);obtain⟨L,hL⟩:=fu hd1;obtain⟨b1,b2⟩:=i7 (x:=1) (h:=0) hl0 ⟨by decide,by decide⟩ (bd.coef (Alg.sz d1-1));have dn:=rI hn hgH hg0 (by omega) (by omega) (by omega);rw[ge hg0 e1]at dn;have dd:=rI hd hgH hg0 (by omega) (by omega) (by omega);rw[ge hg0 e2]at dd;have hc:=gB b1 b2 (k:=17179869184) (by omega);have sn:=jy (U n1) (1/lc d1) (by have:=cJ n1;omega) (HB.qb bn (by omega)) hc;have sd:=jy (U d1) (1/lc d1) (by have:=cJ d1;omega) (HB.qb bd (by omega)) hc;have:=Ja (N:=U n) (D:=U d) (G:=U g) (x:=(⟨((Alg.sz d1-1:Nat):Int),0,0,0⟩,lc d1)) hdl (fun e=>hn0 (mN.1 e)) hG dn dd (by rw[hL];rfl) hl0 (gB (bd.coef _).1 (bd.coef _).2 (by omega)) rfl sn sd;rw[nw,nw,<-f1,<-f2]at this;exact this
abbrev FW (f:KQ):Prop:=FB 1000 f
theorem HI:Alg.hN 1000=2006002:=by decide
theorem dG {f:KQ} (h:FW f):Alg.HB 2006002 (nN f)/\Alg.HB 2006002 (Alg.nD f)/\Alg.sz (nN f)<=1001/\Alg.sz (Alg.nD f)<=1001:=by
 by_cases hf:f=0
 ·rw[hf,kS.1,kS.2,cf,ap.2 rfl];exact⟨Alg.HB.zero _,cF _,by omega,by omega⟩
 ·have:=wv h hf;rw[HI]at this;exact this
theorem nB (hres:iw) {n d:PQ} (hd0:d≠0) (hn:Alg.HB 8024009 n) (hd:Alg.HB 8024009 d) (tn:Alg.sz n<=2003) (td:Alg.sz d<=2003) (hf:FW (Alg.fr n d)):Fn Tryz.prog 110 [iUp n,iUp d] [iK (Alg.fr n d),iN 0] :=
 Ly hres hd0 hn hd tn td (by omega) hf (by rw[HI];omega)
theorem eJ (f:KQ):Alg.fr (nN f) (Alg.nD f)=f:=(cw f).2.2.2.symm
theorem jC (hres:iw) {f g:KQ} (hf:FW f) (hg:FW g) (h:FW (f*g)):Fn Tryz.prog 65 [iK f,iK g] [iK (f*g)]:=by
 obtain⟨a1,a2,a3,a4⟩:=dG hf;obtain⟨b1,b2,b3,b4⟩:=dG hg;have d1:=(cw f).1;have d2:=(cw g).1;have e:f*g=Alg.fr (nN f*nN g) (Alg.nD f*Alg.nD g):=by
  conv=>lhs;rw[<-eJ f,<-eJ g]
  exact dZ d1 d2
 have s1:=aM (nN f) (nN g);have s2:=aM (Alg.nD f) (Alg.nD g);have of:=nB hres (aE d1 d2) ((a1.mul b1).mono (by omega)) ((a2.mul b2).mono (by omega)) (by omega) (by omega) (by rw[<-e];exact h);rw[<-e]at of;exact Dw (cK a1 b1 (by omega) (by omega) (by omega) (by omega)) (cK a2 b2 (by omega) (by omega) (by omega) (by omega)) of
theorem uy (hres:iw) {f g:KQ} (hf:FW f) (hg:FW g) (hg0:g≠0) (h:FW (f*Alg.inv g)):Fn Tryz.prog 69 [iK f,iK g] [iK (f*Alg.inv g),iN 0]:=by
 obtain⟨a1,a2,a3,a4⟩:=dG hf;obtain⟨b1,b2,b3,b4⟩:=dG hg;have d1:=(cw f).1;have d2:=(cw g).1;have n2:nN g≠0:=fun e=>hg0 (by rw[<-eJ g,e];exact(cd d2).2 rfl);have e:f*Alg.inv g=Alg.fr (nN f*Alg.nD g) (Alg.nD f*nN g):=by
  conv=>lhs;rw[<-eJ f,<-eJ g,wI n2 d2]
  exact dZ d1 n2
 have s1:=aM (nN f) (Alg.nD g);have s2:=aM (Alg.nD f) (nN g);have of:=nB hres (aE d1 n2) ((a1.mul b2).mono (by omega)) ((a2.mul b1).mono (by omega)) (by omega) (by omega) (by rw[<-e];exact h);rw[<-e]at of;exact LA (cK a1 b2 (by omega) (by omega) (by omega) (by omega)) (cK a2 b1 (by omega) (by omega) (by omega) (by omega)) of
theorem vz {p q:PQ} {h k:Nat} (hp:Alg.HB h p) (hq:Alg.HB k q) (hb:h<=137438953000) (hb':k<=137438953000) (sp:Alg.sz p<=1048576):Fn Tryz.prog 138 [iUp p,iUp q] [iB (decide (p=q))]:=by
 have:=zQ (U p) (U q) (by have:=cJ p;omega) (HB.qb hp (by omega)) (HB.qb hq (by omega));have e:decide (U p=U q)=decide (p=q):=by
  rw[decide_eq_decide];exact⟨fun h=>by rw[<-gy p,<-gy q,h],fun h=>by rw[h]⟩
 rwa [e]at this
theorem zP (hres:iw) {f g:KQ} (hf:FW f) (hg:FW g) (h:FW (f+g)):Fn Tryz.prog 64 [iK f,iK g] [iK (f+g)]:=by
 obtain⟨a1,a2,a3,a4⟩:=dG hf;obtain⟨b1,b2,b3,b4⟩:=dG hg;have d1:=(cw f).1;have d2:=(cw g).1;refine Dx ?_ ⟨_,_,rfl⟩ ⟨_,_,rfl⟩ ⟨_,_,rfl⟩;have eq:=vz a2 b2 (by omega) (by omega) (by omega);by_cases hd:Alg.nD f=Alg.nD g
 ·rw[ai hd,<-hd]at eq;have e:f+g=Alg.fr (nN f+nN g) (Alg.nD f):=by
   conv=>lhs;rw[<-eJ f,<-eJ g,<-hd]
   rw[fq d1 d1];exact(eC (aE d1 d1) d1).2 (ring [nN f,nN g,Alg.nD f])
  have s1:Alg.sz (nN f+nN g)<=1001:=cT a3 b3;have of:=nB hres d1 ((a1.add b1).mono (by omega)) (a2.mono (by omega)) (by omega) (by omega) (by rw[<-e];exact h);rw[<-e]at of;have:=pH eq (zI a1 b1 (by omega) (by omega) (by omega) (by omega)) of;rw[hd]at this;have e2:iF (U (nN f)) (U (Alg.nD g))=iK f:=by rw[<-hd]
  rw[e2]at this;exact this
 ·rw[aj hd]at eq;have e:f+g=Alg.fr (nN f*Alg.nD g+nN g*Alg.nD f) (Alg.nD f*Alg.nD g):=by
   conv=>lhs;rw[<-eJ f,<-eJ g]
   rw[fq d1 d2]
  have s1:=aM (nN f) (Alg.nD g);have s2:=aM (nN g) (Alg.nD f);have s3:=aM (Alg.nD f) (Alg.nD g);have s4:Alg.sz (nN f*Alg.nD g+nN g*Alg.nD f)<=2003:=cT (by omega) (by omega);have of:=nB hres (aE d1 d2) (((a1.mul b2).add (b1.mul a2)).mono (by omega)) ((a2.mul b2).mono (by omega)) s4 (by omega) (by rw[<-e];exact h);rw[<-e]at of;exact xm eq (cK a1 b2 (by omega) (by omega) (by omega) (by omega)) (cK b1 a2 (by omega) (by omega) (by omega) (by omega)) (zI (a1.mul b2) (b1.mul a2) (by omega) (by omega) (by omega) (by omega)) (cK a2 b2 (by omega) (by omega) (by omega) (by omega)) of
theorem I8 (hres:iw) {f g:KQ} (hf:FW f) (hg:FW g) (h:FW (f-g)):Fn Tryz.prog 70 [iK f,iK g] [iK (f-g)]:=by
 obtain⟨a1,a2,a3,a4⟩:=dG hf;obtain⟨b1,b2,b3,b4⟩:=dG hg;have d1:=(cw f).1;have d2:=(cw g).1;refine Lx ?_ ⟨_,_,rfl⟩ ⟨_,_,rfl⟩ ⟨_,_,rfl⟩;have eq:=vz a2 b2 (by omega) (by omega) (by omega);by_cases hd:Alg.nD f=Alg.nD g
 ·rw[ai hd,<-hd]at eq;have e:f-g=Alg.fr (nN f-nN g) (Alg.nD f):=by
   conv=>lhs;rw[<-eJ f,<-eJ g,<-hd]
   rw[HV d1 d1];exact(eC (aE d1 d1) d1).2 (ring [nN f,nN g,Alg.nD f])
  have s1:Alg.sz (nN f-nN g)<=1001:=fP a3 b3;have of:=nB hres d1 ((a1.sub b1).mono (by omega)) (a2.mono (by omega)) (by omega) (by omega) (by rw[<-e];exact h);rw[<-e]at of;have:=xk eq (pB a1 b1 (by omega) (by omega) (by omega) (by omega)) of;rw[hd]at this;have e2:iF (U (nN f)) (U (Alg.nD g))=iK f:=by rw[<-hd]
  rw[e2]at this;exact this
 ·rw[aj hd]at eq;have e:f-g=Alg.fr (nN f*Alg.nD g-nN g*Alg.nD f) (Alg.nD f*Alg.nD g):=by
   conv=>lhs;rw[<-eJ f,<-eJ g]
   rw[HV d1 d2]
  have s1:=aM (nN f) (Alg.nD g);have s2:=aM (nN g) (Alg.nD f);have s3:=aM (Alg.nD f) (Alg.nD g);have s4:Alg.sz (nN f*Alg.nD g-nN g*Alg.nD f)<=2003:=fP (by omega) (by omega);have of:=nB hres (aE d1 d2) (((a1.mul b2).sub (b1.mul a2)).mono (by omega)) ((a2.mul b2).mono (by omega)) s4 (by omega) (by rw[<-e];exact h);rw[<-e]at of;exact xl eq (cK a1 b2 (by omega) (by omega) (by omega) (by omega)) (cK b1 a2 (by omega) (by omega) (by omega) (by omega)) (pB (a1.mul b2) (b1.mul a2) (by omega) (by omega) (by omega) (by omega)) (cK a2 b2 (by omega) (by omega) (by omega) (by omega)) of
theorem Pc {f g:KQ}:f=g↔nN f=nN g/\Alg.nD f=Alg.nD g:=⟨fun h=>by rw[h];exact⟨rfl,rfl⟩,fun h=>by rw[<-eJ f,<-eJ g,h.1,h.2]⟩
theorem mr {f:KQ}:nN f=0↔f=0:=⟨fun h=>by rw[<-eJ f,h];exact(cd (cw f).1).2 rfl,fun h=>by rw[h];exact kS.1⟩
theorem FC (f:KQ):Fn Tryz.prog 97 [iK f] [iB (decide (f=0))]:=by
 have:=I7 (U (nN f)) (U (Alg.nD f));have e:decide (U (nN f)=[])=decide (f=0):=by rw[decide_eq_decide,mN,mr]
 rwa [e]at this
theorem ww (f:KQ):nN (-f) = -nN f/\Alg.nD (-f)=Alg.nD f:=by
 obtain⟨h1,h2,h3,h4⟩:=cw f;refine oS h1 h2 (fun d hd hd'=>h3 d (by have:=hd.neg;rwa [neg_neg]at this) hd') ?_
 conv=>lhs;rw[h4]
 exact tz h1
theorem Jb {f:KQ} (hf:FW f):Fn Tryz.prog 84 [iK f] [iK (-f)]:=by
 obtain⟨a1,a2,a3,a4⟩:=dG hf;have:=Lz (U (nN f)) (U (Alg.nD f)) (by have:=cJ (nN f);omega) (HB.qb a1 (by omega));rw[nw,show nN f*Alg.C (-1:Rat) = -nN f by rw[show Alg.C (-1:Rat) = -(1:PQ)from kC (1:Rat),mul_neg,mul_one],<-(ww f).1]at this;have e:iF (U (nN (-f))) (U (Alg.nD f))=iK (-f):=by rw[<-(ww f).2]
 rwa [e]at this
theorem G7 (n:PQ):nN (Alg.em n)=n/\Alg.nD (Alg.em n)=1:=oS fa sZ (fun _ _ h=>h) rfl
theorem L9 (n:PQ):iF (U n) (U 1)=iK (Alg.em n):=by
 show _=iF (U (nN (Alg.em n))) (U (Alg.nD (Alg.em n)));rw[(G7 n).1,(G7 n).2]
theorem B6 (c:Rat):Fn Tryz.prog 105 [iQ c] [iK (Alg.em (Alg.C c))]:=by
 have:=FD c;have eL:fL c=U (Alg.C c):=by
  rw[fL];split
  ·rename_i h;rw[h,show Alg.C (0:Rat)=0 from cu,bR]
  ·rename_i h;rw[U_C h]
 rw[eL,<-vy]at this;rwa [L9]at this
noncomputable def kr (f:KQ):List C:=[cM (U (nN f)),cM (U (Alg.nD f))]
noncomputable abbrev kl (l:List KQ):IV := .c (.lst (l.map kr))
theorem rx (l:List KQ):lens 2 (l.map kr):=fun r hr=>by obtain⟨t,-,rfl⟩:=List.mem_map.1 hr;rfl
theorem Hu (l:List KQ):lens 2 (l.map kr)=True:=eq_true (rx l)
theorem Pa (f:KQ):kr f=[cM (U (nN f)),cM (U (Alg.nD f))]:=rfl
attribute [go_sem] Hu Pa
noncomputable abbrev kn (z:Int):KQ:=Alg.em (Alg.C (z:Rat))
theorem bX (z:Int) (h : -9223372036854775808<=z/\z<9223372036854775808):Fn Tryz.prog 63 [iN z] [iK (kn z)]:=by
 refine ak (fn:=Tryz.f63) (by rfl) rfl rfl rfl (by rfl) ?_;simp -dsimp -implicitDefEqProofs only[go_sem];refine an (gk z h) ?_;simp -dsimp -implicitDefEqProofs only[go_sem];refine aa (B6 z) rfl ?_;simp -dsimp -implicitDefEqProofs only[go_sem]
theorem pE (f:KQ) (n:Int):Fn Tryz.prog 68 [iK f,iN n] [iK f]:=by
 refine ak (fn:=Tryz.f68) (by rfl) rfl rfl rfl (by rfl) ?_;simp -dsimp -implicitDefEqProofs only[go_sem]
noncomputable def dc:List KQ->List KQ
 | []=>[]
 | f::l=>if dc l=[]/\f=0 then[]else f::dc l
theorem nU:∀{l:List KQ},(∀ j (h:j<l.length),l[j]=0)->dc l=[]
 | [],_=>rfl
 | f::l,h=>by
  rw[dc,if_pos ⟨nU fun j hj=>by have:=h (j+1) (by simp;omega);simpa using this,by have:=h 0 (by simp);simpa using this⟩]
theorem gD:∀{l:List KQ} {t:Nat},t<=l.length->(∀ j (h:j<l.length),t<=j->l[j]=0)->(∀ h:t-1<l.length,0<t->l[t-1]≠0)->dc l=l.take t
 | l,0,_,h,_=>by rw[nU fun j hj=>h j hj (by omega)];rfl
 | [],t+1,ht,_,_=>by simp at ht
 | f::l,t+1,ht,h,h2=>by
  have ht':t<=l.length:=by simp only[List.length_cons]at ht;omega
  cases t with
  | zero =>
   have h0:f≠0:=by have:=h2 (by simp) (by omega);simpa using this
   rw[dc,if_neg (fun h=>h0 h.2),nU fun j hj=>by have:=h (j+1) (by simp;omega) (by omega);simpa using this];rfl
  | succ t =>
   have ih:=gD (l:=l) (t:=t+1) ht' (fun j hj h3=>by have:=h (j+1) (by simp;omega) (by omega);simpa using this) (fun h3 _=>by have:=h2 (by simp;omega) (by omega);simpa using this);have hne:dc l≠[]:=by
    rw[ih];intro e;have:=congrArg List.length e;simp only[List.length_take,List.length_nil]at this;omega
   rw[dc,if_neg (fun h=>hne h.1),ih];rfl
theorem jB (l:List KQ) (hl:l.length<=1099511627776):Fn Tryz.prog 54 [kl l] [kl (dc l)]:=by
 refine ak (fn:=Tryz.f54) (by rfl) rfl rfl rfl (by rfl) ?_;simp -dsimp -implicitDefEqProofs only[go_sem,af];refine aJ [(3,3),(6,17)] [] [] (fun n τ β ε=>∃ t:Nat,n=t/\t<=l.length/\(∀ j (h:j<l.length),t<=j->l[j]=0)/\τ 3 = .i (iN t))
  (fun e τ β ε=>e = .exit 0/\∃ t:Nat,t<=l.length/\dc l=l.take t/\τ 3 = .i (iN t)) l.length ?_ ?_ ?_
 ·exact⟨l.length,rfl,ae _,fun j h h'=>by omega,rfl⟩
 ·rintro n τ β ε π hK hKB hKE ⟨t,hn,ht,hz,h3⟩;have k0:τ 0 = .i (kl l):=(hK 0 rfl).trans rfl;by_cases ht0:t=0
  ·have hA:¬ (0:Int)<(t:Int):=by omega
   simp -dsimp -implicitDefEqProofs only[go_sem,h3,hA];exact⟨(by(repeat apply am rfl);exact hK),hKB,hKE,t,ht,gD ht hz (fun _ h=>by omega),rfl⟩
  ·have hA:(0:Int)<(t:Int):=by omega
   have et:(t:Int)-1=((t-1:Nat):Int):=by omega
   have hg:l[t-1]?=some l[t-1]:=ah (by omega);simp -dsimp -implicitDefEqProofs only[go_sem,h3,k0,hA,et]
   repeat(refine And.intro (by omega) ?_)
   refine av hg ?_;simp -dsimp -implicitDefEqProofs only[go_sem,h3,k0,hA,et];refine ar (args':=[iK l[t-1]]) rfl (FC _) ?_;by_cases hf:l[t-1]=0
   ·have e1:decide (l[t-1]=0)=true:=ai hf;simp -dsimp -implicitDefEqProofs only[go_sem,e1,h3,et]
    repeat(refine And.intro (by omega) ?_)
    refine again (t-1) (by omega) ⟨(by(repeat apply am rfl);exact hK),hKB,hKE,t-1,rfl,by omega,fun j hj h=>?_,rfl⟩
    by_cases e:j=t-1
    ·subst e;exact hf
    ·exact hz j hj (by omega)
   ·have e1:decide (l[t-1]=0)=false:=aj hf;simp -dsimp -implicitDefEqProofs only[go_sem,e1];exact⟨(by(repeat apply am rfl);exact hK),hKB,hKE,t,ht,gD ht hz (fun _ _=>hf),h3⟩
 ·rintro e τ β ε π hK hKB hKE ⟨rfl,t,ht,htk,h3⟩;have k0:τ 0 = .i (kl l):=(hK 0 rfl).trans rfl;simp -dsimp -implicitDefEqProofs only[go_sem,h3,k0,af];refine⟨ht,?_⟩;rw[<-List.map_take,<-htk]
def Oc (rows:List (List C)) (l:List KQ):Prop:=rows.length=l.length/\∀(j:Nat) (h:j<l.length),rows[j]?=some (kr l[j])
theorem Oc.eq {rows:List (List C)} {l:List KQ} (h:Oc rows l):rows=l.map kr:=by
 refine List.ext_getElem? fun j=>?_;rw[List.getElem?_map];rcases Nat.lt_or_ge j l.length with hj|hj
 ·rw[h.2 j hj,ah hj];rfl
 ·rw[List.getElem?_eq_none (by rw[h.1];exact hj),List.getElem?_eq_none hj];rfl
theorem qs (hres:iw) (l:List KQ) (c:KQ) (hl:l.length<=1048576) (h1:∀ f∈l,FW f) (hc:FW c) (h2:∀ f∈l,FW (f*c)):Fn Tryz.prog 52 [kl l,iK c] [kl (dc (l.map (· * c)))]:=by
 refine ak (fn:=Tryz.f52) (by rfl) rfl rfl rfl (by rfl) ?_;simp -dsimp -implicitDefEqProofs only[go_sem,af]
 repeat(refine And.intro (by omega) ?_)
 refine aS [(6,6),(12,24)] [] [(9,9)] (fun n τ β ε=>∃(i:Nat) (rows:List (List C)),n=l.length-i/\i<=l.length/\τ 12 = .i (iN i)/\ε 9=⟨1,2,rows,true,true⟩/\rows.length=l.length/\(∀ r∈rows,r.length=2)/\∀(j:Nat) (h:j<l.length),j<i->rows[j]?=some (kr (l[j]*c)))
  (fun e τ β ε=>e = .exit 0/\ε 9=⟨1,2,(l.map (· * c)).map kr,true,true⟩) l.length ?_ ?_ ?_
 ·exact⟨0,_,by omega,by omega,rfl,rfl,by simp,fun r hr=>by rw[List.eq_of_mem_replicate hr];rfl,fun j h h'=>by omega⟩
 ·rintro n τ β ε π hK hKB hKE ⟨i,rows,hn,hi,h12,h9,hlen,hr2,hrows⟩;have k0:τ 0 = .i (kl l):=(hK 0 rfl).trans rfl;have k11:τ 11 = .i (iN l.length):=(hK 11 rfl).trans rfl;have k5:τ 5 = .sl 9 1 l.length:=(hK 5 rfl).trans rfl;have k3:τ 3 = .bp 3 1 0:=(hK 3 rfl).trans rfl;have b3:β 3=⟨1,kr c⟩:=(hKB 3 rfl).trans rfl;by_cases hlt:i<l.length
  ·have hA:(i:Int)<(l.length:Int):=by omega
   have hg:l[i]?=some l[i]:=ah hlt;have hr:∃ r,rows[i]?=some r:=⟨_,ah (by omega)⟩;obtain⟨r,hr⟩:=hr;have hrl:=hr2 r (List.mem_of_getElem? hr);simp -dsimp -implicitDefEqProofs only[go_sem,h12,k11,hA];refine ao (by rfl) 9 [] false true (by rfl) (by rfl) (by decide +kernel) ?_;simp -dsimp -implicitDefEqProofs only[go_sem,h12,k0,k5,k3,b3,h9];refine av hg ?_;simp -dsimp -implicitDefEqProofs only[go_sem,h12,k0,k5,k3,b3,h9];refine ar (args':=[iK l[i],iK c]) rfl (jC hres (h1 _ (List.getElem_mem _)) hc (h2 _ (List.getElem_mem _))) ?_;simp -dsimp -implicitDefEqProofs only[go_sem,h12,k0,k5,k3,b3,h9];refine⟨hlt,r,hr,?_⟩;simp -dsimp -implicitDefEqProofs only[go_sem,hrl]
   repeat(refine And.intro (by omega) ?_)
   refine again (l.length-(i+1)) (by omega) ⟨(by(repeat apply am rfl);exact hK),hKB,(by(repeat apply am rfl);exact hKE),i+1,rows.set i (kr (l[i]*c)),rfl,by omega,rfl,?_,by simp[hlen],?_,?_⟩
   ·simp -dsimp -implicitDefEqProofs only[go_sem];rw[List.drop_eq_nil_of_le (by omega)]
   ·intro r' hr';rcases List.mem_or_eq_of_mem_set hr' with h|h
    ·exact hr2 r' h
    ·rw[h];rfl
   ·intro j hj hji;rw[List.getElem?_set];by_cases e:i=j
    ·subst e;rw[if_pos rfl,if_pos (by omega)];rfl
    ·rw[if_neg e];exact hrows j hj (by omega)
  ·have hA:¬ (i:Int)<(l.length:Int):=by omega
   obtain rfl:i=l.length:=by omega
   simp -dsimp -implicitDefEqProofs only[go_sem,h12,k11,hA];refine⟨(by(repeat apply am rfl);exact hK),hKB,hKE,?_⟩
   have hR:Oc rows (l.map (· * c)):=⟨by simp[hlen],fun j hj=>by
    simp only[af]at hj;rw[hrows j hj hj];simp⟩
   rw[h9,hR.eq]
 ·rintro e τ β ε π hK hKB hKE ⟨rfl,h9⟩;refine⟨_,aY.refl _,?_⟩;have k5:τ 5 = .sl 9 1 l.length:=(hK 5 rfl).trans rfl;simp -dsimp -implicitDefEqProofs only[go_sem,k5,h9];rw[List.take_of_length_le (by simp)];refine ar (args':=[kl (l.map (· * c))]) rfl (jB _ (by simp;omega)) ?_;simp -dsimp -implicitDefEqProofs only[go_sem]
noncomputable def j0 (a b:List KQ) (i:Nat):List KQ:=(List.range a.length).map fun j=>if j<i then a.getD j 0+b.getD j 0 else a.getD j 0
noncomputable def zh (a b:List KQ):List KQ:=if a.length<b.length then dc (j0 b a a.length)else dc (j0 a b b.length)
theorem zi (a b:List KQ) (i:Nat):(j0 a b i).length=a.length:=by simp[j0]
theorem Fj (a b:List KQ):j0 a b 0=a:=by
 refine List.ext_getElem (zi ..) fun j h1 h2=>?_;simp[j0,List.getD,h2]
theorem Fk {a b:List KQ} {i:Nat} (hi:i<b.length) (hle:b.length<=a.length):(j0 a b i).set i (a[i]+b[i])=j0 a b (i+1):=by
 refine List.ext_getElem (by simp[j0]) fun j h1 h2=>?_;rw[List.getElem_set];simp only[j0,List.getElem_map,List.getElem_range];by_cases e:i=j
 ·subst e;have h3:i<a.length:=by omega
  rw[if_pos rfl,if_pos (by omega)];simp[List.getD,h3,hi]
 ·rw[if_neg e];by_cases h:j<i
  ·rw[if_pos h,if_pos (by omega)]
  ·rw[if_neg h,if_neg (by omega)]
set_option maxHeartbeats 1000000 in
theorem Du (hres:iw) (a b:List KQ) (la:a.length<=1048576) (lb:b.length<=1048576) (h1:∀ f∈a,FW f) (h2:∀ f∈b,FW f) (h3:∀ f∈a,∀ g∈b,FW (f+g)):Fn Tryz.prog 16 [kl a,kl b] [kl (zh a b)]:=by
 refine ak (fn:=Tryz.f16) (by rfl) rfl rfl rfl (by rfl) ?_;simp -dsimp -implicitDefEqProofs only[go_sem,af];by_cases hlt:a.length<b.length
 case' pos =>
  have e1:decide ((a.length:Int)<(b.length:Int))=true:=ai (by omega);obtain⟨x,y,lx,hle,k1,k2,k3,hE,h0,h0'⟩:∃ x y:List KQ,x.length<=1048576/\y.length<=x.length/\(∀ f∈x,FW f)/\(∀ f∈y,FW f)/\(∀ f∈x,∀ g∈y,FW (f+g))/\zh a b=dc (j0 x y y.length)/\kl b=kl x/\kl a=kl y :=
   ⟨b,a,lb,by omega,h2,h1,fun f hf g hg=>by rw[add_comm];exact h3 g hg f hf,by rw[zh,if_pos hlt],rfl,rfl⟩
  simp -dsimp -implicitDefEqProofs only[go_sem,e1];rw[h0,h0',hE]
 case' neg =>
  have e1:decide ((a.length:Int)<(b.length:Int))=false:=aj (by omega);obtain⟨x,y,lx,hle,k1,k2,k3,hE,h0,h0'⟩:∃ x y:List KQ,x.length<=1048576/\y.length<=x.length/\(∀ f∈x,FW f)/\(∀ f∈y,FW f)/\(∀ f∈x,∀ g∈y,FW (f+g))/\zh a b=dc (j0 x y y.length)/\kl a=kl x/\kl b=kl y :=
   ⟨a,b,la,by omega,h1,h2,h3,by rw[zh,if_neg hlt],rfl,rfl⟩
  simp -dsimp -implicitDefEqProofs only[go_sem,e1];rw[h0,h0',hE]
 all_goals
  clear h0 h0' hE e1 hlt;refine bQ (oy (x.map kr) (rx x) (by simp;omega)) ?_;simp -dsimp -implicitDefEqProofs only[go_sem,af];refine aS [(6,7),(19,33)] [(7,7)] [(16,16)] (fun n τ β ε=>∃ i:Nat,n=y.length-i/\i<=y.length/\τ 19 = .i (iN i)/\ε 16=⟨1,2,(j0 x y i).map kr,!x.isEmpty,true⟩)
   (fun e τ β ε=>e = .exit 0/\ε 16=⟨1,2,(j0 x y y.length).map kr,!x.isEmpty,true⟩) y.length ?_ ?_ ?_
  ·exact⟨0,by omega,by omega,rfl,by simp -dsimp -implicitDefEqProofs only[go_sem,Fj];simp⟩
  ·rintro n τ β ε π hK hKB hKE ⟨i,hn,hi,h19,h16⟩;have k17:τ 17 = .i (kl y):=(hK 17 rfl).trans rfl;have k18:τ 18 = .i (iN y.length):=by rw[hK 18 (by decide)];simp -dsimp -implicitDefEqProofs only[go_sem,af]
   have k5:τ 5 = .sl 16 1 x.length:=by rw[hK 5 (by decide)];simp -dsimp -implicitDefEqProofs only[go_sem,af]
   by_cases hlt:i<y.length
   ·have hA:(i:Int)<(y.length:Int):=by omega
    have hix:i<x.length:=by omega
    have hg:y[i]?=some y[i]:=ah hlt;have hgx:(j0 x y i)[i]?=some x[i]:=by simp[j0,hix,List.getD]
    have hm:(!x.isEmpty)=true:=by cases hxc:x with|nil=>rw[hxc]at hix;simp at hix|cons _ _=>rfl
    simp -dsimp -implicitDefEqProofs only[go_sem,h19,k18,k17,hA];refine av hg ?_;simp -dsimp -implicitDefEqProofs only[go_sem,h19,k18,k17,k5,hA];refine ao (by rfl) 9 [] false true (by rfl) (by rfl) (by decide +kernel) ?_;simp -dsimp -implicitDefEqProofs only[go_sem,h19,k18,k17,k5,h16,hm];refine⟨hix,av hgx ?_⟩;simp -dsimp -implicitDefEqProofs only[go_sem,h19,k18,k17,k5,h16,hm];refine ar (args':=[iK x[i],iK y[i]]) rfl (zP hres (k1 _ (List.getElem_mem _)) (k2 _ (List.getElem_mem _)) (k3 _ (List.getElem_mem _) _ (List.getElem_mem _))) ?_;simp -dsimp -implicitDefEqProofs only[go_sem,h19,k18,k17,k5,h16,hm];refine⟨hix,av hgx ?_⟩;simp -dsimp -implicitDefEqProofs only[go_sem,h19]
    repeat(refine And.intro (by omega) ?_)
    refine again (y.length-(i+1)) (by omega) ⟨(by(repeat apply am rfl);exact hK),(by(repeat apply am rfl);exact hKB),(by(repeat apply am rfl);exact hKE),i+1,rfl,by omega,rfl,?_⟩
    simp -dsimp -implicitDefEqProofs only[go_sem,h16,hm];rw[<-Fk hlt hle,List.map_set];rfl
   ·have hA:¬ (i:Int)<(y.length:Int):=by omega
    obtain rfl:i=y.length:=by omega
    simp -dsimp -implicitDefEqProofs only[go_sem,h19,k18,hA];exact⟨(by(repeat apply am rfl);exact hK),hKB,hKE,h16⟩
  ·rintro e τ β ε π hK hKB hKE ⟨rfl,h16⟩;have k5:τ 5 = .sl 16 1 x.length:=by rw[hK 5 (by decide)];simp -dsimp -implicitDefEqProofs only[go_sem,af]
   refine⟨_,aY.refl _,?_⟩;simp -dsimp -implicitDefEqProofs only[go_sem,k5,h16];rw[List.take_of_length_le (by simp[j0])];refine ar (args':=[kl (j0 x y y.length)]) rfl (jB _ (by rw[zi];omega)) ?_;simp -dsimp -implicitDefEqProofs only[go_sem]
theorem Lp (hres:iw) (a b:List KQ) (la:a.length<=1048576) (lb:b.length<=1048576) (h1:∀ f∈a,FW f) (h2:∀ f∈b,FW f) (h0:FW (kn (-1))) (h2':∀ f∈b,FW (f*kn (-1))) (h3:∀ f∈a,∀ g∈dc (b.map (· * kn (-1))),FW (f+g)) (h4:∀ g∈dc (b.map (· * kn (-1))),FW g) (h5:(dc (b.map (· * kn (-1)))).length<=1048576) :
  Fn Tryz.prog 50 [kl a,kl b] [kl (zh a (dc (b.map (· * kn (-1)))))]:=by
 refine ak (fn:=Tryz.f50) (by rfl) rfl rfl rfl (by rfl) ?_;simp -dsimp -implicitDefEqProofs only[go_sem];refine an (bX (-1) (by decide)) ?_;simp -dsimp -implicitDefEqProofs only[go_sem];refine aa (qs hres b (kn (-1)) lb h2 h0 h2') rfl ?_;simp -dsimp -implicitDefEqProofs only[go_sem];refine ar (args':=[kl a,kl (dc (b.map (· * kn (-1))))]) rfl (Du hres a _ la h5 h1 h4 h3) ?_;simp -dsimp -implicitDefEqProofs only[go_sem]
theorem B3:Fn Tryz.prog 53 [kl []] [kl []]:=by
 have e:decide (((0:Nat):Int)=0)=true:=rfl;refine ak (fn:=Tryz.f53) (by rfl) rfl rfl rfl (by rfl) ?_;simp -dsimp -implicitDefEqProofs only[go_sem,af,e];rfl
theorem FA (hres:iw) (l:List KQ) (hl0:0<l.length) (hl:l.length<=1048576) (c:KQ) (hc:c=kn 1*Alg.inv l[l.length-1]) (hz:l[l.length-1]≠0) (h1:∀ f∈l,FW f) (h0:FW (kn 1)) (hcw:FW c) (h2:∀ f∈l,FW (f*c)) :
  Fn Tryz.prog 53 [kl l] [kl (dc (l.map (· * c)))]:=by
 have e:decide ((l.length:Int)=0)=false:=aj (by omega);have el:(l.length:Int)-1=((l.length-1:Nat):Int):=by omega
 have hg:l[l.length-1]?=some l[l.length-1]:=ah (by omega);refine ak (fn:=Tryz.f53) (by rfl) rfl rfl rfl (by rfl) ?_;simp -dsimp -implicitDefEqProofs only[go_sem,af,e];refine ao (by rfl) 14 [] false true (by rfl) (by rfl) (by decide +kernel) ?_;simp -dsimp -implicitDefEqProofs only[go_sem];refine an (bX 1 (by decide)) ?_;simp -dsimp -implicitDefEqProofs only[go_sem,af,el]
 repeat(refine And.intro (by omega) ?_)
 refine av hg ?_;simp -dsimp -implicitDefEqProofs only[go_sem];refine ar (args':=[iK (kn 1),iK l[l.length-1]]) rfl (uy hres h0 (h1 _ (List.getElem_mem _)) hz (by rw[<-hc];exact hcw)) ?_;rw[<-hc];simp -dsimp -implicitDefEqProofs only[go_sem];refine aa (pE c 0) rfl ?_;simp -dsimp -implicitDefEqProofs only[go_sem];refine aa (qs hres l c hl h1 hcw h2) rfl ?_;simp -dsimp -implicitDefEqProofs only[go_sem]
end Go.AM
namespace Go.AM
open Go.Proofs
open Classical
end Go.AM
namespace Go.AM
open Alg
open Go.Proofs
open Classical
noncomputable def mD (a:List KQ) (i:Nat):List KQ:=(List.range (i-1)).map fun j:Nat=>kn ((j+1:Nat):Int)*a.getD (j+1) 0
theorem Fa (a:List KQ) {i:Nat} (h1:1<=i) (h:i<a.length):mD a (i+1)=mD a i++[kn (i:Int)*a[i]]:=by
 obtain⟨k,rfl⟩:∃ k,i=k+1:=⟨i-1,by omega⟩;rw[mD,mD,show k+1+1-1=k+1 from rfl,show k+1-1=k from rfl,List.range_succ,List.map_append];congr 1;simp[List.getD,h]
theorem IY (hres:iw) (a:List KQ) (la:a.length<=1048576) (h1:∀ f∈a,FW f) (h2:∀ i:Nat,i<a.length->FW (kn (i:Int))) (h3:∀(i:Nat) (h:i<a.length),FW (kn (i:Int)*a[i])):Fn Tryz.prog 17 [kl a] [kl (mD a a.length)]:=by
 refine ak (fn:=Tryz.f17) (by rfl) rfl rfl rfl (by rfl) ?_;simp -dsimp -implicitDefEqProofs only[go_sem];refine bL 3 3 2 (rs:=[]) rfl (by simp) ?_;refine aS [(3,20)] [] [(20,20),(3,3)] (fun n τ β ε=>∃ i:Nat,n=a.length-i/\1<=i/\(i<=a.length\/i=1)/\τ 4 = .i (iN i)/\Own 2 ((mD a i).map kr) 3 3 τ ε)
  (fun e τ β ε=>e = .exit 0/\Own 2 ((mD a a.length).map kr) 3 3 τ ε) (a.length-1) ?_ ?_ ?_
 ·exact⟨1,by omega,by omega,.inr rfl,rfl,Own.mk (g:=1) (mm:=false) (len:=0) (by omega) rfl rfl rfl⟩
 ·rintro n τ β ε π hK hKB hKE ⟨i,hn,hi1,hi,h4,g,mm,hg,h3',hrow⟩;have k0:τ 0 = .i (kl a):=(hK 0 rfl).trans rfl;by_cases hlt:i<a.length
  ·have hA:(i:Int)<(a.length:Int):=by omega
   have hga:a[i]?=some a[i]:=ah hlt;simp -dsimp -implicitDefEqProofs only[go_sem,h4,k0,hA,af];refine ao (by rfl) 11 [] true false (by rfl) (by rfl) (by decide +kernel) ?_;simp -dsimp -implicitDefEqProofs only[go_sem,h4,k0,h3',hrow];refine an (bX i (by omega)) ?_;simp -dsimp -implicitDefEqProofs only[go_sem,h4,k0,h3',hrow];refine av hga ?_;simp -dsimp -implicitDefEqProofs only[go_sem,h4,k0,h3',hrow];refine ar (args':=[iK (kn (i:Int)),iK a[i]]) rfl (jC hres (h2 i hlt) (h1 _ (List.getElem_mem _)) (h3 i hlt)) ?_;simp -dsimp -implicitDefEqProofs only[go_sem,h4,k0,h3',hrow,hg];have hdl:(mD a i).length=i-1:=by simp[mD]
   repeat(refine And.intro (by omega) ?_)
   refine aH (a.length-(i+1)) 3 20 3 (by omega) rfl rfl (by omega) (by decide) ⟨(by(repeat apply am rfl);exact hK),hKB,(by(repeat apply am rfl);exact hKE),i+1,rfl,by omega,.inl (by omega),rfl,?_⟩
   exact Own.mk2 (Nat.succ_pos _) (by simp -dsimp -implicitDefEqProofs only[go_sem];rfl) (by simp -dsimp -implicitDefEqProofs only[go_sem];rfl) (by simp) (by rw[Fa a hi1 hlt];simp;rfl)
  ·have hA:¬ (i:Int)<(a.length:Int):=by omega
   have hd:mD a i=mD a a.length:=by
    rcases hi with h|h
    ·rw[show i=a.length by omega]
    ·unfold mD;rw[show i-1=a.length-1 by omega]
   simp -dsimp -implicitDefEqProofs only[go_sem,h4,k0,hA,af];rw[<-hd];exact⟨(by(repeat apply am rfl);exact hK),hKB,hKE,Own.mk hg h3' rfl hrow⟩
 ·rintro e τ β ε π hK hKB hKE ⟨rfl,g,mm,hg,h3',hrow⟩;refine⟨_,aY.refl _,?_⟩;simp -dsimp -implicitDefEqProofs only[go_sem,h3',hrow,hg]
theorem IX {a b q r:List KQ} {n:Int} (h:Fn Tryz.prog 18 [kl a,kl b] [kl q,kl r,iN n]):Fn Tryz.prog 81 [kl a,kl b] [kl q]:=by
 refine ak (fn:=Tryz.f81) (by rfl) rfl rfl rfl (by rfl) ?_;simp -dsimp -implicitDefEqProofs only[go_sem];refine an h ?_;simp -dsimp -implicitDefEqProofs only[go_sem]
theorem Ls {a b q r:List KQ} {n:Int} (h:Fn Tryz.prog 18 [kl a,kl b] [kl q,kl r,iN n]):Fn Tryz.prog 82 [kl a,kl b] [kl r]:=by
 refine ak (fn:=Tryz.f82) (by rfl) rfl rfl rfl (by rfl) ?_;simp -dsimp -implicitDefEqProofs only[go_sem];refine an h ?_;simp -dsimp -implicitDefEqProofs only[go_sem]
end Go.AM
namespace Go.AM
abbrev bpt (b:Nat):Value := .pointer (some ⟨b,0,none⟩)
def nM (w:World) (M:Nat->Prop) (b:Nat) (cs:List C):Prop:=∃ ys T,w.heap[b]?=some (.cells ys T (0,0))/\aC w M cs ys.toList
def FnC (P:Program) (f:FuncId) (args:List IV) (gf:Nat) (css:List (List C)):Prop :=
 mV P f/\∀(w:World) (M:Nat->Prop) (vs:List Value),(∀ b,M b->b<w.heap.size)->cv w M args vs ->
  Calls P f vs.toArray w fun e w'=>∃ bs:List Nat,e = .returned (.func (.func gf) #[] (bs.map bpt).toArray)/\aR w.heap.size w w'/\bs.length=css.length/\bs.Nodup /\
   (∀ b∈bs,w.heap.size<=b/\b<w'.heap.size)/\∀(i b:Nat) cs,bs[i]?=some b->css[i]?=some cs->nM w' (fun x=>M x\/x∈bs) b cs
def po (β:Nat->BX) (ks:List Nat) (css:List (List C)) (t:Nat):BX:=match ks.idxOf? t with|some i=>⟨(β t).gen+1,css.getD i []⟩|none=>β t
def BH (A:Nat->Nat) (ks bs:List Nat) (t:Nat):Nat:=match ks.idxOf? t with|some i=>bs.getD i 0|none=>A t
def uM (own:Nat->Option Key) (ks bs:List Nat) (b:Nat):Option Key:=match bs.idxOf? b with|some i=>some (.b (ks.getD i 0))|none=>own b
theorem dR {l:List Nat} {x i:Nat} (h:l.idxOf? x=some i):l[i]?=some x:=by
 rw[List.idxOf?_eq_some_iff]at h;obtain⟨h1,h2,-⟩:=h;rw[ah h1];simpa using h2
theorem dJ {l:List Nat} (hnd:l.Nodup) {x i:Nat} (h:l[i]?=some x):l.idxOf? x=some i:=by
 obtain⟨h1,h2⟩:=List.getElem?_eq_some_iff.1 h;rw[List.idxOf?_eq_some_iff];refine⟨h1,by simp[h2],fun j hj e=>?_⟩;have h3:=(List.getElem_inj (h₀:=by omega) (h₁:=h1) hnd).1 (e.trans h2.symm);omega
theorem y8 (β:Nat->BX) (k:Nat) (c:List C):po β [k] [c]=upd β k ⟨(β k).gen+1,c⟩:=by
 funext t;by_cases e:t=k
 ·subst e;rw[aq];simp[po,dJ (l:=[t]) (by simp) (i:=0) (x:=t) rfl]
 ·rw[ax _ _ e];have:[k].idxOf? t=none:=by rw[List.idxOf?_eq_none_iff];simpa using e
  simp[po,this]
theorem y7 (β:Nat->BX) (k m:Nat) (c d:List C) (h:m≠k):po β [k,m] [c,d]=upd (upd β k ⟨(β k).gen+1,c⟩) m ⟨(β m).gen+1,d⟩:=by
 funext t;by_cases e:t=m
 ·subst e;rw[aq];simp[po,dJ (l:=[k,t]) (by simpa using fun e=>h e.symm) (i:=1) (x:=t) rfl]
 ·rw[ax _ _ e];by_cases e':t=k
  ·subst e';rw[aq];simp[po,dJ (l:=[t,m]) (by simpa using fun e=>h e.symm) (i:=0) (x:=t) rfl]
  ·rw[ax _ _ e'];have:[k,m].idxOf? t=none:=by rw[List.idxOf?_eq_none_iff];simp[e,e']
   simp[po,this]
section
variable {P:Program} {kind:FuncId->CK} {st:St} {K:St->Prop}
theorem kW {dst:Option Tmp} {f:Nat} {caps:Array Operand} {ts:List (Nat×Nat)} (hts:caps.toList.map st.ev=ts.map fun p=>AV.bp p.1 p.2 0) (hl:∀ p∈ts,(st.b p.1).gen=p.2/\0<p.2)
  (hK:K (st.put dst (.clo f ts))):gw P kind none dst K st (.makeFunc (.func f) #[] caps) ⟨⟩:=by
 refine⟨rfl,fun o ho hdst=>⟨by simp[dP,ho],?_⟩⟩;intro W0 M0 N G w a Q S hd;refine a8 (y := .func (.func f) #[] (caps.map a.eval)) (w':=w) (by simp[execOp,ho,Instr.makeFunc]) ?_;rw[hdst];refine⟨_,G,hK,S.put (by rw[<-hdst];exact hd) (aR.refl _ _) fun _=>?_⟩;refine⟨fun p hp=>by have:=hl p hp;omega,fun _=>?_⟩;congr 1;apply Array.ext';simp only[Array.toList_map];have key:∀(l:List Operand) (ts:List (Nat×Nat)),l.map st.ev=ts.map (fun p=>AV.bp p.1 p.2 0)->(∀ p∈ts,(st.b p.1).gen=p.2/\0<p.2)->l.map a.eval=ts.map fun p=>Value.pointer (some ⟨G.A p.1,0,none⟩):=by
  intro l
  induction l with
  | nil=>intro ts h _;cases ts with|nil=>rfl|cons p ts=>simp at h
  | cons x l ih =>
   intro ts h hl;cases ts with
   | nil=>simp at h
   | cons p ts =>
    simp only[List.map_cons,List.cons.injEq]at h ⊢;refine⟨?_,ih ts h.2 fun q hq=>hl q (by simp[hq])⟩;have hv:=S.ev x;rw[h.1]at hv;obtain⟨h1,h2⟩:=hl p (by simp);exact hv.2 h1 h2
 exact key _ _ hts hl
def Pn (t:Tmp) (gf:Nat) (css:List (List C)) (e:aK) (st:St):Prop:=(e = .normal\/e = .ret) /\
 ∃ ts,st.t t = .clo gf ts/\(∀ p∈ts,(st.b p.1).gen=p.2/\0<p.2)/\(ts.map (·.1)).Nodup/\ts.map (fun p=>(st.b p.1).cs)=css
theorem qw {f:FuncId} {fn:Func} {c:Code} {t:Tmp} {nt:Nat} {args:List IV} {gf:Nat} {css:List (List C)} (kind:FuncId->CK) (hf:P.funcs[f]?=some fn) (hb:fn.body=some c) (hr:fn.results = #[.tmp t]) (hnt:fn.ntmps=nt)
  (hn : (fn.name == "runtime.NumGoroutine") = false) (hlen : args.length <= nt) (hasg : (asg c).all (fun d => Nat.blt d nt) = true) (h : CW P kind c (Pn t gf css) (gH args)) : FnC P f args gf css := by
 subst hnt;refine⟨⟨fn,c,hf,hb,hn⟩,fun w M vs hm hrs=>?_⟩;refine callsIn_wide.1 (callsIn_of_wp_marks (F:=Fence.wide) (n:=0) hf hb trivial (wpIn_mono (br c h none (.of w) M fn.ntmps g0 w _ (o8 hm hrs hlen) fun d hd=>?_) ?_))
 ·have:=(List.all_eq_true.1 hasg) d hd;simpa using this
 ·rintro e a' w' ⟨x,st',G',h1,⟨h2,ts,ht,hl,hnd,hcs⟩,S⟩;have hend:LeavesInM Fence.wide 0 P fn a'.tmps (fun e w'=>∃ bs:List Nat,e = .returned (.func (.func gf) #[] (bs.map bpt).toArray)/\aR w.heap.size w w'/\bs.length=css.length/\bs.Nodup /\
   (∀ b∈bs,w.heap.size<=b/\b<w'.heap.size)/\∀(i b:Nat) cs,bs[i]?=some b->css[i]?=some cs->nM w' (fun x=>M x\/x∈bs) b cs) a'.defers .returning w':=jn S fun w' S=>by
   have hrun:(results fn a'.tmps).run P w' = .ok (a'.tmps.getD t undef) w':=by simp[results,hr]
   have hv:=S.fr t;rw[ht]at hv;have hv2:=hv.2 hl;have hown:∀ p∈ts,G'.own (G'.A p.1)=some (.b p.1):=fun p hp=>(S.bx p.1 (by have:=hl p hp;omega)).1;refine⟨_,hrun,ts.map (fun p=>G'.A p.1),?_,S.below.below,by rw[<-hcs];simp,?_,?_,?_⟩
   ·show Ending.returned (a'.tmps.getD t undef)=_;rw[show a'.tmps.getD t undef=_ from hv2];simp
   ·rw[List.nodup_iff_pairwise_ne,List.pairwise_map]at hnd ⊢;refine hnd.imp_of_mem fun{p q} hp hq hne e=>hne ?_;have h3:=hown p hp;rw[e,hown q hq]at h3;exact(Key.b.inj (Option.some.inj h3)).symm
   ·intro b hb;obtain⟨p,hp,rfl⟩:=List.mem_map.1 hb;have:=S.own (G'.A p.1) (by simp[hown p hp]);exact⟨this.1.resolve_right (fun h=>h rfl),this.2⟩
   ·intro i b cs hb hc;rw[List.getElem?_map]at hb;cases hp:ts[i]? with
    | none=>simp[hp]at hb
    | some p =>
     simp only[hp,Option.map_some,Option.some.injEq]at hb;rw[<-hcs,List.getElem?_map,hp]at hc;simp only[Option.map_some,Option.some.injEq]at hc;subst hb hc;have hpm:=List.mem_of_getElem? hp;obtain⟨-,ys,T,h4,h5⟩:=S.bx p.1 (by have:=hl p hpm;omega);refine⟨ys,T,h4,aC.mono (w:=w') (M:=G'.M M) ⟨ae _,fun x _ hx=>⟨?_,rfl⟩⟩ _ _ h5⟩;rintro (h6|h6)
     ·exact hx (.inl h6)
     ·obtain⟨q,hq,rfl⟩:=List.mem_map.1 h6;exact hx (.inr (by simp[hown q hq]))
  cases e with
  | normal=>exact hend
  | ret=>exact hend
  | exit id=>simp[aX]at h1;subst h1;simp at h2
  | goto l=>simp[aX]at h1
  | panic l=>simp[aX]at h1
  | outgrown=>simp[aX]at h1
theorem ns {d:Tmp} {c:Call} {f:FuncId} {gf:Nat} {args:List IV} {css:List (List C)} (ks:List Nat) (hc:c.callee = .value (.func f)) (hkd:kind f = .sem) (ha:dI (fun x=>st.toIV (st.ev x)) c.args.toList=some args)
  (hf:FnC P f args gf css) (hnd:ks.Nodup) (hlen:ks.length=css.length)
  (hK:K { t:=upd st.t d (.clo gf (ks.map fun k=>(k,(st.b k).gen+1))),b:=po st.b ks css,e:=st.e,p:=st.p }):gw P kind none (some d) K st (.call c) ⟨⟩:=by
 refine⟨rfl,fun o ho hdst=>⟨?_,?_⟩⟩
 ·obtain⟨cal,ca,ct⟩:=c;subst hc;simp[dP,ho,hkd]
 intro W0 M0 N G w a Q S hd;have hargs:=mM S ha;have hcal:cD st c=some f:=by simp[cD,hc,St.ev]
 have hrun:=ky S ho hcal hf.1;simp only[Oper.wp,hrun,Oper.upon];refine(hf.2 w (G.M M0) _ (mbelow S) hargs).mono ?_;rintro e w' ⟨bs,rfl,hbl,hbn,hbd,hbb,hbx⟩;rw[hdst]at hd ⊢;have hsz:=hbl.size;have hk:a7 w (G.M M0) w' (Gh.M { G with A:=BH G.A ks bs,own:=uM G.own ks bs } M0):=⟨hsz,fun b hb hm=>⟨?_,hbl.block b hb⟩⟩
 case refine_1 =>
  rintro (h|h)
  ·exact hm (.inl h)
  ·simp only[uM]at h;split at h
   ·rename_i i hi;have:=(hbb b (List.mem_of_getElem? (dR hi))).1;omega
   ·exact hm (.inr h)
 have ownk:∀(i k:Nat),ks[i]?=some k->∃ b cs,bs[i]?=some b/\css[i]?=some cs/\BH G.A ks bs k=b/\uM G.own ks bs b=some (.b k)/\po st.b ks css k=⟨(st.b k).gen+1,cs⟩:=fun i k hi=>by
  have h1:i<ks.length:=(List.getElem?_eq_some_iff.1 hi).1;have hb:bs[i]?=some bs[i]:=ah (by omega);have hcs:css[i]?=some css[i]:=ah (by omega);refine⟨bs[i],css[i],hb,hcs,?_,?_,?_⟩
  ·simp only[BH,dJ hnd hi,List.getD,hb,Option.getD_some]
  ·simp only[uM,dJ hbd hb,List.getD,hi,Option.getD_some]
  ·simp only[po,dJ hnd hi,List.getD,hcs,Option.getD_some]
 have keep:∀ b,G.own b≠none->uM G.own ks bs b=G.own b/\w'.heap[b]?=w.heap[b]?:=fun b h=>by
  have hlt:=(S.own b h).2;refine⟨?_,hbl.block b hlt⟩;simp only[uM];cases hi:bs.idxOf? b with
  | none=>rfl
  | some i =>
   have:=(hbb b (List.mem_of_getElem? (dR hi))).1;omega
 have hkn:∀ t,ks.idxOf? t=none->BH G.A ks bs t=G.A t/\po st.b ks css t=st.b t:=fun t h=>by simp[BH,po,h]
 have hE:Evo st G { t:=upd st.t d (.clo gf (ks.map fun k=>(k,(st.b k).gen+1))),b:=po st.b ks css,e:=st.e,p:=st.p } { G with A:=BH G.A ks bs,own:=uM G.own ks bs }:=by
  refine⟨fun t g h=>?_,fun _ _ h=>⟨h,fun e _=>⟨e,rfl,rfl,rfl,ae _⟩⟩,fun _ _ h=>⟨h,fun e _=>⟨e,rfl,rfl⟩⟩⟩;cases hi:ks.idxOf? t with
  | none =>
   obtain⟨h1,h2⟩:=hkn t hi;simp only[h1,h2];exact⟨h,fun e _=>⟨e,trivial⟩⟩
  | some i =>
   obtain⟨b,cs,-,-,h1,-,h2⟩:=ownk i t (dR hi);simp only[h2];exact⟨by omega,fun e _=>by omega⟩
 refine⟨_,{ G with A:=BH G.A ks bs,own:=uM G.own ks bs },hK,S.next (v := .clo gf (ks.map fun k=>(k,(st.b k).gen+1))) hd (.of_below hbl S.le) hk hE ?_ ?_ ?_ ?_ ?_ ?_⟩
 ·intro n;by_cases e:n=d
  ·subst e;simp[aq]
  ·simp[ax _ _ e,e]
 ·intro _;have hgk:∀ k∈ks,(po st.b ks css k).gen=(st.b k).gen+1:=fun k hk=>by
   obtain⟨i,hi,e⟩:=List.getElem_of_mem hk;obtain⟨_,_,_,_,_,_,h⟩:=ownk i k (by rw[ah hi,e]);rw[h]
  refine⟨fun p hp=>?_,fun _=>?_⟩
  ·obtain⟨k,hk,rfl⟩:=List.mem_map.1 hp;simp only[hgk k hk];exact ae _
  ·congr 2;rw[List.map_map];refine List.ext_getElem? fun i=>?_;rw[List.getElem?_map,List.getElem?_map];cases hi:ks[i]? with
   | none =>
    have:bs[i]?=none:=by
     rw[List.getElem?_eq_none_iff]at hi ⊢;omega
    rw[this];rfl
   | some k =>
    obtain⟨b,_,h1,_,h2,_,_⟩:=ownk i k hi;simp only[h1,Option.map_some,Function.comp_apply,h2]
 ·intro t ht;simp only at ht ⊢;cases hi:ks.idxOf? t with
  | none =>
   obtain⟨h1,h2⟩:=hkn t hi;rw[h2]at ht;obtain⟨o1,ys,T,o2,o3⟩:=S.bx t ht;obtain⟨k1,k2⟩:=keep (G.A t) (by simp[o1]);simp only[h1,h2];exact⟨k1.trans o1,ys,T,k2.trans o2,aC.mono hk _ _ o3⟩
  | some i =>
   obtain⟨b,cs,hb,hcs,h1,h2,h3⟩:=ownk i t (dR hi);simp only[h1,h2,h3];obtain⟨ys,T,o1,o2⟩:=hbx i b cs hb hcs;refine⟨trivial,ys,T,o1,aC.mono (w:=w') ⟨ae _,fun x _ hx=>⟨?_,rfl⟩⟩ _ _ o2⟩;rintro (h4|h4)
   ·exact hx (.inl (.inl h4))
   ·simp only[uM]at h4;split at h4
    ·rename_i j hj;exact hx (.inr (List.mem_of_getElem? (dR hj)))
    ·exact hx (.inl (.inr h4))
 ·intro t ht;exact lA.mono (G:=G) hk rfl rfl (fun b h=>by obtain⟨k1,k2⟩:=keep b (by simp[h]);exact⟨k1.trans h,k2⟩) (S.en t ht)
 ·intro t ht;exact nG.mono (G:=G) hk (fun _ _=>rfl) (fun b k _ h=>by obtain⟨k1,k2⟩:=keep b (by rw[h];simp);exact⟨k1.trans h,k2⟩) (S.mp t ht)
 ·intro b h;simp only[uM]at h;split at h
  ·rename_i i hi;have:=hbb b (List.mem_of_getElem? (dR hi));exact⟨.inl (ac S.le this.1),this.2⟩
  ·exact⟨(S.own b h).1,Nat.lt_of_lt_of_le (S.own b h).2 hsz⟩
end
end Go.AM
