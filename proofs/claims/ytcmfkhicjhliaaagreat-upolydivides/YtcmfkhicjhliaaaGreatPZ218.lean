/- Lemmas, part 19 of 24: Package upoly: Euclid's algorithm; Powers of polynomials and of rational functions; Package upoly: resultants; Package upoly: linear equations, for divisors of degree at most 1; Package upoly: squarefree decompositions; Reference R7: orders, equality; Reference R7: sums; Reference R7: products with a term, multiples, differences, products. No condition. -/
import Derived.Test.YtcmfkhicjhliaaaGreatPZ217
set_option maxRecDepth 65536
set_option linter.unusedSimpArgs false
set_option linter.unusedVariables false
set_option linter.unusedSectionVars false
namespace Go.AM
open Alg
open Go.Proofs
open Classical
theorem HA (l:Nat) (c d:List C):cV l [c,d]=⟨upd (upd (upd (fun _ => .any) 0 (sc (.func (.yield l) #[] #[]))) 1 (.bp 1000 1 0)) 2 (.bp 1001 1 0),upd (upd lF 1000 ⟨1,c⟩) 1001 ⟨1,d⟩,nI,mz⟩:=by
 have e1:(cV l [c,d]).t=upd (upd (upd (fun _ => .any) 0 (sc (.func (.yield l) #[] #[]))) 1 (.bp 1000 1 0)) 2 (.bp 1001 1 0):=by
  funext n
  match n with
  | 0=>rfl
  | 1=>rfl
  | 2=>rfl
  | n+3=>rw[ax _ _ (by omega),ax _ _ (by omega),ax _ _ (by omega)];rfl
 have e2:(cV l [c,d]).b=upd (upd lF 1000 ⟨1,c⟩) 1001 ⟨1,d⟩:=by
  funext n;by_cases e:n=1001
  ·subst e;rfl
  ·rw[ax _ _ e];by_cases e':n=1000
   ·subst e';rfl
   ·rw[ax _ _ e'];simp only[cV];split
    ·rw[List.getElem?_eq_none (by simp;omega)];rfl
    ·rfl
 show St.mk (cV l [c,d]).t (cV l [c,d]).b _ _=_;rw[e1,e2];rfl
def two (β:Nat->BX) (c d:List C):Prop:=β 1000=⟨1,c⟩/\β 1001=⟨1,d⟩/\∀ t,t≠1000->t≠1001->(β t).gen=0
theorem two.lone {τ:Nat->AV} {β:Nat->BX} {c d:List C} {n:Nat} (h:two β c d) (hn:n=2):lone n ⟨τ,β,nI,mz⟩:=by
 subst hn;refine⟨fun t ht=>?_,fun _=>rfl,fun _=>rfl⟩;by_cases e:t=1000
 ·subst e;exact⟨by omega,by omega,by show(β 1000).gen=1;rw[h.1]⟩
 ·by_cases e':t=1001
  ·subst e';exact⟨by omega,by omega,by show(β 1001).gen=1;rw[h.2.1]⟩
  ·have:=h.2.2 t e e';have ht':0<(β t).gen:=ht;omega
theorem Gb (c d:List C):two (upd (upd lF 1000 ⟨1,c⟩) 1001 ⟨1,d⟩) c d :=
 ⟨by rw[ax _ _ (by omega),aq],aq _ _ _,fun t h h'=>by rw[ax _ _ h',ax _ _ h];rfl⟩
theorem pt (x y:C):FnC Tryz.prog 77 [.c x,.c y] 117 [[y],[x]]:=by
 refine qw kd (fn:=Tryz.f77) (by rfl) rfl rfl rfl (by rfl) (by simp) (by rfl) ?_;simp -dsimp -implicitDefEqProofs only[go_sem,ju];refine kW (ts:=[(3,1),(2,1)]) (by simp -dsimp -implicitDefEqProofs only[go_sem]) (by simp -dsimp -implicitDefEqProofs only[go_sem]) ?_;simp -dsimp -implicitDefEqProofs only[go_sem,wL];exact⟨[(3,1),(2,1)],rfl,by simp,by simp,rfl⟩
noncomputable abbrev kc (p:KP):C := .lst ((Alg.cl p).map kr)
noncomputable def euI (a b:KP):List (List IV):=(eu a b).map fun x=>[ku x.1,ku x.2]
theorem nK (a0 b0:KP) (hE:∀ x∈eu a0 b0,Fn Tryz.prog 82 [ku x.1,ku x.2] [ku (Alg.re x.1 x.2)]):IZ Tryz.prog 117 [[kc b0],[kc a0]] (euI a0 b0):=by
 refine ou (fn:=Tryz.f117) (by rfl) rfl rfl rfl (by rfl) (by simp) (by rfl) ?_;intro c hc hbl hL;rw[HA];have hb2:c.bs.length=2:=hbl;refine WPi.block (WPi.loop (fun n s k=>∃ τ β a b,s=⟨τ,β,nI,mz⟩/\τ 0=sc (.func (.yield c.l) #[] #[])/\τ 1 = .bp 1000 1 0/\τ 2 = .bp 1001 1 0/\two β [kc b] [kc a]/\n=Alg.sz b/\∃ j,k=some j/\j<=(eu a0 b0).length/\(eu a0 b0).drop j=eu a b) (n:=Alg.sz b0) ⟨_,_,a0,b0,rfl,rfl,rfl,rfl,Gb _ _,rfl,0,rfl,Nat.zero_le _,rfl⟩ ?_);rintro n s k ⟨τ,β,a,b,rfl,h0,h1,h2,hT,rfl,j,rfl,hjle,hj⟩;obtain⟨t1,t2,t3⟩:=id hT;by_cases hb:b=0
 ·subst hb;refine WPi.seq ?_;refine WPi.seq ?_;refine WPi.yreg_no hc kd 7 11 rfl rfl rfl fun K1 hK1=>?_;have e1:decide ((0:Int)<((0:Nat):Int))=false:=rfl;simp -dsimp -implicitDefEqProofs only[go_sem,h0,h1,h2,t1,t2,pm,af,e1];refine⟨hT.lone hb2,rfl,hK1 _ (hT.lone hb2) ?_⟩;refine WPi.end_k hc kd fun K hK=>?_;simp -dsimp -implicitDefEqProofs only[go_sem];refine hK _ _ (hT.lone hb2) ?_;refine⟨.inl rfl,.inl ?_⟩;rw[iJ]at hj;have hlen:=congrArg List.length hj;simp only[List.length_drop,List.length_nil]at hlen;have hjl:j<=(eu a0 b0).length:=hjle;simp only[euI,af];congr 1;omega
 ·have hb0:=az hb;have e1:decide ((0:Int)<(Alg.sz b:Int))=true:=ai (by omega);rw[jS hb]at hj;have hjlt:j<(eu a0 b0).length:=by
   have hlen:=congrArg List.length hj;simp only[List.length_drop,List.length_cons]at hlen;omega
  have hjg:(eu a0 b0)[j]?=some (a,b):=by
   have:=congrArg (fun l=>l[0]?) hj;simpa using this
  refine WPi.seq ?_;refine WPi.seq ?_;refine WPi.yreg_k hc kd 7 11 j [ku a,ku b] rfl rfl rfl rfl (by rw[hL,euI,List.getElem?_map,hjg];rfl) fun K1 K2 hK1 hK2=>?_;simp -dsimp -implicitDefEqProofs only[go_sem,h0,h1,h2,t1,t2,aD,af,e1];refine⟨hT.lone hb2,rfl,?_⟩;refine⟨hK1 _ (hT.lone hb2) ?_,hK2 _ (hT.lone hb2) ?_⟩
  ·refine WPi.end_k hc kd fun K hK=>?_;simp -dsimp -implicitDefEqProofs only[go_sem];refine hK _ _ (hT.lone hb2) ?_;refine WPi.end_k hc kd fun K hK=>?_;simp -dsimp -implicitDefEqProofs only[go_sem,h1,h2,t1,t2];refine ao (by rfl) 4 [] false true (by rfl) (by rfl) (by decide +kernel) ?_;simp -dsimp -implicitDefEqProofs only[go_sem,h1,h2,t1,t2];refine aa (hE (a,b) (List.mem_of_getElem? hjg)) rfl ?_;simp -dsimp -implicitDefEqProofs only[go_sem,h1,h2,t1,t2];have hT2:two (upd (upd β 1001 ⟨1,[kc b]⟩) 1000 ⟨1,[kc (Alg.re a b)]⟩) [kc (Alg.re a b)] [kc b] :=
    ⟨aq _ _ _,by rw[ax _ _ (by omega),aq],fun t h h'=>by rw[ax _ _ h,ax _ _ h'];exact t3 t h h'⟩
   refine hK _ _ (hT2.lone hb2) ⟨Alg.sz (Alg.re a b),(qure hb).2,_,_,b,Alg.re a b,rfl,h0,h1,h2,hT2,rfl,j+1,rfl,hjlt,?_⟩;rw[<-List.drop_drop,hj];rfl
  ·refine WPi.end_k hc kd fun K hK=>?_;simp -dsimp -implicitDefEqProofs only[go_sem];refine hK _ _ (hT.lone hb2) ?_;exact⟨.inl rfl,.inr rfl⟩
theorem C0 (a b:KP):(euI a b).length=(eu a b).length:=by simp[euI]
theorem C1 {a b:KP} {k:Nat} {x:List IV} (h:(euI a b)[k]?=some x):∃ y,(eu a b)[k]?=some y/\x=[ku y.1,ku y.2]:=by
 rw[euI,List.getElem?_map]at h;cases hy:(eu a b)[k]? with
 | none=>rw[hy]at h;simp at h
 | some y=>rw[hy]at h;exact⟨y,rfl,(Option.some.inj h).symm⟩
noncomputable def euK (a b:KP) (k:Nat):KP:=((((eu a b).take k).getLast?).map (·.2)).getD a
theorem H0 {a b:KP} {k:Nat} {y:KP×KP} (h:(eu a b)[k]?=some y):euK a b (k+1)=y.2:=by
 have hk:=(List.getElem?_eq_some_iff.1 h);rw[euK,ab hk.1,hk.2,List.getLast?_concat];rfl
theorem xg {a b:KP} (hE:∀ x∈eu a b,Fn Tryz.prog 82 [ku x.1,ku x.2] [ku (Alg.re x.1 x.2)]) (hM:Fn Tryz.prog 53 [ku (euL a b)] [ku (mn (euL a b))]):Fn Tryz.prog 24 [ku a,ku b] [ku (Alg.gd a b)]:=by
 rw[<-NH _ a b (ae _)];refine nA (fn:=Tryz.f24) (by rfl) rfl rfl rfl (by rfl) (by simp) (by rfl) ?_;refine WPn.seq_k kd fun K hK _=>?_;simp -dsimp -implicitDefEqProofs only[go_sem];refine hK _ ?_;refine WPn.seq_k kd fun K hK _=>?_;simp -dsimp -implicitDefEqProofs only[go_sem];refine hK _ ?_;refine WPn.seq ?_;refine WPn.seq_k kd fun K hK _=>?_;simp -dsimp -implicitDefEqProofs only[go_sem];refine ns [1000,1001] rfl rfl rfl (pt (kc a) (kc b)) (by simp) rfl ?_;rw[y7 _ _ _ _ _ (by decide)];simp -dsimp -implicitDefEqProofs only[go_sem];refine hK _ (WPn.block (WPn.rangeFunc (ts:=[(1000,1),(1001,1)]) [5] (fun k cs=>cs=[[kc (euK a b k)]]) (fun _ _=>False) (by simp -dsimp -implicitDefEqProofs only[go_sem]) (by simp -dsimp -implicitDefEqProofs only[go_sem]) (by simp) (by simp -dsimp -implicitDefEqProofs only[go_sem]) (nK a b hE) (by simp) (by simp -dsimp -implicitDefEqProofs only[go_sem];decide) ?_ ?_ ?_ ?_ ?_))
 ·simp -dsimp -implicitDefEqProofs only[go_sem];rfl
 ·intro x hx;obtain⟨p,-,rfl⟩:=List.mem_map.1 hx;rfl
 ·rintro k x cs hx rfl -;obtain⟨y,hy,rfl⟩:=C1 hx;generalize hs:bE _ _ _ _ _=s;obtain⟨τ,β,ε,π⟩:=s;have h13:τ 13 = .i (ku y.2):=by
   rw[qV hs];simp -dsimp -implicitDefEqProofs only[go_sem,bE,ir]
  have h5:τ 5 = .bp 5 1 0:=by
   rw[qV hs];simp -dsimp -implicitDefEqProofs only[go_sem,bE,ir];rw[nZ]<;>simp -dsimp -implicitDefEqProofs only[go_sem]
  have b5:β 5=⟨1,[kc (euK a b k)]⟩:=by
   rw[BO hs];simp -dsimp -implicitDefEqProofs only[go_sem,bE,dX]
  clear hs;refine WP.end_k kd fun K hK=>?_;simp -dsimp -implicitDefEqProofs only[go_sem,h13];refine hK _ _ ⟨rfl,?_⟩;refine WP.end_k kd fun K hK=>?_;simp -dsimp -implicitDefEqProofs only[go_sem,h13,h5,b5];refine hK _ _ ⟨by simp -dsimp -implicitDefEqProofs only[go_sem],?_⟩;simp -dsimp -implicitDefEqProofs only[go_sem];rw[H0 hy]
 ·rintro cs γs rfl-hγ;obtain⟨g,g',rfl⟩:∃ g g',γs=[g,g']:=by
   match γs,hγ with
   | [g,g'],_=>exact⟨g,g',rfl⟩
  rw[gU,iG];refine WPn.end_k kd fun K hK=>?_;dsimp only[List.map,setB];have e6:euK a b (euI a b).length=euL a b:=by
   rw[euK,C0,List.take_length];rfl
  rw[e6];simp -dsimp -implicitDefEqProofs only[go_sem];refine aa hM rfl ?_;simp -dsimp -implicitDefEqProofs only[go_sem];refine hK _ _ ⟨.inr rfl,?_⟩;simp -dsimp -implicitDefEqProofs only[go_sem]
 ·intro e cs γs _ h;exact h.elim
theorem Ni {R:Type} [CR R] (b:R) (k:Nat):Alg.pw b k=(if k % 2=1 then b else 1)*Alg.pw (b*b) (k/2):=by
 have h1:∀ m,Alg.pw (b*b) m=Alg.pw b (m+m):=fun m=>by rw[Hb,wn]
 rw[h1];by_cases h:k % 2=1
 ·rw[if_pos h];have e:Alg.pw b k=Alg.pw b (1+(k/2+k/2)):=congrArg _ (by omega);rw[e,wn,AE]
 ·rw[if_neg h,one_mul];exact congrArg _ (by omega)
theorem Ib (c:Rat):fL c=U (Alg.C c):=by
 rw[fL];split
 ·rename_i h;rw[h,show Alg.C (0:Rat)=0 from cu,bR]
 ·rename_i h;rw[U_C h]
structure PwS (p a o:PQ) (h n m:Nat) (ha ho sa so:Nat):Prop where
 eq:Alg.pw p n=o*Alg.pw a m
 bo:Alg.HB ho o
 zo:Alg.sz o<=so+1
 lo:ho<=h*n
 ls:so<=Alg.sz p*n
 ba:m≠0->Alg.HB ha a/\Alg.sz a<=sa+1/\ho+ha*m<=h*n/\so+sa*m<=Alg.sz p*n
theorem CT (x m:Nat):x*m=2*(x*(m/2))+x*(m % 2):=by
 have h:m=2*(m/2)+m % 2:=by omega
 conv=>lhs;rw[h,Nat.mul_add]
 rw[<-Nat.mul_assoc,Nat.mul_comm x 2,Nat.mul_assoc]
theorem zH {p:PQ} {h n:Nat} (hp:Alg.HB h p) (hn:n<=64) (hb:h<=1000000000) (hs:Alg.sz p<=10000):Fn Tryz.prog 160 [iUp p,iN n] [iUp (Alg.pw p n)]:=by
 have e0:decide ((n:Int)<0)=false:=aj (by omega);have hhn:h*n<=64000000000:=by have:=Nat.mul_le_mul hb hn;omega
 have hsn:Alg.sz p*n<=640000:=by have:=Nat.mul_le_mul hs hn;omega
 refine ak (fn:=Tryz.f160) (by rfl) rfl rfl rfl (by rfl) ?_;simp -dsimp -implicitDefEqProofs only[go_sem,e0];refine an (gk 1 (by decide)) ?_;simp -dsimp -implicitDefEqProofs only[go_sem];refine aa (pI 1) rfl ?_;rw[Ib];simp -dsimp -implicitDefEqProofs only[go_sem];refine aJ [(0,1),(5,5),(10,24)] [] [] (fun k τ β ε=>∃(a o:PQ) (m ha ho sa so:Nat),k=m/\m<=n/\τ 0 = .i (iUp a)/\τ 1 = .i (iN m)/\τ 5 = .i (iUp o)/\PwS p a o h n m ha ho sa so)
  (fun e τ β ε=>e = .exit 0/\τ 5 = .i (iUp (Alg.pw p n))) n ?_ ?_ ?_
 ·refine⟨p,1,n,h,0,Alg.sz p,0,rfl,ae _,rfl,rfl,rfl,⟨(one_mul _).symm,cF _,?_,Nat.zero_le _,Nat.zero_le _,fun _=>⟨hp,by omega,by omega,by omega⟩⟩⟩;rw[cf];omega
 ·rintro k τ β ε π hK hKB hKE ⟨a,o,m,ha,ho,sa,so,rfl,hm,h0,h1,h5,hS⟩;by_cases hk0:k=0
  ·have hA:¬ (0:Int)<(k:Int):=by omega
   simp -dsimp -implicitDefEqProofs only[go_sem,h1,hA];refine⟨(by(repeat apply am rfl);exact hK),hKB,hKE,?_⟩
   rw[h5,hS.eq,hk0];show AV.i (iUp o)=AV.i (iUp (o*1));rw[mul_one]
  ·have hA:(0:Int)<(k:Int):=by omega
   have hand:=De k (by omega);obtain⟨a1,a2,a3,a4⟩:=hS.ba hk0;have hho:=hS.bo;have hso:=hS.zo;have lo:=hS.lo;have ls:=hS.ls;have x1:ha<=ha*k:=Nat.le_mul_of_pos_right _ (by omega);have x2:sa<=sa*k:=Nat.le_mul_of_pos_right _ (by omega);have y1:=CT ha k;have y2:=CT sa k;have e1:decide (((k % 2:Nat):Int)=1)=decide (k % 2=1):=by rw[decide_eq_decide];omega
   have mo:=cK hho a1 (by omega) (by omega) (by omega) (by omega);have ma:=cK a1 a1 (by omega) (by omega) (by omega) (by omega);have so':=aM o a;have sa':=aM a a;have step:∀(o':PQ) (hx sx:Nat),o'=o*(if k % 2=1 then a else 1)->Alg.HB hx o'->Alg.sz o'<=sx+1->hx=ho+ha*(k % 2)->sx=so+sa*(k % 2)->PwS p (a*a) o' h n (k/2) (ha+ha) hx (sa+sa) sx:=by
    intro o' hx sx e1 e2 e3 e4 e5;refine⟨by rw[hS.eq,Ni a k,e1,mul_assoc],e2,e3,by omega,by omega,fun _=>⟨a1.mul a1,by omega,?_,?_⟩⟩
    ·rw[Nat.add_mul];omega
    ·rw[Nat.add_mul];omega
   have step1:k=1->∀(o':PQ) (hx sx:Nat),o'=o*a->Alg.HB hx o'->Alg.sz o'<=sx+1->hx=ho+ha->sx=so+sa->PwS p a o' h n (k/2) ha hx sa sx:=by
    intro ek o' hx sx eo e2 e3 e4 e5;subst ek;refine⟨by rw[hS.eq,eo];show _=o*a*1;rw[AE,mul_one],e2,e3,by omega,by omega,fun h=>absurd rfl h⟩
   by_cases h2:k % 2=1
   ·rw[ai h2]at e1;by_cases h3:k=1
    ·have e2:decide ((1:Int)<(k:Int))=false:=aj (by omega);simp -dsimp -implicitDefEqProofs only[go_sem,h1,hA,hand,e1,h5,h0,eU];refine an mo ?_;simp -dsimp -implicitDefEqProofs only[go_sem,h1,hA,hand,e1,e2,h5,h0,eU];refine again (k/2) (by omega) ⟨(by(repeat apply am rfl);exact hK),hKB,hKE,a,o*a,k/2,ha,ho+ha,sa,so+sa,rfl,by omega,h0,rfl,rfl,step1 h3 _ _ _ rfl (hho.mul a1) (by omega) rfl rfl⟩
    ·have e2:decide ((1:Int)<(k:Int))=true:=ai (by omega);simp -dsimp -implicitDefEqProofs only[go_sem,h1,hA,hand,e1,h5,h0,eU];refine an mo ?_;simp -dsimp -implicitDefEqProofs only[go_sem,h1,hA,hand,e1,e2,h5,h0,eU];refine an ma ?_;simp -dsimp -implicitDefEqProofs only[go_sem,h1,hA,hand,e1,e2,h5,h0,eU];refine again (k/2) (by omega) ⟨(by(repeat apply am rfl);exact hK),hKB,hKE,a*a,o*a,k/2,ha+ha,ho+ha,sa+sa,so+sa,rfl,by omega,rfl,rfl,rfl,step _ _ _ (by rw[if_pos h2]) (hho.mul a1) (by omega) (by rw[h2];omega) (by rw[h2];omega)⟩
   ·rw[aj h2]at e1;have e2:decide ((1:Int)<(k:Int))=true:=ai (by omega);have h20:k % 2=0:=by omega
    simp -dsimp -implicitDefEqProofs only[go_sem,h1,hA,hand,e1,e2,h5,h0,eU];refine an ma ?_;simp -dsimp -implicitDefEqProofs only[go_sem,h1,hA,hand,e1,e2,h5,h0,eU];refine again (k/2) (by omega) ⟨(by(repeat apply am rfl);exact hK),hKB,hKE,a*a,o,k/2,ha+ha,ho,sa+sa,so,rfl,by omega,rfl,rfl,h5,step _ _ _ (by rw[if_neg h2,mul_one]) hho hso (by rw[h20];omega) (by rw[h20];omega)⟩
 ·rintro e τ β ε π hK hKB hKE ⟨rfl,h5⟩;simp -dsimp -implicitDefEqProofs only[go_sem,h5]
theorem BB {a b:PQ} (h:Cop a b):∀ n,Cop a (Alg.pw b n)
 | 0=>fun _ _ h1=>h1
 | n+1=>(BB h n).mul h
theorem KO {a b:PQ} (h:Cop a b) (n:Nat):Cop (Alg.pw a n) (Alg.pw b n):=(BB (BB h n).symm n).symm
theorem L4 (a:PQ) (h:lc a=1):∀ n,lc (Alg.pw a n)=1
 | 0=>sZ
 | n+1=>by show lc (Alg.pw a n*a)=1;rw[f6,L4 a h n,h,mul_one]
theorem Ma {a b:PQ} (hb:b≠0):∀ n,Alg.pw (Alg.fr a b) n=Alg.fr (Alg.pw a n) (Alg.pw b n)
 | 0=>rfl
 | n+1=>by
  show Alg.pw (Alg.fr a b) n*Alg.fr a b=_;rw[Ma hb n,dZ (Cx hb n) hb];rfl
theorem LV (f:KQ) (n:Nat):nN (Alg.pw f n)=Alg.pw (nN f) n/\Alg.nD (Alg.pw f n)=Alg.pw (Alg.nD f) n:=by
 obtain⟨h1,h2,h3,h4⟩:=cw f;refine oS (Cx h1 n) (L4 _ h2 n) (KO h3 n) ?_
 conv=>lhs;rw[h4]
 exact Ma h1 n
theorem I9 {f:KQ} {n:Nat} (hf:FW f) (hn:n<=64):Fn Tryz.prog 119 [iK f,iN n] [iK (Alg.pw f n),iN 0]:=by
 obtain⟨a1,a2,a3,a4⟩:=dG hf;have e1:decide ((n:Int) < -256)=false:=aj (by omega);have e2:decide ((256:Int)<(n:Int))=false:=aj (by omega);have e3:decide ((n:Int)<0)=false:=aj (by omega);have eK:iF (U (Alg.pw (nN f) n)) (U (Alg.pw (Alg.nD f) n))=iK (Alg.pw f n):=by rw[<-(LV f n).1,<-(LV f n).2]
 refine ak (fn:=Tryz.f119) (by rfl) rfl rfl rfl (by rfl) ?_;simp -dsimp -implicitDefEqProofs only[go_sem,e1,e2,e3];refine ao (by rfl) 9 [] false true (by rfl) (by rfl) (by decide +kernel) ?_;simp -dsimp -implicitDefEqProofs only[go_sem];refine aa (zH a1 hn (by omega) (by omega)) rfl ?_;simp -dsimp -implicitDefEqProofs only[go_sem];refine aa (zH a2 hn (by omega) (by omega)) rfl ?_;simp -dsimp -implicitDefEqProofs only[go_sem];rw[<-eK]
theorem vJ {f:KQ} {n:Nat} (hf:FW f) (hn:n<=64):Fn Tryz.prog 83 [iK f,iN n] [iK (Alg.pw f n)]:=by
 refine ak (fn:=Tryz.f83) (by rfl) rfl rfl rfl (by rfl) ?_;simp -dsimp -implicitDefEqProofs only[go_sem];refine aa (I9 hf hn) rfl ?_;simp -dsimp -implicitDefEqProofs only[go_sem];refine ar (args':=[iK (Alg.pw f n),iN 0]) rfl (pE _ 0) ?_;simp -dsimp -implicitDefEqProofs only[go_sem]
noncomputable def sgR (p q:KP) (x:KQ):KQ:=if Alg.sz p % 2=0/\Alg.sz q % 2=0 then -x else x
noncomputable def lI (a b:KP):Nat->KQ
 | 0=>1
 | k+1=>match (eu a b)[k]? with
  | some x=>sgR x.1 x.2 (lI a b k*Alg.pw (lc x.2) (Alg.sz x.1-Alg.sz (Alg.re x.1 x.2)))
  | none=>lI a b k
theorem pZ {a b:KP} {k:Nat} {x:KP×KP} (h:(eu a b)[k]?=some x):lI a b (k+1)=sgR x.1 x.2 (lI a b k*Alg.pw (lc x.2) (Alg.sz x.1-Alg.sz (Alg.re x.1 x.2))):=by
 show(match (eu a b)[k]? with
  | some x=>sgR x.1 x.2 (lI a b k*Alg.pw (lc x.2) (Alg.sz x.1-Alg.sz (Alg.re x.1 x.2)))
  | none=>lI a b k)=_
 rw[h]
theorem CZ (n:Nat):∀(a b:KP),Alg.sz b<=n->∀(k:Nat) x,(eu a b)[k]?=some x->x.2≠0/\(Alg.re x.1 x.2≠0->(eu a b)[k+1]?=some (x.2,Alg.re x.1 x.2))/\(Alg.re x.1 x.2=0->(eu a b).length=k+1):=by
 induction n with
 | zero =>
  intro a b hb k x hx;have:b=0:=ap.1 (by omega);rw[this,iJ]at hx;simp at hx
 | succ n ih =>
  intro a b hb k x hx;by_cases h0:b=0
  ·rw[h0,iJ]at hx;simp at hx
  ·rw[jS h0]at hx ⊢;cases k with
   | zero =>
    simp only[List.getElem?_cons_zero,Option.some.injEq]at hx;subst hx;refine⟨h0,fun h=>?_,fun h=>?_⟩
    ·rw[List.getElem?_cons_succ,jS h];rfl
    ·rw[h,iJ];rfl
   | succ k =>
    rw[List.getElem?_cons_succ]at hx;obtain⟨h1,h2,h3⟩:=ih b (Alg.re a b) (by have:=(qure (a:=a) h0).2;omega) k x hx;exact⟨h1,fun h=>by rw[List.getElem?_cons_succ];exact h2 h,fun h=>by rw[List.length_cons,h3 h]⟩
theorem NG (n:Nat):∀(a b:KP),Alg.sz b<=n->a≠0->∀(k:Nat) x,(eu a b)[k]?=some x->x.1≠0:=by
 induction n with
 | zero =>
  intro a b hb _ k x hx;have:b=0:=ap.1 (by omega);rw[this,iJ]at hx;simp at hx
 | succ n ih =>
  intro a b hb ha k x hx;by_cases h0:b=0
  ·rw[h0,iJ]at hx;simp at hx
  ·rw[jS h0]at hx;cases k with
   | zero =>
    simp only[List.getElem?_cons_zero,Option.some.injEq]at hx;subst hx;exact ha
   | succ k =>
    rw[List.getElem?_cons_succ]at hx;exact ih b (Alg.re a b) (by have:=(qure (a:=a) h0).2;omega) h0 k x hx
theorem jk {p q:KP} (h:Alg.sz q=1):Alg.re p q=0:=by
 have hq:q≠0:=fun e=>by rw[e,ap.2 rfl]at h;omega
 have:=(qure (a:=p) hq).2;exact ap.1 (by omega)
theorem IW {a b:KP} (h:a=0\/b=0):Fn Tryz.prog 35 [ku a,ku b] [iK (kn 0)]:=by
 have e1:decide (((0:Nat):Int)=0)=true:=rfl;by_cases ha:a=0
 ·rw[ha,f7];refine ak (fn:=Tryz.f35) (by rfl) rfl rfl rfl (by rfl) ?_;simp -dsimp -implicitDefEqProofs only[go_sem,af,e1];refine an (bX 0 (by decide)) ?_;simp -dsimp -implicitDefEqProofs only[go_sem]
 ·have hb:b=0:=h.resolve_left ha;have e2:decide ((Alg.sz a:Int)=0)=false:=aj (by have:=az ha;omega);rw[hb,f7];refine ak (fn:=Tryz.f35) (by rfl) rfl rfl rfl (by rfl) ?_;simp -dsimp -implicitDefEqProofs only[go_sem,af,aD,e1,e2];refine an (bX 0 (by decide)) ?_;simp -dsimp -implicitDefEqProofs only[go_sem]
structure ResH (a b:KP) (k:Nat) (x:KP×KP):Prop where
 re:Fn Tryz.prog 82 [ku x.1,ku x.2] [ku (Alg.re x.1 x.2)]
 s1:Alg.sz x.1<=60
 s2:Alg.sz x.2<=60
 lw:FW (lc x.2)
 ow:FW (lI a b k)
 pw:FW (Alg.pw (lc x.2) (Alg.sz x.1-Alg.sz (Alg.re x.1 x.2)))
 mw:FW (lI a b k*Alg.pw (lc x.2) (Alg.sz x.1-Alg.sz (Alg.re x.1 x.2)))
 ew:Alg.sz x.2=1->FW (Alg.pw (lc x.2) (Alg.sz x.1-1))/\FW (lI a b k*Alg.pw (lc x.2) (Alg.sz x.1-1))
noncomputable def Es (a b:KP) (m:Nat) (x:KP×KP):KQ:=if Alg.sz x.2=1 then lI a b m*Alg.pw (lc x.2) (Alg.sz x.1-1)else 0
theorem Lr {a b:KP} {m:Nat} {z:KP×KP} (ha:a≠0) (hb:b≠0) (hs:Alg.sz a<=60) (hs':Alg.sz b<=60) (hm:(eu a b).length=m+1) (hz:(eu a b)[m]?=some z) (H:∀ k x,(eu a b)[k]?=some x->ResH a b k x):Fn Tryz.prog 35 [ku a,ku b] [iK (Es a b m z)]:=by
 have e1:decide ((Alg.sz a:Int)=0)=false:=aj (by have:=az ha;omega);have e2:decide ((Alg.sz b:Int)=0)=false:=aj (by have:=az hb;omega);refine nA (fn:=Tryz.f35) (by rfl) rfl rfl rfl (by rfl) (by simp) (by rfl) ?_;refine WPn.seq_k kd fun K hK _=>?_;simp -dsimp -implicitDefEqProofs only[go_sem];refine hK _ ?_;refine WPn.seq_k kd fun K hK _=>?_;simp -dsimp -implicitDefEqProofs only[go_sem,af,aD,e1,e2];refine hK _ ?_;refine WPn.seq_k kd fun K hK _=>?_;simp -dsimp -implicitDefEqProofs only[go_sem];refine an (bX 1 (by decide)) ?_;simp -dsimp -implicitDefEqProofs only[go_sem];refine hK _ ?_;refine WPn.seq_k kd fun K hK _=>?_;simp -dsimp -implicitDefEqProofs only[go_sem,af,aD]
 repeat(refine And.intro (by omega) ?_)
 refine hK _ ?_;refine WPn.seq_k kd fun K hK _=>?_;simp -dsimp -implicitDefEqProofs only[go_sem];refine hK _ ?_;refine WPn.seq ?_;refine WPn.seq_k kd fun K hK _=>?_;simp -dsimp -implicitDefEqProofs only[go_sem];refine ns [1000,1001] rfl rfl rfl (pt (kc a) (kc b)) (by simp) rfl ?_;rw[y7 _ _ _ _ _ (by decide)];simp -dsimp -implicitDefEqProofs only[go_sem];refine hK _ (WPn.block (WPn.rangeFunc (ts:=[(1000,1),(1001,1)]) [5,6,7] (fun k cs=>k<=m/\∃ d l,cs=[kr (lI a b k),[C.v (.int .i64 d)],[l]])
  (fun e cs=>e = .exit 0/\cs=[kr (lI a b m),[C.v (.int .i64 ((Alg.sz z.1:Int)-1))],[kc z.2]]) (by simp -dsimp -implicitDefEqProofs only[go_sem]) (by simp -dsimp -implicitDefEqProofs only[go_sem]) (by simp) (by simp -dsimp -implicitDefEqProofs only[go_sem]) (nK a b fun x hx=>by
   obtain⟨k,hk,e⟩:=List.getElem_of_mem hx;exact(H k x (by rw[ah hk,e])).re) (by simp) (by simp -dsimp -implicitDefEqProofs only[go_sem];decide) ?_ ?_ ?_ ?_ ?_))
 ·refine⟨Nat.zero_le _,(Alg.sz a:Int)-1,.lst [],?_⟩;simp -dsimp -implicitDefEqProofs only[go_sem];rfl
 ·intro x hx;obtain⟨p,-,rfl⟩:=List.mem_map.1 hx;rfl
 ·rintro k x cs hx ⟨hkm,d,l,rfl⟩ -;obtain⟨y,hy,rfl⟩:=C1 hx;obtain⟨hy0,hy1,hy2⟩:=CZ _ a b (ae _) k y hy;have Hy:=H k y hy;have hs1:=Hy.s1;have hs2:=Hy.s2;generalize hst:bE _ _ _ _ _=s;obtain⟨τ,β,ε,π⟩:=s;have h27:τ 27 = .i (ku y.1):=by
   rw[qV hst];simp -dsimp -implicitDefEqProofs only[go_sem,bE,ir]
  have h28:τ 28 = .i (ku y.2):=by
   rw[qV hst];simp -dsimp -implicitDefEqProofs only[go_sem,bE,ir]
  have h5:τ 5 = .bp 5 1 0:=by
   rw[qV hst];simp -dsimp -implicitDefEqProofs only[go_sem,bE,ir];rw[nZ]<;>simp -dsimp -implicitDefEqProofs only[go_sem]
  have h6:τ 6 = .bp 6 1 0:=by
   rw[qV hst];simp -dsimp -implicitDefEqProofs only[go_sem,bE,ir];rw[nZ]<;>simp -dsimp -implicitDefEqProofs only[go_sem]
  have h7:τ 7 = .bp 7 1 0:=by
   rw[qV hst];simp -dsimp -implicitDefEqProofs only[go_sem,bE,ir];rw[nZ]<;>simp -dsimp -implicitDefEqProofs only[go_sem]
  have b5:β 5=⟨1,kr (lI a b k)⟩:=by
   rw[BO hst];simp -dsimp -implicitDefEqProofs only[go_sem,bE,dX]
  have b6:β 6=⟨1,[C.v (.int .i64 d)]⟩:=by
   rw[BO hst];simp -dsimp -implicitDefEqProofs only[go_sem,bE,dX]
  have b7:β 7=⟨1,[l]⟩:=by
   rw[BO hst];simp -dsimp -implicitDefEqProofs only[go_sem,bE,dX]
  clear hst;have sy:=az hy0;refine WP.end_k kd fun K hK=>?_;simp -dsimp -implicitDefEqProofs only[go_sem,h27,h28];refine hK _ _ ⟨rfl,?_⟩;refine WP.end_k kd fun K hK=>?_;simp -dsimp -implicitDefEqProofs only[go_sem,h27,h28,h5,h6,h7,b5,b6,b7,af,aD]
  repeat(refine And.intro (by omega) ?_)
  refine aa Hy.re rfl ?_;by_cases hr:Alg.re y.1 y.2=0
  ·have hl:=hy2 hr;obtain rfl:k=m:=by omega
   have hzy:y=z:=by rw[hy]at hz;exact Option.some.inj hz
   subst hzy;have er:decide (((0:Nat):Int)=0)=true:=rfl;rw[hr,f7];have key:∀ s:St,s.b 5=⟨1,kr (lI a b k)⟩->s.b 6=⟨1,[C.v (.int .i64 ((Alg.sz y.1:Int)-1))]⟩->s.b 7=⟨1,[kc y.2]⟩->K (.exit 0) s:=fun s q5 q6 q7=>by
    refine hK _ _ ⟨?_,rfl,?_⟩
    ·intro t ht;simp only[List.mem_cons,List.not_mem_nil,or_false]at ht;rcases ht with rfl|rfl|rfl
     ·rw[q5]
     ·rw[q6]
     ·rw[q7]
    ·simp only[List.map,q5,q6,q7]
   by_cases h1:Alg.sz y.2=1
   ·have e3:decide ((Alg.sz y.2:Int)=1)=true:=ai (by omega);simp -dsimp -implicitDefEqProofs only[go_sem,h27,h28,h5,h6,h7,b5,b6,b7,af,aD,e3];refine key _ ?_ ?_ ?_<;>simp -dsimp -implicitDefEqProofs only[go_sem,b5]
   ·have e3:decide ((Alg.sz y.2:Int)=1)=false:=aj (by omega);simp -dsimp -implicitDefEqProofs only[go_sem,h27,h28,h5,h6,h7,b5,b6,b7,af,aD,e3,er];refine key _ ?_ ?_ ?_<;>simp -dsimp -implicitDefEqProofs only[go_sem,b5]
  ·have hk1:k+1<=m:=by
    have:=(List.getElem?_eq_some_iff.1 (hy1 hr)).1;omega
   have sr:=az hr;have srl:=(qure (a:=y.1) hy0).2;have e3:decide ((Alg.sz y.2:Int)=1)=false:=aj fun h=>hr (jk (by omega));have e4:decide ((Alg.sz (Alg.re y.1 y.2):Int)=0)=false:=aj (by omega);have el:(Alg.sz y.2:Int)-1=((Alg.sz y.2-1:Nat):Int):=by omega
   have hlast:(Alg.cl y.2)[Alg.sz y.2-1]?=some (lc y.2):=by rw[ah (by rw[aD];omega),ft];rfl
   simp -dsimp -implicitDefEqProofs only[go_sem,h27,h28,h5,h6,h7,b5,b6,b7,af,aD,e3,e4];refine ao (by rfl) 14 [] false true (by rfl) (by rfl) (by decide +kernel) ?_;simp -dsimp -implicitDefEqProofs only[go_sem,h27,h28,h5,h6,h7,b5,b6,b7,af,aD,el]
   repeat(refine And.intro (by omega) ?_)
   refine av hlast ?_;have hsub:(Alg.sz y.1:Int)-(Alg.sz (Alg.re y.1 y.2):Int)=((Alg.sz y.1-Alg.sz (Alg.re y.1 y.2):Nat):Int):=by
    have:Alg.sz (Alg.re y.1 y.2)<=Alg.sz y.1:=by
     rcases Nat.lt_or_ge (Alg.sz y.1) (Alg.sz y.2)with h|h
     ·rw[(tM h).2];exact ae _
     ·omega
    omega
   simp -dsimp -implicitDefEqProofs only[go_sem,h27,h28,h5,h6,h7,b5,b6,b7,af,aD,el,hsub]
   repeat(refine And.intro (by omega) ?_)
   refine aa (vJ Hy.lw (by omega)) rfl ?_;simp -dsimp -implicitDefEqProofs only[go_sem];refine aa (jC gm Hy.ow Hy.pw Hy.mw) rfl ?_;simp -dsimp -implicitDefEqProofs only[go_sem,h27,h28,h5,h6,h7,b5,b6,b7,af,aD];have tm:∀ n:Nat,((n:Int).tmod 2)=((n % 2:Nat):Int):=fun n=>by rw[Int.tmod_eq_emod_of_nonneg (by omega)];omega
   have key:∀ s:St,s.b 5=⟨1,kr (lI a b (k+1))⟩->s.b 6=⟨1,[C.v (.int .i64 ((Alg.sz y.1:Int)-1))]⟩->s.b 7=⟨1,[kc y.2]⟩->K .normal s:=fun s q5 q6 q7=>by
    refine hK _ _ ⟨?_,hk1,(Alg.sz y.1:Int)-1,kc y.2,?_⟩
    ·intro t ht;simp only[List.mem_cons,List.not_mem_nil,or_false]at ht;rcases ht with rfl|rfl|rfl
     ·rw[q5]
     ·rw[q6]
     ·rw[q7]
    ·simp only[List.map,q5,q6,q7]
   rw[pZ hy]at key;refine⟨by decide,?_⟩;by_cases p1:Alg.sz y.1 % 2=0
   ·have d1:decide (((Alg.sz y.1:Int).tmod 2)=0)=true:=ai (by rw[tm,p1];rfl);by_cases p2:Alg.sz y.2 % 2=0
    ·have d2:decide (((Alg.sz y.2:Int).tmod 2)=0)=true:=ai (by rw[tm,p2];rfl);rw[sgR,if_pos ⟨p1,p2⟩]at key;simp -dsimp -implicitDefEqProofs only[go_sem,h27,h28,h5,h6,h7,b5,b6,b7,af,aD,d1,d2];refine⟨by decide,?_⟩;refine aa (Jb Hy.mw) rfl ?_;simp -dsimp -implicitDefEqProofs only[go_sem,h27,h28,h5,h6,h7,b5,b6,b7];refine key _ ?_ ?_ ?_<;>simp -dsimp -implicitDefEqProofs only[go_sem]
    ·have d2:decide (((Alg.sz y.2:Int).tmod 2)=0)=false:=aj (by rw[tm];omega);rw[sgR,if_neg (fun h=>p2 h.2)]at key;simp -dsimp -implicitDefEqProofs only[go_sem,h27,h28,h5,h6,h7,b5,b6,b7,af,aD,d1,d2];refine⟨by decide,?_⟩;refine key _ ?_ ?_ ?_<;>simp -dsimp -implicitDefEqProofs only[go_sem]
   ·have d1:decide (((Alg.sz y.1:Int).tmod 2)=0)=false:=aj (by rw[tm];omega);rw[sgR,if_neg (fun h=>p1 h.1)]at key;simp -dsimp -implicitDefEqProofs only[go_sem,h27,h28,h5,h6,h7,b5,b6,b7,af,aD,d1];refine key _ ?_ ?_ ?_<;>simp -dsimp -implicitDefEqProofs only[go_sem]
 ·rintro cs γs ⟨h,-⟩;rw[C0]at h;omega
 ·rintro e cs γs-⟨rfl,rfl⟩-hγ;obtain⟨g,g',rfl⟩:∃ g g',γs=[g,g']:=by
   match γs,hγ with
   | [g,g'],_=>exact⟨g,g',rfl⟩
  have hz0:=(CZ _ a b (ae _) m z hz).1;have sz0:=az hz0;have Hz:=H m z hz;have hz1:=Hz.s1;have hz2:=Hz.s2;show WPn _ _ _ _;refine WPn.end_k kd fun K hK=>?_;dsimp only[List.map,setB];by_cases h1:Alg.sz z.2=1
  ·have e3:decide ((1:Int)<(Alg.sz z.2:Int))=false:=aj (by omega);obtain⟨w1,w2⟩:=Hz.ew h1;have hg:(Alg.cl z.2)[0]?=some (lc z.2):=by
    rw[ah (by rw[aD];omega),ft];show some (z.2.c 0)=some (z.2.c (Alg.sz z.2-1));rw[h1]
   have eR:Es a b m z=lI a b m*Alg.pw (lc z.2) (Alg.sz z.1-1):=by unfold Es;rw[if_pos h1]
   have esz:(Alg.sz z.1:Int)-1=((Alg.sz z.1-1:Nat):Int)\/Alg.sz z.1=0:=by omega
   rcases esz with esz|esz
   ·simp -dsimp -implicitDefEqProofs only[go_sem,af,aD,e3];refine ao (by rfl) 7 [] false true (by rfl) (by rfl) (by decide +kernel) ?_;simp -dsimp -implicitDefEqProofs only[go_sem,af,aD,esz];refine⟨Int.le_refl _,av hg ?_⟩;simp -dsimp -implicitDefEqProofs only[go_sem,af,aD,esz];refine aa (vJ Hz.lw (by omega)) rfl ?_;simp -dsimp -implicitDefEqProofs only[go_sem];refine aa (jC gm Hz.ow w1 w2) rfl ?_;simp -dsimp -implicitDefEqProofs only[go_sem];refine hK _ _ ⟨.inr rfl,?_⟩;rw[eR];simp -dsimp -implicitDefEqProofs only[go_sem]
   ·exact absurd (ap.1 esz) (NG _ a b (ae _) ha m z hz)
  ·have e3:decide ((1:Int)<(Alg.sz z.2:Int))=true:=ai (by omega);have eR:Es a b m z=0:=by unfold Es;rw[if_neg h1]
   simp -dsimp -implicitDefEqProofs only[go_sem,af,aD,e3];refine an (bX 0 (by decide)) ?_;simp -dsimp -implicitDefEqProofs only[go_sem];refine hK _ _ ⟨.inr rfl,?_⟩;rw[eR,<-fe];simp -dsimp -implicitDefEqProofs only[go_sem]
theorem KS:Alg.cl (1:KP)=[1]:=cl_C (R:=KQ) one_ne
theorem CN:ku (1:KP)=kl [kn 1]:=by show kl (Alg.cl 1)=_;rw[KS,fp]
theorem Fy {a b c:KP} (hG:Fn Tryz.prog 24 [ku a,ku b] [ku (Alg.gd a b)]) (h:Alg.sz (Alg.gd a b)≠1):Fn Tryz.prog 28 [ku a,ku b,ku c] [ku 0,ku 0,iN 60]:=by
 have e1:decide ((Alg.sz (Alg.gd a b):Int)=1)=false:=aj (by omega);rw[f7];refine ak (fn:=Tryz.f28) (by rfl) rfl rfl rfl (by rfl) ?_;simp -dsimp -implicitDefEqProofs only[go_sem];refine aa hG rfl ?_;simp -dsimp -implicitDefEqProofs only[go_sem,af,aD,e1,Bool.not_false,Bool.not_true];rfl
theorem Oh {a b c:KP} (hG:Fn Tryz.prog 24 [ku a,ku b] [ku (Alg.gd a b)]) (h:Alg.sz (Alg.gd a b)=1) (hb:Alg.sz b=1) (hM:Fn Tryz.prog 14 [ku 0,ku a] [ku 0]) (hS:Fn Tryz.prog 50 [ku c,ku 0] [ku c]) (hQ:Fn Tryz.prog 81 [ku c,ku b] [ku (qu c b)]) :
  Fn Tryz.prog 28 [ku a,ku b,ku c] [ku 0,ku (qu c b),iN 0]:=by
 have e1:decide ((Alg.sz (Alg.gd a b):Int)=1)=true:=ai (by omega);have e2:decide ((Alg.sz b:Int)=0)=false:=aj (by omega);have e3:decide ((1:Int)<(Alg.sz b:Int))=false:=aj (by omega);rw[f7]at hM hS ⊢;refine ak (fn:=Tryz.f28) (by rfl) rfl rfl rfl (by rfl) ?_;simp -dsimp -implicitDefEqProofs only[go_sem];refine aa hG rfl ?_;simp -dsimp -implicitDefEqProofs only[go_sem,af,aD,e1,e2,e3,Bool.not_false,Bool.not_true];refine aa hM rfl ?_;simp -dsimp -implicitDefEqProofs only[go_sem];refine aa hS rfl ?_;simp -dsimp -implicitDefEqProofs only[go_sem];refine aa hQ rfl ?_;simp -dsimp -implicitDefEqProofs only[go_sem];rfl
theorem B2 {a b c s t:KP} (hG:Fn Tryz.prog 24 [ku a,ku b] [ku (Alg.gd a b)]) (h:Alg.sz (Alg.gd a b)=1) (hb:Alg.sz b=2) (hr:Alg.sz (Alg.re a b)=1) (hR:Fn Tryz.prog 82 [ku a,ku b] [ku (Alg.re a b)])
  (hq1:Fn Tryz.prog 81 [ku 1,ku (Alg.re a b)] [ku (qu 1 (Alg.re a b))]) (hm:Fn Tryz.prog 14 [ku c,ku (qu 1 (Alg.re a b))] [ku (c*qu 1 (Alg.re a b))]) (hr2:Fn Tryz.prog 82 [ku (c*qu 1 (Alg.re a b)),ku b] [ku s])
  (hm2:Fn Tryz.prog 14 [ku s,ku a] [ku (s*a)]) (hs:Fn Tryz.prog 50 [ku c,ku (s*a)] [ku (c-s*a)]) (hq:Fn Tryz.prog 81 [ku (c-s*a),ku b] [ku t]):Fn Tryz.prog 28 [ku a,ku b,ku c] [ku s,ku t,iN 0]:=by
 have e1:decide ((Alg.sz (Alg.gd a b):Int)=1)=true:=ai (by omega);have e2:decide ((Alg.sz b:Int)=0)=false:=aj (by omega);have e3:decide ((1:Int)<(Alg.sz b:Int))=true:=ai (by omega);have e4:decide ((1:Int)<(Alg.sz (Alg.re a b):Int))=false:=aj (by omega);rw[CN]at hq1;refine ak (fn:=Tryz.f28) (by rfl) rfl rfl rfl (by rfl) ?_;simp -dsimp -implicitDefEqProofs only[go_sem];refine aa hG rfl ?_;simp -dsimp -implicitDefEqProofs only[go_sem,af,aD,e1,e2,e3,Bool.not_false,Bool.not_true];refine aa hR rfl ?_;simp -dsimp -implicitDefEqProofs only[go_sem];refine an (bX 1 (by decide)) ?_;simp -dsimp -implicitDefEqProofs only[go_sem];refine aJ [(10,14),(35,52)] [] [] (fun m τ β ε=>m=0/\τ 10 = .i (ku (Alg.re a b))/\τ 11 = .fl [kr (kn 1)]) (fun e τ β ε=>e = .exit 0/\τ 10 = .i (ku (Alg.re a b))/\τ 11 = .fl [kr (kn 1)]) 0 ?_ ?_ ?_
 ·exact⟨rfl,rfl,rfl⟩
 ·rintro m τ β ε π hK hKB hKE ⟨rfl,h10,h11⟩;simp -dsimp -implicitDefEqProofs only[go_sem,h10,h11,af,aD,e4];exact⟨(by(repeat apply am rfl);exact hK),hKB,hKE⟩
 ·rintro e τ β ε π hK hKB hKE ⟨rfl,h10,h11⟩;have k0:τ 0 = .i (ku a):=(hK 0 rfl).trans rfl;have k1:τ 1 = .i (ku b):=(hK 1 rfl).trans rfl;have k2:τ 2 = .i (ku c):=(hK 2 rfl).trans rfl;simp -dsimp -implicitDefEqProofs only[go_sem,h10,h11,k0,k1,k2];refine aa hq1 rfl ?_;simp -dsimp -implicitDefEqProofs only[go_sem,k0,k1,k2];refine aa hm rfl ?_;simp -dsimp -implicitDefEqProofs only[go_sem,k0,k1,k2];refine aa hr2 rfl ?_;simp -dsimp -implicitDefEqProofs only[go_sem,k0,k1,k2];refine aa hm2 rfl ?_;simp -dsimp -implicitDefEqProofs only[go_sem,k0,k1,k2];refine aa hs rfl ?_;simp -dsimp -implicitDefEqProofs only[go_sem,k0,k1,k2];refine aa hq rfl ?_;simp -dsimp -implicitDefEqProofs only[go_sem]
noncomputable def sqr (x:KP×Nat):List C:=[kc x.1,C.v (.int .i64 (x.2:Int))]
inductive SqR:Nat->Nat->KP->KP->List (KP×Nat)->Prop
 | stop {n:Nat} {b c:KP} (h:Alg.sz b<=1):SqR 0 n b c []
 | step {m n:Nat} {b c:KP} {out:List (KP×Nat)} (h:1<Alg.sz b) (h1:Fn Tryz.prog 17 [ku b] [ku (der b)]) (h2:Fn Tryz.prog 50 [ku c,ku (der b)] [ku (c-der b)])
   (h3:Fn Tryz.prog 24 [ku b,ku (c-der b)] [ku (Alg.gd b (c-der b))]) (h4:Fn Tryz.prog 81 [ku b,ku (Alg.gd b (c-der b))] [ku (qu b (Alg.gd b (c-der b)))])
   (h5:Fn Tryz.prog 81 [ku (c-der b),ku (Alg.gd b (c-der b))] [ku (qu (c-der b) (Alg.gd b (c-der b)))]) (h6:SqR m (n+1) (qu b (Alg.gd b (c-der b))) (qu (c-der b) (Alg.gd b (c-der b))) out) :
   SqR (m+1) n b c ((if 1<Alg.sz (Alg.gd b (c-der b))then[(Alg.gd b (c-der b),n)]else[])++out)
theorem B1 {a:KP} {m:Nat} {out:List (KP×Nat)} (h:2<=Alg.sz a) (hm:m<=1000) (hM:Fn Tryz.prog 53 [ku a] [ku (mn a)]) (hD:Fn Tryz.prog 17 [ku (mn a)] [ku (der (mn a))])
  (hG:Fn Tryz.prog 24 [ku (mn a),ku (der (mn a))] [ku (Alg.gd (mn a) (der (mn a)))]) (hq:Fn Tryz.prog 81 [ku (mn a),ku (Alg.gd (mn a) (der (mn a)))] [ku (qu (mn a) (Alg.gd (mn a) (der (mn a))))])
  (hq2:Fn Tryz.prog 81 [ku (der (mn a)),ku (Alg.gd (mn a) (der (mn a)))] [ku (qu (der (mn a)) (Alg.gd (mn a) (der (mn a))))])
  (hR:SqR m 1 (qu (mn a) (Alg.gd (mn a) (der (mn a)))) (qu (der (mn a)) (Alg.gd (mn a) (der (mn a)))) out):Fn Tryz.prog 31 [ku a] [.c (.lst (out.map sqr))]:=by
 have e1:decide ((Alg.sz a:Int)<2)=false:=aj (by omega);refine ak (fn:=Tryz.f31) (by rfl) rfl rfl rfl (by rfl) ?_;simp -dsimp -implicitDefEqProofs only[go_sem,af,aD,e1];refine aa hM rfl ?_;simp -dsimp -implicitDefEqProofs only[go_sem];refine aa hD rfl ?_;simp -dsimp -implicitDefEqProofs only[go_sem];refine aa hG rfl ?_;simp -dsimp -implicitDefEqProofs only[go_sem];refine aa hq rfl ?_;simp -dsimp -implicitDefEqProofs only[go_sem];refine aa hD rfl ?_;simp -dsimp -implicitDefEqProofs only[go_sem];refine aa hq2 rfl ?_;simp -dsimp -implicitDefEqProofs only[go_sem];refine bL 6 6 2 (rs:=[]) rfl (by simp) ?_;refine aS [(4,9),(26,52)] [] [(46,46),(6,6)] (fun k τ β ε=>∃(n:Nat) (b c:KP) (o1 o2:List (KP×Nat)),n+k=1+m/\o1.length+1<=n/\SqR k n b c o2/\out=o1++o2/\τ 4 = .i (ku b)/\τ 5 = .i (ku c)/\τ 7 = .i (iN n)/\Own 2 (o1.map sqr) 6 6 τ ε)
  (fun e τ β ε=>e = .exit 0/\Own 2 (out.map sqr) 6 6 τ ε) m ?_ ?_ ?_
 ·exact⟨1,_,_,[],out,by omega,by simp,hR,rfl,rfl,rfl,rfl,Own.mk (g:=1) (mm:=false) (len:=0) (by omega) rfl rfl rfl⟩
 ·rintro k τ β ε π hK hKB hKE ⟨n,b,c,o1,o2,hn,ho1,hS,rfl,h4,h5,h7,g,mm,hg,h6,hrow⟩;cases hS with
  | stop hb =>
   have e2:decide ((1:Int)<(Alg.sz b:Int))=false:=aj (by omega);simp only[List.append_nil];simp -dsimp -implicitDefEqProofs only[go_sem,h4,af,aD,e2];exact⟨(by(repeat apply am rfl);exact hK),hKB,hKE,Own.mk hg h6 rfl hrow⟩
  | @step k' _ _ _ o3 hb c1 c2 c3 c4 c5 hS' =>
   have e2:decide ((1:Int)<(Alg.sz b:Int))=true:=ai (by omega);simp -dsimp -implicitDefEqProofs only[go_sem,h4,h5,h7,af,aD,e2];refine aa c1 rfl ?_;simp -dsimp -implicitDefEqProofs only[go_sem,h4,h5,h7];refine aa c2 rfl ?_;simp -dsimp -implicitDefEqProofs only[go_sem,h4,h5,h7];refine aa c3 rfl ?_;by_cases hf:1<Alg.sz (Alg.gd b (c-der b))
   ·have e3:decide ((1:Int)<(Alg.sz (Alg.gd b (c-der b)):Int))=true:=ai (by omega);simp -dsimp -implicitDefEqProofs only[go_sem,h4,h5,h6,h7,hrow,hg,af,aD,e3]
    repeat(refine And.intro (by omega) ?_)
    refine aa c4 rfl ?_;simp -dsimp -implicitDefEqProofs only[go_sem,h4,h5,h7];refine aa c5 rfl ?_;simp -dsimp -implicitDefEqProofs only[go_sem,h4,h5,h7]
    repeat(refine And.intro (by omega) ?_)
    refine aH k' 6 46 6 (by omega) rfl rfl (by omega) (by decide) ⟨(by(repeat apply am rfl);exact hK),hKB,(by(repeat apply am rfl);exact hKE),n+1,_,_,o1++[(Alg.gd b (c-der b),n)],o3,by omega,by simp;omega,hS',?_,rfl,rfl,rfl,?_⟩
    ·rw[if_pos hf,List.append_assoc]
    ·exact Own.mk2 (Nat.succ_pos _) (by simp -dsimp -implicitDefEqProofs only[go_sem];rfl) (by simp -dsimp -implicitDefEqProofs only[go_sem];rfl) (by simp) (by simp;rfl)
   ·have e3:decide ((1:Int)<(Alg.sz (Alg.gd b (c-der b)):Int))=false:=aj (by omega);simp -dsimp -implicitDefEqProofs only[go_sem,h4,h5,h6,h7,af,aD,e3];refine aa c4 rfl ?_;simp -dsimp -implicitDefEqProofs only[go_sem,h4,h5,h7];refine aa c5 rfl ?_;simp -dsimp -implicitDefEqProofs only[go_sem,h4,h5,h7]
    repeat(refine And.intro (by omega) ?_)
    refine again k' (by omega) ⟨(by(repeat apply am rfl);exact hK),hKB,hKE,n+1,_,_,o1,o3,by omega,by omega,hS',?_,rfl,rfl,rfl,Own.mk hg (by simp -dsimp -implicitDefEqProofs only[go_sem,h6]) rfl hrow⟩
    rw[if_neg hf];rfl
 ·rintro e τ β ε π hK hKB hKE ⟨rfl,g,mm,hg,h6,hrow⟩;refine⟨_,aY.refl _,?_⟩;simp -dsimp -implicitDefEqProofs only[go_sem,h6,hrow,hg]
end Go.AM
namespace Go.AM
open Go.Proofs
theorem fT (e:Ex):Fn Tryz.prog 125 [iE e] [iB (decide (cr e))]:=by
 refine ak (fn:=Tryz.f125) (by rfl) rfl rfl rfl (by rfl) ?_;by_cases h0:0<=e.a
 ·by_cases h1:0<=e.b
  ·by_cases h2:0<=e.c
   ·by_cases h3:0<=e.d
    ·simp -dsimp -implicitDefEqProofs only[go_sem,Int.reduceToNat,Int.reduceLE,ag,h0,h1,h2,h3];rw[ai (show cr e from⟨h0,h1,h2,h3⟩)]
    ·simp -dsimp -implicitDefEqProofs only[go_sem,Int.reduceToNat,Int.reduceLE,ag,h0,h1,h2,h3];rw[aj (show¬ cr e from fun h=>h3 h.2.2.2)]
   ·simp -dsimp -implicitDefEqProofs only[go_sem,Int.reduceToNat,Int.reduceLE,ag,h0,h1,h2];rw[aj (show¬ cr e from fun h=>h2 h.2.2.1)]
  ·simp -dsimp -implicitDefEqProofs only[go_sem,Int.reduceToNat,Int.reduceLE,ag,h0,h1];rw[aj (show¬ cr e from fun h=>h1 h.2.1)]
 ·simp -dsimp -implicitDefEqProofs only[go_sem,Int.reduceToNat,Int.reduceLE,ag,h0];rw[aj (show¬ cr e from fun h=>h0 h.1)]
theorem jU (e f:Ex):Fn Tryz.prog 100 [iE e,iE f] [iB (decide (0<bO e f))]:=by
 refine ak (fn:=Tryz.f100) (by rfl) rfl rfl rfl (by rfl) ?_;simp -dsimp -implicitDefEqProofs only[go_sem];refine aJ [(4,23)] [] [] (fun n τ β ε=>∃ i:Int,n=(i+1).toNat /\ -1<=i/\i<=3/\(i<3->e.d=f.d)/\(i<2->e.c=f.c)/\(i<1->e.b=f.b)/\(i<0->e.a=f.a)/\τ 5 = .i (iN i))
  (fun x τ β ε=>(x = .exit 0/\e=f)\/(x = .ret/\τ 4 = .i (iB (decide (0<bO e f))))) 4 ?_ ?_ ?_
 ·exact⟨3,by omega,by omega,by omega,by omega,by omega,by omega,by omega,rfl⟩
 ·rintro n τ β ε π hK hKB hKE ⟨i,hn,hi0,hi,hd,hc,hb,ha,h5⟩;have k2:τ 2 = .bp 2 1 0:=(hK 2 rfl).trans rfl;have k3:τ 3 = .bp 3 1 0:=(hK 3 rfl).trans rfl;have b2:β 2=⟨1,e.cs⟩:=(hKB 2 rfl).trans rfl;have b3:β 3=⟨1,f.cs⟩:=(hKB 3 rfl).trans rfl;obtain rfl|rfl|rfl|rfl|rfl:i=3\/i=2\/i=1\/i=0\/i = -1:=by omega
  ·simp -dsimp -implicitDefEqProofs only[go_sem,h5,Int.reduceLE,decide_true,decide_false];refine ao (by rfl) 7 [] false true (by rfl) (by rfl) (by decide +kernel) ?_;simp -dsimp -implicitDefEqProofs only[go_sem,Int.reduceToNat,Int.reduceLE,ag,h5,k2,k3,b2,b3];by_cases hx:e.d=f.d
   ·have e1:decide (e.d=f.d)=true:=ai hx;simp -dsimp -implicitDefEqProofs only[go_sem,Int.reduceToNat,Int.reduceLE,ag,e1,h5]
    repeat(refine And.intro (by omega) ?_)
    exact again 3 (by omega) ⟨(by(repeat apply am rfl);exact hK),hKB,hKE,2,rfl,by omega,by omega,by omega,by omega,by omega,by omega,rfl⟩
   ·have e1:decide (e.d=f.d)=false:=aj hx;simp -dsimp -implicitDefEqProofs only[go_sem,Int.reduceToNat,Int.reduceLE,ag,e1];refine ao (by rfl) 8 [] false true (by rfl) (by rfl) (by decide +kernel) ?_;simp -dsimp -implicitDefEqProofs only[go_sem,Int.reduceToNat,Int.reduceLE,ag,h5,k2,k3,b2,b3];refine⟨(by(repeat apply am rfl);exact hK),hKB,hKE,?_⟩
    have e2:decide (f.d<e.d)=decide (0<bO e f):=by rw[decide_eq_decide,hZ];omega
    rw[e2]
  ·simp -dsimp -implicitDefEqProofs only[go_sem,h5,Int.reduceLE,decide_true,decide_false];refine ao (by rfl) 7 [] false true (by rfl) (by rfl) (by decide +kernel) ?_;simp -dsimp -implicitDefEqProofs only[go_sem,Int.reduceToNat,Int.reduceLE,ag,h5,k2,k3,b2,b3];by_cases hx:e.c=f.c
   ·have e1:decide (e.c=f.c)=true:=ai hx;simp -dsimp -implicitDefEqProofs only[go_sem,Int.reduceToNat,Int.reduceLE,ag,e1,h5]
    repeat(refine And.intro (by omega) ?_)
    exact again 2 (by omega) ⟨(by(repeat apply am rfl);exact hK),hKB,hKE,1,rfl,by omega,by omega,by omega,by omega,by omega,by omega,rfl⟩
   ·have e1:decide (e.c=f.c)=false:=aj hx;simp -dsimp -implicitDefEqProofs only[go_sem,Int.reduceToNat,Int.reduceLE,ag,e1];refine ao (by rfl) 8 [] false true (by rfl) (by rfl) (by decide +kernel) ?_;simp -dsimp -implicitDefEqProofs only[go_sem,Int.reduceToNat,Int.reduceLE,ag,h5,k2,k3,b2,b3];refine⟨(by(repeat apply am rfl);exact hK),hKB,hKE,?_⟩
    have e2:decide (f.c<e.c)=decide (0<bO e f):=by rw[decide_eq_decide,hZ];omega
    rw[e2]
  ·simp -dsimp -implicitDefEqProofs only[go_sem,h5,Int.reduceLE,decide_true,decide_false];refine ao (by rfl) 7 [] false true (by rfl) (by rfl) (by decide +kernel) ?_;simp -dsimp -implicitDefEqProofs only[go_sem,Int.reduceToNat,Int.reduceLE,ag,h5,k2,k3,b2,b3];by_cases hx:e.b=f.b
   ·have e1:decide (e.b=f.b)=true:=ai hx;simp -dsimp -implicitDefEqProofs only[go_sem,Int.reduceToNat,Int.reduceLE,ag,e1,h5]
    repeat(refine And.intro (by omega) ?_)
    exact again 1 (by omega) ⟨(by(repeat apply am rfl);exact hK),hKB,hKE,0,rfl,by omega,by omega,by omega,by omega,by omega,by omega,rfl⟩
   ·have e1:decide (e.b=f.b)=false:=aj hx;simp -dsimp -implicitDefEqProofs only[go_sem,Int.reduceToNat,Int.reduceLE,ag,e1];refine ao (by rfl) 8 [] false true (by rfl) (by rfl) (by decide +kernel) ?_;simp -dsimp -implicitDefEqProofs only[go_sem,Int.reduceToNat,Int.reduceLE,ag,h5,k2,k3,b2,b3];refine⟨(by(repeat apply am rfl);exact hK),hKB,hKE,?_⟩
    have e2:decide (f.b<e.b)=decide (0<bO e f):=by rw[decide_eq_decide,hZ];omega
    rw[e2]
  ·simp -dsimp -implicitDefEqProofs only[go_sem,h5,Int.reduceLE,decide_true,decide_false];refine ao (by rfl) 7 [] false true (by rfl) (by rfl) (by decide +kernel) ?_;simp -dsimp -implicitDefEqProofs only[go_sem,Int.reduceToNat,Int.reduceLE,ag,h5,k2,k3,b2,b3];by_cases hx:e.a=f.a
   ·have e1:decide (e.a=f.a)=true:=ai hx;simp -dsimp -implicitDefEqProofs only[go_sem,Int.reduceToNat,Int.reduceLE,ag,e1,h5]
    repeat(refine And.intro (by omega) ?_)
    exact again 0 (by omega) ⟨(by(repeat apply am rfl);exact hK),hKB,hKE,-1,rfl,by omega,by omega,by omega,by omega,by omega,by omega,rfl⟩
   ·have e1:decide (e.a=f.a)=false:=aj hx;simp -dsimp -implicitDefEqProofs only[go_sem,Int.reduceToNat,Int.reduceLE,ag,e1];refine ao (by rfl) 8 [] false true (by rfl) (by rfl) (by decide +kernel) ?_;simp -dsimp -implicitDefEqProofs only[go_sem,Int.reduceToNat,Int.reduceLE,ag,h5,k2,k3,b2,b3];refine⟨(by(repeat apply am rfl);exact hK),hKB,hKE,?_⟩
    have e2:decide (f.a<e.a)=decide (0<bO e f):=by rw[decide_eq_decide,hZ];omega
    rw[e2]
  ·simp -dsimp -implicitDefEqProofs only[go_sem,h5,Int.reduceLE,decide_true,decide_false];refine⟨(by(repeat apply am rfl);exact hK),hKB,hKE,?_⟩
   cases e;cases f;simp only[Ex.mk.injEq];exact⟨ha (by omega),hb (by omega),hc (by omega),hd (by omega)⟩
 ·rintro x τ β ε π hK hKB hKE h;rcases h with⟨rfl,rfl⟩|⟨rfl,h⟩
  ·simp -dsimp -implicitDefEqProofs only[go_sem];rw[aj (by rw[(i9 e e).2 rfl];omega)]
  ·simp -dsimp -implicitDefEqProofs only[go_sem,h]
theorem F0 {x y:Operand} {e f:Ex} {K:Value->Prop} (h:K (.bool (!decide (e=f)))):d7 Tryz.prog .neq 100 x y (.agg #[.int .i64 e.a,.int .i64 e.b,.int .i64 e.c,.int .i64 e.d]) (.agg #[.int .i64 f.a,.int .i64 f.b,.int .i64 f.c,.int .i64 f.d]) K:=by
 refine⟨.bool (!decide (e=f)),fun w=>?_,rfl,h⟩;have h1:(eqGuard .neq 100 x y e.v f.v).run Tryz.prog w = .ok () w:=by rfl
 have h2:(binOp .neq 100 e.v f.v).run Tryz.prog w = .ok (.bool (!decide (e=f))) w:=by
  show(do pure (.bool (!(← Op.equal 100 e.v f.v))):Sem Value).run Tryz.prog w=_
  rw[Sem.run_bind,mt.eq e f w];rfl
 show(do eqGuard .neq 100 x y e.v f.v;binOp .neq 100 e.v f.v:Sem Value).run Tryz.prog w=_
 rw[Sem.run_bind,h1,Result.andThen_ok,h2]
theorem qq (a b:List Tm) (hl:a.length<=1099511627776) (hx:∀ t∈a,QB 17179869184 t.2) (hy:∀ t∈b,QB 17179869184 t.2):Fn Tryz.prog 93 [iM a,iM b] [iB (decide (a=b))]:=by
 refine ak (fn:=Tryz.f93) (by rfl) rfl rfl rfl (by rfl) ?_;by_cases hab:a.length=b.length
 ·have e1:decide ((a.length:Int)=(b.length:Int))=true:=ai (by omega);simp -dsimp -implicitDefEqProofs only[go_sem,e1,af];refine aJ [(4,5),(11,41)] [] [] (fun n τ β ε=>∃ i:Nat,n=a.length-i/\i<=a.length/\a.take i=b.take i/\τ 5 = .i (iN i))
   (fun e τ β ε=>(e = .exit 0/\a=b)\/(e = .ret/\¬ a=b/\τ 4 = .i (.c (.v (.bool false))))) a.length ?_ ?_ ?_
  ·exact⟨0,by omega,by omega,rfl,rfl⟩
  ·rintro n τ β ε π hK hKB hKE ⟨i,hn,hi,he,h5⟩;have k0:τ 0 = .i (iM a):=(hK 0 rfl).trans rfl;have k1:τ 1 = .i (iM b):=(hK 1 rfl).trans rfl;by_cases hlt:i<a.length
   ·have hA:(i:Int)<(a.length:Int):=by omega
    have hlb:i<b.length:=by omega
    have ga:a[i]?=some a[i]:=by simp[hlt]
    have gb:b[i]?=some b[i]:=by simp[hlb]
    simp -dsimp -implicitDefEqProofs only[go_sem,h5,k0,k1,hA,af];refine ao (by rfl) 25 [] false true (by rfl) (by rfl) (by decide +kernel) ?_;simp -dsimp -implicitDefEqProofs only[go_sem,h5,k0,k1];refine av ga ?_;simp -dsimp -implicitDefEqProofs only[go_sem,h5,k0,k1,Int.reduceToNat,Int.reduceLE,ag];refine av gb ?_;simp -dsimp -implicitDefEqProofs only[go_sem,h5,k0,k1,Int.reduceToNat,Int.reduceLE,ag];refine F0 ?_;by_cases hex:a[i].1=b[i].1
    ·have e2:decide (a[i].1=b[i].1)=true:=ai hex;simp -dsimp -implicitDefEqProofs only[go_sem,e2];refine av ga ?_;simp -dsimp -implicitDefEqProofs only[go_sem,h5,k0,k1,Int.reduceToNat,Int.reduceLE,ag];refine av gb ?_;simp -dsimp -implicitDefEqProofs only[go_sem,h5,k0,k1,Int.reduceToNat,Int.reduceLE,ag];refine ar (args':=[iQ a[i].2,iQ b[i].2]) rfl (Fx _ _ (hx _ (List.getElem_mem _)) (hy _ (List.getElem_mem _))) ?_;by_cases hc:a[i].2=b[i].2
     ·simp -dsimp -implicitDefEqProofs only[go_sem,hc,h5]
      repeat(refine And.intro (by omega) ?_)
      refine again (a.length-(i+1)) (by omega) ⟨(by(repeat apply am rfl);exact hK),hKB,hKE,i+1,rfl,by omega,?_,rfl⟩
      rw[ab hlt,ab hlb,he,show a[i]=b[i]from Prod.ext hex hc]
     ·simp -dsimp -implicitDefEqProofs only[go_sem,hc];exact⟨(by(repeat apply am rfl);exact hK),hKB,hKE,fun e=>hc (by simp[e])⟩
    ·have e2:decide (a[i].1=b[i].1)=false:=aj hex;simp -dsimp -implicitDefEqProofs only[go_sem,e2];exact⟨(by(repeat apply am rfl);exact hK),hKB,hKE,fun e=>hex (by simp[e])⟩
   ·have hA:¬ (i:Int)<(a.length:Int):=by omega
    obtain rfl:i=a.length:=by omega
    simp -dsimp -implicitDefEqProofs only[go_sem,h5,k0,hA,af];have:a=b:=by rw[List.take_length,List.take_of_length_le (by omega)]at he;exact he
    exact⟨(by(repeat apply am rfl);exact hK),hKB,hKE,this⟩
  ·rintro e τ β ε π hK hKB hKE h;rcases h with⟨rfl,h⟩|⟨rfl,h,h6⟩
   ·simp -dsimp -implicitDefEqProofs only[go_sem,h]
   ·simp -dsimp -implicitDefEqProofs only[go_sem,h,h6]
 ·have e1:decide ((a.length:Int)=(b.length:Int))=false:=aj (by omega);simp -dsimp -implicitDefEqProofs only[go_sem,e1,af];have:¬ a=b:=fun e=>hab (by rw[e]);rw[aj this]
theorem tK {α:Type} {l:List α} {i:Nat} (h:i<l.length):l.drop i=l[i]::l.drop (i+1):=by rw[List.drop_eq_getElem_cons h]
set_option maxHeartbeats 1000000 in
theorem px (a b:List Tm) (hl:a.length+b.length<=1099511627776) (ha:∀ t∈a,QB 8589934592 t.2) (hb:∀ t∈b,QB 8589934592 t.2):Fn Tryz.prog 56 [iM a,iM b] [iM (fM a b)]:=by
 refine ak (fn:=Tryz.f56) (by rfl) rfl rfl rfl (by rfl) ?_;simp -dsimp -implicitDefEqProofs only[go_sem];refine bL 5 9 8 (rs:=[]) rfl (by simp) ?_;refine aS [(5,8),(10,105)] [(8,8)] [(9,9),(49,49),(75,75),(101,101)] (fun n τ β ε=>∃(out:List Tm) (i k:Nat),n=(a.length-i)+(b.length-k)/\i<=a.length/\k<=b.length/\fM a b=out++fM (a.drop i) (b.drop k)/\out.length<=i+k /\
   τ 6 = .i (iN i)/\τ 7 = .i (iN k)/\Own 8 (out.map eT) 5 9 τ ε)
  (fun e τ β ε=>e = .exit 0/\Own 8 ((fM a b).map eT) 5 9 τ ε) (a.length+b.length) ?_ ?_ ?_
 ·exact⟨[],0,0,by omega,by omega,by omega,by simp,by simp,rfl,rfl,Own.mk (g:=1) (mm:=false) (by omega) rfl rfl rfl⟩
 ·rintro n τ β ε π hK hKB hKE ⟨out,i,k,hn,hi,hk,he,hlen,h6,h7,g,mm,hg,h5,h9⟩;have h5':τ 5 = .sl 9 g out.length:=by rw[h5,af]
  have k0:τ 0 = .i (iM a):=(hK 0 rfl).trans rfl;have k1:τ 1 = .i (iM b):=(hK 1 rfl).trans rfl;by_cases hA:i<a.length
  ·have dA:decide ((i:Int)<(a.length:Int))=true:=ai (by omega);have dA':decide ((i:Int)=(a.length:Int))=false:=aj (by omega);have ga:a[i]?=some a[i]:=by simp[hA]
   have tA:=tK hA;by_cases hB:k<b.length
   ·have dB:decide ((k:Int)=(b.length:Int))=false:=aj (by omega);have gb:b[k]?=some b[k]:=by simp[hB]
    have tB:=tK hB;rw[tA,tB,jc]at he;simp -dsimp -implicitDefEqProofs only[go_sem,h6,h7,k0,k1,dA,dB,af];refine ao (by rfl) 23 [] false true (by rfl) (by rfl) (by decide +kernel) ?_;simp -dsimp -implicitDefEqProofs only[go_sem,h6,h7,k0,k1,dA,dB,af,Int.reduceToNat,Int.reduceLE,ag];refine av ga ?_;simp -dsimp -implicitDefEqProofs only[go_sem,h6,h7,k0,k1,dA,dB,af,Int.reduceToNat,Int.reduceLE,ag];refine av gb ?_;simp -dsimp -implicitDefEqProofs only[go_sem,h6,h7,k0,k1,dA,dB,af,Int.reduceToNat,Int.reduceLE,ag];refine ar (args':=[iE a[i].1,iE b[k].1]) rfl (jU _ _) ?_;by_cases c1:0<bO a[i].1 b[k].1
    ·rw[if_pos c1,<-tB]at he;have e1:decide (0<bO a[i].1 b[k].1)=true:=ai c1;simp -dsimp -implicitDefEqProofs only[go_sem,e1,h5',h9,hg,h6,h7,k0,k1,Int.reduceToNat,Int.reduceLE,ag];refine av ga ?_;simp -dsimp -implicitDefEqProofs only[go_sem,e1,h5',h9,hg,h6,h7,k0,k1,Int.reduceToNat,Int.reduceLE,ag]
     repeat(refine And.intro (by omega) ?_)
     refine aH ((a.length-(i+1))+(b.length-k)) 5 49 9 (by omega) rfl rfl (by omega) (by decide) ⟨(by(repeat apply am rfl);exact hK),hKB,(by(repeat apply am rfl);exact hKE),out++[a[i]],i+1,k,rfl,by omega,hk,?_,by simp;omega,rfl,h7,?_⟩
     ·rw[he,List.append_assoc];rfl
     ·exact Own.mk2 (Nat.succ_pos _) (by simp -dsimp -implicitDefEqProofs only[go_sem];rfl) (by simp -dsimp -implicitDefEqProofs only[go_sem];rfl) (by simp) (by simp;rfl)
    ·rw[if_neg c1]at he;have e1:decide (0<bO a[i].1 b[k].1)=false:=aj c1;simp -dsimp -implicitDefEqProofs only[go_sem,e1];refine ao (by rfl) 17 [] false true (by rfl) (by rfl) (by decide +kernel) ?_;simp -dsimp -implicitDefEqProofs only[go_sem,h6,h7,k0,k1,dA,dB,af,dA',Int.reduceToNat,Int.reduceLE,ag];refine av gb ?_;simp -dsimp -implicitDefEqProofs only[go_sem,h6,h7,k0,k1,dA,dB,af,dA',Int.reduceToNat,Int.reduceLE,ag];refine av ga ?_;simp -dsimp -implicitDefEqProofs only[go_sem,h6,h7,k0,k1,dA,dB,af,dA',Int.reduceToNat,Int.reduceLE,ag];refine ar (args':=[iE b[k].1,iE a[i].1]) rfl (jU _ _) ?_;by_cases c2:bO a[i].1 b[k].1<0
     ·rw[if_pos c2,<-tA]at he;have e2:decide (0<bO b[k].1 a[i].1)=true:=ai (by rw[nq];omega);simp -dsimp -implicitDefEqProofs only[go_sem,e2,h5',h9,hg,h6,h7,k0,k1,Int.reduceToNat,Int.reduceLE,ag];refine av gb ?_;simp -dsimp -implicitDefEqProofs only[go_sem,e2,h5',h9,hg,h6,h7,k0,k1,Int.reduceToNat,Int.reduceLE,ag]
      repeat(refine And.intro (by omega) ?_)
      refine aH ((a.length-i)+(b.length-(k+1))) 5 75 9 (by omega) rfl rfl (by omega) (by decide) ⟨(by(repeat apply am rfl);exact hK),hKB,(by(repeat apply am rfl);exact hKE),out++[b[k]],i,k+1,rfl,hi,by omega,?_,by simp;omega,h6,rfl,?_⟩
      ·rw[he,List.append_assoc];rfl
      ·exact Own.mk2 (Nat.succ_pos _) (by simp -dsimp -implicitDefEqProofs only[go_sem];rfl) (by simp -dsimp -implicitDefEqProofs only[go_sem];rfl) (by simp) (by simp;rfl)
     ·rw[if_neg c2]at he;have e2:decide (0<bO b[k].1 a[i].1)=false:=aj (by rw[nq];omega);simp -dsimp -implicitDefEqProofs only[go_sem,e2];refine ao (by rfl) 12 [8] false true (by rfl) (by rfl) (by decide +kernel) ?_;simp -dsimp -implicitDefEqProofs only[go_sem,h6,h7,k0,k1,dA,dB,af,Int.reduceToNat,Int.reduceLE,ag];refine av ga ?_;simp -dsimp -implicitDefEqProofs only[go_sem,h6,h7,k0,k1,dA,dB,af,Int.reduceToNat,Int.reduceLE,ag];refine av gb ?_;simp -dsimp -implicitDefEqProofs only[go_sem,h6,h7,k0,k1,dA,dB,af,Int.reduceToNat,Int.reduceLE,ag];refine ar (args':=[iQ a[i].2,iQ b[k].2]) rfl (uo _ _ (ha _ (List.getElem_mem hA)) (hb _ (List.getElem_mem hB))) ?_;simp -dsimp -implicitDefEqProofs only[go_sem];refine aa (gP (a[i].2+b[k].2)) rfl ?_;by_cases c3:a[i].2+b[k].2=0
      ·rw[if_pos c3]at he;have e3:decide ((a[i].2+b[k].2).num.sign=0)=true:=by rw[bt];exact ai c3
       simp -dsimp -implicitDefEqProofs only[go_sem,e3,h6,h7,Int.reduceToNat,Int.reduceLE,ag]
       repeat(refine And.intro (by omega) ?_)
       refine again ((a.length-(i+1))+(b.length-(k+1))) (by omega) ⟨(by(repeat apply am rfl);exact hK),(by(repeat apply am rfl);exact hKB),hKE,out,i+1,k+1,rfl,by omega,by omega,he,by omega,rfl,rfl,Own.mk hg h5' (by simp) h9⟩
      ·rw[if_neg c3]at he;have e3:decide ((a[i].2+b[k].2).num.sign=0)=false:=by rw[bt];exact aj c3
       simp -dsimp -implicitDefEqProofs only[go_sem,e3,h6,h7,Int.reduceToNat,Int.reduceLE,ag];refine ao (by rfl) 11 [] true false (by rfl) (by rfl) (by decide +kernel) ?_;simp -dsimp -implicitDefEqProofs only[go_sem,h5',h9,hg,h6,h7,k0,k1,Int.reduceToNat,Int.reduceLE,ag];refine av ga ?_;simp -dsimp -implicitDefEqProofs only[go_sem,h5',h9,hg,h6,h7,k0,k1,Int.reduceToNat,Int.reduceLE,ag]
       repeat(refine And.intro (by omega) ?_)
       refine aH ((a.length-(i+1))+(b.length-(k+1))) 5 101 9 (by omega) rfl rfl (by omega) (by decide) ⟨(by(repeat apply am rfl);exact hK),(by(repeat apply am rfl);exact hKB),(by(repeat apply am rfl);exact hKE),out++[(a[i].1,a[i].2+b[k].2)],i+1,k+1,rfl,by omega,by omega,?_,by simp;omega,rfl,rfl,?_⟩
       ·rw[he,List.append_assoc];rfl
       ·exact Own.mk2 (Nat.succ_pos _) (by simp -dsimp -implicitDefEqProofs only[go_sem];rfl) (by simp -dsimp -implicitDefEqProofs only[go_sem];rfl) (by simp) (by simp;rfl)
   ·obtain rfl:k=b.length:=by omega
    have dB:decide ((b.length:Int)=(b.length:Int))=true:=ai rfl;rw[tA,List.drop_length,jb]at he;simp -dsimp -implicitDefEqProofs only[go_sem,h6,h7,k0,k1,dA,dB,af];refine ao (by rfl) 23 [] false true (by rfl) (by rfl) (by decide +kernel) ?_;simp -dsimp -implicitDefEqProofs only[go_sem,dB,dA,af,h5',h9,hg,h6,h7,k0,k1,Int.reduceToNat,Int.reduceLE,ag];refine av ga ?_;simp -dsimp -implicitDefEqProofs only[go_sem,dB,dA,af,h5',h9,hg,h6,h7,k0,k1,Int.reduceToNat,Int.reduceLE,ag]
    repeat(refine And.intro (by omega) ?_)
    refine aH ((a.length-(i+1))+(b.length-b.length)) 5 49 9 (by omega) rfl rfl (by omega) (by decide) ⟨(by(repeat apply am rfl);exact hK),hKB,(by(repeat apply am rfl);exact hKE),out++[a[i]],i+1,b.length,rfl,by omega,hk,?_,by simp;omega,rfl,h7,?_⟩
    ·rw[he,List.append_assoc,List.drop_length,jb];rfl
    ·exact Own.mk2 (Nat.succ_pos _) (by simp -dsimp -implicitDefEqProofs only[go_sem];rfl) (by simp -dsimp -implicitDefEqProofs only[go_sem];rfl) (by simp) (by simp;rfl)
  ·obtain rfl:i=a.length:=by omega
   have dA:decide ((a.length:Int)<(a.length:Int))=false:=aj (by omega);have dA':decide ((a.length:Int)=(a.length:Int))=true:=ai rfl;by_cases hB:k<b.length
   ·have dB:decide ((k:Int)=(b.length:Int))=false:=aj (by omega);have dB':decide ((k:Int)<(b.length:Int))=true:=ai (by omega);have gb:b[k]?=some b[k]:=by simp[hB]
    have tB:=tK hB;rw[tB,List.drop_length,gj]at he;simp -dsimp -implicitDefEqProofs only[go_sem,h6,h7,k0,k1,dA,dB,af,dB'];refine ao (by rfl) 23 [] false true (by rfl) (by rfl) (by decide +kernel) ?_;simp -dsimp -implicitDefEqProofs only[go_sem,h6,h7,k0,k1,dA,dB,af,Int.reduceToNat,Int.reduceLE,ag];refine ao (by rfl) 17 [] false true (by rfl) (by rfl) (by decide +kernel) ?_;simp -dsimp -implicitDefEqProofs only[go_sem,h6,h7,k0,k1,dA,dB,af,dA',Int.reduceToNat,Int.reduceLE,ag];refine av gb ?_;simp -dsimp -implicitDefEqProofs only[go_sem,dB,dA,af,h5',h9,hg,h6,h7,k0,k1,Int.reduceToNat,Int.reduceLE,ag]
    repeat(refine And.intro (by omega) ?_)
    refine aH ((a.length-a.length)+(b.length-(k+1))) 5 75 9 (by omega) rfl rfl (by omega) (by decide) ⟨(by(repeat apply am rfl);exact hK),hKB,(by(repeat apply am rfl);exact hKE),out++[b[k]],a.length,k+1,rfl,hi,by omega,?_,by simp;omega,h6,rfl,?_⟩
    ·rw[he,List.append_assoc,List.drop_length,gj];rfl
    ·exact Own.mk2 (Nat.succ_pos _) (by simp -dsimp -implicitDefEqProofs only[go_sem];rfl) (by simp -dsimp -implicitDefEqProofs only[go_sem];rfl) (by simp) (by simp;rfl)
   ·obtain rfl:k=b.length:=by omega
    have dB:decide ((b.length:Int)<(b.length:Int))=false:=aj (by omega);simp -dsimp -implicitDefEqProofs only[go_sem,h6,h7,k0,k1,dA,dB,af];rw[List.drop_length,List.drop_length,gj,List.append_nil]at he;exact⟨(by(repeat apply am rfl);exact hK),hKB,hKE,Own.mk hg h5' (by simp[he]) (by rw[he];exact h9)⟩
 ·rintro e τ β ε π hK hKB hKE ⟨rfl,g,mm,hg,h5,h9⟩;rw[af]at h5;refine⟨_,aY.refl _,?_⟩;simp -dsimp -implicitDefEqProofs only[go_sem,h5,h9,hg]
def mu (a:List Tm) (m:Tm):List Tm:=a.map fun x=>(x.1.add m.1,x.2*m.2)
def ez (a:List Tm) (m:Tm):List Tm:=if m.2=0 then[]else mu a m
set_option maxHeartbeats 1000000 in
theorem qo (a:List Tm) (m:Tm) (hl:a.length<=1099511627776) (ha:∀ t∈a,QB 17179869184 t.2) (hm:QB 17179869184 m.2) (hea:∀ t∈a,t.1.lt 2305843009213693952) (hem:m.1.lt 2305843009213693952):Fn Tryz.prog 103 [iM a,.g (eT m)] [iM (ez a m)]:=by
 refine ak (fn:=Tryz.f103) (by rfl) rfl rfl rfl (by rfl) ?_;simp -dsimp -implicitDefEqProofs only[go_sem];refine bL 5 9 8 (rs:=[]) rfl (by simp) ?_;refine aS [(5,8),(10,52)] [(7,7)] [(9,9),(52,52)] (fun n τ β ε=>∃ i:Nat,n=a.length-i/\i<=a.length/\(m.2=0->i=0)/\τ 6 = .i (iN i)/\Own 8 ((mu (a.take i) m).map eT) 5 9 τ ε)
  (fun e τ β ε=>e = .exit 0/\Own 8 ((ez a m).map eT) 5 9 τ ε) a.length ?_ ?_ ?_
 ·exact⟨0,by omega,by omega,fun _=>rfl,rfl,Own.mk (g:=1) (mm:=false) (by omega) rfl rfl rfl⟩
 ·rintro n τ β ε π hK hKB hKE ⟨i,hn,hi,hz,h6,g,mm,hg,h5,h9⟩;have hol:(mu (a.take i) m).length=i:=by simp[mu];omega
  have h5':τ 5 = .sl 9 g i:=by rw[h5,af,hol]
  have k0:τ 0 = .i (iM a):=(hK 0 rfl).trans rfl;have k3:τ 3 = .bp 3 1 0:=(hK 3 rfl).trans rfl;have b3:β 3=⟨1,eT m⟩:=(hKB 3 rfl).trans rfl;by_cases hA:i<a.length
  ·have dA:decide ((i:Int)<(a.length:Int))=true:=ai (by omega);have ga:a[i]?=some a[i]:=by simp[hA]
   simp -dsimp -implicitDefEqProofs only[go_sem,h6,k0,k3,b3,dA,af,Int.reduceToNat,Int.reduceLE,ag];refine aa (gP m.2) rfl ?_;by_cases h0:m.2=0
   ·have e3:decide (m.2.num.sign=0)=true:=by rw[bt];exact ai h0
    obtain rfl:=hz h0;simp -dsimp -implicitDefEqProofs only[go_sem,e3];exact⟨(by(repeat apply am rfl);exact hK),hKB,hKE,Own.mk (len:=0) hg h5' (by simp[ez,h0]) (by rw[h9,ez,if_pos h0];rfl)⟩
   ·have e3:decide (m.2.num.sign=0)=false:=by rw[bt];exact aj h0
    simp -dsimp -implicitDefEqProofs only[go_sem,e3,h6,k0];refine av ga ?_;simp -dsimp -implicitDefEqProofs only[go_sem,e3,h6,k0,Int.reduceToNat,Int.reduceLE,ag];refine aJ [(8,8),(27,39)] [(7,7)] [] (fun n τ' β' ε'=>∃ k:Nat,n=4-k/\k<=4/\τ' 8 = .i (iN k)/\β' 7=⟨(β 7).gen+1,(a[i].1.part m.1 k).cs⟩)
     (fun e τ' β' ε'=>e = .exit 2/\β' 7=⟨(β 7).gen+1,(a[i].1.add m.1).cs⟩) 4 ?_ ?_ ?_
    ·exact⟨0,by omega,by omega,rfl,rfl⟩
    ·rintro n2 τ2 β2 ε2 π2 hK2 hKB2 hKE2 ⟨k,hn2,hk,h8,c7⟩;have r7:τ2 7 = .bp 7 ((β 7).gen+1) 0:=(hK2 7 rfl).trans rfl;have r3:τ2 3 = .bp 3 1 0:=(hK2 3 rfl).trans k3;have c3:β2 3=⟨1,eT m⟩:=(hKB2 3 rfl).trans b3;have ex:=hea _ (List.getElem_mem hA);have ey:=hem;unfold Ex.lt at ex ey;obtain rfl|rfl|rfl|rfl|rfl:k=0\/k=1\/k=2\/k=3\/k=4:=by omega
     ·have h8':τ2 8 = .i (iN 0):=h8;simp -dsimp -implicitDefEqProofs only[go_sem,h8',Int.reduceLT,decide_true,decide_false,r7,r3,c7,c3];refine ao (by rfl) 9 [] false true (by rfl) (by rfl) (by decide +kernel) ?_;simp -dsimp -implicitDefEqProofs only[go_sem,h8',r7,r3,c7,c3,Int.reduceToNat,Int.reduceLE,ag,Int.reduceAdd,Ex.part,Nat.not_lt_zero]
      repeat(refine And.intro (by omega) ?_)
      refine again (4-1) (by omega) ⟨(by(repeat apply am rfl);exact hK2),(by(repeat apply am rfl);exact hKB2),hKE2,1,rfl,by omega,rfl,?_⟩
      simp -dsimp -implicitDefEqProofs only[go_sem,Ex.part,Nat.not_lt_zero]
     ·have h8':τ2 8 = .i (iN 1):=h8;simp -dsimp -implicitDefEqProofs only[go_sem,h8',Int.reduceLT,decide_true,decide_false,r7,r3,c7,c3];refine ao (by rfl) 9 [] false true (by rfl) (by rfl) (by decide +kernel) ?_;simp -dsimp -implicitDefEqProofs only[go_sem,h8',r7,r3,c7,c3,Int.reduceToNat,Int.reduceLE,ag,Int.reduceAdd,Ex.part,Nat.not_lt_zero]
      repeat(refine And.intro (by omega) ?_)
      refine again (4-2) (by omega) ⟨(by(repeat apply am rfl);exact hK2),(by(repeat apply am rfl);exact hKB2),hKE2,2,rfl,by omega,rfl,?_⟩
      simp -dsimp -implicitDefEqProofs only[go_sem,Ex.part,Nat.not_lt_zero]
     ·have h8':τ2 8 = .i (iN 2):=h8;simp -dsimp -implicitDefEqProofs only[go_sem,h8',Int.reduceLT,decide_true,decide_false,r7,r3,c7,c3];refine ao (by rfl) 9 [] false true (by rfl) (by rfl) (by decide +kernel) ?_;simp -dsimp -implicitDefEqProofs only[go_sem,h8',r7,r3,c7,c3,Int.reduceToNat,Int.reduceLE,ag,Int.reduceAdd,Ex.part,Nat.not_lt_zero]
      repeat(refine And.intro (by omega) ?_)
      refine again (4-3) (by omega) ⟨(by(repeat apply am rfl);exact hK2),(by(repeat apply am rfl);exact hKB2),hKE2,3,rfl,by omega,rfl,?_⟩
      simp -dsimp -implicitDefEqProofs only[go_sem,Ex.part,Nat.not_lt_zero]
     ·have h8':τ2 8 = .i (iN 3):=h8;simp -dsimp -implicitDefEqProofs only[go_sem,h8',Int.reduceLT,decide_true,decide_false,r7,r3,c7,c3];refine ao (by rfl) 9 [] false true (by rfl) (by rfl) (by decide +kernel) ?_;simp -dsimp -implicitDefEqProofs only[go_sem,h8',r7,r3,c7,c3,Int.reduceToNat,Int.reduceLE,ag,Int.reduceAdd,Ex.part,Nat.not_lt_zero]
      repeat(refine And.intro (by omega) ?_)
      refine again (4-4) (by omega) ⟨(by(repeat apply am rfl);exact hK2),(by(repeat apply am rfl);exact hKB2),hKE2,4,rfl,by omega,rfl,?_⟩
      simp -dsimp -implicitDefEqProofs only[go_sem,Ex.part,Nat.not_lt_zero]
     ·have h8':τ2 8 = .i (iN 4):=h8;simp -dsimp -implicitDefEqProofs only[go_sem,h8',Int.reduceLT,decide_true,decide_false];exact⟨(by(repeat apply am rfl);exact hK2),hKB2,hKE2,c7⟩
    ·rintro e τ2 β2 ε2 π2 hK2 hKB2 hKE2 ⟨rfl,c7⟩;have r7:τ2 7 = .bp 7 ((β 7).gen+1) 0:=(hK2 7 rfl).trans rfl;have r3:τ2 3 = .bp 3 1 0:=(hK2 3 rfl).trans k3;have c3:β2 3=⟨1,eT m⟩:=(hKB2 3 rfl).trans b3;have r0:τ2 0 = .i (iM a):=(hK2 0 rfl).trans k0;have r6:τ2 6 = .i (iN i):=(hK2 6 rfl).trans h6;have r5:τ2 5 = .sl 9 g i:=(hK2 5 rfl).trans h5';have f9:ε2 9=⟨g,8,(mu (a.take i) m).map eT,mm,true⟩:=(hKE2 9 rfl).trans h9;have kO:=Kp.step2 hK hK2 (by intro n;simp[inR]<;>omega) (by(repeat apply am rfl);exact hK)
     have kB:=Kp.step2 hKB hKB2 (by intro n;simp[inR]<;>omega) (by(repeat apply am rfl);exact hKB)
     have kE:=Kp.step2 hKE hKE2 (by intro n;simp[inR]) hKE;refine ao (by rfl) 14 [] true false (by rfl) (by rfl) (by decide +kernel) ?_;simp -dsimp -implicitDefEqProofs only[go_sem,r7,r3,c7,c3,r0,r6,r5,f9,hg,Int.reduceToNat,Int.reduceLE,ag];refine av ga ?_;simp -dsimp -implicitDefEqProofs only[go_sem,r7,r3,c7,c3,r0,r6,r5,f9,hg,Int.reduceToNat,Int.reduceLE,ag];refine ar (args':=[iQ a[i].2,iQ m.2]) rfl (IJ _ _ (ha _ (List.getElem_mem _)) hm) ?_;simp -dsimp -implicitDefEqProofs only[go_sem,r7,r3,c7,c3,r0,r6,r5,f9,hg,Int.reduceToNat,Int.reduceLE,ag,af,hol]
     repeat(refine And.intro (by omega) ?_)
     refine aH (a.length-(i+1)) 5 52 9 (by omega) rfl rfl (by omega) (by decide) ⟨(by(repeat apply am rfl);exact kO),kB,(by(repeat apply am rfl);exact kE),i+1,rfl,by omega,fun h=>absurd h h0,rfl,?_⟩
     refine Own.mk2 (Nat.succ_pos _) (by simp -dsimp -implicitDefEqProofs only[go_sem];rfl) (by simp -dsimp -implicitDefEqProofs only[go_sem];rfl) (by simp[hol]) ?_;rw[ab hA,mu,mu,List.map_append,List.map_append];rfl
  ·have dA:decide ((i:Int)<(a.length:Int))=false:=aj (by omega);obtain rfl:i=a.length:=by omega
   have ht:mu (a.take a.length) m=ez a m:=by
    rw[List.take_length,ez];by_cases h0:m.2=0
    ·rw[if_pos h0];have:=hz h0;rw[List.length_eq_zero_iff.1 this];rfl
    ·rw[if_neg h0]
   simp -dsimp -implicitDefEqProofs only[go_sem,h6,k0,dA,af];rw[ht]at h5 h9;rw[af]at h5;exact⟨(by(repeat apply am rfl);exact hK),hKB,hKE,Own.mk hg h5 (by simp) h9⟩
 ·rintro e τ β ε π hK hKB hKE ⟨rfl,g,mm,hg,h5,h9⟩;rw[af]at h5;refine⟨_,aY.refl _,?_⟩;simp -dsimp -implicitDefEqProofs only[go_sem,h5,h9,hg]
theorem FE (e:Ex):e.add e0=e:=by cases e;simp[Ex.add,e0]
theorem Ed (a:List Tm) (c:Rat):ez a (e0,c)=dE a c:=by
 unfold ez dE mu;simp only[FE]
theorem Pr:e0.lt 2305843009213693952:=by unfold Ex.lt e0;decide
theorem uc (a:List Tm) (c:Rat) (hl:a.length<=1099511627776) (ha:∀ t∈a,QB 17179869184 t.2) (hc:QB 17179869184 c) (hea:∀ t∈a,t.1.lt 2305843009213693952):Fn Tryz.prog 85 [iM a,iQ c] [iM (dE a c)]:=by
 refine ak (fn:=Tryz.f85) (by rfl) rfl rfl rfl (by rfl) ?_;simp -dsimp -implicitDefEqProofs only[go_sem];refine aa (qo a (e0,c) hl ha hc hea Pr) rfl ?_;rw[Ed];simp -dsimp -implicitDefEqProofs only[go_sem]
theorem IA (a b:List Tm) (hl:a.length+b.length<=1099511627776) (ha:∀ t∈a,QB 8589934592 t.2) (hb:∀ t∈b,QB 8589934592 t.2) (heb:∀ t∈b,t.1.lt 2305843009213693952):Fn Tryz.prog 174 [iM a,iM b] [iM (Eg a b)]:=by
 refine ak (fn:=Tryz.f174) (by rfl) rfl rfl rfl (by rfl) ?_;simp -dsimp -implicitDefEqProofs only[go_sem];refine an (cY (-1) (by decide)) ?_;simp -dsimp -implicitDefEqProofs only[go_sem];refine ar (args':=[iM b,iQ (-1)]) rfl (uc b (-1) (by omega) (fun t ht=>(hb t ht).mono' (by decide)) (om _ (by decide)) heb) ?_;simp -dsimp -implicitDefEqProofs only[go_sem];refine an (px a (dE b (-1)) ?_ ha ?_) ?_
 ·rw[iY _ (by decide)];simp;omega
 ·intro t ht;rw[iY _ (by decide)]at ht;obtain⟨u,hu,rfl⟩:=List.mem_map.1 ht;exact(hb u hu).neg
 simp -dsimp -implicitDefEqProofs only[go_sem];rfl
theorem gV (v:Nat) (hv:v<4):Fn Tryz.prog 58 [iN v] [iM [(e0.to v 1,1)]]:=by
 obtain rfl|rfl|rfl|rfl:v=0\/v=1\/v=2\/v=3:=by omega
 all_goals
  refine ak (fn:=Tryz.f58) (by rfl) rfl rfl rfl (by rfl) ?_;simp -dsimp -implicitDefEqProofs only[go_sem];refine an (cY 1 (by decide)) ?_;simp -dsimp -implicitDefEqProofs only[go_sem];rfl
def sM (a b:List Tm):List Tm:=b.foldl (fun o y=>fM o (ez a y)) []
theorem As (a:List Tm) (m:Tm):(ez a m).length<=a.length:=by
 unfold ez mu;split<;>simp
theorem zy (a b:List Tm) (hla:a.length<=1048576) (hlb:b.length<=1048576) (ha:∀ t∈a,QB 17179869184 t.2) (hb:∀ t∈b,QB 17179869184 t.2) (hea:∀ t∈a,t.1.lt 2305843009213693952) (heb:∀ t∈b,t.1.lt 2305843009213693952)
  (hq:∀(i:Nat) (h:i<b.length),(∀ t∈sM a (b.take i),QB 8589934592 t.2)/\(∀ t∈ez a b[i],QB 8589934592 t.2)/\(sM a (b.take i)).length<=549755813888):Fn Tryz.prog 57 [iM a,iM b] [iM (sM a b)]:=by
 refine ak (fn:=Tryz.f57) (by rfl) rfl rfl rfl (by rfl) ?_;simp -dsimp -implicitDefEqProofs only[go_sem];refine ni (aY.imm _ 5 (x:=iM []) rfl) ?_;refine aJ [(5,6),(8,21)] [] [] (fun n τ β ε=>∃ i:Nat,n=b.length-i/\i<=b.length/\τ 6 = .i (iN i)/\τ 5 = .i (iM (sM a (b.take i))))
  (fun e τ β ε=>e = .exit 0/\τ 5 = .i (iM (sM a b))) b.length ?_ ?_ ?_
 ·exact⟨0,by omega,by omega,rfl,rfl⟩
 ·rintro n τ β ε π hK hKB hKE ⟨i,hn,hi,h6,h5⟩;have k0:τ 0 = .i (iM a):=(hK 0 rfl).trans rfl;have k1:τ 1 = .i (iM b):=(hK 1 rfl).trans rfl;by_cases hA:i<b.length
  ·have dA:decide ((i:Int)<(b.length:Int))=true:=ai (by omega);have gb:b[i]?=some b[i]:=by simp[hA]
   obtain⟨q1,q2,q3⟩:=hq i hA;simp -dsimp -implicitDefEqProofs only[go_sem,h6,h5,k0,k1,dA,af];refine av gb ?_;simp -dsimp -implicitDefEqProofs only[go_sem,h6,h5,k0,k1,dA,af,Int.reduceToNat,Int.reduceLE,ag];refine an (qo a b[i] (by omega) ha (hb _ (List.getElem_mem _)) hea (heb _ (List.getElem_mem _))) ?_;simp -dsimp -implicitDefEqProofs only[go_sem,h6,h5,k0,k1];refine an (px _ _ ?_ q1 q2) ?_
   ·have:=As a b[i];omega
   simp -dsimp -implicitDefEqProofs only[go_sem,h6]
   repeat(refine And.intro (by omega) ?_)
   refine again (b.length-(i+1)) (by omega) ⟨(by(repeat apply am rfl);exact hK),hKB,hKE,i+1,rfl,by omega,rfl,?_⟩
   simp -dsimp -implicitDefEqProofs only[go_sem];rw[ab hA];unfold sM;rw[List.foldl_append];rfl
  ·have dA:decide ((i:Int)<(b.length:Int))=false:=aj (by omega);obtain rfl:i=b.length:=by omega
   rw[List.take_length]at h5;simp -dsimp -implicitDefEqProofs only[go_sem,h6,k1,dA,af];exact⟨(by(repeat apply am rfl);exact hK),hKB,hKE,h5⟩
 ·rintro e τ β ε π hK hKB hKE ⟨rfl,h5⟩;simp -dsimp -implicitDefEqProofs only[go_sem,h5]
end Go.AM
