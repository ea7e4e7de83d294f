/- Lemmas, part 18 of 23. No condition. -/
import Derived.Test.YtcmfkhicjhliaaaGreatPZ516
set_option maxRecDepth 65536
set_option linter.unusedSimpArgs false
set_option linter.unusedVariables false
set_option linter.unusedSectionVars false
namespace Go.AM
open Alg
open Go.Proofs
open Classical
theorem OR {R:Type} [CR R] (b:R) (k:Nat):Alg.pw b k=(if k % 2=1 then b else 1)*Alg.pw (b*b) (k/2):=by
 have h1:∀ m,Alg.pw (b*b) m=Alg.pw b (m+m):=fun m=>by rw[IL,xG]
 rw[h1];by_cases h:k % 2=1
 ·rw[if_pos h];have e:Alg.pw b k=Alg.pw b (1+(k/2+k/2)):=congrArg _ aw;rw[e,xG,BZ]
 ·rw[if_neg h,one_mul];exact congrArg _ aw
theorem JJ (c:Rat):gv c=U (an c):=by
 rw[gv];split
 ·rename_i h;rw[h,show an (0:Rat)=0 from cC,cq]
 ·rename_i h;rw[U_C h]
structure PwS (p a o:PQ) (h n m:Nat) (ha ho sa so:Nat):Prop where
 eq:Alg.pw p n=o*Alg.pw a m
 bo:am ho o
 zo:aa o<=so+1
 lo:ho<=h*n
 ls:so<=aa p*n
 ba:m≠0->am ha a/\aa a<=sa+1/\ho+ha*m<=h*n/\so+sa*m<=aa p*n
theorem Ef (x m:Nat):x*m=2*(x*(m/2))+x*(m % 2):=by
 have h:m=2*(m/2)+m % 2:=aw
 conv=>lhs;rw[h,Nat.mul_add]
 rw[<-Nat.mul_assoc,Nat.mul_comm x 2,Nat.mul_assoc]
theorem A7 {p:PQ} {h n:Nat} (hp:am h p) (hn:n<=64) (hb:h<=1000000000) (hs:aa p<=10000):Fn Tryz.prog 160 [iUp p,iN n] [iUp (Alg.pw p n)]:=by
 have e0:decide ((n:Int)<0)=false:=aG aw;have hhn:h*n<=64000000000:=by have:=Nat.mul_le_mul hb hn;omega
 have hsn:aa p*n<=640000:=by have:=Nat.mul_le_mul hs hn;omega
 refine aJ (fn:=Tryz.f160) ?_;simp -dsimp only[go_sem,e0];refine aK (ia 1 aH) ?_;simp -dsimp only[go_sem];refine ao (qP 1) rfl ?_;rw[JJ];simp -dsimp only[go_sem];refine a8 [(0,1),(5,5),(10,24)] [] [] (fun k τ β ε=>∃(a o:PQ) (m ha ho sa so:Nat),k=m/\m<=n/\τ 0 = .i (iUp a)/\τ 1 = .i (iN m)/\τ 5 = .i (iUp o)/\PwS p a o h n m ha ho sa so)
  (fun e τ β ε=>e = .exit 0/\τ 5 = .i (iUp (Alg.pw p n))) n ?_ ?_ ?_
 ·refine⟨p,1,n,h,0,aa p,0,rfl,ay _,rfl,rfl,rfl,⟨(one_mul _).symm,dK _,?_,Nat.zero_le _,Nat.zero_le _,fun _=>⟨hp,aw,aw,aw⟩⟩⟩;rw[cS];omega
 ·rintro k τ β ε π hK hKB hKE ⟨a,o,m,ha,ho,sa,so,rfl,hm,h0,h1,h5,hS⟩;by_cases hk0:k=0
  ·have hA:¬ (0:Int)<(k:Int):=aw;simp -dsimp only[go_sem,h1,hA];refine⟨(aA hK),hKB,hKE,?_⟩;rw[h5,hS.eq,hk0];show AV.i (iUp o)=AV.i (iUp (o*1));rw[mul_one]
  ·have hA:(0:Int)<(k:Int):=aw;have hand:=ED k aw;obtain⟨a1,a2,a3,a4⟩:=hS.ba hk0;have hho:=hS.bo;have hso:=hS.zo;have lo:=hS.lo;have ls:=hS.ls;have x1:ha<=ha*k:=Nat.le_mul_of_pos_right _ aw;have x2:sa<=sa*k:=Nat.le_mul_of_pos_right _ aw;have y1:=Ef ha k;have y2:=Ef sa k;have e1:decide (((k % 2:Nat):Int)=1)=decide (k % 2=1):=by rw[decide_eq_decide];omega
   have mo:=dx hho a1 aw aw aw aw;have ma:=dx a1 a1 aw aw aw aw;have so':=bf o a;have sa':=bf a a;have step:∀(o':PQ) (hx sx:Nat),o'=o*(if k % 2=1 then a else 1)->am hx o'->aa o'<=sx+1->hx=ho+ha*(k % 2)->sx=so+sa*(k % 2)->PwS p (a*a) o' h n (k/2) (ha+ha) hx (sa+sa) sx:=by
    intro o' hx sx e1 e2 e3 e4 e5;refine⟨by rw[hS.eq,OR a k,e1,mul_assoc],e2,e3,aw,aw,fun _=>⟨a1.mul a1,aw,?_,?_⟩⟩
    ·rw[Nat.add_mul];omega
    ·rw[Nat.add_mul];omega
   have step1:k=1->∀(o':PQ) (hx sx:Nat),o'=o*a->am hx o'->aa o'<=sx+1->hx=ho+ha->sx=so+sa->PwS p a o' h n (k/2) ha hx sa sx:=by
    intro ek o' hx sx eo e2 e3 e4 e5;subst ek;refine⟨by rw[hS.eq,eo];show _=o*a*1;rw[BZ,mul_one],e2,e3,aw,aw,fun h=>absurd rfl h⟩
   by_cases h2:k % 2=1
   ·rw[aF h2]at e1;by_cases h3:k=1
    ·have e2:decide ((1:Int)<(k:Int))=false:=aG aw;simp -dsimp only[go_sem,h1,hA,hand,e1,h5,h0,fN];refine aK mo ?_;simp -dsimp only[go_sem,h1,hA,hand,e1,e2,h5,h0,fN];refine again (k/2) aw ⟨(aA hK),hKB,hKE,a,o*a,k/2,ha,ho+ha,sa,so+sa,rfl,aw,h0,rfl,rfl,step1 h3 _ _ _ rfl (hho.mul a1) aw rfl rfl⟩
    ·have e2:decide ((1:Int)<(k:Int))=true:=aF aw;simp -dsimp only[go_sem,h1,hA,hand,e1,h5,h0,fN];refine aK mo ?_;simp -dsimp only[go_sem,h1,hA,hand,e1,e2,h5,h0,fN];refine aK ma ?_;simp -dsimp only[go_sem,h1,hA,hand,e1,e2,h5,h0,fN];refine again (k/2) aw ⟨(aA hK),hKB,hKE,a*a,o*a,k/2,ha+ha,ho+ha,sa+sa,so+sa,rfl,aw,rfl,rfl,rfl,step _ _ _ (by rw[if_pos h2]) (hho.mul a1) aw (by rw[h2];omega) (by rw[h2];omega)⟩
   ·rw[aG h2]at e1;have e2:decide ((1:Int)<(k:Int))=true:=aF aw;have h20:k % 2=0:=aw;simp -dsimp only[go_sem,h1,hA,hand,e1,e2,h5,h0,fN];refine aK ma ?_;simp -dsimp only[go_sem,h1,hA,hand,e1,e2,h5,h0,fN];refine again (k/2) aw ⟨(aA hK),hKB,hKE,a*a,o,k/2,ha+ha,ho,sa+sa,so,rfl,aw,rfl,rfl,h5,step _ _ _ (by rw[if_neg h2,mul_one]) hho hso (by rw[h20];omega) (by rw[h20];omega)⟩
 ·rintro e τ β ε π hK hKB hKE ⟨rfl,h5⟩;simp -dsimp only[go_sem,h5]
theorem CU {a b:PQ} (h:Cop a b):∀ n,Cop a (Alg.pw b n)
 | 0=>fun _ _ h1=>h1
 | n+1=>(CU h n).mul h
theorem Mu {a b:PQ} (h:Cop a b) (n:Nat):Cop (Alg.pw a n) (Alg.pw b n):=(CU (CU h n).symm n).symm
theorem NF (a:PQ) (h:lc a=1):∀ n,lc (Alg.pw a n)=1
 | 0=>uA
 | n+1=>by show lc (Alg.pw a n*a)=1;rw[gU,NF a h n,h,mul_one]
theorem NL {a b:PQ} (hb:b≠0):∀ n,Alg.pw (Alg.fr a b) n=Alg.fr (Alg.pw a n) (Alg.pw b n)
 | 0=>rfl
 | n+1=>by
  show Alg.pw (Alg.fr a b) n*Alg.fr a b=_;rw[NL hb n,fi (DS hb n) hb];rfl
theorem NB (f:KQ) (n:Nat):nN (Alg.pw f n)=Alg.pw (nN f) n/\ae (Alg.pw f n)=Alg.pw (ae f) n:=by
 obtain⟨h1,h2,h3,h4⟩:=dj f;refine p8 (DS h1 n) (NF _ h2 n) (Mu h3 n) ?_
 conv=>lhs;rw[h4]
 exact NL h1 n
theorem KI {f:KQ} {n:Nat} (hf:FW f) (hn:n<=64):Fn Tryz.prog 119 [iK f,iN n] [iK (Alg.pw f n),iN 0]:=by
 obtain⟨a1,a2,a3,a4⟩:=ff hf;have e1:decide ((n:Int) < -256)=false:=aG aw;have e2:decide ((256:Int)<(n:Int))=false:=aG aw;have e3:decide ((n:Int)<0)=false:=aG aw;have eK:iF (U (Alg.pw (nN f) n)) (U (Alg.pw (ae f) n))=iK (Alg.pw f n):=by rw[<-(NB f n).1,<-(NB f n).2]
 refine aJ (fn:=Tryz.f119) ?_;simp -dsimp only[go_sem,e1,e2,e3];refine ap 9 [] false true ?_;simp -dsimp only[go_sem];refine ao (A7 a1 hn aw aw) rfl ?_;simp -dsimp only[go_sem];refine ao (A7 a2 hn aw aw) rfl ?_;simp -dsimp only[go_sem];rw[<-eK]
theorem xd {f:KQ} {n:Nat} (hf:FW f) (hn:n<=64):Fn Tryz.prog 83 [iK f,iN n] [iK (Alg.pw f n)]:=by
 refine aJ (fn:=Tryz.f83) ?_;simp -dsimp only[go_sem];refine ao (KI hf hn) rfl ?_;simp -dsimp only[go_sem];refine aQ (args':=[iK (Alg.pw f n),iN 0]) rfl (qM _ 0) ?_;simp -dsimp only[go_sem]
noncomputable def sgR (p q:KP) (x:KQ):KQ:=if aa p % 2=0/\aa q % 2=0 then -x else x
noncomputable def mU (a b:KP):Nat->KQ
 | 0=>1
 | k+1=>match (eu a b)[k]? with
  | some x=>sgR x.1 x.2 (mU a b k*Alg.pw (lc x.2) (aa x.1-aa (ab x.1 x.2)))
  | none=>mU a b k
theorem rk {a b:KP} {k:Nat} {x:KP×KP} (h:(eu a b)[k]?=some x):mU a b (k+1)=sgR x.1 x.2 (mU a b k*Alg.pw (lc x.2) (aa x.1-aa (ab x.1 x.2))):=by
 show(match (eu a b)[k]? with
  | some x=>sgR x.1 x.2 (mU a b k*Alg.pw (lc x.2) (aa x.1-aa (ab x.1 x.2)))
  | none=>mU a b k)=_
 rw[h]
theorem Em (n:Nat):∀(a b:KP),aa b<=n->∀(k:Nat) x,(eu a b)[k]?=some x->x.2≠0/\(ab x.1 x.2≠0->(eu a b)[k+1]?=some (x.2,ab x.1 x.2))/\(ab x.1 x.2=0->(eu a b).length=k+1):=by
 induction n with
 | zero =>
  intro a b hb k x hx;have:b=0:=aM.1 aw;rw[this,jz]at hx;simp at hx
 | succ n ih =>
  intro a b hb k x hx;by_cases h0:b=0
  ·rw[h0,jz]at hx;simp at hx
  ·rw[kK h0]at hx ⊢;cases k with
   | zero =>
    simp only[List.getElem?_cons_zero,Option.some.injEq]at hx;subst hx;refine⟨h0,fun h=>?_,fun h=>?_⟩
    ·rw[List.getElem?_cons_succ,kK h];rfl
    ·rw[h,jz];rfl
   | succ k =>
    rw[List.getElem?_cons_succ]at hx;obtain⟨h1,h2,h3⟩:=ih b (ab a b) (by have:=(qure (a:=a) h0).2;omega) k x hx;exact⟨h1,fun h=>by rw[List.getElem?_cons_succ];exact h2 h,fun h=>by rw[List.length_cons,h3 h]⟩
theorem Pg (n:Nat):∀(a b:KP),aa b<=n->a≠0->∀(k:Nat) x,(eu a b)[k]?=some x->x.1≠0:=by
 induction n with
 | zero =>
  intro a b hb _ k x hx;have:b=0:=aM.1 aw;rw[this,jz]at hx;simp at hx
 | succ n ih =>
  intro a b hb ha k x hx;by_cases h0:b=0
  ·rw[h0,jz]at hx;simp at hx
  ·rw[kK h0]at hx;cases k with
   | zero =>
    simp only[List.getElem?_cons_zero,Option.some.injEq]at hx;subst hx;exact ha
   | succ k =>
    rw[List.getElem?_cons_succ]at hx;exact ih b (ab a b) (by have:=(qure (a:=a) h0).2;omega) h0 k x hx
theorem ft {p q:KP} (h:aa q=1):ab p q=0:=by
 have hq:q≠0:=fun e=>by rw[e,aM.2 rfl]at h;omega
 have:=(qure (a:=p) hq).2;exact aM.1 aw
theorem Ku {a b:KP} (h:a=0\/b=0):Fn Tryz.prog 35 [ku a,ku b] [iK (kn 0)]:=by
 have e1:decide (((0:Nat):Int)=0)=true:=rfl;by_cases ha:a=0
 ·rw[ha,fF];refine aJ (fn:=Tryz.f35) ?_;simp -dsimp only[go_sem,az,e1];refine aK (cB 0 aH) ?_;simp -dsimp only[go_sem]
 ·have hb:b=0:=h.resolve_left ha;have e2:decide ((aa a:Int)=0)=false:=aG (by have:=aR ha;omega);rw[hb,fF];refine aJ (fn:=Tryz.f35) ?_;simp -dsimp only[go_sem,az,aZ,e1,e2];refine aK (cB 0 aH) ?_;simp -dsimp only[go_sem]
structure ResH (a b:KP) (k:Nat) (x:KP×KP):Prop where
 re:Fn Tryz.prog 82 [ku x.1,ku x.2] [ku (ab x.1 x.2)]
 s1:aa x.1<=60
 s2:aa x.2<=60
 lw:FW (lc x.2)
 ow:FW (mU a b k)
 pw:FW (Alg.pw (lc x.2) (aa x.1-aa (ab x.1 x.2)))
 mw:FW (mU a b k*Alg.pw (lc x.2) (aa x.1-aa (ab x.1 x.2)))
 ew:aa x.2=1->FW (Alg.pw (lc x.2) (aa x.1-1))/\FW (mU a b k*Alg.pw (lc x.2) (aa x.1-1))
noncomputable def FT (a b:KP) (m:Nat) (x:KP×KP):KQ:=if aa x.2=1 then mU a b m*Alg.pw (lc x.2) (aa x.1-1)else 0
theorem M7 {a b:KP} {m:Nat} {z:KP×KP} (ha:a≠0) (hb:b≠0) (hs:aa a<=60) (hs':aa b<=60) (hm:(eu a b).length=m+1) (hz:(eu a b)[m]?=some z) (H:∀ k x,(eu a b)[k]?=some x->ResH a b k x):Fn Tryz.prog 35 [ku a,ku b] [iK (FT a b m z)]:=by
 have e1:decide ((aa a:Int)=0)=false:=aG (by have:=aR ha;omega);have e2:decide ((aa b:Int)=0)=false:=aG (by have:=aR hb;omega);refine oI (fn:=Tryz.f35) av rfl rfl rfl av au av ?_;refine WPn.seq_k kd fun K hK _=>?_;simp -dsimp only[go_sem];refine hK _ ?_;refine WPn.seq_k kd fun K hK _=>?_;simp -dsimp only[go_sem,az,aZ,e1,e2];refine hK _ ?_;refine WPn.seq_k kd fun K hK _=>?_;simp -dsimp only[go_sem];refine aK (cB 1 aH) ?_;simp -dsimp only[go_sem];refine hK _ ?_;refine WPn.seq_k kd fun K hK _=>?_;simp -dsimp only[go_sem,az,aZ]
 repeat(refine And.intro aw ?_)
 refine hK _ ?_;refine WPn.seq_k kd fun K hK _=>?_;simp -dsimp only[go_sem];refine hK _ ?_;refine WPn.seq ?_;refine WPn.seq_k kd fun K hK _=>?_;simp -dsimp only[go_sem];refine oB [1000,1001] rfl rfl rfl (qz (kc a) (kc b)) au rfl ?_;rw[AC _ _ _ _ _ aH];simp -dsimp only[go_sem];refine hK _ (WPn.block (WPn.rangeFunc (ts:=[(1000,1),(1001,1)]) [5,6,7] (fun k cs=>k<=m/\∃ d l,cs=[kr (mU a b k),[C.v (.int .i64 d)],[l]])
  (fun e cs=>e = .exit 0/\cs=[kr (mU a b m),[C.v (.int .i64 ((aa z.1:Int)-1))],[kc z.2]]) (by simp -dsimp only[go_sem]) (by simp -dsimp only[go_sem]) au (by simp -dsimp only[go_sem]) (oS a b fun x hx=>by
   obtain⟨k,hk,e⟩:=List.getElem_of_mem hx;exact(H k x (by rw[aD hk,e])).re) au (by simp -dsimp only[go_sem];decide) ?_ ?_ ?_ ?_ ?_))
 ·refine⟨Nat.zero_le _,(aa a:Int)-1,.lst [],?_⟩;simp -dsimp only[go_sem];rfl
 ·intro x hx;obtain⟨p,-,rfl⟩:=List.mem_map.1 hx;rfl
 ·rintro k x cs hx ⟨hkm,d,l,rfl⟩ -;obtain⟨y,hy,rfl⟩:=Eo hx;obtain⟨hy0,hy1,hy2⟩:=Em _ a b (ay _) k y hy;have Hy:=H k y hy;have hs1:=Hy.s1;have hs2:=Hy.s2;generalize hst:bV _ _ _ _ _=s;obtain⟨τ,β,ε,π⟩:=s;have h27:τ 27 = .i (ku y.1):=by
   rw[sJ hst];simp -dsimp only[go_sem,bV,jm]
  have h28:τ 28 = .i (ku y.2):=by
   rw[sJ hst];simp -dsimp only[go_sem,bV,jm]
  have h5:τ 5 = .bp 5 1 0:=by
   rw[sJ hst];simp -dsimp only[go_sem,bV,jm];rw[pb]<;>simp -dsimp only[go_sem]
  have h6:τ 6 = .bp 6 1 0:=by
   rw[sJ hst];simp -dsimp only[go_sem,bV,jm];rw[pb]<;>simp -dsimp only[go_sem]
  have h7:τ 7 = .bp 7 1 0:=by
   rw[sJ hst];simp -dsimp only[go_sem,bV,jm];rw[pb]<;>simp -dsimp only[go_sem]
  have b5:β 5=⟨1,kr (mU a b k)⟩:=by
   rw[C9 hst];simp -dsimp only[go_sem,bV,fe]
  have b6:β 6=⟨1,[C.v (.int .i64 d)]⟩:=by
   rw[C9 hst];simp -dsimp only[go_sem,bV,fe]
  have b7:β 7=⟨1,[l]⟩:=by
   rw[C9 hst];simp -dsimp only[go_sem,bV,fe]
  clear hst;have sy:=aR hy0;refine WP.end_k kd fun K hK=>?_;simp -dsimp only[go_sem,h27,h28];refine hK _ _ ⟨rfl,?_⟩;refine WP.end_k kd fun K hK=>?_;simp -dsimp only[go_sem,h27,h28,h5,h6,h7,b5,b6,b7,az,aZ]
  repeat(refine And.intro aw ?_)
  refine ao Hy.re rfl ?_;by_cases hr:ab y.1 y.2=0
  ·have hl:=hy2 hr;obtain rfl:k=m:=aw;have hzy:y=z:=by rw[hy]at hz;exact Option.some.inj hz
   subst hzy;have er:decide (((0:Nat):Int)=0)=true:=rfl;rw[hr,fF];have key:∀ s:St,s.b 5=⟨1,kr (mU a b k)⟩->s.b 6=⟨1,[C.v (.int .i64 ((aa y.1:Int)-1))]⟩->s.b 7=⟨1,[kc y.2]⟩->K (.exit 0) s:=fun s q5 q6 q7=>by
    refine hK _ _ ⟨?_,rfl,?_⟩
    ·intro t ht;simp only[List.mem_cons,List.not_mem_nil,or_false]at ht;rcases ht with rfl|rfl|rfl
     ·rw[q5]
     ·rw[q6]
     ·rw[q7]
    ·simp only[List.map,q5,q6,q7]
   by_cases h1:aa y.2=1
   ·have e3:decide ((aa y.2:Int)=1)=true:=aF aw;simp -dsimp only[go_sem,h27,h28,h5,h6,h7,b5,b6,b7,az,aZ,e3];refine key _ ?_ ?_ ?_<;>simp -dsimp only[go_sem,b5]
   ·have e3:decide ((aa y.2:Int)=1)=false:=aG aw;simp -dsimp only[go_sem,h27,h28,h5,h6,h7,b5,b6,b7,az,aZ,e3,er];refine key _ ?_ ?_ ?_<;>simp -dsimp only[go_sem,b5]
  ·have hk1:k+1<=m:=by
    have:=(List.getElem?_eq_some_iff.1 (hy1 hr)).1;omega
   have sr:=aR hr;have srl:=(qure (a:=y.1) hy0).2;have e3:decide ((aa y.2:Int)=1)=false:=aG fun h=>hr (ft aw);have e4:decide ((aa (ab y.1 y.2):Int)=0)=false:=aG aw;have el:(aa y.2:Int)-1=((aa y.2-1:Nat):Int):=aw;have hlast:(aj y.2)[aa y.2-1]?=some (lc y.2):=by rw[aD (by rw[aZ];omega),hO];rfl
   simp -dsimp only[go_sem,h27,h28,h5,h6,h7,b5,b6,b7,az,aZ,e3,e4];refine ap 14 [] false true ?_;simp -dsimp only[go_sem,h27,h28,h5,h6,h7,b5,b6,b7,az,aZ,el]
   repeat(refine And.intro aw ?_)
   refine aP hlast ?_;have hsub:(aa y.1:Int)-(aa (ab y.1 y.2):Int)=((aa y.1-aa (ab y.1 y.2):Nat):Int):=by
    have:aa (ab y.1 y.2)<=aa y.1:=by
     rcases Nat.lt_or_ge (aa y.1) (aa y.2)with h|h
     ·rw[(uZ h).2];exact ay _
     ·omega
    omega
   simp -dsimp only[go_sem,h27,h28,h5,h6,h7,b5,b6,b7,az,aZ,el,hsub]
   repeat(refine And.intro aw ?_)
   refine ao (xd Hy.lw aw) rfl ?_;simp -dsimp only[go_sem];refine ao (kt ib Hy.ow Hy.pw Hy.mw) rfl ?_;simp -dsimp only[go_sem,h27,h28,h5,h6,h7,b5,b6,b7,az,aZ];have tm:∀ n:Nat,((n:Int).tmod 2)=((n % 2:Nat):Int):=fun n=>by rw[Int.tmod_eq_emod_of_nonneg aw];omega
   have key:∀ s:St,s.b 5=⟨1,kr (mU a b (k+1))⟩->s.b 6=⟨1,[C.v (.int .i64 ((aa y.1:Int)-1))]⟩->s.b 7=⟨1,[kc y.2]⟩->K .normal s:=fun s q5 q6 q7=>by
    refine hK _ _ ⟨?_,hk1,(aa y.1:Int)-1,kc y.2,?_⟩
    ·intro t ht;simp only[List.mem_cons,List.not_mem_nil,or_false]at ht;rcases ht with rfl|rfl|rfl
     ·rw[q5]
     ·rw[q6]
     ·rw[q7]
    ·simp only[List.map,q5,q6,q7]
   rw[rk hy]at key;refine⟨aH,?_⟩;by_cases p1:aa y.1 % 2=0
   ·have d1:decide (((aa y.1:Int).tmod 2)=0)=true:=aF (by rw[tm,p1];rfl);by_cases p2:aa y.2 % 2=0
    ·have d2:decide (((aa y.2:Int).tmod 2)=0)=true:=aF (by rw[tm,p2];rfl);rw[sgR,if_pos ⟨p1,p2⟩]at key;simp -dsimp only[go_sem,h27,h28,h5,h6,h7,b5,b6,b7,az,aZ,d1,d2];refine⟨aH,?_⟩;refine ao (KK Hy.mw) rfl ?_;simp -dsimp only[go_sem,h27,h28,h5,h6,h7,b5,b6,b7];refine key _ ?_ ?_ ?_<;>simp -dsimp only[go_sem]
    ·have d2:decide (((aa y.2:Int).tmod 2)=0)=false:=aG (by rw[tm];omega);rw[sgR,if_neg (fun h=>p2 h.2)]at key;simp -dsimp only[go_sem,h27,h28,h5,h6,h7,b5,b6,b7,az,aZ,d1,d2];refine⟨aH,?_⟩;refine key _ ?_ ?_ ?_<;>simp -dsimp only[go_sem]
   ·have d1:decide (((aa y.1:Int).tmod 2)=0)=false:=aG (by rw[tm];omega);rw[sgR,if_neg (fun h=>p1 h.1)]at key;simp -dsimp only[go_sem,h27,h28,h5,h6,h7,b5,b6,b7,az,aZ,d1];refine key _ ?_ ?_ ?_<;>simp -dsimp only[go_sem]
 ·rintro cs γs ⟨h,-⟩;rw[En]at h;omega
 ·rintro e cs γs-⟨rfl,rfl⟩-hγ;obtain⟨g,g',rfl⟩:∃ g g',γs=[g,g']:=by
   match γs,hγ with
   | [g,g'],_=>exact⟨g,g',rfl⟩
  have hz0:=(Em _ a b (ay _) m z hz).1;have sz0:=aR hz0;have Hz:=H m z hz;have hz1:=Hz.s1;have hz2:=Hz.s2;show WPn _ _ _ _;refine WPn.end_k kd fun K hK=>?_;dsimp only[List.map,setB];by_cases h1:aa z.2=1
  ·have e3:decide ((1:Int)<(aa z.2:Int))=false:=aG aw;obtain⟨w1,w2⟩:=Hz.ew h1;have hg:(aj z.2)[0]?=some (lc z.2):=by
    rw[aD (by rw[aZ];omega),hO];show some (z.2.c 0)=some (z.2.c (aa z.2-1));rw[h1]
   have eR:FT a b m z=mU a b m*Alg.pw (lc z.2) (aa z.1-1):=by unfold FT;rw[if_pos h1]
   have esz:(aa z.1:Int)-1=((aa z.1-1:Nat):Int)\/aa z.1=0:=aw;rcases esz with esz|esz
   ·simp -dsimp only[go_sem,az,aZ,e3];refine ap 7 [] false true ?_;simp -dsimp only[go_sem,az,aZ,esz];refine⟨Int.le_refl _,aP hg ?_⟩;simp -dsimp only[go_sem,az,aZ,esz];refine ao (xd Hz.lw aw) rfl ?_;simp -dsimp only[go_sem];refine ao (kt ib Hz.ow w1 w2) rfl ?_;simp -dsimp only[go_sem];refine hK _ _ ⟨.inr rfl,?_⟩;rw[eR];simp -dsimp only[go_sem]
   ·exact absurd (aM.1 esz) (Pg _ a b (ay _) ha m z hz)
  ·have e3:decide ((1:Int)<(aa z.2:Int))=true:=aF aw;have eR:FT a b m z=0:=by unfold FT;rw[if_neg h1]
   simp -dsimp only[go_sem,az,aZ,e3];refine aK (cB 0 aH) ?_;simp -dsimp only[go_sem];refine hK _ _ ⟨.inr rfl,?_⟩;rw[eR,<-fS];simp -dsimp only[go_sem]
theorem Mw:aj (1:KP)=[1]:=cl_C (R:=KQ) one_ne
theorem D8:ku (1:KP)=kl [kn 1]:=by show kl (aj 1)=_;rw[Mw,d7]
theorem GY {a b c:KP} (hG:Fn Tryz.prog 24 [ku a,ku b] [ku (ai a b)]) (h:aa (ai a b)≠1):Fn Tryz.prog 28 [ku a,ku b,ku c] [ku 0,ku 0,iN 60]:=by
 have e1:decide ((aa (ai a b):Int)=1)=false:=aG aw;rw[fF];refine aJ (fn:=Tryz.f28) ?_;simp -dsimp only[go_sem];refine ao hG rfl ?_;simp -dsimp only[go_sem,az,aZ,e1,Bool.not_false,Bool.not_true];rfl
theorem P0 {a b c:KP} (hG:Fn Tryz.prog 24 [ku a,ku b] [ku (ai a b)]) (h:aa (ai a b)=1) (hb:aa b=1) (hM:Fn Tryz.prog 14 [ku 0,ku a] [ku 0]) (hS:Fn Tryz.prog 50 [ku c,ku 0] [ku c]) (hQ:Fn Tryz.prog 81 [ku c,ku b] [ku (qu c b)]) :
  Fn Tryz.prog 28 [ku a,ku b,ku c] [ku 0,ku (qu c b),iN 0]:=by
 have e1:decide ((aa (ai a b):Int)=1)=true:=aF aw;have e2:decide ((aa b:Int)=0)=false:=aG aw;have e3:decide ((1:Int)<(aa b:Int))=false:=aG aw;rw[fF]at hM hS ⊢;refine aJ (fn:=Tryz.f28) ?_;simp -dsimp only[go_sem];refine ao hG rfl ?_;simp -dsimp only[go_sem,az,aZ,e1,e2,e3,Bool.not_false,Bool.not_true];refine ao hM rfl ?_;simp -dsimp only[go_sem];refine ao hS rfl ?_;simp -dsimp only[go_sem];refine ao hQ rfl ?_;simp -dsimp only[go_sem];rfl
theorem Dm {a b c s t:KP} (hG:Fn Tryz.prog 24 [ku a,ku b] [ku (ai a b)]) (h:aa (ai a b)=1) (hb:aa b=2) (hr:aa (ab a b)=1) (hR:Fn Tryz.prog 82 [ku a,ku b] [ku (ab a b)])
  (hq1:Fn Tryz.prog 81 [ku 1,ku (ab a b)] [ku (qu 1 (ab a b))]) (hm:Fn Tryz.prog 14 [ku c,ku (qu 1 (ab a b))] [ku (c*qu 1 (ab a b))]) (hr2:Fn Tryz.prog 82 [ku (c*qu 1 (ab a b)),ku b] [ku s])
  (hm2:Fn Tryz.prog 14 [ku s,ku a] [ku (s*a)]) (hs:Fn Tryz.prog 50 [ku c,ku (s*a)] [ku (c-s*a)]) (hq:Fn Tryz.prog 81 [ku (c-s*a),ku b] [ku t]):Fn Tryz.prog 28 [ku a,ku b,ku c] [ku s,ku t,iN 0]:=by
 have e1:decide ((aa (ai a b):Int)=1)=true:=aF aw;have e2:decide ((aa b:Int)=0)=false:=aG aw;have e3:decide ((1:Int)<(aa b:Int))=true:=aF aw;have e4:decide ((1:Int)<(aa (ab a b):Int))=false:=aG aw;rw[D8]at hq1;refine aJ (fn:=Tryz.f28) ?_;simp -dsimp only[go_sem];refine ao hG rfl ?_;simp -dsimp only[go_sem,az,aZ,e1,e2,e3,Bool.not_false,Bool.not_true];refine ao hR rfl ?_;simp -dsimp only[go_sem];refine aK (cB 1 aH) ?_;simp -dsimp only[go_sem];refine a8 [(10,14),(35,52)] [] [] (fun m τ β ε=>m=0/\τ 10 = .i (ku (ab a b))/\τ 11 = .fl [kr (kn 1)]) (fun e τ β ε=>e = .exit 0/\τ 10 = .i (ku (ab a b))/\τ 11 = .fl [kr (kn 1)]) 0 ?_ ?_ ?_
 ·exact⟨rfl,rfl,rfl⟩
 ·rintro m τ β ε π hK hKB hKE ⟨rfl,h10,h11⟩;simp -dsimp only[go_sem,h10,h11,az,aZ,e4];exact⟨(aA hK),hKB,hKE⟩
 ·rintro e τ β ε π hK hKB hKE ⟨rfl,h10,h11⟩;have k0:τ 0 = .i (ku a):=(hK 0 rfl).trans rfl;have k1:τ 1 = .i (ku b):=(hK 1 rfl).trans rfl;have k2:τ 2 = .i (ku c):=(hK 2 rfl).trans rfl;simp -dsimp only[go_sem,h10,h11,k0,k1,k2];refine ao hq1 rfl ?_;simp -dsimp only[go_sem,k0,k1,k2];refine ao hm rfl ?_;simp -dsimp only[go_sem,k0,k1,k2];refine ao hr2 rfl ?_;simp -dsimp only[go_sem,k0,k1,k2];refine ao hm2 rfl ?_;simp -dsimp only[go_sem,k0,k1,k2];refine ao hs rfl ?_;simp -dsimp only[go_sem,k0,k1,k2];refine ao hq rfl ?_;simp -dsimp only[go_sem]
noncomputable def sqr (x:KP×Nat):List C:=[kc x.1,C.v (.int .i64 (x.2:Int))]
inductive SqR:Nat->Nat->KP->KP->List (KP×Nat)->Prop
 | stop {n:Nat} {b c:KP} (h:aa b<=1):SqR 0 n b c []
 | step {m n:Nat} {b c:KP} {out:List (KP×Nat)} (h:1<aa b) (h1:Fn Tryz.prog 17 [ku b] [ku (der b)]) (h2:Fn Tryz.prog 50 [ku c,ku (der b)] [ku (c-der b)])
   (h3:Fn Tryz.prog 24 [ku b,ku (c-der b)] [ku (ai b (c-der b))]) (h4:Fn Tryz.prog 81 [ku b,ku (ai b (c-der b))] [ku (qu b (ai b (c-der b)))])
   (h5:Fn Tryz.prog 81 [ku (c-der b),ku (ai b (c-der b))] [ku (qu (c-der b) (ai b (c-der b)))]) (h6:SqR m (n+1) (qu b (ai b (c-der b))) (qu (c-der b) (ai b (c-der b))) out) :
   SqR (m+1) n b c ((if 1<aa (ai b (c-der b))then[(ai b (c-der b),n)]else[])++out)
theorem qL {a:KP} (h:aa a<2):Fn Tryz.prog 31 [ku a] [.c (.lst [])]:=by
 have e1:decide ((aa a:Int)<2)=true:=aF aw;refine aJ (fn:=Tryz.f31) ?_;simp -dsimp only[go_sem,az,aZ,e1]
theorem Dk {a:KP} {m:Nat} {out:List (KP×Nat)} (h:2<=aa a) (hm:m<=1000) (hM:Fn Tryz.prog 53 [ku a] [ku (mn a)]) (hD:Fn Tryz.prog 17 [ku (mn a)] [ku (der (mn a))])
  (hG:Fn Tryz.prog 24 [ku (mn a),ku (der (mn a))] [ku (ai (mn a) (der (mn a)))]) (hq:Fn Tryz.prog 81 [ku (mn a),ku (ai (mn a) (der (mn a)))] [ku (qu (mn a) (ai (mn a) (der (mn a))))])
  (hq2:Fn Tryz.prog 81 [ku (der (mn a)),ku (ai (mn a) (der (mn a)))] [ku (qu (der (mn a)) (ai (mn a) (der (mn a))))])
  (hR:SqR m 1 (qu (mn a) (ai (mn a) (der (mn a)))) (qu (der (mn a)) (ai (mn a) (der (mn a)))) out):Fn Tryz.prog 31 [ku a] [.c (.lst (out.map sqr))]:=by
 have e1:decide ((aa a:Int)<2)=false:=aG aw;refine aJ (fn:=Tryz.f31) ?_;simp -dsimp only[go_sem,az,aZ,e1];refine ao hM rfl ?_;simp -dsimp only[go_sem];refine ao hD rfl ?_;simp -dsimp only[go_sem];refine ao hG rfl ?_;simp -dsimp only[go_sem];refine ao hq rfl ?_;simp -dsimp only[go_sem];refine ao hD rfl ?_;simp -dsimp only[go_sem];refine ao hq2 rfl ?_;simp -dsimp only[go_sem];refine cv 6 6 2 (rs:=[]) rfl au ?_;refine bt [(4,9),(26,52)] [] [(46,46),(6,6)] (fun k τ β ε=>∃(n:Nat) (b c:KP) (o1 o2:List (KP×Nat)),n+k=1+m/\o1.length+1<=n/\SqR k n b c o2/\out=o1++o2/\τ 4 = .i (ku b)/\τ 5 = .i (ku c)/\τ 7 = .i (iN n)/\Own 2 (o1.map sqr) 6 6 τ ε)
  (fun e τ β ε=>e = .exit 0/\Own 2 (out.map sqr) 6 6 τ ε) m ?_ ?_ ?_
 ·exact⟨1,_,_,[],out,aw,au,hR,rfl,rfl,rfl,rfl,Own.mk (g:=1) (mm:=false) (len:=0) aw rfl rfl rfl⟩
 ·rintro k τ β ε π hK hKB hKE ⟨n,b,c,o1,o2,hn,ho1,hS,rfl,h4,h5,h7,g,mm,hg,h6,hrow⟩;cases hS with
  | stop hb =>
   have e2:decide ((1:Int)<(aa b:Int))=false:=aG aw;simp only[List.append_nil];simp -dsimp only[go_sem,h4,az,aZ,e2];exact⟨(aA hK),hKB,hKE,Own.mk hg h6 rfl hrow⟩
  | @step k' _ _ _ o3 hb c1 c2 c3 c4 c5 hS' =>
   have e2:decide ((1:Int)<(aa b:Int))=true:=aF aw;simp -dsimp only[go_sem,h4,h5,h7,az,aZ,e2];refine ao c1 rfl ?_;simp -dsimp only[go_sem,h4,h5,h7];refine ao c2 rfl ?_;simp -dsimp only[go_sem,h4,h5,h7];refine ao c3 rfl ?_;by_cases hf:1<aa (ai b (c-der b))
   ·have e3:decide ((1:Int)<(aa (ai b (c-der b)):Int))=true:=aF aw;simp -dsimp only[go_sem,h4,h5,h6,h7,hrow,hg,az,aZ,e3]
    repeat(refine And.intro aw ?_)
    refine ao c4 rfl ?_;simp -dsimp only[go_sem,h4,h5,h7];refine ao c5 rfl ?_;simp -dsimp only[go_sem,h4,h5,h7]
    repeat(refine And.intro aw ?_)
    refine be k' 6 46 6 aw rfl rfl aw aH ⟨(aA hK),hKB,(aA hKE),n+1,_,_,o1++[(ai b (c-der b),n)],o3,aw,ar,hS',?_,rfl,rfl,rfl,?_⟩
    ·rw[if_pos hf,List.append_assoc]
    ·exact Own.mk2 (Nat.succ_pos _) (by simp -dsimp only[go_sem];rfl) (by simp -dsimp only[go_sem];rfl) au (by simp;rfl)
   ·have e3:decide ((1:Int)<(aa (ai b (c-der b)):Int))=false:=aG aw;simp -dsimp only[go_sem,h4,h5,h6,h7,az,aZ,e3];refine ao c4 rfl ?_;simp -dsimp only[go_sem,h4,h5,h7];refine ao c5 rfl ?_;simp -dsimp only[go_sem,h4,h5,h7]
    repeat(refine And.intro aw ?_)
    refine again k' aw ⟨(aA hK),hKB,hKE,n+1,_,_,o1,o3,aw,aw,hS',?_,rfl,rfl,rfl,Own.mk hg (by simp -dsimp only[go_sem,h6]) rfl hrow⟩;rw[if_neg hf];rfl
 ·rintro e τ β ε π hK hKB hKE ⟨rfl,g,mm,hg,h6,hrow⟩;refine⟨_,bA.refl _,?_⟩;simp -dsimp only[go_sem,h6,hrow,hg]
end Go.AM
namespace Go.AM
open Go.Proofs
theorem jb (e:Ex):Fn Tryz.prog 125 [iE e] [iB (decide (dc e))]:=by
 refine aJ (fn:=Tryz.f125) ?_;by_cases h0:0<=e.a
 ·by_cases h1:0<=e.b
  ·by_cases h2:0<=e.c
   ·by_cases h3:0<=e.d
    ·simp -dsimp only[go_sem,Int.reduceToNat,Int.reduceLE,aC,h0,h1,h2,h3];rw[aF (show dc e from⟨h0,h1,h2,h3⟩)]
    ·simp -dsimp only[go_sem,Int.reduceToNat,Int.reduceLE,aC,h0,h1,h2,h3];rw[aG (show¬ dc e from fun h=>h3 h.2.2.2)]
   ·simp -dsimp only[go_sem,Int.reduceToNat,Int.reduceLE,aC,h0,h1,h2];rw[aG (show¬ dc e from fun h=>h2 h.2.2.1)]
  ·simp -dsimp only[go_sem,Int.reduceToNat,Int.reduceLE,aC,h0,h1];rw[aG (show¬ dc e from fun h=>h1 h.2.1)]
 ·simp -dsimp only[go_sem,Int.reduceToNat,Int.reduceLE,aC,h0];rw[aG (show¬ dc e from fun h=>h0 h.1)]
theorem nZ (e f:Ex):Fn Tryz.prog 100 [iE e,iE f] [iB (decide (0<cp e f))]:=by
 refine aJ (fn:=Tryz.f100) ?_;simp -dsimp only[go_sem];refine a8 [(4,23)] [] [] (fun n τ β ε=>∃ i:Int,n=(i+1).toNat /\ -1<=i/\i<=3/\(i<3->e.d=f.d)/\(i<2->e.c=f.c)/\(i<1->e.b=f.b)/\(i<0->e.a=f.a)/\τ 5 = .i (iN i))
  (fun x τ β ε=>(x = .exit 0/\e=f)\/(x = .ret/\τ 4 = .i (iB (decide (0<cp e f))))) 4 ?_ ?_ ?_
 ·exact⟨3,aw,aw,aw,aw,aw,aw,aw,rfl⟩
 ·rintro n τ β ε π hK hKB hKE ⟨i,hn,hi0,hi,hd,hc,hb,ha,h5⟩;have k2:τ 2 = .bp 2 1 0:=(hK 2 rfl).trans rfl;have k3:τ 3 = .bp 3 1 0:=(hK 3 rfl).trans rfl;have b2:β 2=⟨1,e.cs⟩:=(hKB 2 rfl).trans rfl;have b3:β 3=⟨1,f.cs⟩:=(hKB 3 rfl).trans rfl;obtain rfl|rfl|rfl|rfl|rfl:i=3\/i=2\/i=1\/i=0\/i = -1:=aw
  ·simp -dsimp only[go_sem,h5,Int.reduceLE,decide_true,decide_false];refine ap 7 [] false true ?_;simp -dsimp only[go_sem,Int.reduceToNat,Int.reduceLE,aC,h5,k2,k3,b2,b3];by_cases hx:e.d=f.d
   ·have e1:decide (e.d=f.d)=true:=aF hx;simp -dsimp only[go_sem,Int.reduceToNat,Int.reduceLE,aC,e1,h5]
    repeat(refine And.intro aw ?_)
    exact again 3 aw ⟨(aA hK),hKB,hKE,2,rfl,aw,aw,aw,aw,aw,aw,rfl⟩
   ·have e1:decide (e.d=f.d)=false:=aG hx;simp -dsimp only[go_sem,Int.reduceToNat,Int.reduceLE,aC,e1];refine ap 8 [] false true ?_;simp -dsimp only[go_sem,Int.reduceToNat,Int.reduceLE,aC,h5,k2,k3,b2,b3];refine⟨(aA hK),hKB,hKE,?_⟩;have e2:decide (f.d<e.d)=decide (0<cp e f):=by rw[decide_eq_decide,i7];omega
    rw[e2]
  ·simp -dsimp only[go_sem,h5,Int.reduceLE,decide_true,decide_false];refine ap 7 [] false true ?_;simp -dsimp only[go_sem,Int.reduceToNat,Int.reduceLE,aC,h5,k2,k3,b2,b3];by_cases hx:e.c=f.c
   ·have e1:decide (e.c=f.c)=true:=aF hx;simp -dsimp only[go_sem,Int.reduceToNat,Int.reduceLE,aC,e1,h5]
    repeat(refine And.intro aw ?_)
    exact again 2 aw ⟨(aA hK),hKB,hKE,1,rfl,aw,aw,aw,aw,aw,aw,rfl⟩
   ·have e1:decide (e.c=f.c)=false:=aG hx;simp -dsimp only[go_sem,Int.reduceToNat,Int.reduceLE,aC,e1];refine ap 8 [] false true ?_;simp -dsimp only[go_sem,Int.reduceToNat,Int.reduceLE,aC,h5,k2,k3,b2,b3];refine⟨(aA hK),hKB,hKE,?_⟩;have e2:decide (f.c<e.c)=decide (0<cp e f):=by rw[decide_eq_decide,i7];omega
    rw[e2]
  ·simp -dsimp only[go_sem,h5,Int.reduceLE,decide_true,decide_false];refine ap 7 [] false true ?_;simp -dsimp only[go_sem,Int.reduceToNat,Int.reduceLE,aC,h5,k2,k3,b2,b3];by_cases hx:e.b=f.b
   ·have e1:decide (e.b=f.b)=true:=aF hx;simp -dsimp only[go_sem,Int.reduceToNat,Int.reduceLE,aC,e1,h5]
    repeat(refine And.intro aw ?_)
    exact again 1 aw ⟨(aA hK),hKB,hKE,0,rfl,aw,aw,aw,aw,aw,aw,rfl⟩
   ·have e1:decide (e.b=f.b)=false:=aG hx;simp -dsimp only[go_sem,Int.reduceToNat,Int.reduceLE,aC,e1];refine ap 8 [] false true ?_;simp -dsimp only[go_sem,Int.reduceToNat,Int.reduceLE,aC,h5,k2,k3,b2,b3];refine⟨(aA hK),hKB,hKE,?_⟩;have e2:decide (f.b<e.b)=decide (0<cp e f):=by rw[decide_eq_decide,i7];omega
    rw[e2]
  ·simp -dsimp only[go_sem,h5,Int.reduceLE,decide_true,decide_false];refine ap 7 [] false true ?_;simp -dsimp only[go_sem,Int.reduceToNat,Int.reduceLE,aC,h5,k2,k3,b2,b3];by_cases hx:e.a=f.a
   ·have e1:decide (e.a=f.a)=true:=aF hx;simp -dsimp only[go_sem,Int.reduceToNat,Int.reduceLE,aC,e1,h5]
    repeat(refine And.intro aw ?_)
    exact again 0 aw ⟨(aA hK),hKB,hKE,-1,rfl,aw,aw,aw,aw,aw,aw,rfl⟩
   ·have e1:decide (e.a=f.a)=false:=aG hx;simp -dsimp only[go_sem,Int.reduceToNat,Int.reduceLE,aC,e1];refine ap 8 [] false true ?_;simp -dsimp only[go_sem,Int.reduceToNat,Int.reduceLE,aC,h5,k2,k3,b2,b3];refine⟨(aA hK),hKB,hKE,?_⟩;have e2:decide (f.a<e.a)=decide (0<cp e f):=by rw[decide_eq_decide,i7];omega
    rw[e2]
  ·simp -dsimp only[go_sem,h5,Int.reduceLE,decide_true,decide_false];refine⟨(aA hK),hKB,hKE,?_⟩;cases e;cases f;simp only[Ex.mk.injEq];exact⟨ha aw,hb aw,hc aw,hd aw⟩
 ·rintro x τ β ε π hK hKB hKE h;rcases h with⟨rfl,rfl⟩|⟨rfl,h⟩
  ·simp -dsimp only[go_sem];rw[aG (by rw[(jK e e).2 rfl];omega)]
  ·simp -dsimp only[go_sem,h]
theorem Ht {x y:Operand} {e f:Ex} {K:Value->Prop} (h:K (.bool (!decide (e=f)))):fp Tryz.prog .neq 100 x y (.agg #[.int .i64 e.a,.int .i64 e.b,.int .i64 e.c,.int .i64 e.d]) (.agg #[.int .i64 f.a,.int .i64 f.b,.int .i64 f.c,.int .i64 f.d]) K:=by
 refine⟨.bool (!decide (e=f)),fun w=>?_,rfl,h⟩;have h1:(eqGuard .neq 100 x y e.v f.v).run Tryz.prog w = .ok () w:=av;have h2:(binOp .neq 100 e.v f.v).run Tryz.prog w = .ok (.bool (!decide (e=f))) w:=by
  show(do pure (.bool (!(← Op.equal 100 e.v f.v))):Sem Value).run Tryz.prog w=_
  rw[Sem.run_bind,mt.eq e f w];rfl
 show(do eqGuard .neq 100 x y e.v f.v;binOp .neq 100 e.v f.v:Sem Value).run Tryz.prog w=_
 rw[Sem.run_bind,h1,Result.andThen_ok,h2]
theorem rO (a b:List Tm) (hl:a.length<=1099511627776) (hx:∀ t∈a,QB 17179869184 t.2) (hy:∀ t∈b,QB 17179869184 t.2):Fn Tryz.prog 93 [iM a,iM b] [iB (decide (a=b))]:=by
 refine aJ (fn:=Tryz.f93) ?_;by_cases hab:a.length=b.length
 ·have e1:decide ((a.length:Int)=(b.length:Int))=true:=aF aw;simp -dsimp only[go_sem,e1,az];refine a8 [(4,5),(11,41)] [] [] (fun n τ β ε=>∃ i:Nat,n=a.length-i/\i<=a.length/\a.take i=b.take i/\τ 5 = .i (iN i))
   (fun e τ β ε=>(e = .exit 0/\a=b)\/(e = .ret/\¬ a=b/\τ 4 = .i (.c (.v (.bool false))))) a.length ?_ ?_ ?_
  ·exact⟨0,aw,aw,rfl,rfl⟩
  ·rintro n τ β ε π hK hKB hKE ⟨i,hn,hi,he,h5⟩;have k0:τ 0 = .i (iM a):=(hK 0 rfl).trans rfl;have k1:τ 1 = .i (iM b):=(hK 1 rfl).trans rfl;by_cases hlt:i<a.length
   ·have hA:(i:Int)<(a.length:Int):=aw;have hlb:i<b.length:=aw;have ga:a[i]?=some a[i]:=by simp[hlt]
    have gb:b[i]?=some b[i]:=by simp[hlb]
    simp -dsimp only[go_sem,h5,k0,k1,hA,az];refine ap 25 [] false true ?_;simp -dsimp only[go_sem,h5,k0,k1];refine aP ga ?_;simp -dsimp only[go_sem,h5,k0,k1,Int.reduceToNat,Int.reduceLE,aC];refine aP gb ?_;simp -dsimp only[go_sem,h5,k0,k1,Int.reduceToNat,Int.reduceLE,aC];refine Ht ?_;by_cases hex:a[i].1=b[i].1
    ·have e2:decide (a[i].1=b[i].1)=true:=aF hex;simp -dsimp only[go_sem,e2];refine aP ga ?_;simp -dsimp only[go_sem,h5,k0,k1,Int.reduceToNat,Int.reduceLE,aC];refine aP gb ?_;simp -dsimp only[go_sem,h5,k0,k1,Int.reduceToNat,Int.reduceLE,aC];refine aQ (args':=[iQ a[i].2,iQ b[i].2]) rfl (GX _ _ (hx _ (List.getElem_mem _)) (hy _ (List.getElem_mem _))) ?_;by_cases hc:a[i].2=b[i].2
     ·simp -dsimp only[go_sem,hc,h5]
      repeat(refine And.intro aw ?_)
      refine again (a.length-(i+1)) aw ⟨(aA hK),hKB,hKE,i+1,rfl,aw,?_,rfl⟩;rw[aq hlt,aq hlb,he,show a[i]=b[i]from Prod.ext hex hc]
     ·simp -dsimp only[go_sem,hc];exact⟨(aA hK),hKB,hKE,fun e=>hc (by simp[e])⟩
    ·have e2:decide (a[i].1=b[i].1)=false:=aG hex;simp -dsimp only[go_sem,e2];exact⟨(aA hK),hKB,hKE,fun e=>hex (by simp[e])⟩
   ·have hA:¬ (i:Int)<(a.length:Int):=aw;obtain rfl:i=a.length:=aw;simp -dsimp only[go_sem,h5,k0,hA,az];have:a=b:=by rw[List.take_length,List.take_of_length_le aw]at he;exact he
    exact⟨(aA hK),hKB,hKE,this⟩
  ·rintro e τ β ε π hK hKB hKE h;rcases h with⟨rfl,h⟩|⟨rfl,h,h6⟩
   ·simp -dsimp only[go_sem,h]
   ·simp -dsimp only[go_sem,h,h6]
 ·have e1:decide ((a.length:Int)=(b.length:Int))=false:=aG aw;simp -dsimp only[go_sem,e1,az];have:¬ a=b:=fun e=>hab (by rw[e]);rw[aG this]
theorem uY {α:Type} {l:List α} {i:Nat} (h:i<l.length):l.drop i=l[i]::l.drop (i+1):=by rw[List.drop_eq_getElem_cons h]
set_option maxHeartbeats 1000000 in
theorem qD (a b:List Tm) (hl:a.length+b.length<=1099511627776) (ha:∀ t∈a,QB 8589934592 t.2) (hb:∀ t∈b,QB 8589934592 t.2):Fn Tryz.prog 56 [iM a,iM b] [iM (gw a b)]:=by
 refine aJ (fn:=Tryz.f56) ?_;simp -dsimp only[go_sem];refine cv 5 9 8 (rs:=[]) rfl au ?_;refine bt [(5,8),(10,105)] [(8,8)] [(9,9),(49,49),(75,75),(101,101)] (fun n τ β ε=>∃(out:List Tm) (i k:Nat),n=(a.length-i)+(b.length-k)/\i<=a.length/\k<=b.length/\gw a b=out++gw (a.drop i) (b.drop k)/\out.length<=i+k /\
   τ 6 = .i (iN i)/\τ 7 = .i (iN k)/\Own 8 (out.map eT) 5 9 τ ε)
  (fun e τ β ε=>e = .exit 0/\Own 8 ((gw a b).map eT) 5 9 τ ε) (a.length+b.length) ?_ ?_ ?_
 ·exact⟨[],0,0,aw,aw,aw,au,au,rfl,rfl,Own.mk (g:=1) (mm:=false) aw rfl rfl rfl⟩
 ·rintro n τ β ε π hK hKB hKE ⟨out,i,k,hn,hi,hk,he,hlen,h6,h7,g,mm,hg,h5,h9⟩;have h5':τ 5 = .sl 9 g out.length:=by rw[h5,az]
  have k0:τ 0 = .i (iM a):=(hK 0 rfl).trans rfl;have k1:τ 1 = .i (iM b):=(hK 1 rfl).trans rfl;by_cases hA:i<a.length
  ·have dA:decide ((i:Int)<(a.length:Int))=true:=aF aw;have dA':decide ((i:Int)=(a.length:Int))=false:=aG aw;have ga:a[i]?=some a[i]:=by simp[hA]
   have tA:=uY hA;by_cases hB:k<b.length
   ·have dB:decide ((k:Int)=(b.length:Int))=false:=aG aw;have gb:b[k]?=some b[k]:=by simp[hB]
    have tB:=uY hB;rw[tA,tB,jN]at he;simp -dsimp only[go_sem,h6,h7,k0,k1,dA,dB,az];refine ap 23 [] false true ?_;simp -dsimp only[go_sem,h6,h7,k0,k1,dA,dB,az,Int.reduceToNat,Int.reduceLE,aC];refine aP ga ?_;simp -dsimp only[go_sem,h6,h7,k0,k1,dA,dB,az,Int.reduceToNat,Int.reduceLE,aC];refine aP gb ?_;simp -dsimp only[go_sem,h6,h7,k0,k1,dA,dB,az,Int.reduceToNat,Int.reduceLE,aC];refine aQ (args':=[iE a[i].1,iE b[k].1]) rfl (nZ _ _) ?_;by_cases c1:0<cp a[i].1 b[k].1
    ·rw[if_pos c1,<-tB]at he;have e1:decide (0<cp a[i].1 b[k].1)=true:=aF c1;simp -dsimp only[go_sem,e1,h5',h9,hg,h6,h7,k0,k1,Int.reduceToNat,Int.reduceLE,aC];refine aP ga ?_;simp -dsimp only[go_sem,e1,h5',h9,hg,h6,h7,k0,k1,Int.reduceToNat,Int.reduceLE,aC]
     repeat(refine And.intro aw ?_)
     refine be ((a.length-(i+1))+(b.length-k)) 5 49 9 aw rfl rfl aw aH ⟨(aA hK),hKB,(aA hKE),out++[a[i]],i+1,k,rfl,aw,hk,?_,ar,rfl,h7,?_⟩
     ·rw[he,List.append_assoc];rfl
     ·exact Own.mk2 (Nat.succ_pos _) (by simp -dsimp only[go_sem];rfl) (by simp -dsimp only[go_sem];rfl) au (by simp;rfl)
    ·rw[if_neg c1]at he;have e1:decide (0<cp a[i].1 b[k].1)=false:=aG c1;simp -dsimp only[go_sem,e1];refine ap 17 [] false true ?_;simp -dsimp only[go_sem,h6,h7,k0,k1,dA,dB,az,dA',Int.reduceToNat,Int.reduceLE,aC];refine aP gb ?_;simp -dsimp only[go_sem,h6,h7,k0,k1,dA,dB,az,dA',Int.reduceToNat,Int.reduceLE,aC];refine aP ga ?_;simp -dsimp only[go_sem,h6,h7,k0,k1,dA,dB,az,dA',Int.reduceToNat,Int.reduceLE,aC];refine aQ (args':=[iE b[k].1,iE a[i].1]) rfl (nZ _ _) ?_;by_cases c2:cp a[i].1 b[k].1<0
     ·rw[if_pos c2,<-tA]at he;have e2:decide (0<cp b[k].1 a[i].1)=true:=aF (by rw[oA];omega);simp -dsimp only[go_sem,e2,h5',h9,hg,h6,h7,k0,k1,Int.reduceToNat,Int.reduceLE,aC];refine aP gb ?_;simp -dsimp only[go_sem,e2,h5',h9,hg,h6,h7,k0,k1,Int.reduceToNat,Int.reduceLE,aC]
      repeat(refine And.intro aw ?_)
      refine be ((a.length-i)+(b.length-(k+1))) 5 75 9 aw rfl rfl aw aH ⟨(aA hK),hKB,(aA hKE),out++[b[k]],i,k+1,rfl,hi,aw,?_,ar,h6,rfl,?_⟩
      ·rw[he,List.append_assoc];rfl
      ·exact Own.mk2 (Nat.succ_pos _) (by simp -dsimp only[go_sem];rfl) (by simp -dsimp only[go_sem];rfl) au (by simp;rfl)
     ·rw[if_neg c2]at he;have e2:decide (0<cp b[k].1 a[i].1)=false:=aG (by rw[oA];omega);simp -dsimp only[go_sem,e2];refine ap 12 [8] false true ?_;simp -dsimp only[go_sem,h6,h7,k0,k1,dA,dB,az,Int.reduceToNat,Int.reduceLE,aC];refine aP ga ?_;simp -dsimp only[go_sem,h6,h7,k0,k1,dA,dB,az,Int.reduceToNat,Int.reduceLE,aC];refine aP gb ?_;simp -dsimp only[go_sem,h6,h7,k0,k1,dA,dB,az,Int.reduceToNat,Int.reduceLE,aC];refine aQ (args':=[iQ a[i].2,iQ b[k].2]) rfl (A5 _ _ (ha _ (List.getElem_mem hA)) (hb _ (List.getElem_mem hB))) ?_;simp -dsimp only[go_sem];refine ao (lT (a[i].2+b[k].2)) rfl ?_;by_cases c3:a[i].2+b[k].2=0
      ·rw[if_pos c3]at he;have e3:decide ((a[i].2+b[k].2).num.sign=0)=true:=by rw[ci];exact aF c3
       simp -dsimp only[go_sem,e3,h6,h7,Int.reduceToNat,Int.reduceLE,aC]
       repeat(refine And.intro aw ?_)
       refine again ((a.length-(i+1))+(b.length-(k+1))) aw ⟨(aA hK),(aA hKB),hKE,out,i+1,k+1,rfl,aw,aw,he,aw,rfl,rfl,Own.mk hg h5' au h9⟩
      ·rw[if_neg c3]at he;have e3:decide ((a[i].2+b[k].2).num.sign=0)=false:=by rw[ci];exact aG c3
       simp -dsimp only[go_sem,e3,h6,h7,Int.reduceToNat,Int.reduceLE,aC];refine ap 11 [] true false ?_;simp -dsimp only[go_sem,h5',h9,hg,h6,h7,k0,k1,Int.reduceToNat,Int.reduceLE,aC];refine aP ga ?_;simp -dsimp only[go_sem,h5',h9,hg,h6,h7,k0,k1,Int.reduceToNat,Int.reduceLE,aC]
       repeat(refine And.intro aw ?_)
       refine be ((a.length-(i+1))+(b.length-(k+1))) 5 101 9 aw rfl rfl aw aH ⟨(aA hK),(aA hKB),(aA hKE),out++[(a[i].1,a[i].2+b[k].2)],i+1,k+1,rfl,aw,aw,?_,ar,rfl,rfl,?_⟩
       ·rw[he,List.append_assoc];rfl
       ·exact Own.mk2 (Nat.succ_pos _) (by simp -dsimp only[go_sem];rfl) (by simp -dsimp only[go_sem];rfl) au (by simp;rfl)
   ·obtain rfl:k=b.length:=aw;have dB:decide ((b.length:Int)=(b.length:Int))=true:=aF rfl;rw[tA,List.drop_length,jM]at he;simp -dsimp only[go_sem,h6,h7,k0,k1,dA,dB,az];refine ap 23 [] false true ?_;simp -dsimp only[go_sem,dB,dA,az,h5',h9,hg,h6,h7,k0,k1,Int.reduceToNat,Int.reduceLE,aC];refine aP ga ?_;simp -dsimp only[go_sem,dB,dA,az,h5',h9,hg,h6,h7,k0,k1,Int.reduceToNat,Int.reduceLE,aC]
    repeat(refine And.intro aw ?_)
    refine be ((a.length-(i+1))+(b.length-b.length)) 5 49 9 aw rfl rfl aw aH ⟨(aA hK),hKB,(aA hKE),out++[a[i]],i+1,b.length,rfl,aw,hk,?_,ar,rfl,h7,?_⟩
    ·rw[he,List.append_assoc,List.drop_length,jM];rfl
    ·exact Own.mk2 (Nat.succ_pos _) (by simp -dsimp only[go_sem];rfl) (by simp -dsimp only[go_sem];rfl) au (by simp;rfl)
  ·obtain rfl:i=a.length:=aw;have dA:decide ((a.length:Int)<(a.length:Int))=false:=aG aw;have dA':decide ((a.length:Int)=(a.length:Int))=true:=aF rfl;by_cases hB:k<b.length
   ·have dB:decide ((k:Int)=(b.length:Int))=false:=aG aw;have dB':decide ((k:Int)<(b.length:Int))=true:=aF aw;have gb:b[k]?=some b[k]:=by simp[hB]
    have tB:=uY hB;rw[tB,List.drop_length,hZ]at he;simp -dsimp only[go_sem,h6,h7,k0,k1,dA,dB,az,dB'];refine ap 23 [] false true ?_;simp -dsimp only[go_sem,h6,h7,k0,k1,dA,dB,az,Int.reduceToNat,Int.reduceLE,aC];refine ap 17 [] false true ?_;simp -dsimp only[go_sem,h6,h7,k0,k1,dA,dB,az,dA',Int.reduceToNat,Int.reduceLE,aC];refine aP gb ?_;simp -dsimp only[go_sem,dB,dA,az,h5',h9,hg,h6,h7,k0,k1,Int.reduceToNat,Int.reduceLE,aC]
    repeat(refine And.intro aw ?_)
    refine be ((a.length-a.length)+(b.length-(k+1))) 5 75 9 aw rfl rfl aw aH ⟨(aA hK),hKB,(aA hKE),out++[b[k]],a.length,k+1,rfl,hi,aw,?_,ar,h6,rfl,?_⟩
    ·rw[he,List.append_assoc,List.drop_length,hZ];rfl
    ·exact Own.mk2 (Nat.succ_pos _) (by simp -dsimp only[go_sem];rfl) (by simp -dsimp only[go_sem];rfl) au (by simp;rfl)
   ·obtain rfl:k=b.length:=aw;have dB:decide ((b.length:Int)<(b.length:Int))=false:=aG aw;simp -dsimp only[go_sem,h6,h7,k0,k1,dA,dB,az];rw[List.drop_length,List.drop_length,hZ,List.append_nil]at he;exact⟨(aA hK),hKB,hKE,Own.mk hg h5' (by simp[he]) (by rw[he];exact h9)⟩
 ·rintro e τ β ε π hK hKB hKE ⟨rfl,g,mm,hg,h5,h9⟩;rw[az]at h5;refine⟨_,bA.refl _,?_⟩;simp -dsimp only[go_sem,h5,h9,hg]
def nE (a:List Tm) (m:Tm):List Tm:=a.map fun x=>(x.1.add m.1,x.2*m.2)
def fB (a:List Tm) (m:Tm):List Tm:=if m.2=0 then[]else nE a m
set_option maxHeartbeats 1000000 in
theorem rL (a:List Tm) (m:Tm) (hl:a.length<=1099511627776) (ha:∀ t∈a,QB 17179869184 t.2) (hm:QB 17179869184 m.2) (hea:∀ t∈a,t.1.lt 2305843009213693952) (hem:m.1.lt 2305843009213693952):Fn Tryz.prog 103 [iM a,.g (eT m)] [iM (fB a m)]:=by
 refine aJ (fn:=Tryz.f103) ?_;simp -dsimp only[go_sem];refine cv 5 9 8 (rs:=[]) rfl au ?_;refine bt [(5,8),(10,52)] [(7,7)] [(9,9),(52,52)] (fun n τ β ε=>∃ i:Nat,n=a.length-i/\i<=a.length/\(m.2=0->i=0)/\τ 6 = .i (iN i)/\Own 8 ((nE (a.take i) m).map eT) 5 9 τ ε)
  (fun e τ β ε=>e = .exit 0/\Own 8 ((fB a m).map eT) 5 9 τ ε) a.length ?_ ?_ ?_
 ·exact⟨0,aw,aw,fun _=>rfl,rfl,Own.mk (g:=1) (mm:=false) aw rfl rfl rfl⟩
 ·rintro n τ β ε π hK hKB hKE ⟨i,hn,hi,hz,h6,g,mm,hg,h5,h9⟩;have hol:(nE (a.take i) m).length=i:=by simp[nE];omega
  have h5':τ 5 = .sl 9 g i:=by rw[h5,az,hol]
  have k0:τ 0 = .i (iM a):=(hK 0 rfl).trans rfl;have k3:τ 3 = .bp 3 1 0:=(hK 3 rfl).trans rfl;have b3:β 3=⟨1,eT m⟩:=(hKB 3 rfl).trans rfl;by_cases hA:i<a.length
  ·have dA:decide ((i:Int)<(a.length:Int))=true:=aF aw;have ga:a[i]?=some a[i]:=by simp[hA]
   simp -dsimp only[go_sem,h6,k0,k3,b3,dA,az,Int.reduceToNat,Int.reduceLE,aC];refine ao (lT m.2) rfl ?_;by_cases h0:m.2=0
   ·have e3:decide (m.2.num.sign=0)=true:=by rw[ci];exact aF h0
    obtain rfl:=hz h0;simp -dsimp only[go_sem,e3];exact⟨(aA hK),hKB,hKE,Own.mk (len:=0) hg h5' (by simp[fB,h0]) (by rw[h9,fB,if_pos h0];rfl)⟩
   ·have e3:decide (m.2.num.sign=0)=false:=by rw[ci];exact aG h0
    simp -dsimp only[go_sem,e3,h6,k0];refine aP ga ?_;simp -dsimp only[go_sem,e3,h6,k0,Int.reduceToNat,Int.reduceLE,aC];refine a8 [(8,8),(27,39)] [(7,7)] [] (fun n τ' β' ε'=>∃ k:Nat,n=4-k/\k<=4/\τ' 8 = .i (iN k)/\β' 7=⟨(β 7).gen+1,(a[i].1.part m.1 k).cs⟩)
     (fun e τ' β' ε'=>e = .exit 2/\β' 7=⟨(β 7).gen+1,(a[i].1.add m.1).cs⟩) 4 ?_ ?_ ?_
    ·exact⟨0,aw,aw,rfl,rfl⟩
    ·rintro n2 τ2 β2 ε2 π2 hK2 hKB2 hKE2 ⟨k,hn2,hk,h8,c7⟩;have r7:τ2 7 = .bp 7 ((β 7).gen+1) 0:=(hK2 7 rfl).trans rfl;have r3:τ2 3 = .bp 3 1 0:=(hK2 3 rfl).trans k3;have c3:β2 3=⟨1,eT m⟩:=(hKB2 3 rfl).trans b3;have ex:=hea _ (List.getElem_mem hA);have ey:=hem;unfold Ex.lt at ex ey;obtain rfl|rfl|rfl|rfl|rfl:k=0\/k=1\/k=2\/k=3\/k=4:=aw
     ·have h8':τ2 8 = .i (iN 0):=h8;simp -dsimp only[go_sem,h8',Int.reduceLT,decide_true,decide_false,r7,r3,c7,c3];refine ap 9 [] false true ?_;simp -dsimp only[go_sem,h8',r7,r3,c7,c3,Int.reduceToNat,Int.reduceLE,aC,Int.reduceAdd,Ex.part,Nat.not_lt_zero]
      repeat(refine And.intro aw ?_)
      refine again (4-1) aw ⟨(aA hK2),(aA hKB2),hKE2,1,rfl,aw,rfl,?_⟩;simp -dsimp only[go_sem,Ex.part,Nat.not_lt_zero]
     ·have h8':τ2 8 = .i (iN 1):=h8;simp -dsimp only[go_sem,h8',Int.reduceLT,decide_true,decide_false,r7,r3,c7,c3];refine ap 9 [] false true ?_;simp -dsimp only[go_sem,h8',r7,r3,c7,c3,Int.reduceToNat,Int.reduceLE,aC,Int.reduceAdd,Ex.part,Nat.not_lt_zero]
      repeat(refine And.intro aw ?_)
      refine again (4-2) aw ⟨(aA hK2),(aA hKB2),hKE2,2,rfl,aw,rfl,?_⟩;simp -dsimp only[go_sem,Ex.part,Nat.not_lt_zero]
     ·have h8':τ2 8 = .i (iN 2):=h8;simp -dsimp only[go_sem,h8',Int.reduceLT,decide_true,decide_false,r7,r3,c7,c3];refine ap 9 [] false true ?_;simp -dsimp only[go_sem,h8',r7,r3,c7,c3,Int.reduceToNat,Int.reduceLE,aC,Int.reduceAdd,Ex.part,Nat.not_lt_zero]
      repeat(refine And.intro aw ?_)
      refine again (4-3) aw ⟨(aA hK2),(aA hKB2),hKE2,3,rfl,aw,rfl,?_⟩;simp -dsimp only[go_sem,Ex.part,Nat.not_lt_zero]
     ·have h8':τ2 8 = .i (iN 3):=h8;simp -dsimp only[go_sem,h8',Int.reduceLT,decide_true,decide_false,r7,r3,c7,c3];refine ap 9 [] false true ?_;simp -dsimp only[go_sem,h8',r7,r3,c7,c3,Int.reduceToNat,Int.reduceLE,aC,Int.reduceAdd,Ex.part,Nat.not_lt_zero]
      repeat(refine And.intro aw ?_)
      refine again (4-4) aw ⟨(aA hK2),(aA hKB2),hKE2,4,rfl,aw,rfl,?_⟩;simp -dsimp only[go_sem,Ex.part,Nat.not_lt_zero]
     ·have h8':τ2 8 = .i (iN 4):=h8;simp -dsimp only[go_sem,h8',Int.reduceLT,decide_true,decide_false];exact⟨(aA hK2),hKB2,hKE2,c7⟩
    ·rintro e τ2 β2 ε2 π2 hK2 hKB2 hKE2 ⟨rfl,c7⟩;have r7:τ2 7 = .bp 7 ((β 7).gen+1) 0:=(hK2 7 rfl).trans rfl;have r3:τ2 3 = .bp 3 1 0:=(hK2 3 rfl).trans k3;have c3:β2 3=⟨1,eT m⟩:=(hKB2 3 rfl).trans b3;have r0:τ2 0 = .i (iM a):=(hK2 0 rfl).trans k0;have r6:τ2 6 = .i (iN i):=(hK2 6 rfl).trans h6;have r5:τ2 5 = .sl 9 g i:=(hK2 5 rfl).trans h5';have f9:ε2 9=⟨g,8,(nE (a.take i) m).map eT,mm,true⟩:=(hKE2 9 rfl).trans h9;have kO:=Kp.step2 hK hK2 (by intro n;simp[inR]<;>omega) (aA hK);have kB:=Kp.step2 hKB hKB2 (by intro n;simp[inR]<;>omega) (aA hKB);have kE:=Kp.step2 hKE hKE2 (by intro n;simp[inR]) hKE;refine ap 14 [] true false ?_;simp -dsimp only[go_sem,r7,r3,c7,c3,r0,r6,r5,f9,hg,Int.reduceToNat,Int.reduceLE,aC];refine aP ga ?_;simp -dsimp only[go_sem,r7,r3,c7,c3,r0,r6,r5,f9,hg,Int.reduceToNat,Int.reduceLE,aC];refine aQ (args':=[iQ a[i].2,iQ m.2]) rfl (Kk _ _ (ha _ (List.getElem_mem _)) hm) ?_;simp -dsimp only[go_sem,r7,r3,c7,c3,r0,r6,r5,f9,hg,Int.reduceToNat,Int.reduceLE,aC,az,hol]
     repeat(refine And.intro aw ?_)
     refine be (a.length-(i+1)) 5 52 9 aw rfl rfl aw aH ⟨(aA kO),kB,(aA kE),i+1,rfl,aw,fun h=>absurd h h0,rfl,?_⟩;refine Own.mk2 (Nat.succ_pos _) (by simp -dsimp only[go_sem];rfl) (by simp -dsimp only[go_sem];rfl) (by simp[hol]) ?_;rw[aq hA,nE,nE,List.map_append,List.map_append];rfl
  ·have dA:decide ((i:Int)<(a.length:Int))=false:=aG aw;obtain rfl:i=a.length:=aw;have ht:nE (a.take a.length) m=fB a m:=by
    rw[List.take_length,fB];by_cases h0:m.2=0
    ·rw[if_pos h0];have:=hz h0;rw[List.length_eq_zero_iff.1 this];rfl
    ·rw[if_neg h0]
   simp -dsimp only[go_sem,h6,k0,dA,az];rw[ht]at h5 h9;rw[az]at h5;exact⟨(aA hK),hKB,hKE,Own.mk hg h5 au h9⟩
 ·rintro e τ β ε π hK hKB hKE ⟨rfl,g,mm,hg,h5,h9⟩;rw[az]at h5;refine⟨_,bA.refl _,?_⟩;simp -dsimp only[go_sem,h5,h9,hg]
theorem G6 (e:Ex):e.add e0=e:=by cases e;simp[Ex.add,e0]
theorem FF (a:List Tm) (c:Rat):fB a (e0,c)=eC a c:=by
 unfold fB eC nE;simp only[G6]
theorem Rh:e0.lt 2305843009213693952:=by unfold Ex.lt e0;decide
theorem vi (a:List Tm) (c:Rat) (hl:a.length<=1099511627776) (ha:∀ t∈a,QB 17179869184 t.2) (hc:QB 17179869184 c) (hea:∀ t∈a,t.1.lt 2305843009213693952):Fn Tryz.prog 85 [iM a,iQ c] [iM (eC a c)]:=by
 refine aJ (fn:=Tryz.f85) ?_;simp -dsimp only[go_sem];refine ao (rL a (e0,c) hl ha hc hea Rh) rfl ?_;rw[FF];simp -dsimp only[go_sem]
theorem Ka (a b:List Tm) (hl:a.length+b.length<=1099511627776) (ha:∀ t∈a,QB 8589934592 t.2) (hb:∀ t∈b,QB 8589934592 t.2) (heb:∀ t∈b,t.1.lt 2305843009213693952):Fn Tryz.prog 174 [iM a,iM b] [iM (FI a b)]:=by
 refine aJ (fn:=Tryz.f174) ?_;simp -dsimp only[go_sem];refine aK (d8 (-1) aH) ?_;simp -dsimp only[go_sem];refine aQ (args':=[iM b,iQ (-1)]) rfl (vi b (-1) aw (fun t ht=>(hb t ht).mono' aH) (pB _ aH) heb) ?_;simp -dsimp only[go_sem];refine aK (qD a (eC b (-1)) ?_ ha ?_) ?_
 ·rw[jF _ aH];simp;omega
 ·intro t ht;rw[jF _ aH]at ht;obtain⟨u,hu,rfl⟩:=List.mem_map.1 ht;exact(hb u hu).neg
 simp -dsimp only[go_sem];rfl
theorem iR (v:Nat) (hv:v<4):Fn Tryz.prog 58 [iN v] [iM [(e0.to v 1,1)]]:=by
 obtain rfl|rfl|rfl|rfl:v=0\/v=1\/v=2\/v=3:=aw
 all_goals
  refine aJ (fn:=Tryz.f58) ?_;simp -dsimp only[go_sem];refine aK (d8 1 aH) ?_;simp -dsimp only[go_sem];rfl
def ur (a b:List Tm):List Tm:=b.foldl (fun o y=>gw o (fB a y)) []
theorem BN (a:List Tm) (m:Tm):(fB a m).length<=a.length:=by
 unfold fB nE;split<;>simp
theorem A0 (a b:List Tm) (hla:a.length<=1048576) (hlb:b.length<=1048576) (ha:∀ t∈a,QB 17179869184 t.2) (hb:∀ t∈b,QB 17179869184 t.2) (hea:∀ t∈a,t.1.lt 2305843009213693952) (heb:∀ t∈b,t.1.lt 2305843009213693952)
  (hq:∀(i:Nat) (h:i<b.length),(∀ t∈ur a (b.take i),QB 8589934592 t.2)/\(∀ t∈fB a b[i],QB 8589934592 t.2)/\(ur a (b.take i)).length<=549755813888):Fn Tryz.prog 57 [iM a,iM b] [iM (ur a b)]:=by
 refine aJ (fn:=Tryz.f57) ?_;simp -dsimp only[go_sem];refine lA (bA.imm _ 5 (x:=iM []) rfl) ?_;refine a8 [(5,6),(8,21)] [] [] (fun n τ β ε=>∃ i:Nat,n=b.length-i/\i<=b.length/\τ 6 = .i (iN i)/\τ 5 = .i (iM (ur a (b.take i))))
  (fun e τ β ε=>e = .exit 0/\τ 5 = .i (iM (ur a b))) b.length ?_ ?_ ?_
 ·exact⟨0,aw,aw,rfl,rfl⟩
 ·rintro n τ β ε π hK hKB hKE ⟨i,hn,hi,h6,h5⟩;have k0:τ 0 = .i (iM a):=(hK 0 rfl).trans rfl;have k1:τ 1 = .i (iM b):=(hK 1 rfl).trans rfl;by_cases hA:i<b.length
  ·have dA:decide ((i:Int)<(b.length:Int))=true:=aF aw;have gb:b[i]?=some b[i]:=by simp[hA]
   obtain⟨q1,q2,q3⟩:=hq i hA;simp -dsimp only[go_sem,h6,h5,k0,k1,dA,az];refine aP gb ?_;simp -dsimp only[go_sem,h6,h5,k0,k1,dA,az,Int.reduceToNat,Int.reduceLE,aC];refine aK (rL a b[i] aw ha (hb _ (List.getElem_mem _)) hea (heb _ (List.getElem_mem _))) ?_;simp -dsimp only[go_sem,h6,h5,k0,k1];refine aK (qD _ _ ?_ q1 q2) ?_
   ·have:=BN a b[i];omega
   simp -dsimp only[go_sem,h6]
   repeat(refine And.intro aw ?_)
   refine again (b.length-(i+1)) aw ⟨(aA hK),hKB,hKE,i+1,rfl,aw,rfl,?_⟩;simp -dsimp only[go_sem];rw[aq hA];unfold ur;rw[List.foldl_append];rfl
  ·have dA:decide ((i:Int)<(b.length:Int))=false:=aG aw;obtain rfl:i=b.length:=aw;rw[List.take_length]at h5;simp -dsimp only[go_sem,h6,k1,dA,az];exact⟨(aA hK),hKB,hKE,h5⟩
 ·rintro e τ β ε π hK hKB hKE ⟨rfl,h5⟩;simp -dsimp only[go_sem,h5]
def atR:List Tm->Ex->Nat
 | [],_=>0
 | x::p,e=>if 0<cp x.1 e then atR p e+1 else 0
theorem JT (e:Ex):∀ p:List Tm,atR p e<=p.length
 | []=>ay _
 | x::p=>by unfold atR;have:=JT e p;split<;>simp<;>omega
theorem JR (e:Ex):∀(p:List Tm) (i:Nat) (_:i<atR p e) (h:i<p.length),0<cp p[i].1 e
 | [],_,h,_=>by simp[atR]at h
 | x::p,i,h,hl=>by
  unfold atR at h;split at h
  ·rcases i with _|i
   ·assumption
   ·exact JR e p i aw (by simpa using hl)
  ·omega
theorem EC (e:Ex):∀(p:List Tm) (h:atR p e<p.length),¬ 0<cp (p[atR p e]'h).1 e
 | [],h=>by simp at h
 | x::p,h=>by
  by_cases hx:0<cp x.1 e
  ·have h1:atR (x::p) e=atR p e+1:=by rw[atR,if_pos hx]
   have h2:atR p e<p.length:=by rw[h1]at h;simpa using h
   have:=EC e p h2;simp only[h1,List.getElem_cons_succ];exact this
  ·have h1:atR (x::p) e=0:=by rw[atR,if_neg hx]
   simp only[h1,List.getElem_cons_zero];exact hx
def rj (m:Tm):List Tm->Rat×List Tm
 | []=>(m.2,[])
 | x::r=>if x.1=m.1 then(m.2+x.2,r)else(m.2,x::r)
def oM (p:List Tm) (m:Tm):List Tm :=
 p.take (atR p m.1)++((if(rj m (p.drop (atR p m.1))).1≠0/\dc m.1 then[(m.1,(rj m (p.drop (atR p m.1))).1)]else[])++(rj m (p.drop (atR p m.1))).2)
theorem gW {rows:List (List C)} {N:Nat} {L:List Tm} (h:rows=L.map eT) (hN:rows.length<=N):some [IV.c (.lst (rows.take N))]=some [iM L]:=by
 rw[List.take_of_length_le hN,h]
set_option maxHeartbeats 1000000 in
theorem Dg (p:List Tm) (m:Tm) (hl:p.length<=1048576) (hp:∀ t∈p,QB 8589934592 t.2) (hm:QB 8589934592 m.2):Fn Tryz.prog 122 [iM p,.g (eT m)] [iM (oM p m)]:=by
 have hat:=JT m.1 p;refine aJ (fn:=Tryz.f122) ?_;simp -dsimp only[go_sem];refine a8 [(5,5),(8,23)] [] [] (fun n τ β ε=>∃ i:Nat,n=p.length-i/\i<=atR p m.1/\τ 5 = .i (iN i))
  (fun e τ β ε=>e = .exit 0/\τ 5 = .i (iN (atR p m.1))) p.length ?_ ?_ ?_
 ·exact⟨0,aw,aw,rfl⟩
 ·rintro n τ β ε π hK hKB hKE ⟨i,hn,hi,h5⟩;have k0:τ 0 = .i (iM p):=(hK 0 rfl).trans rfl;have k3:τ 3 = .bp 3 1 0:=(hK 3 rfl).trans rfl;have b3:β 3=⟨1,eT m⟩:=(hKB 3 rfl).trans rfl;refine ap 14 [] false true ?_;by_cases hA:i<p.length
  ·have dA:decide ((i:Int)<(p.length:Int))=true:=aF aw;have gp:p[i]?=some p[i]:=by simp[hA]
   simp -dsimp only[go_sem,h5,k0,k3,b3,dA,az];refine aP gp ?_;simp -dsimp only[go_sem,h5,k0,k3,b3,dA,az,Int.reduceToNat,Int.reduceLE,aC];refine aQ (args':=[iE p[i].1,iE m.1]) rfl (nZ _ _) ?_;by_cases hi':i<atR p m.1
   ·have e1:decide (0<cp p[i].1 m.1)=true:=aF (JR _ _ _ hi' _);simp -dsimp only[go_sem,e1,h5]
    repeat(refine And.intro aw ?_)
    refine again (p.length-(i+1)) aw ⟨(aA hK),hKB,hKE,i+1,rfl,aw,rfl⟩
   ·obtain rfl:i=atR p m.1:=aw;have e1:decide (0<cp (p[atR p m.1]).1 m.1)=false:=aG (EC _ _ hA);simp -dsimp only[go_sem,e1];exact⟨(aA hK),hKB,hKE,h5⟩
  ·have dA:decide ((i:Int)<(p.length:Int))=false:=aG aw;obtain rfl:i=atR p m.1:=aw;simp -dsimp only[go_sem,h5,k0,k3,b3,dA,az];exact⟨(aA hK),hKB,hKE⟩
 ·rintro e τ β ε π hK hKB hKE ⟨rfl,h5⟩;have k0:τ 0 = .i (iM p):=(hK 0 rfl).trans rfl;have k3:τ 3 = .bp 3 1 0:=(hK 3 rfl).trans rfl;have b3:β 3=⟨1,eT m⟩:=(hKB 3 rfl).trans rfl;unfold oM;generalize atR p m.1=q at *
  simp -dsimp only[go_sem,h5,k0,k3,b3,Int.reduceToNat,Int.reduceLE,aC,az];refine⟨hat,?_,aw,hat,?_⟩
  ·intro r hr;obtain⟨t,-,rfl⟩:=List.mem_map.1 (List.mem_of_mem_take hr);rfl
  have lt:(p.take q).length=q:=by simp;omega
  rcases hr:p.drop q with _|⟨x,r⟩
  ·have dr:(p.map eT).drop q=[]:=by rw[<-List.map_drop,hr];rfl
   have dl:p.length-q=0:=by have:=congrArg List.length hr;simpa using this
   rw[show(rj m []).1=m.2 from rfl,show(rj m []).2=[]from rfl];refine ap 12 [] false true ?_;simp -dsimp only[go_sem,k0,k3,b3,Int.reduceToNat,Int.reduceLE,aC,az,dr,dl,d00];refine ao (lT m.2) rfl ?_;by_cases h0:m.2=0
   ·have e3:decide ((m.2).num.sign=0)=true:=by rw[ci];exact aF h0
    have e4:¬ (m.2≠0/\dc m.1):=fun h=>h.1 h0;rw[if_neg e4];simp -dsimp only[go_sem,e3,k0,k3,b3,Int.reduceToNat,Int.reduceLE,aC,az,dr,dl]
    repeat(refine And.intro (by first|omega|(simp<;>omega)|simp) ?_)
    exact gW (by simp[List.map_take]<;>first|rfl|exact⟨rfl,rfl⟩) (by simp<;>omega)
   ·have e3:decide ((m.2).num.sign=0)=false:=by rw[ci];exact aG h0
    simp -dsimp only[go_sem,e3,k0,k3,b3,Int.reduceToNat,Int.reduceLE,aC,az,dr,dl];refine ao (jb m.1) rfl ?_;by_cases hN:dc m.1
    ·have eN:decide (dc m.1)=true:=aF hN;rw[if_pos ⟨h0,hN⟩];simp -dsimp only[go_sem,eN,k0,k3,b3,Int.reduceToNat,Int.reduceLE,aC,az,dr,dl]
     repeat(refine And.intro (by first|omega|(simp<;>omega)|simp) ?_)
     exact gW (by simp[List.map_take]<;>first|rfl|exact⟨rfl,rfl⟩) (by simp<;>omega)
    ·have eN:decide (dc m.1)=false:=aG hN;rw[if_neg fun h=>hN h.2];simp -dsimp only[go_sem,eN,k0,k3,b3,Int.reduceToNat,Int.reduceLE,aC,az,dr,dl]
     repeat(refine And.intro (by first|omega|(simp<;>omega)|simp) ?_)
     exact gW (by simp[List.map_take]<;>first|rfl|exact⟨rfl,rfl⟩) (by simp<;>omega)
  ·have dr:(p.map eT).drop q=(x::r).map eT:=by rw[<-List.map_drop,hr]
   have dl:p.length-q=(x::r).length:=by have:=congrArg List.length hr;simpa using this
   have dt:((x::r).map eT).drop 1=r.map eT:=rfl;have dq:decide ((0:Int)<((r.length+1:Nat):Int))=true:=aF aw;have gx:(x::r)[0]?=some x:=rfl;have hx:QB 8589934592 x.2:=hp x (List.mem_of_mem_drop (i:=q) (by rw[hr];simp));have hrl:r.length+1<=p.length:=by have:=congrArg List.length hr;simp at this;omega
   refine ap 12 [] false true ?_;simp -dsimp only[go_sem,k0,k3,b3,Int.reduceToNat,Int.reduceLE,aC,az,dr,dl,dq];refine tG (e:=x.1) (f:=m.1) ?_;by_cases hxm:x.1=m.1
   ·have e1:decide (x.1=m.1)=true:=aF hxm;rw[show rj m (x::r)=(m.2+x.2,r)from if_pos hxm];simp -dsimp only[go_sem,e1];refine ap 8 [] false true ?_;simp -dsimp only[go_sem,k0,k3,b3,Int.reduceToNat,Int.reduceLE,aC,az,dr,dl,dq];refine aQ (args':=[iQ m.2,iQ x.2]) rfl (A5 _ _ hm hx) ?_;simp -dsimp only[go_sem,k0,k3,b3,Int.reduceToNat,Int.reduceLE,aC,az,dr,dl,dt];refine ao (lT (m.2+x.2)) rfl ?_;by_cases h0:(m.2+x.2)=0
    ·have e3:decide (((m.2+x.2)).num.sign=0)=true:=by rw[ci];exact aF h0
     have e4:¬ ((m.2+x.2)≠0/\dc m.1):=fun h=>h.1 h0;rw[if_neg e4];simp -dsimp only[go_sem,e3,k0,k3,b3,Int.reduceToNat,Int.reduceLE,aC,az,dr,dl]
     repeat(refine And.intro (by first|omega|(simp<;>omega)|simp) ?_)
     exact gW (by simp[List.map_take]<;>first|rfl|exact⟨rfl,rfl⟩) (by simp<;>omega)
    ·have e3:decide (((m.2+x.2)).num.sign=0)=false:=by rw[ci];exact aG h0
     simp -dsimp only[go_sem,e3,k0,k3,b3,Int.reduceToNat,Int.reduceLE,aC,az,dr,dl];refine ao (jb m.1) rfl ?_;by_cases hN:dc m.1
     ·have eN:decide (dc m.1)=true:=aF hN;rw[if_pos ⟨h0,hN⟩];simp -dsimp only[go_sem,eN,k0,k3,b3,Int.reduceToNat,Int.reduceLE,aC,az,dr,dl]
      repeat(refine And.intro (by first|omega|(simp<;>omega)|simp) ?_)
      exact gW (by simp[List.map_take]<;>first|rfl|exact⟨rfl,rfl⟩) (by simp<;>omega)
     ·have eN:decide (dc m.1)=false:=aG hN;rw[if_neg fun h=>hN h.2];simp -dsimp only[go_sem,eN,k0,k3,b3,Int.reduceToNat,Int.reduceLE,aC,az,dr,dl]
      repeat(refine And.intro (by first|omega|(simp<;>omega)|simp) ?_)
      exact gW (by simp[List.map_take]<;>first|rfl|exact⟨rfl,rfl⟩) (by simp<;>omega)
   ·have e1:decide (x.1=m.1)=false:=aG hxm;rw[show rj m (x::r)=(m.2,x::r)from if_neg hxm];simp -dsimp only[go_sem,k0,k3,b3,Int.reduceToNat,Int.reduceLE,aC,az,dr,dl,e1];refine ao (lT m.2) rfl ?_;by_cases h0:m.2=0
    ·have e3:decide ((m.2).num.sign=0)=true:=by rw[ci];exact aF h0
     have e4:¬ (m.2≠0/\dc m.1):=fun h=>h.1 h0;rw[if_neg e4];simp -dsimp only[go_sem,e3,k0,k3,b3,Int.reduceToNat,Int.reduceLE,aC,az,dr,dl]
     repeat(refine And.intro (by first|omega|(simp<;>omega)|simp) ?_)
     exact gW (by simp[List.map_take]<;>first|rfl|exact⟨rfl,rfl⟩) (by simp<;>omega)
    ·have e3:decide ((m.2).num.sign=0)=false:=by rw[ci];exact aG h0
     simp -dsimp only[go_sem,e3,k0,k3,b3,Int.reduceToNat,Int.reduceLE,aC,az,dr,dl];refine ao (jb m.1) rfl ?_;by_cases hN:dc m.1
     ·have eN:decide (dc m.1)=true:=aF hN;rw[if_pos ⟨h0,hN⟩];simp -dsimp only[go_sem,eN,k0,k3,b3,Int.reduceToNat,Int.reduceLE,aC,az,dr,dl]
      repeat(refine And.intro (by first|omega|(simp<;>omega)|simp) ?_)
      exact gW (by simp[List.map_take]<;>first|rfl|exact⟨rfl,rfl⟩) (by simp<;>omega)
     ·have eN:decide (dc m.1)=false:=aG hN;rw[if_neg fun h=>hN h.2];simp -dsimp only[go_sem,eN,k0,k3,b3,Int.reduceToNat,Int.reduceLE,aC,az,dr,dl]
      repeat(refine And.intro (by first|omega|(simp<;>omega)|simp) ?_)
      exact gW (by simp[List.map_take]<;>first|rfl|exact⟨rfl,rfl⟩) (by simp<;>omega)
def nF (l:List Tm):List Tm:=l.foldl oM []
theorem A1 (l:List Tm) (hl:l.length<=1048576) (hb:∀ t∈l,QB 8589934592 t.2)
  (hq:∀(i:Nat) (_:i<l.length),(∀ t∈nF (l.take i),QB 8589934592 t.2)/\(nF (l.take i)).length<=1048576):Fn Tryz.prog 88 [iM l] [iM (nF l)]:=by
 refine aJ (fn:=Tryz.f88) ?_;simp -dsimp only[go_sem];refine lA (bA.imm _ 3 (x:=iM []) rfl) ?_;refine a8 [(3,4),(6,17)] [] [] (fun n τ β ε=>∃ i:Nat,n=l.length-i/\i<=l.length/\τ 4 = .i (iN i)/\τ 3 = .i (iM (nF (l.take i))))
  (fun e τ β ε=>e = .exit 0/\τ 3 = .i (iM (nF l))) l.length ?_ ?_ ?_
 ·exact⟨0,aw,aw,rfl,rfl⟩
 ·rintro n τ β ε π hK hKB hKE ⟨i,hn,hi,h6,h5⟩;have k0:τ 0 = .i (iM l):=(hK 0 rfl).trans rfl;by_cases hA:i<l.length
  ·have dA:decide ((i:Int)<(l.length:Int))=true:=aF aw;have gb:l[i]?=some l[i]:=by simp[hA]
   obtain⟨q1,q2⟩:=hq i hA;simp -dsimp only[go_sem,h6,h5,k0,dA,az];refine aP gb ?_;simp -dsimp only[go_sem,h6,h5,k0,dA,az,Int.reduceToNat,Int.reduceLE,aC];refine aQ (args':=[iM (nF (l.take i)),.g (eT l[i])]) rfl (Dg _ l[i] q2 q1 (hb _ (List.getElem_mem _))) ?_;simp -dsimp only[go_sem,h6]
   repeat(refine And.intro aw ?_)
   refine again (l.length-(i+1)) aw ⟨(aA hK),hKB,hKE,i+1,rfl,aw,rfl,?_⟩;simp -dsimp only[go_sem];rw[aq hA];unfold nF;rw[List.foldl_append];rfl
  ·have dA:decide ((i:Int)<(l.length:Int))=false:=aG aw;obtain rfl:i=l.length:=aw;rw[List.take_length]at h5;simp -dsimp only[go_sem,h6,k0,dA,az];exact⟨(aA hK),hKB,hKE,h5⟩
 ·rintro e τ β ε π hK hKB hKE ⟨rfl,h5⟩;simp -dsimp only[go_sem,h5]
theorem Gi (e:Ex) (c:Rat) (he:dc e):nF [(e,c)]=if c=0 then[]else[(e,c)]:=by
 show oM [] (e,c)=_;simp only[oM,atR,List.take_nil,List.nil_append,List.drop_nil,rj,List.append_nil];by_cases h:c=0<;>simp[h,he]
theorem LB:dc e0:=by unfold dc e0;decide
theorem oH (c:Rat) (hc:QB 8589934592 c):Fn Tryz.prog 115 [iQ c] [iM (gv c)]:=by
 refine aJ (fn:=Tryz.f115) ?_;simp -dsimp only[go_sem];refine aQ (args':=[iM [(e0,c)]]) rfl (A1 [(e0,c)] au (by simpa using hc) ?_) ?_
 ·intro i hi;obtain rfl:i=0:=by simp at hi;omega
  exact⟨by simp[nF],by simp[nF]⟩
 rw[Gi _ _ LB];simp -dsimp only[go_sem];rfl
theorem vr {n:Int} (h : -9223372036854775808<=n/\n<9223372036854775808) (k:Nat) (hk:3<=k):QB k (n:Rat):=by
 refine ir (h:=64) ?_ ?_ aw
 ·rw[Rat.num_intCast];omega
 ·rw[Rat.den_intCast];decide
theorem GS (n:Int) (h : -9223372036854775808<=n/\n<9223372036854775808):Fn Tryz.prog 204 [iN n] [iM (gv n)]:=by
 refine aJ (fn:=Tryz.f204) ?_;simp -dsimp only[go_sem];refine aK (d8 n h) ?_;simp -dsimp only[go_sem];refine aQ (args':=[iQ (n:Rat)]) rfl (oH (n:Rat) (vr h _ aH)) ?_;simp -dsimp only[go_sem]
end Go.AM
namespace Go.AM
open Alg
open Go.Proofs
theorem Kj {p q:PQ} {h k:Nat} (hp:am h p) (hq:am k q) (hh:h<=137438953000) (hk:k<=137438953000) (sp:aa p<=1048576) (sq:aa q<=1048576):Fn Tryz.prog 56 [iUp p,iUp q] [iUp (p+q)]:=by
 have:=qD (U p) (U q) (by have:=dF p;have:=dF q;omega) (HB.qb hp aw) (HB.qb hq aw);rwa [EF]at this
theorem AX {p q:PQ} {h k:Nat} (hp:am h p) (hq:am k q) (hh:h<=137438953000) (hk:k<=137438953000) (sp:aa p<=1048576) (sq:aa q<=1048576):Fn Tryz.prog 174 [iUp p,iUp q] [iUp (p-q)]:=by
 have:=Ka (U p) (U q) (by have:=dF p;have:=dF q;omega) (HB.qb hp aw) (HB.qb hq aw) (Dd aw aw);rwa [NX]at this
theorem mH {p:PQ} {c:Rat} {h:Nat} (hp:am h p) (hh:h<=274877906000) (sp:aa p<=1048576) (hc:QB 17179869184 c):Fn Tryz.prog 85 [iUp p,iQ c] [iUp (p*an c)]:=by
 have:=vi (U p) c (by have:=dF p;omega) (HB.qb hp aw) hc (Dd aw aw);rwa [oE]at this
theorem yq (p:PQ) {m:Tm} (hm:Uv1 m.1):fB (U p) m=U (p*mon m.1.a.toNat m.2):=by
 have hc:=ky p;by_cases h:m.2=0
 ·rw[fB,if_pos h,h,jH,mul_zero,cq]
 ·rw[fB,if_neg h];have h1:∀{e f:Ex},Uv1 e->Uv1 f->0<cp e f->0<cp (e.add m.1) (f.add m.1):=by
   intro e f he hf h;have:=(jS he hf).1 h;refine(jS (tI he hm).1 (tI hf hm).1).2 ?_;simp only[Ex.add];omega
  have h2:∀ L:List Tm,Uv L->Srt L->Srt (nE L m):=by
   intro L hu hs
   induction L with
   | nil=>exact List.Pairwise.nil
   | cons x L ih =>
    obtain⟨g1,g2⟩:=List.pairwise_cons.1 hs;refine List.pairwise_cons.2 ⟨fun y hy=>?_,ih (fun t ht=>hu t (by simp[ht])) g2⟩;obtain⟨u,hu',rfl⟩:=List.mem_map.1 hy;exact h1 (hu x au) (hu u (by simp[hu'])) (g1 u hu')
  refine vR (L:=nE (U p) m) ⟨h2 _ hc.uv hc.srt,fun t ht=>?_,fun t ht=>?_⟩ ?_
  ·obtain⟨u,hu,rfl⟩:=List.mem_map.1 ht;exact a6 (hc.nz u hu) h
  ·obtain⟨u,hu,rfl⟩:=List.mem_map.1 ht;exact(tI (hc.uv u hu) hm).1
  ·have:∀ L:List Tm,Uv L->toP (nE L m)=toP L*mon m.1.a.toNat m.2:=by
    intro L hu
    induction L with
    | nil=>rw[nE,List.map_nil,cI,zero_mul]
    | cons t L ih =>
     rw[bc,add_mul,<-ih (fun t ht=>hu t (by simp[ht])),dV,nE,List.map_cons,bc];rw[(tI (hu t au) hm).2];rfl
   rw[this _ hc.uv,im]
theorem J4 (p:PQ):∀(L:List Tm),Uv L->∀ q:PQ,L.foldl (fun o y=>gw o (fB (U p) y)) (U q)=U (q+p*toP L)
 | [],_,q=>by rw[cI,mul_zero,add_zero];rfl
 | t::L,h,q=>by
  rw[List.foldl_cons,yq p (h t au),EF,J4 p L (fun t ht=>h t (by simp[ht])),bc,mul_add,add_assoc]
theorem Ci (p:PQ) {L:List Tm} (h:Uv L):ur (U p) L=U (p*toP L):=by
 have:=J4 p L h 0;rw[cq,zero_add]at this;exact this
theorem KS {D:Int}:∀{L:List Tm} {S:Nat},Bd D L S->∃ A:Alg.P Int,an (Alg.hQ.f D)*toP L=toQ A/\Alg.n1 A<=S
 | [],S,_=>⟨0,by rw[cI,mul_zero,cK],by rw[iI];omega⟩
 | t::L,S,⟨z,h1,h2,h3⟩=>by
  obtain⟨A,g1,g2⟩:=KS h3;refine⟨mon t.1.a.toNat z+A,?_,?_⟩
  ·rw[bc,mul_add,g1,kC,og,<-du,dV,Nat.zero_add];have:Alg.hQ.f D*t.2=Alg.hQ.f z:=h1;rw[this]
  ·have e:=iw t.1.a.toNat z 1;rw[mul_one]at e;have e1:Alg.n1 (1:Alg.P Int)<=1:=by
    refine p9 (n:=1) (H:=1) (Nat.le_of_eq (by rw[<-bP];exact jf aH)) (fun i=>?_);rw[<-bP];cases i with
    | zero=>exact ay 1
    | succ i=>exact Nat.zero_le 1
   have e2:z.natAbs*Alg.n1 (1:Alg.P Int)<=z.natAbs:=by
    calc z.natAbs*Alg.n1 (1:Alg.P Int)<=z.natAbs*1:=Nat.mul_le_mul_left _ e1
     _=z.natAbs:=Nat.mul_one _
   have:=ml (mon t.1.a.toNat z) A;omega
theorem HB.part {h:Nat} {p:PQ} (H:am h p) (i:Nat):am h (toP ((U p).take i)):=by
 obtain⟨D,hD,h1,h2⟩:=HB.bd H;obtain⟨A,g1,g2⟩:=KS (h2.take i);exact⟨D,A,hD,h1,g2,g1⟩
theorem HB.term {h:Nat} {p:PQ} (H:am h p) {t:Tm} (ht:t∈U p):am h (mon t.1.a.toNat t.2):=by
 obtain⟨i,_,rfl,_⟩:=nY ht;exact am.mon _ (H.coef i).1 (H.coef i).2
theorem eI {p q:PQ} {h k:Nat} (hp:am h p) (hq:am k q) (hh:h+k<=137438953000) (sp:aa p<=524288) (sq:aa q<=524288):Fn Tryz.prog 57 [iUp p,iUp q] [iUp (p*q)]:=by
 have huq:=(ky q).uv;have:=A0 (U p) (U q) (by have:=dF p;omega) (by have:=dF q;omega) (HB.qb hp aw) (HB.qb hq aw) (Dd aw aw) (Dd aw aw) fun i hi=>by
  have hu:Uv ((U q).take i):=fun t ht=>huq t (List.mem_of_mem_take ht);have hs:aa (toP ((U q).take i))<=aa q:=by
   refine cm fun j hj=>pP (n:=aa q) (fun t ht=>?_) j hj;have h1:=List.mem_of_mem_take ht;obtain⟨n,hn,rfl,_⟩:=nY h1;simp only;omega
  refine⟨?_,?_,?_⟩
  ·rw[Ci p hu];exact HB.qb (hp.mul (HB.part hq i)) aw
  ·rw[yq p (huq _ (List.getElem_mem _))];exact HB.qb (hp.mul (HB.term hq (List.getElem_mem _))) aw
  ·rw[Ci p hu];have:=dF (p*toP ((U q).take i));have:=bf p (toP ((U q).take i));omega
 rwa [Ci p huq,im]at this
end Go.AM
