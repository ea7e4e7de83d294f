/- Lemmas, part 12 of 24: Package mpoly: constants, variables, sums; Package mpoly: multiples, differences; Package mpoly: products; Package mpoly: degrees, coefficients; Commutative rings, and a solver for their identities; Polynomials in one variable over a commutative ring. No condition. -/
import Derived.Test.YtcmfkhicjhliaaaGreatPZ210
set_option maxRecDepth 65536
set_option linter.unusedSimpArgs false
set_option linter.unusedVariables false
set_option linter.unusedSectionVars false
namespace Go.AM
open Go.Proofs
abbrev cM (p:List Tm):C := .lst (p.map eT)
abbrev iM (p:List Tm):IV := .c (cM p)
def e0:Ex:=⟨0,0,0,0⟩
theorem CH (p:List Tm):lens 8 (p.map eT):=fun r hr=>by obtain⟨t,-,rfl⟩:=List.mem_map.1 hr;rfl
theorem Hp (p:List Tm):lens 8 (p.map eT)=True:=eq_true (CH p)
attribute [go_sem] Hp
theorem bt (q:Rat):decide (q.num.sign=0)=decide (q=0):=by rw[decide_eq_decide,Int.sign_eq_zero_iff_zero,Rat.num_eq_zero]
def fL (c:Rat):List Tm:=if c=0 then[]else[(e0,c)]
theorem pI (c:Rat):Fn Tryz.prog 146 [iQ c] [iM (fL c)]:=by
 refine ak (fn:=Tryz.f146) (by rfl) rfl rfl rfl (by rfl) ?_;simp -dsimp -implicitDefEqProofs only[go_sem];refine aa (py c) rfl ?_;by_cases h:c=0
 ·have e1:decide (c.num.sign=0)=true:=by rw[bt];exact ai h
  simp -dsimp -implicitDefEqProofs only[go_sem,e1];rw[fL,if_pos h];rfl
 ·have e1:decide (c.num.sign=0)=false:=by rw[bt];exact aj h
  simp -dsimp -implicitDefEqProofs only[go_sem,e1];rw[fL,if_neg h];rfl
theorem tU:fL 1=[(e0,1)]:=by rw[fL,if_neg (by decide)]
theorem Cf:Fn Tryz.prog 124 [] [iM [(e0,1)]]:=by
 refine ak (fn:=Tryz.f124) (by rfl) rfl rfl rfl (by rfl) ?_;simp -dsimp -implicitDefEqProofs only[go_sem];refine an (gk 1 (by decide)) ?_;simp -dsimp -implicitDefEqProofs only[go_sem];refine aa (pI 1) rfl ?_;simp -dsimp -implicitDefEqProofs only[go_sem,tU]
theorem AW:Fn Tryz.prog 190 [] [iM [(e0,1)]]:=by
 refine ak (fn:=Tryz.f190) (by rfl) rfl rfl rfl (by rfl) ?_;simp -dsimp -implicitDefEqProofs only[go_sem];refine an (gk 1 (by decide)) ?_;simp -dsimp -implicitDefEqProofs only[go_sem];refine aa (pI 1) rfl ?_;simp -dsimp -implicitDefEqProofs only[go_sem,tU]
def Ex.at (e:Ex) (v:Nat):Int:=match v with|0=>e.a|1=>e.b|2=>e.c|_=>e.d
def Ex.to (e:Ex) (v:Nat) (n:Int):Ex:=match v with|0=>{ e with a:=n }|1=>{ e with b:=n }|2=>{ e with c:=n }|_=>{ e with d:=n }
theorem Le (v:Nat) (hv:v<4):Fn Tryz.prog 137 [iN v] [iM [(e0.to v 1,1)]]:=by
 obtain rfl|rfl|rfl|rfl:v=0\/v=1\/v=2\/v=3:=by omega
 all_goals
  refine ak (fn:=Tryz.f137) (by rfl) rfl rfl rfl (by rfl) ?_;simp -dsimp -implicitDefEqProofs only[go_sem];refine an (gk 1 (by decide)) ?_;simp -dsimp -implicitDefEqProofs only[go_sem];rfl
def dE (p:List Tm) (c:Rat):List Tm:=if c=0 then[]else p.map fun t=>(t.1,t.2*c)
def fM:List Tm->List Tm->List Tm
 | [],b=>b
 | a,[]=>a
 | x::a,y::b=>if 0<bO x.1 y.1 then x::fM a (y::b)else if bO x.1 y.1<0 then y::fM (x::a) b else if x.2+y.2=0 then fM a b else(x.1,x.2+y.2)::fM a b
termination_by a b=>a.length+b.length
theorem gj (b:List Tm):fM [] b=b:=by unfold fM;rfl
theorem jb (a:List Tm):fM a []=a:=by cases a<;>simp[fM]
theorem jc (x y:Tm) (a b:List Tm):fM (x::a) (y::b)=if 0<bO x.1 y.1 then x::fM a (y::b)else if bO x.1 y.1<0 then y::fM (x::a) b else if x.2+y.2=0 then fM a b else(x.1,x.2+y.2)::fM a b:=by
 rw[fM]
theorem d00:decide ((0:Int)<((0:Nat):Int))=false:=rfl
theorem xf (a b:List Tm) (hl:a.length+b.length<=1099511627776) (ha:∀ t∈a,QB 8589934592 t.2) (hb:∀ t∈b,QB 8589934592 t.2):Fn Tryz.prog 108 [iM a,iM b] [iM (fM a b)]:=by
 refine ak (fn:=Tryz.f108) (by rfl) rfl rfl rfl (by rfl) ?_;simp -dsimp -implicitDefEqProofs only[go_sem,Int.reduceToNat]
 repeat(refine And.intro (by omega) ?_)
 refine aS [(0,1),(5,7),(14,77)] [(7,7)] [(13,13),(51,51),(64,64),(75,75)] (fun n τ β ε=>∃(out a' b':List Tm),n=a'.length+b'.length/\fM a b=out++fM a' b'/\out.length+a'.length+b'.length<=a.length+b.length/\(∀ t∈a',QB 8589934592 t.2)/\(∀ t∈b',QB 8589934592 t.2) /\
   τ 0 = .i (iM a')/\τ 1 = .i (iM b')/\Own 8 (out.map eT) 5 13 τ ε)
  (fun e τ β ε=>e = .exit 0/\∃(out a' b':List Tm),fM a b=out++(a'++b')/\out.length+a'.length+b'.length<=a.length+b.length/\τ 0 = .i (iM a')/\τ 1 = .i (iM b')/\Own 8 (out.map eT) 5 13 τ ε) (a.length+b.length) ?_ ?_ ?_
 ·exact⟨[],a,b,rfl,rfl,by simp,ha,hb,rfl,rfl,Own.mk (g:=1) (mm:=true) (by omega) rfl rfl rfl⟩
 ·rintro n τ β ε π hK hKB hKE ⟨out,a',b',hn,he,hlen,hqa,hqb,h0,h1,g,mm,hg,h5,h13⟩;have h5':τ 5 = .sl 13 g out.length:=by rw[h5,af]
  rcases ha':a' with _|⟨x,a1⟩
  ·have hA:¬ (0:Int)<(a'.length:Int):=by simp[ha']
   simp -dsimp -implicitDefEqProofs only[go_sem,h0,h1,hA];exact⟨(by(repeat apply am rfl);exact hK),hKB,hKE,out,a',b',by rw[he,ha',gj];rfl,hlen,by simp -dsimp -implicitDefEqProofs only[go_sem,h0],by simp -dsimp -implicitDefEqProofs only[go_sem,h1],Own.mk hg (by simp -dsimp -implicitDefEqProofs only[go_sem];exact h5') (by simp) h13⟩
  have hA:(0:Int)<(a'.length:Int):=by simp[ha']
  rcases hb':b' with _|⟨y,b1⟩
  ·have hB:¬ (0:Int)<(b'.length:Int):=by simp[hb']
   simp -dsimp -implicitDefEqProofs only[go_sem,h0,h1,hA,hB];exact⟨(by(repeat apply am rfl);exact hK),hKB,hKE,out,a',b',by rw[he,hb',jb,List.append_nil],hlen,by simp -dsimp -implicitDefEqProofs only[go_sem,h0],by simp -dsimp -implicitDefEqProofs only[go_sem,h1],Own.mk hg (by simp -dsimp -implicitDefEqProofs only[go_sem];exact h5') (by simp) h13⟩
  have hB:(0:Int)<(b'.length:Int):=by simp[hb']
  have ga:a'[0]?=some x:=by simp[ha']
  have gb:b'[0]?=some y:=by simp[hb']
  have ta:(a'.map eT).drop 1=a1.map eT:=by rw[ha'];rfl
  have tb:(b'.map eT).drop 1=b1.map eT:=by rw[hb'];rfl
  have la:a'.length=a1.length+1:=by simp[ha']
  have lb':b'.length=b1.length+1:=by simp[hb']
  rw[ha',hb',jc]at he;simp -dsimp -implicitDefEqProofs only[go_sem,h0,h1,hA,hB];refine ao (by rfl) 10 [] false true (by rfl) (by rfl) (by decide +kernel) ?_;simp -dsimp -implicitDefEqProofs only[go_sem,h0,h1,hA,hB,Int.reduceToNat,Int.reduceLE,true_and];refine av ga ?_;simp -dsimp -implicitDefEqProofs only[go_sem,h0,h1,hA,hB,Int.reduceToNat,Int.reduceLE,true_and];refine av gb ?_;simp -dsimp -implicitDefEqProofs only[go_sem,h0,h1,hA,hB,Int.reduceToNat,Int.reduceLE,true_and];refine aa (qQ x.1 y.1) rfl ?_;by_cases c1:0<bO x.1 y.1
  ·rw[if_pos c1]at he;simp -dsimp -implicitDefEqProofs only[go_sem,c1];refine ao (by rfl) 10 [] true false (by rfl) (by rfl) (by decide +kernel) ?_;simp -dsimp -implicitDefEqProofs only[go_sem,h0,h1,h5',h13,hg,Int.reduceToNat,Int.reduceLE,true_and];refine av ga ?_;simp -dsimp -implicitDefEqProofs only[go_sem,h0,h1,h5',h13,hg,Int.reduceToNat,Int.reduceLE,true_and,ta]
   repeat(refine And.intro (by omega) ?_)
   refine aH (a1.length+b'.length) 5 64 13 (by omega) rfl rfl (by omega) (by decide) ⟨(by(repeat apply am rfl);exact hK),hKB,(by(repeat apply am rfl);exact hKE),out++[x],a1,b',rfl,?_,by simp;omega,fun t ht=>hqa t (by simp[ha',ht]),hqb,by simp -dsimp -implicitDefEqProofs only[go_sem,ta],by simp -dsimp -implicitDefEqProofs only[go_sem,h1],?_⟩
   ·rw[he,hb',List.append_assoc];rfl
   ·exact Own.mk2 (Nat.succ_pos _) (by simp -dsimp -implicitDefEqProofs only[go_sem];rfl) (by simp -dsimp -implicitDefEqProofs only[go_sem];rfl) (by simp) (by simp;rfl)
  ·rw[if_neg c1]at he;by_cases c2:bO x.1 y.1<0
   ·rw[if_pos c2]at he;simp -dsimp -implicitDefEqProofs only[go_sem,c1,c2];refine ao (by rfl) 10 [] true false (by rfl) (by rfl) (by decide +kernel) ?_;simp -dsimp -implicitDefEqProofs only[go_sem,h0,h1,h5',h13,hg,Int.reduceToNat,Int.reduceLE,true_and];refine av gb ?_;simp -dsimp -implicitDefEqProofs only[go_sem,h0,h1,h5',h13,hg,Int.reduceToNat,Int.reduceLE,true_and,tb]
    repeat(refine And.intro (by omega) ?_)
    refine aH (a'.length+b1.length) 5 75 13 (by omega) rfl rfl (by omega) (by decide) ⟨(by(repeat apply am rfl);exact hK),hKB,(by(repeat apply am rfl);exact hKE),out++[y],a',b1,rfl,?_,by simp;omega,hqa,fun t ht=>hqb t (by simp[hb',ht]),by simp -dsimp -implicitDefEqProofs only[go_sem,h0],by simp -dsimp -implicitDefEqProofs only[go_sem,tb],?_⟩
    ·rw[he,ha',List.append_assoc];rfl
    ·exact Own.mk2 (Nat.succ_pos _) (by simp -dsimp -implicitDefEqProofs only[go_sem];rfl) (by simp -dsimp -implicitDefEqProofs only[go_sem];rfl) (by simp) (by simp;rfl)
   ·rw[if_neg c2]at he;simp -dsimp -implicitDefEqProofs only[go_sem,c1,c2];refine ao (by rfl) 10 [7] false true (by rfl) (by rfl) (by decide +kernel) ?_;simp -dsimp -implicitDefEqProofs only[go_sem,h0,h1,Int.reduceToNat,Int.reduceLE,true_and];refine av ga ?_;simp -dsimp -implicitDefEqProofs only[go_sem,h0,h1,Int.reduceToNat,Int.reduceLE,true_and];refine av gb ?_;simp -dsimp -implicitDefEqProofs only[go_sem,h0,h1,Int.reduceToNat,Int.reduceLE,true_and];refine aa (Dr x.2 y.2 (hqa x (by simp[ha'])) (hqb y (by simp[hb']))) rfl ?_;simp -dsimp -implicitDefEqProofs only[go_sem];refine aa (py (x.2+y.2)) rfl ?_;by_cases c3:x.2+y.2=0
    ·rw[if_pos c3]at he;have e1:decide ((x.2+y.2).num.sign=0)=true:=by rw[bt];exact ai c3
     simp -dsimp -implicitDefEqProofs only[go_sem,e1];refine ao (by rfl) 6 [] false true (by rfl) (by rfl) (by decide +kernel) ?_;simp -dsimp -implicitDefEqProofs only[go_sem,h0,h1,Int.reduceToNat,Int.reduceLE,true_and,ta,tb]
     repeat(refine And.intro (by omega) ?_)
     refine again (a1.length+b1.length) (by omega) ⟨(by(repeat apply am rfl);exact hK),(by(repeat apply am rfl);exact hKB),hKE,out,a1,b1,rfl,he,by omega,fun t ht=>hqa t (by simp[ha',ht]),fun t ht=>hqb t (by simp[hb',ht]),by simp -dsimp -implicitDefEqProofs only[go_sem,ta],by simp -dsimp -implicitDefEqProofs only[go_sem,tb],Own.mk hg (by simp -dsimp -implicitDefEqProofs only[go_sem];exact h5') (by simp) h13⟩
    ·rw[if_neg c3]at he;have e1:decide ((x.2+y.2).num.sign=0)=false:=by rw[bt];exact aj c3
     simp -dsimp -implicitDefEqProofs only[go_sem,e1];refine ao (by rfl) 10 [] true false (by rfl) (by rfl) (by decide +kernel) ?_;simp -dsimp -implicitDefEqProofs only[go_sem,h0,h1,h5',h13,hg,Int.reduceToNat,Int.reduceLE,true_and];refine av ga ?_;simp -dsimp -implicitDefEqProofs only[go_sem,h0,h1,h5',h13,hg,Int.reduceToNat,Int.reduceLE,true_and]
     repeat(refine And.intro (by omega) ?_)
     refine ao (by rfl) 6 [] false true (by rfl) (by rfl) (by decide +kernel) ?_;simp -dsimp -implicitDefEqProofs only[go_sem,h0,h1,Int.reduceToNat,Int.reduceLE,true_and,ta,tb]
     repeat(refine And.intro (by omega) ?_)
     refine aH (a1.length+b1.length) 5 51 13 (by omega) rfl rfl (by omega) (by decide) ⟨(by(repeat apply am rfl);exact hK),(by(repeat apply am rfl);exact hKB),(by(repeat apply am rfl);exact hKE),out++[(x.1,x.2+y.2)],a1,b1,rfl,?_,by simp;omega,fun t ht=>hqa t (by simp[ha',ht]),fun t ht=>hqb t (by simp[hb',ht]),by simp -dsimp -implicitDefEqProofs only[go_sem,ta],by simp -dsimp -implicitDefEqProofs only[go_sem,tb],?_⟩
     ·rw[he,List.append_assoc];rfl
     ·exact Own.mk2 (Nat.succ_pos _) (by simp -dsimp -implicitDefEqProofs only[go_sem];rfl) (by simp -dsimp -implicitDefEqProofs only[go_sem];rfl) (by simp) (by simp;rfl)
 ·rintro e τ β ε π hK hKB hKE ⟨rfl,out,a',b',he,hlen,h0,h1,g,mm,hg,h5,h13⟩;rw[af]at h5;refine⟨_,aY.refl _,?_⟩;simp -dsimp -implicitDefEqProofs only[go_sem,h0,h1,h5,h13];refine⟨hg,by omega,by simp,by omega,?_⟩;have hlen':(out.map eT++a'.map eT++b'.map eT).length<=out.length+a'.length+b'.length:=by simp;omega
  rw[List.take_of_length_le hlen',he];show some [IV.c (C.lst _)]=some [IV.c (C.lst ((out++(a'++b')).map eT))];rw[List.map_append,List.map_append,List.append_assoc]
theorem QB.mono' {k m:Nat} {q:Rat} (h:QB k q) (hk:k<=m):QB m q:=⟨ac h.1 hk,ac h.2 hk⟩
theorem QB.neg {k:Nat} {q:Rat} (h:QB k q):QB k (q * -1):=by
 have e:q * -1 = -q:=by grind
 rw[e];refine⟨?_,?_⟩
 ·rw[Rat.neg_num,show lb (-q.num)=lb q.num by simp[lb]];exact h.1
 ·rw[Rat.neg_den];exact h.2
def scI (a:List Tm) (c:Rat) (i:Nat):List Tm:=(a.take i).map (fun t=>(t.1,t.2*c))++a.drop i
theorem Gs {a:List Tm} {c:Rat} {i:Nat} (h:i<a.length):(scI a c i).set i (a[i].1,a[i].2*c)=scI a c (i+1):=by
 rw[scI,List.set_append_right _ _ (by simp;omega)];simp only[af,List.length_take,Nat.min_eq_left (Nat.le_of_lt h),Nat.sub_self];rw[List.drop_eq_getElem_cons h,List.set_cons_zero,scI,ab h,List.map_append,List.append_assoc];rfl
theorem jy (a:List Tm) (c:Rat) (hl:a.length<=1099511627776) (ha:∀ t∈a,QB 17179869184 t.2) (hc:QB 17179869184 c):Fn Tryz.prog 120 [iM a,iQ c] [iM (dE a c)]:=by
 refine ak (fn:=Tryz.f120) (by rfl) rfl rfl rfl (by rfl) ?_;simp -dsimp -implicitDefEqProofs only[go_sem];refine aa (py c) rfl ?_;by_cases h:c=0
 ·have e1:decide (c.num.sign=0)=true:=by rw[bt];exact ai h
  simp -dsimp -implicitDefEqProofs only[go_sem,e1];rw[dE,if_pos h];rfl
 ·have e1:decide (c.num.sign=0)=false:=by rw[bt];exact aj h
  simp -dsimp -implicitDefEqProofs only[go_sem,e1];refine bQ (zU (a.map eT) (CH a) (by simpa using hl)) ?_;simp -dsimp -implicitDefEqProofs only[go_sem];refine aS [(6,6),(14,28)] [] [(11,11)] (fun n τ β ε=>∃ i:Nat,n=a.length-i/\i<=a.length/\τ 14 = .i (iN i)/\ε 11=⟨1,8,(scI a c i).map eT,!a.isEmpty,true⟩)
   (fun e τ β ε=>e = .exit 0/\ε 11=⟨1,8,(scI a c a.length).map eT,!a.isEmpty,true⟩) a.length ?_ ?_ ?_
  ·exact⟨0,by omega,by omega,rfl,by simp -dsimp -implicitDefEqProofs only[go_sem];simp[scI]⟩
  ·rintro n τ β ε π hK hKB hKE ⟨i,hn,hi,h14,h11⟩;have k5:τ 5 = .sl 11 1 a.length:=by rw[hK 5 (by decide)];simp -dsimp -implicitDefEqProofs only[go_sem,af]
   have k13:τ 13 = .i (iN a.length):=by rw[hK 13 (by decide)];simp -dsimp -implicitDefEqProofs only[go_sem,af]
   have kb:β 3=⟨1,eQ c⟩:=(hKB 3 rfl).trans rfl;have k3:τ 3 = .bp 3 1 0:=(hK 3 rfl).trans rfl;by_cases hlt:i<a.length
   ·have hA:(i:Int)<(a.length:Int):=by omega
    have hg:(scI a c i)[i]?=some a[i]:=by rw[scI,List.getElem?_append_right (by simp;omega)];simp[Nat.min_eq_left hi,hlt]
    have hm:(!a.isEmpty)=true:=by cases a<;>simp_all
    simp -dsimp -implicitDefEqProofs only[go_sem,h14,k5,k13,hA];refine ao (by rfl) 11 [] false true (by rfl) (by rfl) (by decide +kernel) ?_;simp -dsimp -implicitDefEqProofs only[go_sem,h14,k5,k13,h11,kb,k3,hm];refine⟨hlt,av hg ?_⟩;simp -dsimp -implicitDefEqProofs only[go_sem,h14,k5,k13,h11,kb,k3,hm];refine ar (args':=[iQ a[i].2,iQ c]) rfl (Dq a[i].2 c (ha _ (List.getElem_mem _)) hc) ?_;simp -dsimp -implicitDefEqProofs only[go_sem,h14,k5,k13,h11,kb,k3,hm];refine⟨hlt,av hg ?_⟩;simp -dsimp -implicitDefEqProofs only[go_sem,h14,k5,k13,h11,kb,k3,hm]
    repeat(refine And.intro (by omega) ?_)
    refine again (a.length-(i+1)) (by omega) ⟨(by(repeat apply am rfl);exact hK),hKB,(by(repeat apply am rfl);exact hKE),i+1,rfl,by omega,rfl,?_⟩
    simp -dsimp -implicitDefEqProofs only[go_sem];rw[<-Gs hlt,List.map_set];rfl
   ·have hA:¬ (i:Int)<(a.length:Int):=by omega
    obtain rfl:i=a.length:=by omega
    simp -dsimp -implicitDefEqProofs only[go_sem,h14,k5,k13,hA];exact⟨(by(repeat apply am rfl);exact hK),hKB,hKE,h11⟩
  ·rintro e τ β ε π hK hKB hKE ⟨rfl,h11⟩;have k5:τ 5 = .sl 11 1 a.length:=by rw[hK 5 (by decide)];simp -dsimp -implicitDefEqProofs only[go_sem,af]
   refine⟨_,aY.refl _,?_⟩;simp -dsimp -implicitDefEqProofs only[go_sem,h11,k5];rw[List.take_of_length_le (by simp[scI])];simp[scI,dE,h]
theorem om (n:Nat) (h:2<=n):QB n (-1):=by
 have h1:(lb ((-1:Rat).num)).length<=1:=eG (by decide);have h2:(lb (((-1:Rat).den:Nat):Int)).length<=1:=eG (by decide);exact⟨by omega,by omega⟩
def Eg (a b:List Tm):List Tm:=fM a (dE b (-1))
theorem iY (b:List Tm) {c:Rat} (h:c≠0):dE b c=b.map fun t=>(t.1,t.2*c):=if_neg h
theorem Dt (a b:List Tm) (hl:a.length+b.length<=1099511627776) (ha:∀ t∈a,QB 8589934592 t.2) (hb:∀ t∈b,QB 8589934592 t.2):Fn Tryz.prog 113 [iM a,iM b] [iM (Eg a b)]:=by
 refine ak (fn:=Tryz.f113) (by rfl) rfl rfl rfl (by rfl) ?_;simp -dsimp -implicitDefEqProofs only[go_sem];refine an (gk (-1) (by decide)) ?_;simp -dsimp -implicitDefEqProofs only[go_sem];refine ar (args':=[iM b,iQ (-1)]) rfl (jy b (-1) (by omega) (fun t ht=>QB.mono' (hb t ht) (by omega)) (om _ (by omega))) ?_;simp -dsimp -implicitDefEqProofs only[go_sem];refine ar (args':=[iM a,iM (dE b (-1))]) rfl (xf a (dE b (-1)) (by rw[iY b (by decide)];simpa using hl) ha (fun t ht=>?_)) ?_
 ·rw[iY b (by decide)]at ht;obtain⟨u,hu,rfl⟩:=List.mem_map.1 ht;exact QB.neg (hb u hu)
 simp -dsimp -implicitDefEqProofs only[go_sem];rfl
theorem EY (n:Nat):(mz n).gen=0:=rfl
attribute [go_sem] EY
def Ex.add (e f:Ex):Ex:=⟨e.a+f.a,e.b+f.b,e.c+f.c,e.d+f.d⟩
def Ex.part (e f:Ex) (i:Nat):Ex:=⟨if 0<i then e.a+f.a else e.a,if 1<i then e.b+f.b else e.b,if 2<i then e.c+f.c else e.c,if 3<i then e.d+f.d else e.d⟩
def rowM (x:Tm) (b:List Tm) (M:List Tm):List Tm:=b.foldl (fun M y=>addT M (x.1.add y.1) (x.2*y.2)) M
def sumM (a b:List Tm) (M:List Tm):List Tm:=a.foldl (fun M x=>rowM x b M) M
def EM (a b:List Tm):List Tm:=uJ (sumM a b [])
def Ex.lt (e:Ex) (n:Int):Prop:=(-n<e.a/\e.a<n)/\(-n<e.b/\e.b<n)/\(-n<e.c/\e.c<n)/\(-n<e.d/\e.d<n)
def qr (t:Nat) (M:List Tm) (π:Nat->MP):Prop:=(π t).gen=1/\(π t).of=none/\(π t).kv=kvE (dH M)/\∀ t',0<(π t').gen->(π t').of≠some t
theorem qr.put {t:Nat} {M M':List Tm} {π:Nat->MP} (h:qr t M π):qr t M' (upd π t { gen:=1,kv:=kvE (dH M') }):=by
 refine⟨by simp[upd],by simp[upd],by simp[upd],fun t' ht'=>?_⟩;simp only[bB]at ht' ⊢;split
 ·simp
 ·rename_i e;rw[if_neg e]at ht';exact h.2.2.2 t' ht'
theorem CE (t:Nat) (π:Nat->MP) (h:∀ t',0<(π t').gen->(π t').of≠some t):qr t [] (upd π t { gen:=1,kv:=[] }):=by
 refine⟨by simp[upd],by simp[upd],by simp[upd];rfl,fun t' ht'=>?_⟩;simp only[bB]at ht' ⊢;split
 ·simp
 ·rename_i e;rw[if_neg e]at ht';exact h t' ht'
theorem t6 (c:Rat) (e:Ex):∀ M:List Tm,((addT M e c).map (·.1))=if e∈M.map (·.1)then M.map (·.1)else M.map (·.1)++[e]
 | []=>by simp[addT]
 | (f,q)::M=>by
  simp only[addT];split
  ·rename_i h;simp[h]
  ·rename_i h;have h':¬ e=f:=h;simp only[List.map_cons,t6 c e M,List.mem_cons];split
   ·rename_i h2;simp[h2]
   ·rename_i h2;rw[if_neg (by simp[h',h2])];rfl
theorem Ir (M:List Tm) (e:Ex) (c:Rat):(addT M e c).length<=M.length+1:=by
 have:=congrArg List.length (t6 c e M);split at this<;>simp at this<;>omega
theorem tZ {M:List Tm} (h:(M.map (·.1)).Nodup) (e:Ex) (c:Rat):((addT M e c).map (·.1)).Nodup:=by
 rw[t6];split
 ·exact h
 ·rename_i h2;refine List.nodup_append.2 ⟨h,by simp,?_⟩;intro a ha b hb e2;simp at hb;subst hb e2;exact h2 ha
theorem x7 (x:Tm):∀(b M:List Tm),(rowM x b M).length<=M.length+b.length
 | [],M=>ae _
 | y::b,M=>by
  have h1:=x7 x b (addT M (x.1.add y.1) (x.2*y.2));have h2:=Ir M (x.1.add y.1) (x.2*y.2);simp only[rowM,List.foldl_cons,List.length_cons]at h1 ⊢;omega
theorem ss (x:Tm):∀(b:List Tm) {M:List Tm},(M.map (·.1)).Nodup->((rowM x b M).map (·.1)).Nodup
 | [],_,h=>h
 | y::b,_,h=>ss x b (tZ h (x.1.add y.1) (x.2*y.2))
theorem uW (b:List Tm):∀(a M:List Tm),(sumM a b M).length<=M.length+a.length*b.length
 | [],M=>by simp[sumM]
 | x::a,M=>by
  have h1:=uW b a (rowM x b M);have h2:=x7 x b M;simp only[sumM,List.foldl_cons,List.length_cons,Nat.add_mul]at h1 ⊢;omega
theorem Gl (a b:List Tm):(sumM a b []).length<=a.length*b.length:=by
 have:=uW b a [];simpa using this
theorem qB (b:List Tm):∀(a:List Tm) {M:List Tm},(M.map (·.1)).Nodup->((sumM a b M).map (·.1)).Nodup
 | [],_,h=>h
 | x::a,_,h=>qB b a (ss x b h)
theorem rY (a b:List Tm):((sumM a b []).map (·.1)).Nodup:=qB b a (by simp)
theorem xe (a b:List Tm) (hla:a.length<=1048576) (hlb:b.length<=1048576) (hea:∀ t∈a,t.1.lt 2305843009213693952) (heb:∀ t∈b,t.1.lt 2305843009213693952)
  (hqa:∀ t∈a,QB 17179869184 t.2) (hqb:∀ t∈b,QB 17179869184 t.2)
  (hq:∀(i j:Nat) (hi:i<a.length) (hj:j<b.length),QB 8589934592 (a[i].2*b[j].2)/\∀ e q,(e,q)∈rowM a[i] (b.take j) (sumM (a.take i) b [])->QB 8589934592 q):Fn Tryz.prog 111 [iM a,iM b] [iM (EM a b)]:=by
 refine ak (fn:=Tryz.f111) (by rfl) rfl rfl rfl (by rfl) ?_;simp -dsimp -implicitDefEqProofs only[go_sem];refine qG (d:=12) (by intro t h;simp only[go_sem]at h<;>exact absurd h (by simp)) ?_;simp -dsimp -implicitDefEqProofs only[go_sem];refine kX [(7,7),(9,11),(15,49)] [(7,7),(9,10)] [] (fun n τ β ε π=>∃ i:Nat,n=a.length-i/\i<=a.length/\τ 15 = .i (iN i)/\qr 12 (sumM (a.take i) b []) π)
  (fun e τ β ε π=>e = .exit 0/\qr 12 (sumM a b []) π) a.length ?_ ?_ ?_
 ·exact⟨0,by omega,by omega,rfl,by simp -dsimp -implicitDefEqProofs only[go_sem];exact CE _ _ (by simp[mz])⟩
 ·rintro n τ β ε π hK hKB hKE ⟨i,hn,hi,h15,hM⟩;have k14:τ 14 = .i (iN a.length):=by rw[hK 14 (by decide)];simp -dsimp -implicitDefEqProofs only[go_sem,af]
  have k13:τ 13 = .i (iM a):=(hK 13 rfl).trans rfl;have k5:τ 5 = .mp 12 1:=(hK 5 rfl).trans rfl;have k1:τ 1 = .i (iM b):=(hK 1 rfl).trans rfl;by_cases hlt:i<a.length
  ·have hA:(i:Int)<(a.length:Int):=by omega
   have hg:a[i]?=some a[i]:=by simp[hlt]
   simp -dsimp -implicitDefEqProofs only[go_sem,h15,k14,k13,hA];refine av hg ?_;simp -dsimp -implicitDefEqProofs only[go_sem,h15,k14,k13,hA,k1];refine kX [(9,11),(21,48)] [(9,10)] [] (fun n τ β ε π=>∃ j:Nat,n=b.length-j/\j<=b.length/\τ 21 = .i (iN j)/\qr 12 (rowM a[i] (b.take j) (sumM (a.take i) b [])) π)
    (fun e τ β ε π=>e = .exit 2/\qr 12 (rowM a[i] b (sumM (a.take i) b [])) π) b.length ?_ ?_ ?_
   ·exact⟨0,by omega,by omega,rfl,by simp -dsimp -implicitDefEqProofs only[go_sem];exact hM⟩
   ·rintro n2 τ2 β2 ε2 π2 hK2 hKB2 hKE2 ⟨j,hn2,hj,h21,hM2⟩;have q20:τ2 20 = .i (iN b.length):=by rw[hK2 20 (by decide)];simp -dsimp -implicitDefEqProofs only[go_sem,af]
    have q19:τ2 19 = .i (iM b):=by rw[hK2 19 (by decide)];simp -dsimp -implicitDefEqProofs only[go_sem,k1]
    have q5:τ2 5 = .mp 12 1:=(hK2 5 rfl).trans k5;have q7:τ2 7 = .bp 7 ((β 7).gen+1) 0:=(hK2 7 rfl).trans rfl;have b7:β2 7=⟨(β 7).gen+1,eT a[i]⟩:=(hKB2 7 rfl).trans rfl;by_cases hlt2:j<b.length
    ·have hA2:(j:Int)<(b.length:Int):=by omega
     have hg2:b[j]?=some b[j]:=by simp[hlt2]
     simp -dsimp -implicitDefEqProofs only[go_sem,h21,q20,q19,hA2];refine av hg2 ?_;simp -dsimp -implicitDefEqProofs only[go_sem,h21,q20,q19,hA2,q7,b7];refine kX [(11,11),(27,39)] [(10,10)] [] (fun n τ β ε π=>∃ k:Nat,n=4-k/\k<=4/\τ 27 = .i (iN k)/\β 10=⟨(β2 10).gen+1,(a[i].1.part b[j].1 k).cs⟩/\π=π2)
      (fun e τ β ε π=>e = .exit 4/\β 10=⟨(β2 10).gen+1,(a[i].1.add b[j].1).cs⟩/\π=π2) 4 ?_ ?_ ?_
     ·exact⟨0,by omega,by omega,rfl,rfl,rfl⟩
     ·rintro n3 τ3 β3 ε3 π3 hK3 hKB3 hKE3 ⟨k,hn3,hk,h27,hb10,rfl⟩;have r10:τ3 10 = .bp 10 ((β2 10).gen+1) 0:=(hK3 10 rfl).trans rfl;have r9:τ3 9 = .bp 9 ((β2 9).gen+1) 0:=(hK3 9 rfl).trans rfl;have c9:β3 9=⟨(β2 9).gen+1,eT b[j]⟩:=(hKB3 9 rfl).trans rfl;obtain rfl|rfl|rfl|rfl|rfl:k=4\/k=0\/k=1\/k=2\/k=3:=by omega
      ·have h27':τ3 27 = .i (iN 4):=h27;simp -dsimp -implicitDefEqProofs only[go_sem,h27',Int.reduceLT,decide_false];exact⟨(by(repeat apply am rfl);exact hK3),hKB3,hKE3,hb10⟩
      ·have h27':τ3 27 = .i (iN 0):=h27;have ex:=hea _ (List.getElem_mem hlt);have ey:=heb _ (List.getElem_mem hlt2);unfold Ex.lt at ex ey;simp -dsimp -implicitDefEqProofs only[go_sem,h27',Int.reduceLT,decide_true];refine ao (by rfl) 9 [] false true (by rfl) (by rfl) (by decide +kernel) ?_;simp -dsimp -implicitDefEqProofs only[go_sem,h27',r10,r9,hb10,c9,Int.reduceToNat,Int.reduceLE,Int.reduceAdd,true_and,Ex.part,Nat.not_lt_zero,ag];refine⟨by omega,?_⟩
       repeat(refine And.intro (by omega) ?_)
       refine jw (4-1) (by omega) ⟨(by(repeat apply am rfl);exact hK3),(by(repeat apply am rfl);exact hKB3),hKE3,1,rfl,by omega,rfl,?_,rfl⟩
       simp -dsimp -implicitDefEqProofs only[go_sem,Ex.part,Nat.not_lt_zero]
      ·have h27':τ3 27 = .i (iN 1):=h27;have ex:=hea _ (List.getElem_mem hlt);have ey:=heb _ (List.getElem_mem hlt2);unfold Ex.lt at ex ey;simp -dsimp -implicitDefEqProofs only[go_sem,h27',Int.reduceLT,decide_true];refine ao (by rfl) 9 [] false true (by rfl) (by rfl) (by decide +kernel) ?_;simp -dsimp -implicitDefEqProofs only[go_sem,h27',r10,r9,hb10,c9,Int.reduceToNat,Int.reduceLE,Int.reduceAdd,true_and,Ex.part,Nat.not_lt_zero,ag];refine⟨by omega,?_⟩
       repeat(refine And.intro (by omega) ?_)
       refine jw (4-2) (by omega) ⟨(by(repeat apply am rfl);exact hK3),(by(repeat apply am rfl);exact hKB3),hKE3,2,rfl,by omega,rfl,?_,rfl⟩
       simp -dsimp -implicitDefEqProofs only[go_sem,Ex.part,Nat.not_lt_zero]
      ·have h27':τ3 27 = .i (iN 2):=h27;have ex:=hea _ (List.getElem_mem hlt);have ey:=heb _ (List.getElem_mem hlt2);unfold Ex.lt at ex ey;simp -dsimp -implicitDefEqProofs only[go_sem,h27',Int.reduceLT,decide_true];refine ao (by rfl) 9 [] false true (by rfl) (by rfl) (by decide +kernel) ?_;simp -dsimp -implicitDefEqProofs only[go_sem,h27',r10,r9,hb10,c9,Int.reduceToNat,Int.reduceLE,Int.reduceAdd,true_and,Ex.part,Nat.not_lt_zero,ag];refine⟨by omega,?_⟩
       repeat(refine And.intro (by omega) ?_)
       refine jw (4-3) (by omega) ⟨(by(repeat apply am rfl);exact hK3),(by(repeat apply am rfl);exact hKB3),hKE3,3,rfl,by omega,rfl,?_,rfl⟩
       simp -dsimp -implicitDefEqProofs only[go_sem,Ex.part,Nat.not_lt_zero]
      ·have h27':τ3 27 = .i (iN 3):=h27;have ex:=hea _ (List.getElem_mem hlt);have ey:=heb _ (List.getElem_mem hlt2);unfold Ex.lt at ex ey;simp -dsimp -implicitDefEqProofs only[go_sem,h27',Int.reduceLT,decide_true];refine ao (by rfl) 9 [] false true (by rfl) (by rfl) (by decide +kernel) ?_;simp -dsimp -implicitDefEqProofs only[go_sem,h27',r10,r9,hb10,c9,Int.reduceToNat,Int.reduceLE,Int.reduceAdd,true_and,Ex.part,Nat.not_lt_zero,ag];refine⟨by omega,?_⟩
       repeat(refine And.intro (by omega) ?_)
       refine jw (4-4) (by omega) ⟨(by(repeat apply am rfl);exact hK3),(by(repeat apply am rfl);exact hKB3),hKE3,4,rfl,by omega,rfl,?_,rfl⟩
       simp -dsimp -implicitDefEqProofs only[go_sem,Ex.part,Nat.not_lt_zero]
     ·rintro e τ3 β3 ε3 π3 hK3 hKB3 hKE3 ⟨rfl,hb10,rfl⟩;refine⟨_,aY.refl _,?_⟩;have r5:τ3 5 = .mp 12 1:=(hK3 5 rfl).trans q5;have r10:τ3 10 = .bp 10 ((β2 10).gen+1) 0:=(hK3 10 rfl).trans rfl;have r9:τ3 9 = .bp 9 ((β2 9).gen+1) 0:=(hK3 9 rfl).trans rfl;have r7:τ3 7 = .bp 7 ((β 7).gen+1) 0:=(hK3 7 rfl).trans q7;have r21:τ3 21 = .i (iN j):=(hK3 21 rfl).trans h21;have c9:β3 9=⟨(β2 9).gen+1,eT b[j]⟩:=(hKB3 9 rfl).trans rfl;have c7:β3 7=⟨(β 7).gen+1,eT a[i]⟩:=(hKB3 7 rfl).trans b7;have kO:=Kp.step2 hK2 hK3 (by intro n;simp[inR]<;>omega) (by(repeat apply am rfl);exact hK2)
      have kB:=Kp.step2 hKB2 hKB3 (by intro n;simp[inR]<;>omega) (by(repeat apply am rfl);exact hKB2)
      have kE:=Kp.step2 hKE2 hKE3 (by intro n;simp[inR]) hKE2;obtain⟨hq1,hq2⟩:=hq i j hlt hlt2;simp -dsimp -implicitDefEqProofs only[go_sem,r5,r10,r9,r7,c9,c7,hb10];refine ao (by rfl) 7 [] false true (by rfl) (by rfl) (by decide +kernel) ?_;simp -dsimp -implicitDefEqProofs only[go_sem,r5,r10,r9,r7,c9,c7,hb10];refine ar (args':=[iQ a[i].2,iQ b[j].2]) rfl (Dq _ _ (hqa _ (List.getElem_mem _)) (hqb _ (List.getElem_mem _))) ?_;simp -dsimp -implicitDefEqProofs only[go_sem];refine lj (t:=12) (g:=1) (args:=[iE (a[i].1.add b[j].1),iQ (a[i].2*b[j].2)]) rfl rfl rfl rfl (by simp -dsimp -implicitDefEqProofs only[go_sem,hM2.1]) (by omega) (by simp -dsimp -implicitDefEqProofs only[go_sem,hM2.2.1]) (by simp -dsimp -implicitDefEqProofs only[go_sem];exact hM2.2.2.2) rfl (by simp -dsimp -implicitDefEqProofs only[go_sem,hM2.2.2.1];exact vd _ _ _ (fun q hm=>hq2 _ _ hm) hq1) ?_;simp -dsimp -implicitDefEqProofs only[go_sem,r21]
      repeat(refine And.intro (by omega) ?_)
      refine jw (b.length-(j+1)) (by omega) ⟨(by(repeat apply am rfl);exact kO),kB,kE,j+1,rfl,by omega,rfl,?_⟩
      rw[ab hlt2,rowM,List.foldl_append];exact hM2.put
    ·have hA2:¬ (j:Int)<(b.length:Int):=by omega
     obtain rfl:j=b.length:=by omega
     rw[List.take_length]at hM2;simp -dsimp -implicitDefEqProofs only[go_sem,h21,q20,hA2];exact⟨(by(repeat apply am rfl);exact hK2),hKB2,hKE2,hM2⟩
   ·rintro e τ2 β2 ε2 π2 hK2 hKB2 hKE2 ⟨rfl,hM2⟩;refine⟨_,aY.refl _,?_⟩;have q15:τ2 15 = .i (iN i):=(hK2 15 rfl).trans h15;simp -dsimp -implicitDefEqProofs only[go_sem,q15]
    repeat(refine And.intro (by omega) ?_)
    have kO:=Kp.step2 hK hK2 (by intro n;simp[inR]<;>omega) (by(repeat apply am rfl);exact hK)
    have kB:=Kp.step2 hKB hKB2 (by intro n;simp[inR]<;>omega) (by(repeat apply am rfl);exact hKB)
    have kE:=Kp.step2 hKE hKE2 (by intro n;simp[inR]) hKE;refine jw (a.length-(i+1)) (by omega) ⟨(by(repeat apply am rfl);exact kO),kB,kE,i+1,rfl,by omega,rfl,?_⟩
    rw[ab hlt,sumM,List.foldl_append];exact hM2
  ·have hA:¬ (i:Int)<(a.length:Int):=by omega
   obtain rfl:i=a.length:=by omega
   rw[List.take_length]at hM;simp -dsimp -implicitDefEqProofs only[go_sem,h15,k14,hA];exact⟨(by(repeat apply am rfl);exact hK),hKB,hKE,hM⟩
 ·rintro e τ β ε π hK hKB hKE ⟨rfl,hM⟩;refine⟨_,aY.refl _,?_⟩;have k5:τ 5 = .mp 12 1:=(hK 5 rfl).trans rfl;simp -dsimp -implicitDefEqProofs only[go_sem,k5];refine lj (t:=12) (g:=1) (args:=[]) rfl rfl rfl rfl (by simp -dsimp -implicitDefEqProofs only[go_sem,hM.1]) (by omega) (by simp -dsimp -implicitDefEqProofs only[go_sem,hM.2.1]) (by simp -dsimp -implicitDefEqProofs only[go_sem];exact hM.2.2.2) rfl (by simp -dsimp -implicitDefEqProofs only[go_sem,hM.2.2.1];exact tV _ (rY a b) (ac (Gl a b) (ac (Nat.mul_le_mul hla hlb) (by decide)))) ?_;simp -dsimp -implicitDefEqProofs only[go_sem];rfl
def fK (a:List Tm) (v:Nat):Int:=a.foldl (fun m t=>max m (t.1.at v)) (-1)
theorem vq (a:List Tm) (t:Tm) (v:Nat):fK (a++[t]) v=max (fK a v) (t.1.at v):=by simp[fK]
theorem xo (a:List Tm) (v:Nat) (hv:v<4) (hl:a.length<=1099511627776):Fn Tryz.prog 123 [iM a,iN v] [iN (fK a v)]:=by
 refine ak (fn:=Tryz.f123) (by rfl) rfl rfl rfl (by rfl) ?_;simp -dsimp -implicitDefEqProofs only[go_sem];refine aJ [(5,5),(7,7),(10,20)] [(7,7)] [] (fun n τ β ε=>∃ i:Nat,n=a.length-i/\i<=a.length/\τ 10 = .i (iN i)/\τ 5 = .i (iN (fK (a.take i) v)))
  (fun e τ β ε=>e = .exit 0/\τ 5 = .i (iN (fK a v))) a.length ?_ ?_ ?_
 ·exact⟨0,by omega,by omega,rfl,rfl⟩
 ·rintro n τ β ε π hK hKB hKE ⟨i,hn,hi,h10,h5⟩;have k8:τ 8 = .i (iM a):=(hK 8 rfl).trans rfl;have k9:τ 9 = .i (iN a.length):=by rw[hK 9 (by decide)];simp -dsimp -implicitDefEqProofs only[go_sem,af]
  have k1:τ 1 = .i (iN v):=(hK 1 rfl).trans rfl;by_cases hlt:i<a.length
  ·have hA:(i:Int)<(a.length:Int):=by omega
   have hg:a[i]?=some a[i]:=by simp[hlt]
   have hd:fK (a.take (i+1)) v=max (fK (a.take i) v) (a[i].1.at v):=by rw[ab hlt,vq]
   simp -dsimp -implicitDefEqProofs only[go_sem,h10,k9,k8,hA];refine av hg ?_;obtain rfl|rfl|rfl|rfl:v=0\/v=1\/v=2\/v=3:=by omega
   ·have k1':τ 1 = .i (iN 0):=k1;simp -dsimp -implicitDefEqProofs only[go_sem,h10,h5,k9,k8,k1',hA,Int.reduceToNat,Int.reduceLE,ag]
    repeat(refine And.intro (by omega) ?_)
    refine again (a.length-(i+1)) (by omega) ⟨(by(repeat apply am rfl);exact hK),(by(repeat apply am rfl);exact hKB),hKE,i+1,rfl,by omega,rfl,?_⟩
    simp -dsimp -implicitDefEqProofs only[go_sem,hd];rfl
   ·have k1':τ 1 = .i (iN 1):=k1;simp -dsimp -implicitDefEqProofs only[go_sem,h10,h5,k9,k8,k1',hA,Int.reduceToNat,Int.reduceLE,ag]
    repeat(refine And.intro (by omega) ?_)
    refine again (a.length-(i+1)) (by omega) ⟨(by(repeat apply am rfl);exact hK),(by(repeat apply am rfl);exact hKB),hKE,i+1,rfl,by omega,rfl,?_⟩
    simp -dsimp -implicitDefEqProofs only[go_sem,hd];rfl
   ·have k1':τ 1 = .i (iN 2):=k1;simp -dsimp -implicitDefEqProofs only[go_sem,h10,h5,k9,k8,k1',hA,Int.reduceToNat,Int.reduceLE,ag]
    repeat(refine And.intro (by omega) ?_)
    refine again (a.length-(i+1)) (by omega) ⟨(by(repeat apply am rfl);exact hK),(by(repeat apply am rfl);exact hKB),hKE,i+1,rfl,by omega,rfl,?_⟩
    simp -dsimp -implicitDefEqProofs only[go_sem,hd];rfl
   ·have k1':τ 1 = .i (iN 3):=k1;simp -dsimp -implicitDefEqProofs only[go_sem,h10,h5,k9,k8,k1',hA,Int.reduceToNat,Int.reduceLE,ag]
    repeat(refine And.intro (by omega) ?_)
    refine again (a.length-(i+1)) (by omega) ⟨(by(repeat apply am rfl);exact hK),(by(repeat apply am rfl);exact hKB),hKE,i+1,rfl,by omega,rfl,?_⟩
    simp -dsimp -implicitDefEqProofs only[go_sem,hd];rfl
  ·have hA:¬ (i:Int)<(a.length:Int):=by omega
   obtain rfl:i=a.length:=by omega
   rw[List.take_length]at h5;simp -dsimp -implicitDefEqProofs only[go_sem,h10,k9,hA];exact⟨(by(repeat apply am rfl);exact hK),hKB,hKE,h5⟩
 ·rintro e τ β ε π hK hKB hKE ⟨rfl,h5⟩;simp -dsimp -implicitDefEqProofs only[go_sem,h5]
def ci (a:List Tm) (v:Nat) (k:Nat):List Tm:=(a.filter fun t=>decide (t.1.at v=(k:Int))).map fun t=>(t.1.to v 0,t.2)
def wj (L:List Tm):List C:=if L=[]then[.v (.slice none 0 0)]else[cM L]
def ph (a:List Tm) (v:Nat):List (List Tm):=(List.range (fK a v+1).toNat).map (ci a v)
theorem AC (L:List Tm):(wj L).map mh=[cM L]:=by
 unfold wj;split
 ·rename_i h;subst h;rfl
 ·rfl
theorem rC (a:List Tm) (v:Nat):∀ t∈a,t.1.at v<=fK a v:=by
 have:∀(l:List Tm) (m:Int),m<=l.foldl (fun m t=>max m (t.1.at v)) m/\∀ t∈l,t.1.at v<=l.foldl (fun m t=>max m (t.1.at v)) m:=by
  intro l
  induction l with
  | nil=>intro m;exact⟨Int.le_refl _,by simp⟩
  | cons x l ih =>
   intro m;simp only[List.foldl_cons];have h:=ih (max m (x.1.at v));refine⟨by omega,fun t ht=>?_⟩;rcases List.mem_cons.1 ht with rfl|ht
   ·omega
   ·exact h.2 t ht
 exact(this a (-1)).2
theorem wT {a:List Tm} {v:Nat} {n:Int} (h:∀ t∈a,t.1.at v<=n) (h0 : -1<=n):fK a v<=n:=by
 have:∀(l:List Tm) (m:Int),m<=n->(∀ t∈l,t.1.at v<=n)->l.foldl (fun m t=>max m (t.1.at v)) m<=n:=by
  intro l
  induction l with
  | nil=>intro m hm _;exact hm
  | cons x l ih=>intro m hm h;exact ih _ (by have:=h x (by simp);show max m (x.1.at v)<=n;omega) fun t ht=>h t (by simp[ht])
 exact this a (-1) h0 h
theorem H9 (a:List Tm) (v:Nat) : -1<=fK a v:=by
 have:∀(l:List Tm) (m:Int),m<=l.foldl (fun m t=>max m (t.1.at v)) m:=by
  intro l
  induction l with
  | nil=>intro m;exact Int.le_refl _
  | cons x l ih=>intro m;have:=ih (max m (x.1.at v));simp only[List.foldl_cons];omega
 exact this a (-1)
theorem En {a:List Tm} {v n i:Nat} (hlt:i<a.length) {k:Nat} (hk:a[i].1.at v=k) (hnil:ci (a.take i) v k=[]) :
  ((List.range n).map fun k=>wj (ci (a.take i) v k)).set k [cM [(a[i].1.to v 0,a[i].2)]]=(List.range n).map fun k=>wj (ci (a.take (i+1)) v k):=by
 have hs:∀ j:Nat,ci (a.take (i+1)) v j=ci (a.take i) v j++if a[i].1.at v=j then[(a[i].1.to v 0,a[i].2)]else[]:=fun j=>by
  rw[ab hlt,ci,List.filter_append,List.map_append];congr 1;by_cases h:a[i].1.at v=(j:Int)<;>simp[h]
 refine List.ext_getElem (by simp) fun j h1 h2=>?_;rw[List.getElem_set];simp only[List.getElem_map,List.getElem_range];split
 ·rename_i e;subst e;rw[hs,hnil,if_pos hk,List.nil_append];rfl
 ·rename_i e;rw[hs,if_neg (by rw[hk];omega),List.append_nil]
theorem vK (a:List Tm) (v:Nat) (hv:v<4) (hl:a.length<=1099511627776) (he:∀ t∈a,0<=t.1.at v/\t.1.at v<1099511627776) (hn:(a.map (·.1.at v)).Nodup) (ha0:a≠[]) :
  FnM Tryz.prog 89 [iM a,iN v] 1 ((ph a v).map fun L=>[cM L]):=by
 have hd1:=H9 a v;have hd2:fK a v<=1099511627775:=wT (fun t ht=>by have:=he t ht;omega) (by omega);refine qv kd (fn:=Tryz.f89) (by rfl) rfl rfl rfl (by rfl) (by simp) (by rfl) ?_;simp -dsimp -implicitDefEqProofs only[go_sem];refine aa (xo a v hv hl) rfl ?_;simp -dsimp -implicitDefEqProofs only[go_sem]
 repeat(refine And.intro (by omega) ?_)
 refine aS [(7,8),(16,37)] [(7,7)] [(13,13),(35,35)] (fun n τ β ε=>∃ i:Nat,n=a.length-i/\i<=a.length/\τ 16 = .i (iN i) /\
   ε 13=⟨1,1,(List.range (fK a v+1).toNat).map (fun k=>wj (ci (a.take i) v k)),true,true⟩)
  (fun e τ β ε=>e = .exit 0/\ε 13=⟨1,1,(List.range (fK a v+1).toNat).map (fun k=>wj (ci a v k)),true,true⟩) a.length ?_ ?_ ?_
 ·refine⟨0,by omega,by omega,rfl,?_⟩;simp -dsimp -implicitDefEqProofs only[go_sem];refine congrArg (fun l=>EN.mk 1 1 l true true) ?_;rw[show(fun k:Nat=>wj (ci [] v k))=fun _=>[.v (.slice none 0 0)]from rfl,List.map_const',List.length_range]
 ·rintro n τ β ε π hK hKB hKE ⟨i,hn',hi,h16,h13⟩;have k14:τ 14 = .i (iM a):=(hK 14 rfl).trans rfl;have k15:τ 15 = .i (iN a.length):=by rw[hK 15 (by decide)];simp -dsimp -implicitDefEqProofs only[go_sem,af]
  have k1:τ 1 = .i (iN v):=(hK 1 rfl).trans rfl;have k5:τ 5 = .sl 13 1 (fK a v+1).toNat:=(hK 5 rfl).trans rfl;by_cases hlt:i<a.length
  ·have hA:(i:Int)<(a.length:Int):=by omega
   have hg:a[i]?=some a[i]:=by simp[hlt]
   have hm:=List.getElem_mem hlt;obtain⟨he1,he2⟩:=he _ hm;have hdg:=rC a v _ hm;obtain⟨k,hk⟩:∃ k:Nat,a[i].1.at v=k:=⟨(a[i].1.at v).toNat,by omega⟩;have hkn:k<(fK a v+1).toNat:=by omega
   have hnil:ci (a.take i) v k=[]:=by
    unfold ci;rw[List.map_eq_nil_iff,List.filter_eq_nil_iff];intro t ht;obtain⟨j,hj,rfl⟩:=List.getElem_of_mem ht;simp only[List.length_take]at hj;rw[List.getElem_take];have h3:=(List.pairwise_iff_getElem.1 hn) j i (by simp;omega) (by simp;omega) (by omega);simp only[List.getElem_map,hk]at h3;simpa using h3
   have hrow:(List.range (fK a v+1).toNat)[k]?=some k:=List.getElem?_range hkn;have hr0:wj (ci (a.take i) v k)=[.v (.slice none 0 0)]:=by rw[hnil];rfl
   have hset:=En (n:=(fK a v+1).toNat) hlt hk hnil;simp -dsimp -implicitDefEqProofs only[go_sem,h16,k15,k14,hA];refine av hg ?_;obtain rfl|rfl|rfl|rfl:v=0\/v=1\/v=2\/v=3:=by omega
   ·have k1':τ 1 = .i (iN 0):=k1;have hk':a[i].1.a=k:=hk;simp -dsimp -implicitDefEqProofs only[go_sem,h16,k15,k14,k1',k5,hA,Int.reduceToNat,Int.reduceLE,ag,hk'];refine iA (by rfl) 10 [] [35] 35 (by rfl) (by rfl) (by decide +kernel) ?_;simp -dsimp -implicitDefEqProofs only[go_sem,h16,k15,k14,k1',k5,hA,h13];refine⟨hkn,av hrow ?_⟩;simp -dsimp -implicitDefEqProofs only[go_sem,h16,k15,k14,k1',k5,hA,h13,hr0,List.drop_zero];refine⟨hkn,av hrow ?_⟩;simp -dsimp -implicitDefEqProofs only[go_sem,h16,hr0]
    repeat(refine And.intro (by omega) ?_)
    refine again (a.length-(i+1)) (by omega) ⟨(by(repeat apply am rfl);exact hK),(by(repeat apply am rfl);exact hKB),(by(repeat apply am rfl);exact hKE),i+1,rfl,by omega,rfl,?_⟩
    simp -dsimp -implicitDefEqProofs only[go_sem,h13];rw[<-hset];refine congrArg (fun l=>EN.mk 1 1 l true true) ?_;refine congrArg (fun x=>List.set _ _ x) ?_;simp only[cM,List.map_cons,List.map_nil,yS,Ex.to,hk']
   ·have k1':τ 1 = .i (iN 1):=k1;have hk':a[i].1.b=k:=hk;simp -dsimp -implicitDefEqProofs only[go_sem,h16,k15,k14,k1',k5,hA,Int.reduceToNat,Int.reduceLE,ag,hk'];refine iA (by rfl) 10 [] [35] 35 (by rfl) (by rfl) (by decide +kernel) ?_;simp -dsimp -implicitDefEqProofs only[go_sem,h16,k15,k14,k1',k5,hA,h13];refine⟨hkn,av hrow ?_⟩;simp -dsimp -implicitDefEqProofs only[go_sem,h16,k15,k14,k1',k5,hA,h13,hr0,List.drop_zero];refine⟨hkn,av hrow ?_⟩;simp -dsimp -implicitDefEqProofs only[go_sem,h16,hr0]
    repeat(refine And.intro (by omega) ?_)
    refine again (a.length-(i+1)) (by omega) ⟨(by(repeat apply am rfl);exact hK),(by(repeat apply am rfl);exact hKB),(by(repeat apply am rfl);exact hKE),i+1,rfl,by omega,rfl,?_⟩
    simp -dsimp -implicitDefEqProofs only[go_sem,h13];rw[<-hset];refine congrArg (fun l=>EN.mk 1 1 l true true) ?_;refine congrArg (fun x=>List.set _ _ x) ?_;simp only[cM,List.map_cons,List.map_nil,yS,Ex.to,hk']
   ·have k1':τ 1 = .i (iN 2):=k1;have hk':a[i].1.c=k:=hk;simp -dsimp -implicitDefEqProofs only[go_sem,h16,k15,k14,k1',k5,hA,Int.reduceToNat,Int.reduceLE,ag,hk'];refine iA (by rfl) 10 [] [35] 35 (by rfl) (by rfl) (by decide +kernel) ?_;simp -dsimp -implicitDefEqProofs only[go_sem,h16,k15,k14,k1',k5,hA,h13];refine⟨hkn,av hrow ?_⟩;simp -dsimp -implicitDefEqProofs only[go_sem,h16,k15,k14,k1',k5,hA,h13,hr0,List.drop_zero];refine⟨hkn,av hrow ?_⟩;simp -dsimp -implicitDefEqProofs only[go_sem,h16,hr0]
    repeat(refine And.intro (by omega) ?_)
    refine again (a.length-(i+1)) (by omega) ⟨(by(repeat apply am rfl);exact hK),(by(repeat apply am rfl);exact hKB),(by(repeat apply am rfl);exact hKE),i+1,rfl,by omega,rfl,?_⟩
    simp -dsimp -implicitDefEqProofs only[go_sem,h13];rw[<-hset];refine congrArg (fun l=>EN.mk 1 1 l true true) ?_;refine congrArg (fun x=>List.set _ _ x) ?_;simp only[cM,List.map_cons,List.map_nil,yS,Ex.to,hk']
   ·have k1':τ 1 = .i (iN 3):=k1;have hk':a[i].1.d=k:=hk;simp -dsimp -implicitDefEqProofs only[go_sem,h16,k15,k14,k1',k5,hA,Int.reduceToNat,Int.reduceLE,ag,hk'];refine iA (by rfl) 10 [] [35] 35 (by rfl) (by rfl) (by decide +kernel) ?_;simp -dsimp -implicitDefEqProofs only[go_sem,h16,k15,k14,k1',k5,hA,h13];refine⟨hkn,av hrow ?_⟩;simp -dsimp -implicitDefEqProofs only[go_sem,h16,k15,k14,k1',k5,hA,h13,hr0,List.drop_zero];refine⟨hkn,av hrow ?_⟩;simp -dsimp -implicitDefEqProofs only[go_sem,h16,hr0]
    repeat(refine And.intro (by omega) ?_)
    refine again (a.length-(i+1)) (by omega) ⟨(by(repeat apply am rfl);exact hK),(by(repeat apply am rfl);exact hKB),(by(repeat apply am rfl);exact hKE),i+1,rfl,by omega,rfl,?_⟩
    simp -dsimp -implicitDefEqProofs only[go_sem,h13];rw[<-hset];refine congrArg (fun l=>EN.mk 1 1 l true true) ?_;refine congrArg (fun x=>List.set _ _ x) ?_;simp only[cM,List.map_cons,List.map_nil,yS,Ex.to,hk']
  ·have hA:¬ (i:Int)<(a.length:Int):=by omega
   obtain rfl:i=a.length:=by omega
   rw[List.take_length]at h13;simp -dsimp -implicitDefEqProofs only[go_sem,h16,k15,hA];exact⟨(by(repeat apply am rfl);exact hK),hKB,hKE,h13⟩
 ·rintro e τ β ε π hK hKB hKE ⟨rfl,h13⟩;refine⟨_,aY.relax _ 13,?_⟩;have k5:τ 5 = .sl 13 1 (fK a v+1).toNat:=(hK 5 rfl).trans rfl;simp -dsimp -implicitDefEqProofs only[go_sem,k5,h13];have hpos:0<=fK a v:=by
   obtain⟨t,ht⟩:=List.exists_mem_of_ne_nil a ha0;have:=rC a v t ht;have:=(he t ht).1;omega
  have hne:(ph a v).isEmpty=false:=by
   cases hc:ph a v with
   | nil=>have:=congrArg List.length hc;simp[ph]at this;omega
   | cons _ _=>rfl
  refine⟨13,1,?_,by omega,?_⟩
  ·simp[ph]
  ·rw[if_pos rfl,List.map_map];have e1:((fun x=>List.map mh x)∘fun k=>wj (ci a v k))=fun k=>[cM (ci a v k)]:=funext fun k=>AC _;rw[e1];simp only[List.isEmpty_map,hne,Bool.not_false];refine congrArg (fun l=>EN.mk 1 1 l true true) ?_;simp[ph]
end Go.AM
namespace Alg
theorem aj {p:Prop} [Decidable p] (h:¬p):decide p=false:=decide_eq_false h
theorem ai {p:Prop} [Decidable p] (h:p):decide p=true:=decide_eq_true h
theorem ah {α:Type} {l:List α} {i:Nat} (h:i<l.length):l[i]?=some l[i]:=List.getElem?_eq_getElem h
theorem ab {α:Type} {l:List α} {i:Nat} (h:i<l.length):l.take (i+1)=l.take i++[l[i]]:=List.take_succ_eq_append_getElem h
theorem ac {a b c:Nat} (h:a<=b) (h':b<=c):a<=c:=Nat.le_trans h h'
theorem ae (n:Nat):n<=n:=Nat.le_refl n
theorem af {α β:Type} {l:List α} (f:α->β):(l.map f).length=l.length:=List.length_map f
theorem ag:(∀ p:Prop,(True/\p)=p)/\(∀(α:Type) (l:List α),l.drop 0=l)/\∀(α:Type) (a:α) (l:List α) (n:Nat),(a::l).drop (n+1)=l.drop n:=⟨true_and,fun _ _=>rfl,fun _ _ _ _=>rfl⟩
class CR (R:Type) extends Add R,Mul R,Neg R,Sub R,Zero R,One R where
 add_assoc:∀ a b c:R,a+b+c=a+(b+c)
 add_comm:∀ a b:R,a+b=b+a
 add_zero:∀ a:R,a+0=a
 neg_add:∀ a:R,-a+a=0
 sub_eq:∀ a b:R,a-b=a + -b
 mul_assoc:∀ a b c:R,a*b*c=a*(b*c)
 mul_comm:∀ a b:R,a*b=b*a
 mul_one:∀ a:R,a*1=a
 mul_add:∀ a b c:R,a*(b+c)=a*b+a*c
section
variable {R:Type} [CR R]
theorem add_assoc (a b c:R):a+b+c=a+(b+c):=CR.add_assoc a b c
theorem add_comm (a b:R):a+b=b+a:=CR.add_comm a b
theorem fE (a b c:R):a+(b+c)=b+(a+c):=by rw[<-add_assoc,add_comm a,add_assoc]
theorem add_zero (a:R):a+0=a:=CR.add_zero a
theorem zero_add (a:R):0+a=a:=by rw[add_comm,add_zero]
theorem neg_add (a:R) : -a+a=0:=CR.neg_add a
theorem iP (a:R):a + -a=0:=by rw[add_comm,neg_add]
theorem sub_eq (a b:R):a-b=a + -b:=CR.sub_eq a b
theorem mul_assoc (a b c:R):a*b*c=a*(b*c):=CR.mul_assoc a b c
theorem mul_comm (a b:R):a*b=b*a:=CR.mul_comm a b
theorem cS (a b c:R):a*(b*c)=b*(a*c):=by rw[<-mul_assoc,mul_comm a,mul_assoc]
theorem mul_one (a:R):a*1=a:=CR.mul_one a
theorem one_mul (a:R):1*a=a:=by rw[mul_comm,mul_one]
theorem mul_add (a b c:R):a*(b+c)=a*b+a*c:=CR.mul_add a b c
theorem add_mul (a b c:R):(a+b)*c=a*c+b*c:=by rw[mul_comm,mul_add,mul_comm c,mul_comm c]
theorem fH {a b c:R} (h:a+b=a+c):b=c:=by
 have:=congrArg (fun x => -a+x) h;simpa only[<-add_assoc,neg_add,zero_add]using this
theorem ql {a b c:R} (h:b+a=c+a):b=c:=by
 rw[add_comm b,add_comm c]at h;exact fH h
theorem mul_zero (a:R):a*0=0:=by
 have h:a*0+a*0=a*0+0:=by rw[<-mul_add,add_zero,add_zero]
 exact fH h
theorem zero_mul (a:R):0*a=0:=by rw[mul_comm,mul_zero]
theorem eh {a b:R} (h:a+b=0):a = -b:=by
 apply ql (a:=b);rw[h,neg_add]
theorem f0 : -(0:R)=0:=(eh (by rw[add_zero])).symm
theorem neg_neg (a:R) : - -a=a:=(eh (iP a)).symm
theorem yk (a b:R) : -(a+b) = -a + -b:=by
 symm;apply eh;rw[add_assoc,fE (-b),neg_add,add_zero,neg_add]
theorem neg_mul (a b:R) : -a*b = -(a*b):=by
 apply eh;rw[<-add_mul,neg_add,zero_mul]
theorem mul_neg (a b:R):a * -b = -(a*b):=by rw[mul_comm,neg_mul,mul_comm]
theorem sub_self (a:R):a-a=0:=by rw[sub_eq,iP]
theorem ff {a b:R} (h:a-b=0):a=b:=by
 rw[sub_eq]at h;have:=eh h;rw[neg_neg]at this;exact this
theorem sub_zero (a:R):a-0=a:=by rw[sub_eq,f0,add_zero]
def nc:Nat->R
 | 0=>0
 | n+1=>nc n+1
def ic:Int->R
 | .ofNat n=>nc n
 | .negSucc n => -(nc n+1)
theorem p9 (a b:Nat):(nc (a+b):R)=nc a+nc b:=by
 induction b with
 | zero=>simp only[nc,Nat.add_zero,add_zero]
 | succ b ih=>rw[Nat.add_succ];simp only[nc];rw[ih,add_assoc]
theorem HG (n:Nat):(ic (n:Int):R)=nc n:=rfl
theorem HH (a:Int):(ic (-a):R) = -ic a:=by
 cases a with
 | ofNat n =>
  cases n with
  | zero=>show(nc 0:R) = -nc 0;simp only[nc,f0]
  | succ n=>rfl
 | negSucc n=>show(nc (n+1):R)=_;simp only[ic,neg_neg,nc]
theorem o9 (a b:Nat):(ic (Int.subNatNat a b):R)=nc a + -nc b:=by
 rcases Nat.lt_or_ge a b with h|h
 ·obtain⟨k,rfl⟩:=Nat.exists_eq_add_of_lt h;rw[show Int.subNatNat a (a+k+1)=Int.negSucc k from by simp[Int.subNatNat,show a+k+1-a=k+1 from by omega]];simp only[ic];rw[Nat.add_assoc,p9 a (k+1),yk (nc a),<-add_assoc,iP,zero_add];simp only[nc]
 ·obtain⟨k,rfl⟩:=Nat.exists_eq_add_of_le h;rw[show Int.subNatNat (b+k) b=Int.ofNat k from by simp[Int.subNatNat]];simp only[ic];rw[p9,add_comm (nc b),add_assoc,iP,add_zero]
theorem Bg (a b:Int):(ic (a+b):R)=ic a+ic b:=by
 cases a with
 | ofNat a=>cases b with
  | ofNat b=>exact p9 a b
  | negSucc b=>show(ic (Int.subNatNat a (b+1)):R)=_;rw[o9];rfl
 | negSucc a=>cases b with
  | ofNat b=>show(ic (Int.subNatNat b (a+1)):R)=_;rw[o9,add_comm];rfl
  | negSucc b =>
   show -(nc (a+b+1)+1) = -(nc a+1) + -(nc b+1);rw[<-yk,p9,p9];congr 1;simp only[nc,zero_add];rw[add_assoc,add_assoc,add_assoc,fE 1]
theorem tr (a:Int) (b:Nat):(ic (a*b):R)=ic a*nc b:=by
 induction b with
 | zero=>simp only[Int.natCast_zero,Int.mul_zero,nc,mul_zero];rfl
 | succ b ih=>rw[Int.natCast_succ,Int.mul_add,Int.mul_one,Bg,ih];simp only[nc];rw[mul_add,mul_one]
theorem Nz (a b:Int):(ic (a*b):R)=ic a*ic b:=by
 cases b with
 | ofNat b=>exact tr a b
 | negSucc b =>
  rw[Int.negSucc_eq,Int.mul_neg,HH,HH,<-Int.natCast_succ,tr,mul_neg];rfl
theorem Bf:(ic 1:R)=1:=by show(nc 1:R)=1;simp only[nc,zero_add]
theorem wJ:(ic 0:R)=0:=rfl
def pw (a:R):Nat->R
 | 0=>1
 | n+1=>pw a n*a
theorem wn (a:R) (m n:Nat):pw a (m+n)=pw a m*pw a n:=by
 induction n with
 | zero=>simp only[pw,Nat.add_zero,mul_one]
 | succ n ih=>rw[Nat.add_succ];simp only[pw];rw[ih,mul_assoc]
theorem AE (a:R):pw a 1=a:=by simp only[pw,one_mul]
theorem Hb (a b:R) (n:Nat):pw (a*b) n=pw a n*pw b n:=by
 induction n with
 | zero=>simp only[pw,mul_one]
 | succ n ih=>simp only[pw];rw[ih,mul_assoc,mul_assoc,cS (pw b n)]
end
inductive E where
 | v (i:Nat)
 | n (z:Int)
 | add (a b:E)
 | sub (a b:E)
 | mul (a b:E)
 | neg (a:E)
 | pw (a:E) (k:Nat)
section
variable {R:Type} [CR R]
def at' (l:List R) (n:Nat):R:=match l,n with
 | [],_=>0
 | a::_,0=>a
 | _::l,n+1=>at' l n
def E.den (l:List R):E->R
 | .v i=>at' l i
 | .n z=>ic z
 | .add a b=>a.den l+b.den l
 | .sub a b=>a.den l-b.den l
 | .mul a b=>a.den l*b.den l
 | .neg a => -a.den l
 | .pw a k=>Alg.pw (a.den l) k
def mden (l:List R):List Nat->R
 | []=>1
 | v::m=>at' l v*mden l m
def pden (l:List R):List (List Nat×Int)->R
 | []=>0
 | (m,c)::p=>ic c*mden l m+pden l p
end
def mlt:List Nat->List Nat->Bool
 | [],[]=>false
 | [],_::_=>true
 | _::_,[]=>false
 | a::l,b::m=>Nat.blt a b || (Nat.beq a b && mlt l m)
def Kk (v:Nat):List Nat->List Nat
 | []=>[v]
 | w::m=>bif Nat.ble v w then v::w::m else w::Kk v m
def mmul:List Nat->List Nat->List Nat
 | [],m=>m
 | v::l,m=>Kk v (mmul l m)
def o7 (m:List Nat) (c:Int):List (List Nat×Int)->List (List Nat×Int)
 | []=>if c=0 then[]else[(m,c)]
 | (m',c')::p=>if m=m' then(if c+c'=0 then p else(m',c+c')::p)
  else bif mlt m m' then(m',c')::o7 m c p else(if c=0 then(m',c')::p else(m,c)::(m',c')::p)
def padd:List (List Nat×Int)->List (List Nat×Int)->List (List Nat×Int)
 | [],q=>q
 | (m,c)::p,q=>o7 m c (padd p q)
def pmul1 (m:List Nat) (c:Int):List (List Nat×Int)->List (List Nat×Int)
 | []=>[]
 | (m',c')::p=>o7 (mmul m m') (c*c') (pmul1 m c p)
def pmul:List (List Nat×Int)->List (List Nat×Int)->List (List Nat×Int)
 | [],_=>[]
 | (m,c)::p,q=>padd (pmul1 m c q) (pmul p q)
def ppw (p:List (List Nat×Int)):Nat->List (List Nat×Int)
 | 0=>[([],1)]
 | n+1=>pmul (ppw p n) p
def E.norm:E->List (List Nat×Int)
 | .v i=>[([i],1)]
 | .n z=>if z=0 then[]else[([],z)]
 | .add a b=>padd a.norm b.norm
 | .sub a b=>padd a.norm (pmul [([],-1)] b.norm)
 | .mul a b=>pmul a.norm b.norm
 | .neg a=>pmul [([],-1)] a.norm
 | .pw a k=>ppw a.norm k
section
variable {R:Type} [CR R] (l:List R)
theorem HD (v:Nat) (m:List Nat):mden l (Kk v m)=at' l v*mden l m:=by
 induction m with
 | nil=>rfl
 | cons w m ih =>
  simp only[Kk];cases Nat.ble v w with
  | true=>rfl
  | false=>simp only[cond_false,mden,ih];rw[cS]
theorem Hc (a b:List Nat):mden l (mmul a b)=mden l a*mden l b:=by
 induction a with
 | nil=>simp only[mmul,mden,one_mul]
 | cons v a ih=>simp only[mmul,HD,mden,ih];rw[mul_assoc]
theorem yI (m:List Nat) (c:Int) (p:List (List Nat×Int)):pden l (o7 m c p)=ic c*mden l m+pden l p:=by
 induction p with
 | nil =>
  simp only[o7];split
  ·rename_i h;subst h;simp only[pden,wJ,zero_mul,add_zero]
  ·rfl
 | cons x p ih =>
  obtain⟨m',c'⟩:=x;simp only[o7];split
  ·rename_i h;subst h;split
   ·rename_i h;simp only[pden];rw[<-add_assoc,<-add_mul,<-Bg,h,wJ,zero_mul,zero_add]
   ·simp only[pden];rw[Bg,add_mul,add_assoc]
  ·cases mlt m m' with
   | true=>simp only[cond_true,pden,ih];rw[fE]
   | false =>
    simp only[cond_false];split
    ·rename_i h;subst h;simp only[pden,wJ,zero_mul,zero_add]
    ·rfl
theorem sH (p q:List (List Nat×Int)):pden l (padd p q)=pden l p+pden l q:=by
 induction p with
 | nil=>simp only[padd,pden,zero_add]
 | cons x p ih=>obtain⟨m,c⟩:=x;simp only[padd,yI,ih,pden];rw[add_assoc]
theorem ED (m:List Nat) (c:Int) (p:List (List Nat×Int)):pden l (pmul1 m c p)=ic c*mden l m*pden l p:=by
 induction p with
 | nil=>simp only[pmul1,pden,mul_zero]
 | cons x p ih =>
  obtain⟨m',c'⟩:=x;simp only[pmul1,yI,ih,pden,Hc];rw[Nz,mul_add];congr 1;rw[mul_assoc,mul_assoc,cS (ic c')]
theorem oO (p q:List (List Nat×Int)):pden l (pmul p q)=pden l p*pden l q:=by
 induction p with
 | nil=>simp only[pmul,pden,zero_mul]
 | cons x p ih=>obtain⟨m,c⟩:=x;simp only[pmul,sH,ED,ih,pden];rw[add_mul]
theorem Hi:pden l [([],-1)] = -1:=by
 simp only[pden,mden,mul_one,add_zero];show -(nc 0+1) = -1;simp only[nc,zero_add]
theorem JO:pden l [([],1)]=1:=by
 simp only[pden,mden,mul_one,add_zero,Bf]
theorem JK (p:List (List Nat×Int)) (n:Nat):pden l (ppw p n)=pw (pden l p) n:=by
 induction n with
 | zero=>exact JO l
 | succ n ih=>simp only[ppw,oO,ih,pw]
theorem E.norm_den (e:E):pden l e.norm=e.den l:=by
 induction e with
 | v n=>simp only[E.norm,pden,mden,E.den,mul_one,add_zero,Bf,one_mul]
 | n z =>
  simp only[E.norm];split
  ·rename_i h;subst h;rfl
  ·simp only[pden,mden,mul_one,add_zero,E.den]
 | add a b iha ihb=>simp only[E.norm,sH,iha,ihb,E.den]
 | sub a b iha ihb=>simp only[E.norm,sH,oO,Hi,iha,ihb,E.den];rw[neg_mul,one_mul,sub_eq]
 | mul a b iha ihb=>simp only[E.norm,oO,iha,ihb,E.den]
 | neg a iha=>simp only[E.norm,oO,Hi,iha,E.den];rw[neg_mul,one_mul]
 | pw a k iha=>simp only[E.norm,JK,iha,E.den]
end
class At {R:Type} [CR R] (l:List R) (a:R) (n:outParam Nat):Prop where
 eq:at' l n=a
class gr {R:Type} [CR R] (l:List R) (t:R) (e:outParam E):Prop where
 eq:e.den l=t
section
variable {R:Type} [CR R] {l:List R} {a b:R} {e f:E}
instance (priority:=200) at_zero:At (a::l) a 0:=⟨rfl⟩
instance (priority:=100) at_succ {n:Nat} [h:At l a n]:At (b::l) a (n+1):=⟨h.eq⟩
instance (priority:=50) rf_at {n:Nat} [h:At l a n]:gr l a (.v n):=⟨h.eq⟩
instance rf_add [h:gr l a e] [h':gr l b f]:gr l (a+b) (.add e f):=⟨by rw[E.den,h.eq,h'.eq]⟩
instance rf_sub [h:gr l a e] [h':gr l b f]:gr l (a-b) (.sub e f):=⟨by rw[E.den,h.eq,h'.eq]⟩
instance rf_mul [h:gr l a e] [h':gr l b f]:gr l (a*b) (.mul e f):=⟨by rw[E.den,h.eq,h'.eq]⟩
instance rf_neg [h:gr l a e]:gr l (-a) (.neg e):=⟨by rw[E.den,h.eq]⟩
instance rf_pw {k:Nat} [h:gr l a e]:gr l (pw a k) (.pw e k):=⟨by rw[E.den,h.eq]⟩
instance rf_zero:gr l (0:R) (.n 0):=⟨rfl⟩
instance rf_one:gr l (1:R) (.n 1):=⟨Bf⟩
instance rf_ic {z:Int}:gr l (ic z:R) (.n z):=⟨rfl⟩
theorem ring (l:List R) {s t:R} {e f:E} [h1:gr l s e] [h2:gr l t f] (h:e.norm=f.norm:=by decide +kernel):s=t:=by
 rw[<-h1.eq,<-h2.eq,<-E.norm_den,<-E.norm_den,h]
theorem lc1 {s t a b:R} (k:R) (h:a=b) (e:s-t=k*(a-b)):s=t:=by
 rw[h,sub_self,mul_zero]at e;exact ff e
theorem lc2 {s t a b c d:R} (k m:R) (h:a=b) (h':c=d) (e:s-t=k*(a-b)+m*(c-d)):s=t:=by
 rw[h,h',sub_self,sub_self,mul_zero,mul_zero,add_zero]at e;exact ff e
end
example {R:Type} [CR R] (a b c:R):(a+b)*(a-b)*c=a*a*c-pw b 2*c:=ring [a,b,c]
example {R:Type} [CR R] (a b c:R) (h:a=b*c):a*c-b*c*c=0:=lc1 c h (ring [a,b,c])
section
variable {R:Type} [CR R]
def tri (f:Nat->Nat->R):Nat->R
 | 0=>f 0 0
 | n+1=>f 0 (n+1)+tri (fun i j=>f (i+1) j) n
theorem dD {f g:Nat->Nat->R} {n:Nat} (h:∀ i j,i+j=n->f i j=g i j):tri f n=tri g n:=by
 induction n generalizing f g with
 | zero=>exact h 0 0 rfl
 | succ n ih=>simp only[tri];rw[h 0 (n+1) (by omega),ih fun i j e=>h (i+1) j (by omega)]
theorem Gc (n:Nat):tri (fun _ _=>(0:R)) n=0:=by
 induction n with
 | zero=>rfl
 | succ n ih=>simp only[tri,ih,add_zero]
theorem gX {f:Nat->Nat->R} {n:Nat} (h:∀ i j,i+j=n->f i j=0):tri f n=0:=by
 rw[dD h,Gc]
theorem vV (f g:Nat->Nat->R) (n:Nat):tri (fun i j=>f i j+g i j) n=tri f n+tri g n:=by
 induction n generalizing f g with
 | zero=>rfl
 | succ n ih=>simp only[tri,ih];exact ring [f 0 (n+1),g 0 (n+1),tri (fun i j=>f (i+1) j) n,tri (fun i j=>g (i+1) j) n]
theorem rj (a:R) (f:Nat->Nat->R) (n:Nat):tri (fun i j=>a*f i j) n=a*tri f n:=by
 induction n generalizing f with
 | zero=>rfl
 | succ n ih=>simp only[tri,ih,mul_add]
theorem xN (f:Nat->Nat->R) (n:Nat):tri f (n+1)=tri (fun i j=>f i (j+1)) n+f (n+1) 0:=by
 induction n generalizing f with
 | zero=>rfl
 | succ n ih =>
  have e:tri f (n+1+1)=f 0 (n+2)+tri (fun i j=>f (i+1) j) (n+1):=rfl;rw[e,ih];simp only[tri,add_assoc]
theorem xM (f:Nat->Nat->R) (n:Nat):tri (fun i j=>f j i) n=tri f n:=by
 induction n generalizing f with
 | zero=>rfl
 | succ n ih=>rw[xN,ih fun i j=>f (i+1) j,add_comm];rfl
theorem Eb (g:Nat->Nat->Nat->R) (n:Nat):tri (fun i j=>tri (fun p q=>g p q j) i) n=tri (fun p m=>tri (fun q j=>g p q j) m) n:=by
 induction n generalizing g with
 | zero=>rfl
 | succ n ih =>
  have e:tri (fun i j=>tri (fun p q=>g p q j) i) (n+1)=g 0 0 (n+1)+tri (fun i j=>g 0 (i+1) j+tri (fun p q=>g (p+1) q j) i) n:=rfl;rw[e,vV,ih fun p q j=>g (p+1) q j,<-add_assoc];rfl
structure P (R:Type) [CR R] where
 c:Nat->R
 fin:∃ n,∀ i,n<=i->c i=0
theorem P.ext {p q:P R} (h:∀ i,p.c i=q.c i):p=q:=by
 cases p;cases q;have:=funext h;simp at this;subst this;rfl
instance:Add (P R):=⟨fun p q=>⟨fun i=>p.c i+q.c i,by
 obtain⟨n,hn⟩:=p.fin;obtain⟨m,hm⟩:=q.fin;exact⟨n+m,fun i hi=>by rw[hn i (by omega),hm i (by omega),add_zero]⟩⟩⟩
instance:Neg (P R):=⟨fun p=>⟨fun i => -p.c i,by
 obtain⟨n,hn⟩:=p.fin;exact⟨n,fun i hi=>by rw[hn i hi,f0]⟩⟩⟩
instance:Sub (P R):=⟨fun p q=>⟨fun i=>p.c i-q.c i,by
 obtain⟨n,hn⟩:=p.fin;obtain⟨m,hm⟩:=q.fin;exact⟨n+m,fun i hi=>by rw[hn i (by omega),hm i (by omega),sub_zero]⟩⟩⟩
instance:Mul (P R):=⟨fun p q=>⟨tri fun i j=>p.c i*q.c j,by
 obtain⟨n,hn⟩:=p.fin;obtain⟨m,hm⟩:=q.fin;refine⟨n+m,fun k hk=>gX fun i j e=>?_⟩;rcases Nat.lt_or_ge i n with h|h
 ·rw[hm j (by omega),mul_zero]
 ·rw[hn i h,zero_mul]⟩⟩
def C (a:R):P R:=⟨fun i=>match i with|0=>a|_+1=>0,⟨1,fun i hi=>by cases i with|zero=>omega|succ i=>rfl⟩⟩
instance:Zero (P R):=⟨⟨fun _=>0,⟨0,fun _ _=>rfl⟩⟩⟩
instance:One (P R):=⟨C 1⟩
theorem bK (p q:P R) (i:Nat):(p+q).c i=p.c i+q.c i:=rfl
theorem vu (p:P R) (i:Nat):(-p).c i = -p.c i:=rfl
theorem iu (p q:P R) (i:Nat):(p-q).c i=p.c i-q.c i:=rfl
theorem gA (p q:P R) (i:Nat):(p*q).c i=tri (fun i j=>p.c i*q.c j) i:=rfl
theorem BK (i:Nat):(0:P R).c i=0:=rfl
theorem mJ (a:R):(C a).c 0=a:=rfl
theorem gh (a:R) (i:Nat):(C a).c (i+1)=0:=rfl
theorem GQ:(1:P R)=C 1:=rfl
theorem bA (a:R) (p:P R) (n:Nat):(C a*p).c n=a*p.c n:=by
 rw[gA];cases n with
 | zero=>rfl
 | succ n =>
  show a*p.c (n+1)+tri (fun i j=>(0:R)*p.c j) n=_;rw[gX fun i j _=>zero_mul _,add_zero]
instance:CR (P R) where
 add_assoc p q r:=P.ext fun i=>add_assoc _ _ _
 add_comm p q:=P.ext fun i=>add_comm _ _
 add_zero p:=P.ext fun i=>add_zero _
 neg_add p:=P.ext fun i=>neg_add _
 sub_eq p q:=P.ext fun i=>sub_eq _ _
 mul_comm p q:=P.ext fun i=>by
  rw[gA,gA,<-xM];exact dD fun i j _=>mul_comm _ _
 mul_assoc p q r:=P.ext fun i=>by
  rw[gA,gA];simp only[gA];rw[dD (g:=fun i j=>tri (fun a b=>p.c a*q.c b*r.c j) i) fun i j _=>by rw[mul_comm,<-rj];exact dD fun a b _=>mul_comm _ _];rw[dD (f:=fun i j=>p.c i*_) (g:=fun i m=>tri (fun a b=>p.c i*q.c a*r.c b) m) fun i j _=>by rw[<-rj];exact dD fun a b _=>(mul_assoc _ _ _).symm];exact Eb (fun a b j=>p.c a*q.c b*r.c j) i
 mul_one p:=P.ext fun i=>by
  rw[gA,<-xM];have:=bA 1 p i;rw[gA,one_mul]at this;rw[<-this];exact dD fun i j _=>mul_comm _ _
 mul_add p q r:=P.ext fun i=>by
  simp only[gA,bK,mul_add];rw[vV]
theorem Dy (a b:R):C (a+b)=C a+C b:=P.ext fun i=>by cases i with|zero=>rfl|succ i=>exact(add_zero _).symm
theorem bf (a b:R):C (a*b)=C a*C b:=P.ext fun i=>by
 rw[bA];cases i with
 | zero=>rfl
 | succ i=>exact(mul_zero _).symm
theorem kC (a:R):C (-a) = -C a:=P.ext fun i=>by cases i with|zero=>rfl|succ i=>exact f0.symm
theorem Mu (a b:R):C (a-b)=C a-C b:=P.ext fun i=>by cases i with|zero=>rfl|succ i=>exact(sub_zero _).symm
theorem cu:C (0:R)=0:=P.ext fun i=>by cases i<;>rfl
theorem bU:C (1:R)=1:=rfl
theorem Mv {a b:R} (h:C a=C b):a=b:=congrArg (fun p=>p.c 0) h
theorem Oj (n:Nat):C (nc n:R)=nc n:=by
 induction n with
 | zero=>exact cu
 | succ n ih=>simp only[nc];rw[Dy,ih,bU]
theorem PN (n:Int):C (ic n:R)=ic n:=by
 cases n with
 | ofNat n=>exact Oj n
 | negSucc n=>show C (-(nc n+1)) = -(nc n+1);rw[kC,Dy,Oj,bU]
theorem nf (a:R) (p:P R) (n:Nat):(p*C a).c n=p.c n*a:=by rw[mul_comm,bA,mul_comm]
def mon (n:Nat) (a:R):P R:=⟨fun i=>if i=n then a else 0,⟨n+1,fun i hi=>if_neg (by omega)⟩⟩
def X:P R:=mon 1 1
theorem bJ (n:Nat) (a:R) (i:Nat):(mon n a).c i=if i=n then a else 0:=rfl
theorem cH (a:R):mon 0 a=C a:=P.ext fun i=>by cases i<;>simp[bJ,C]
theorem A0 {n i:Nat} (a:R) (p:P R) (h:i<n):(mon n a*p).c i=0:=by
 rw[gA];refine gX fun i j e=>?_;rw[bJ,if_neg (by omega),zero_mul]
theorem ym (n i:Nat) (a:R) (p:P R):(mon n a*p).c (n+i)=a*p.c i:=by
 rw[gA]
 induction n with
 | zero =>
  rw[Nat.zero_add];have:=bA a p i;rw[<-cH,gA]at this;exact this
 | succ n ih =>
  rw[show n+1+i=(n+i)+1 from by omega];show(mon (n+1) a).c 0*_+tri _ (n+i)=_;rw[bJ,if_neg (by omega),zero_mul,zero_add,<-ih];exact dD fun i j _=>by simp[bJ]
theorem bY (n i:Nat) (a:R) (p:P R):(mon n a*p).c i=if n<=i then a*p.c (i-n)else 0:=by
 split
 ·rename_i h;obtain⟨k,rfl⟩:=Nat.exists_eq_add_of_le h;rw[ym,Nat.add_sub_cancel_left]
 ·exact A0 a p (by omega)
theorem du (n m:Nat) (a b:R):mon n a*mon m b=mon (n+m) (a*b):=P.ext fun i=>by
 rw[bY];split
 ·rename_i h;rw[bJ,bJ];by_cases h':i=n+m
  ·rw[if_pos (by omega),if_pos h']
  ·rw[if_neg (by omega),if_neg h',mul_zero]
 ·rw[bJ,if_neg (by omega)]
theorem wA (n:Nat) (a b:R):mon n (a+b)=mon n a+mon n b:=P.ext fun i=>by
 rw[bK,bJ,bJ,bJ];split<;>simp only[add_zero]
theorem i5 (n:Nat):mon n (0:R)=0:=P.ext fun i=>by rw[bJ,BK];split<;>rfl
theorem tG (p:Nat->Prop) (h:∃ n,p n):∃ n,p n/\∀ m,p m->n<=m:=by
 obtain⟨n,hn⟩:=h
 induction n using Nat.strongRecOn with
 | _ n ih =>
  rcases Classical.em (∃ m,m<n/\p m)with⟨m,hm,hp⟩|h
  ·exact ih m hm hp
  ·exact⟨n,hn,fun m hm=>Nat.le_of_not_lt fun hl=>h ⟨m,hl,hm⟩⟩
noncomputable def sz (p:P R):Nat:=Classical.choose (tG _ p.fin)
theorem au {p:P R} {i:Nat} (h:sz p<=i):p.c i=0:=(Classical.choose_spec (tG _ p.fin)).1 i h
theorem cm {p:P R} {n:Nat} (h:∀ i,n<=i->p.c i=0):sz p<=n:=(Classical.choose_spec (tG _ p.fin)).2 n h
theorem jJ {p:P R} (h:sz p≠0):p.c (sz p-1)≠0:=by
 intro h0;have:=cm (p:=p) (n:=sz p-1) fun i hi=>by
  rcases Nat.lt_or_ge i (sz p)with h1|h1
  ·rw[show i=sz p-1 from by omega];exact h0
  ·exact au h1
 omega
theorem jK {p:P R} {n:Nat} (h1:∀ i,n<=i->p.c i=0) (h2:n≠0->p.c (n-1)≠0):sz p=n:=by
 have:=cm h1;rcases Nat.lt_or_ge (sz p) n with h|h
 ·exact absurd (au (by omega)) (h2 (by omega))
 ·omega
theorem O8 {p:P R} {i:Nat} (h:p.c i≠0):i<sz p:=by
 rcases Nat.lt_or_ge i (sz p)with h1|h1
 ·exact h1
 ·exact absurd (au h1) h
theorem ap {p:P R}:sz p=0↔p=0:=by
 constructor
 ·intro h;exact P.ext fun i=>au (by omega)
 ·rintro rfl;exact jK (fun _ _=>rfl) (fun h=>absurd rfl h)
noncomputable def lc (p:P R):R:=p.c (sz p-1)
theorem bu {p:P R} (h:p≠0):lc p≠0:=jJ fun h'=>h (ap.1 h')
theorem az {p:P R} (h:p≠0):0<sz p:=Nat.pos_of_ne_zero fun h'=>h (ap.1 h')
theorem iH {a:R} (h:a≠0):sz (C a)=1:=jK (fun i hi=>by cases i with|zero=>omega|succ i=>rfl) (fun _=>h)
theorem eX {p:P R} (h:sz p<=1):p=C (p.c 0):=P.ext fun i=>by
 cases i with
 | zero=>rfl
 | succ i=>rw[gh];exact au (by omega)
theorem lZ (n:Nat) {a:R} (h:a≠0):sz (mon n a)=n+1:=jK (fun i hi=>by rw[bJ,if_neg (by omega)]) (fun _=>by rw[bJ,if_pos (by omega)];exact h)
theorem fv {a:R} (h:a≠0):C a≠0:=fun e=>h (Mv (e.trans cu.symm))
theorem n9 (a:R):lc (C a)=a:=by
 rcases Classical.em (a=0)with rfl|h
 ·rw[cu];rfl
 ·unfold lc;rw[iH h];rfl
theorem kJ (p:P R):sz (-p)=sz p:=by
 refine jK (fun i hi=>by rw[vu,au hi,f0]) (fun h h'=>jJ h ?_);rw[vu]at h';rw[<-neg_neg (p.c _),h',f0]
theorem cT {p q:P R} {n:Nat} (h:sz p<=n) (h':sz q<=n):sz (p+q)<=n:=cm fun i hi=>by
 rw[bK,au (by omega),au (by omega),add_zero]
theorem fP {p q:P R} {n:Nat} (h:sz p<=n) (h':sz q<=n):sz (p-q)<=n:=cm fun i hi=>by
 rw[iu,au (by omega),au (by omega),sub_zero]
theorem sK (p q:P R):(p*q).c ((sz p-1)+(sz q-1))=lc p*lc q:=by
 rw[gA];have key:∀(n m:Nat) (f:Nat->Nat->R),(∀ i j,i+j=n+m->i≠n->f i j=0)->tri f (n+m)=f n m:=by
  intro n
  induction n with
  | zero =>
   intro m f h;rw[Nat.zero_add];cases m with
   | zero=>rfl
   | succ m =>
    show f 0 (m+1)+tri _ m=_;rw[gX fun i j e=>h (i+1) j (by omega) (by omega),add_zero]
  | succ n ih =>
   intro m f h;rw[show n+1+m=(n+m)+1 from by omega];show f 0 (n+m+1)+tri _ (n+m)=_;rw[h 0 _ (by omega) (by omega),zero_add,ih m (fun i j=>f (i+1) j) fun i j e hi=>h (i+1) j (by omega) (by omega)]
 rw[key (sz p-1) (sz q-1)]
 ·rfl
 ·intro i j e hi;rcases Nat.lt_or_ge i (sz p-1)with h|h
  ·rw[au (p:=q) (by omega),mul_zero]
  ·rw[au (p:=p) (by omega),zero_mul]
theorem oV {p q:P R} {i:Nat} (h:sz p+sz q-1<=i):(p*q).c i=0:=by
 rw[gA];refine gX fun a b e=>?_;rcases Nat.lt_or_ge a (sz p)with h1|h1
 ·rw[au (p:=q) (by omega),mul_zero]
 ·rw[au h1,zero_mul]
theorem aM (p q:P R):sz (p*q)<=sz p+sz q-1:=cm fun _=>oV
end
class Dom (R:Type) [CR R]:Prop where
 one_ne:(1:R)≠0
 zero_of_mul:∀ a b:R,a*b=0->a=0\/b=0
section
variable {R:Type} [CR R] [Dom R]
theorem one_ne:(1:R)≠0:=Dom.one_ne
theorem zero_of_mul {a b:R} (h:a*b=0):a=0\/b=0:=Dom.zero_of_mul a b h
theorem aE {a b:R} (ha:a≠0) (hb:b≠0):a*b≠0:=fun h=>(zero_of_mul h).elim ha hb
theorem bZ {a b c:R} (ha:a≠0) (h:a*b=a*c):b=c:=by
 have:a*(b-c)=0:=by
  have:a*(b-c)=a*b-a*c:=ring [a,b,c];rw[this,h,sub_self]
 exact ff ((zero_of_mul this).resolve_left ha)
theorem qc {a b c:R} (ha:a≠0) (h:b*a=c*a):b=c:=by
 rw[mul_comm b,mul_comm c]at h;exact bZ ha h
theorem Cx {a:R} (ha:a≠0) (n:Nat):pw a n≠0:=by
 induction n with
 | zero=>exact one_ne
 | succ n ih=>exact aE ih ha
theorem cO {p q:P R} (hp:p≠0) (hq:q≠0):sz (p*q)=sz p+sz q-1:=by
 have h1:=az hp;have h2:=az hq;refine jK (fun _=>oV) fun _=>?_;rw[show sz p+sz q-1-1=(sz p-1)+(sz q-1)from by omega,sK];exact aE (bu hp) (bu hq)
theorem f6 (p q:P R):lc (p*q)=lc p*lc q:=by
 rcases Classical.em (p=0)with rfl|hp
 ·rw[zero_mul];show lc (0:P R)=(0:P R).c _*_;rw[BK,zero_mul];rfl
 rcases Classical.em (q=0)with rfl|hq
 ·rw[mul_zero];show lc (0:P R)=_*(0:P R).c _;rw[BK,mul_zero];rfl
 have h1:=az hp;have h2:=az hq;rw[<-sK];unfold lc;rw[cO hp hq,show sz p+sz q-1-1=(sz p-1)+(sz q-1)from by omega]
instance:Dom (P R) where
 one_ne h:=one_ne (R:=R) (congrArg (fun p=>p.c 0) h)
 zero_of_mul p q h:=by
  rcases Classical.em (p=0)with hp|hp
  ·exact .inl hp
  rcases Classical.em (q=0)with hq|hq
  ·exact .inr hq
  have:=aE (bu hp) (bu hq);rw[<-f6,h]at this;exact absurd rfl this
theorem bF {a:R} (h:a≠0) (p:P R):sz (C a*p)=sz p:=by
 rcases Classical.em (p=0)with rfl|hp
 ·rw[mul_zero]
 ·rw[cO (fun e=>h (Mv (e.trans cu.symm))) hp,iH h];omega
end
end Alg
