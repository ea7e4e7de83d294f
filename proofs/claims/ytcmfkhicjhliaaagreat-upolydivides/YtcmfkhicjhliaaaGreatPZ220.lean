/- Lemmas, part 21 of 24: Reference R8: residues, powers, remainders modulo a prime; Reference R8: images modulo a prime, bounds; Reference R8: greatest common divisors in one variable; Reference R9: quotients in one variable; Reference R9: the field of rational functions in one variable. No condition. -/
import Derived.Test.YtcmfkhicjhliaaaGreatPZ219
set_option maxRecDepth 65536
set_option linter.unusedSimpArgs false
set_option linter.unusedVariables false
set_option linter.unusedSectionVars false
namespace Go.AM
open Alg
open Go.Proofs
theorem Em (v d:Int) (hd:0<=d/\d<4294967296):((v % 2147483647*4294967296 % 18446744073709551616+d % 18446744073709551616) % 18446744073709551616).tmod 2147483647=(d+4294967296*v) % 2147483647:=by
 have e1:v % 2147483647*4294967296 % 18446744073709551616=v % 2147483647*4294967296:=by omega
 have e2:d % 18446744073709551616=d:=by omega
 have e3:(v % 2147483647*4294967296+d) % 18446744073709551616=v % 2147483647*4294967296+d:=by omega
 rw[e1,e2,e3,Int.tmod_eq_emod_of_nonneg (by omega)];omega
theorem Dk (z:Int) (hz:(lb z).length<=17179869184):Fn Tryz.prog 202 [iZ z] [iz (Alg.mp z)]:=by
 have hm:=n7 z;refine ak (fn:=Tryz.f202) (by rfl) rfl rfl rfl (by rfl) ?_;simp -dsimp -implicitDefEqProofs only[go_sem]
 repeat(refine And.intro (by omega) ?_)
 refine aJ [(3,4),(9,22)] [] [] (fun n τ β ε=>∃ j:Nat,n=j/\j<=(lb z).length/\τ 4 = .i (iN ((j:Int)-1))/\τ 3 = .i (.c (.v (.int .u64 (val ((lb z).drop j) % 2147483647)))))
  (fun e τ β ε=>e = .exit 0/\τ 3 = .i (.c (.v (.int .u64 ((z.natAbs:Int) % 2147483647))))) (lb z).length ?_ ?_ ?_
 ·exact⟨(lb z).length,rfl,ae _,by simp -dsimp -implicitDefEqProofs only[go_sem,af],by simp -dsimp -implicitDefEqProofs only[go_sem];rw[List.drop_length];rfl⟩
 ·rintro n τ β ε π hK hKB hKE ⟨j,hn,hj,h4,h3⟩;have k1:τ 1 = .bp 1 1 0:=(hK 1 rfl).trans rfl;have b1:β 1=⟨1,eZ z⟩:=(hKB 1 rfl).trans rfl;by_cases hj0:j=0
  ·subst hj0;have dA:decide ((0:Int)<=((0:Nat):Int)-1)=false:=rfl;simp -dsimp -implicitDefEqProofs only[go_sem,h4,dA];rw[List.drop_zero,a6]at h3;exact⟨(by(repeat apply am rfl);exact hK),hKB,hKE,h3⟩
  ·obtain⟨i,rfl⟩:∃ i,j=i+1:=⟨j-1,by omega⟩;have ei:((i+1:Nat):Int)-1=(i:Int):=by omega
   rw[ei]at h4;have dA:decide ((0:Int)<=(i:Int))=true:=ai (by omega);have gi:(lb z)[i]?=some (lb z)[i]:=ah (by omega);unfold eZ kw at b1;simp -dsimp -implicitDefEqProofs only[go_sem,h4,h3,k1,b1,dA,Int.reduceToNat,Int.reduceLE,ag];refine av gi ?_;simp -dsimp -implicitDefEqProofs only[go_sem,bc,h4,h3]
   repeat(refine And.intro (by omega) ?_)
   refine again i (by omega) ⟨(by(repeat apply am rfl);exact hK),hKB,hKE,i,rfl,by omega,rfl,?_⟩
   simp -dsimp -implicitDefEqProofs only[go_sem];rw[Em _ _ ((bC z).get (by omega)),<-bI (l:=lb z) (i:=i) (by omega)]
 ·rintro e τ β ε π hK hKB hKE ⟨rfl,h3⟩;have k1:τ 1 = .bp 1 1 0:=(hK 1 rfl).trans rfl;have b1:β 1=⟨1,eZ z⟩:=(hKB 1 rfl).trans rfl;unfold eZ kw at b1;by_cases hz0:z<0
  ·have e1:decide (z<0)=true:=ai hz0;rw[e1]at b1;by_cases hr:(z.natAbs:Int) % 2147483647=0
   ·have e0:decide ((0:Int)<0)=false:=rfl;rw[hr]at h3;simp -dsimp -implicitDefEqProofs only[go_sem,h3,k1,b1,e0,Int.reduceToNat,Int.reduceLE,ag];rw[iz,hm,show z % 2147483647=0 by omega]
   ·have e2:decide (0<(z.natAbs:Int) % 2147483647)=true:=ai (by omega);simp -dsimp -implicitDefEqProofs only[go_sem,h3,k1,b1,e2,Int.reduceToNat,Int.reduceLE,ag];rw[iz,hm,show(2147483647-(z.natAbs:Int) % 2147483647) % 18446744073709551616=z % 2147483647 by omega]
  ·have e1:decide (z<0)=false:=aj hz0;rw[e1]at b1;simp -dsimp -implicitDefEqProofs only[go_sem,h3,k1,b1,Int.reduceToNat,Int.reduceLE,ag];rw[iz,hm,show(z.natAbs:Int) % 2147483647=z % 2147483647 by omega]
theorem nx (a:Zp) (n:Nat) (hn:n<9223372036854775808):Fn Tryz.prog 203 [iz a,iN n] [iz (Alg.pw a n)]:=by
 refine ak (fn:=Tryz.f203) (by rfl) rfl rfl rfl (by rfl) ?_;simp -dsimp -implicitDefEqProofs only[go_sem];refine aJ [(0,1),(5,20)] [] [] (fun m τ β ε=>∃(b o:Zp) (k:Nat),m=k/\k<=n/\Alg.pw a n=o*Alg.pw b k/\τ 0 = .i (iz b)/\τ 1 = .i (iN k)/\τ 5 = .i (iz o))
  (fun e τ β ε=>e = .exit 0/\τ 5 = .i (iz (Alg.pw a n))) n ?_ ?_ ?_
 ·exact⟨a,1,n,rfl,ae _,(one_mul _).symm,rfl,rfl,rfl⟩
 ·rintro m τ β ε π hK hKB hKE ⟨b,o,k,hm,hk,he,h0,h1,h5⟩;by_cases hk0:k=0
  ·have hA:decide ((0:Int)<(k:Int))=false:=aj (by omega);simp -dsimp -implicitDefEqProofs only[go_sem,h1,hA];refine⟨(by(repeat apply am rfl);exact hK),hKB,hKE,?_⟩
   rw[h5,he,hk0];show AV.i (iz o)=AV.i (iz (o*1));rw[mul_one]
  ·have hA:decide ((0:Int)<(k:Int))=true:=ai (by omega);have em:(k:Int).tmod 2=((k % 2:Nat):Int):=by rw[Int.tmod_eq_emod_of_nonneg (by omega)];omega
   have ed:(k:Int).tdiv 2=((k/2:Nat):Int):=by rw[Int.tdiv_eq_ediv_of_nonneg (by omega)];omega
   have e1:decide (((k % 2:Nat):Int)=1)=decide (k % 2=1):=by rw[decide_eq_decide];omega
   by_cases h2:k % 2=1
   ·rw[ai h2]at e1;simp -dsimp -implicitDefEqProofs only[go_sem,h1,hA,em,ed,e1,h5,h0,zmul]
    repeat(refine And.intro (by omega) ?_)
    refine again (k/2) (by omega) ⟨(by(repeat apply am rfl);exact hK),hKB,hKE,b*b,o*b,k/2,rfl,by omega,?_,rfl,rfl,rfl⟩
    rw[he,Cw b k,if_pos h2,mul_assoc]
   ·rw[aj h2]at e1;simp -dsimp -implicitDefEqProofs only[go_sem,h1,hA,em,ed,e1,h5,h0,zmul]
    repeat(refine And.intro (by omega) ?_)
    refine again (k/2) (by omega) ⟨(by(repeat apply am rfl);exact hK),hKB,hKE,b*b,o,k/2,rfl,by omega,?_,rfl,rfl,h5⟩
    rw[he,Cw b k,if_neg h2,one_mul]
 ·rintro e τ β ε π hK hKB hKE ⟨rfl,h5⟩;simp -dsimp -implicitDefEqProofs only[go_sem,h5]
theorem sj {a:Zp} (h:a≠0):∃ v:Zp,v*a=1/\Fn Tryz.prog 203 [iz a,iN 2147483645] [iz v]:=by
 exact⟨_,zX h,nx a 2147483645 (by omega)⟩
noncomputable def zli (r:PZ):List Zp:=(List.range (Alg.sz r)).map r.c
theorem kF (r:PZ):(zli r).length=Alg.sz r:=by simp[zli]
theorem Mx {l:List Zp} (h:TrZ l):zli (zp l)=l:=by
 refine List.ext_getElem (by rw[kF,j3 h]) fun i h1 h2=>?_;rw[<-lB h2];simp[zli]
theorem NA {rows:List (List C)} {R:List Zp} (hrow:oh rows R):rows.take R.length=R.map zr:=by
 refine List.ext_getElem? fun j=>?_;rw[List.getElem?_take,List.getElem?_map];split
 ·rename_i hj;rw[hrow j hj,ah hj];rfl
 ·rename_i hj;rw[List.getElem?_eq_none (by omega)];rfl
set_option maxHeartbeats 1600000 in
theorem IB {a b:List Zp} (ha0:0<a.length) (hb0:0<b.length) (ta:TrZ a) (tb:TrZ b) (la:a.length<=1048576) (lb':b.length<=1048576):Fn Tryz.prog 170 [zl a,zl b] [zl (zli (rm (zp a) (zp b)))]:=by
 have eb:(b.length:Int)-1=((b.length-1:Nat):Int):=by omega
 have gb:b[b.length-1]?=some b[b.length-1]:=ah (by omega);have hne:(a.map zr).isEmpty=false:=by cases a with|nil=>simp at ha0|cons _ _=>rfl
 obtain⟨v,hv,hpw⟩:=sj (tb hb0);refine ak (fn:=Tryz.f170) (by rfl) rfl rfl rfl (by rfl) ?_;simp -dsimp -implicitDefEqProofs only[go_sem,eb,af,hne];refine⟨Cc a,by omega,by omega,?_⟩;refine av gb ?_;simp -dsimp -implicitDefEqProofs only[go_sem,zr];refine aa hpw rfl ?_;simp -dsimp -implicitDefEqProofs only[go_sem];have hb':zp b≠0:=fun e=>by
  have:=j3 tb;rw[e,ap.2 rfl]at this;omega
 refine aS [(5,5),(7,9),(20,81)] [] [(12,12)] (fun n τ' β' ε'=>∃(R:List Zp) (rows:List (List C)) (s:PZ),n=R.length/\TrZ R/\R.length<=a.length/\zp a=s*zp b+zp R/\oh rows R/\τ' 5 = .sl 12 1 R.length/\ε' 12=⟨1,1,rows,true,true⟩)
  (fun e τ' β' ε'=>e = .exit 0/\∃(R:List Zp) (rows:List (List C)) (s:PZ),R.length<b.length/\TrZ R/\zp a=s*zp b+zp R/\oh rows R/\τ' 5 = .sl 12 1 R.length/\ε' 12=⟨1,1,rows,true,true⟩) a.length ?_ ?_ ?_
 ·exact⟨a,a.map zr,0,rfl,ta,ae _,by rw[zero_mul,zero_add],oh.of a,by simp -dsimp -implicitDefEqProofs only[go_sem],by simp -dsimp -implicitDefEqProofs only[go_sem,hne]⟩
 ·rintro n2 τ2 β2 ε2 π2 hK2 hKB2 hKE2 ⟨R,rows,s,hn2,tR,hRl,hRe,hrow,h5,h22⟩;have q1:τ2 1 = .i (zl b):=(hK2 1 rfl).trans rfl;have q6:τ2 6 = .i (iz v):=(hK2 6 rfl).trans rfl;by_cases hlt:b.length<=R.length
  ·have hA2:decide ((b.length:Int)<=(R.length:Int))=true:=ai (by omega);have eR:(R.length:Int)-1=((R.length-1:Nat):Int):=by omega
   have eat:(R.length:Int)-(b.length:Int)=((R.length-b.length:Nat):Int):=by omega
   have hR0:0<R.length:=by omega
   simp -dsimp -implicitDefEqProofs only[go_sem,h5,q1,q6,hA2,eR,eat,af,h22]
   repeat(refine And.intro (by omega) ?_)
   refine⟨_,hrow (R.length-1) (by omega),?_⟩;simp -dsimp -implicitDefEqProofs only[go_sem,zr,zmul,h5,q1,q6,eat,af,h22]
   repeat(refine And.intro (by omega) ?_)
   refine aS [(9,9),(39,64)] [] [(12,12)] (fun n τ' β' ε'=>∃(i:Nat) (rows':List (List C)),n=b.length-i/\i<=b.length/\τ' 9 = .i (iN i)/\oh rows' (kQ R b (R[R.length-1]*v) (R.length-b.length) i)/\ε' 12=⟨1,1,rows',true,true⟩)
    (fun e τ' β' ε'=>e = .exit 2/\∃(rows':List (List C)),oh rows' (kQ R b (R[R.length-1]*v) (R.length-b.length) b.length)/\ε' 12=⟨1,1,rows',true,true⟩) b.length ?_ ?_ ?_
   ·exact⟨0,rows,by omega,by omega,rfl,by rw[va];exact hrow,h22⟩
   ·rintro n3 τ3 β3 ε3 π3 hK3 hKB3 hKE3 ⟨i,rows',hn3,hi,h51,hrow',h22'⟩;have r1:τ3 1 = .i (zl b):=(hK3 1 rfl).trans q1;have r5:τ3 5 = .sl 12 1 R.length:=(hK3 5 rfl).trans h5;have r7:τ3 7 = .i (iz (R[R.length-1]*v)):=by rw[hK3 7 (by decide)];simp -dsimp -implicitDefEqProofs only[go_sem,zmul]
    have r8:τ3 8 = .i (iN ((R.length-b.length:Nat):Int)):=by rw[hK3 8 (by decide)];simp -dsimp -implicitDefEqProofs only[go_sem,eat]
    by_cases hlt3:i<b.length
    ·have hA3:decide ((i:Int)<(b.length:Int))=true:=ai (by omega);have gbi:b[i]?=some b[i]:=by simp[hlt3]
     have ead:((R.length-b.length:Nat):Int)+(i:Int)=((R.length-b.length+i:Nat):Int):=by omega
     have hji:R.length-b.length+i<R.length:=by omega
     have hr:rows'[R.length-b.length+i]?=some (zr R[R.length-b.length+i]):=by
      have:=hrow' (R.length-b.length+i) (by rw[fC];exact hji);rw[fZ,if_neg (by omega)]at this;rw[this];simp[List.getD,hji]
     simp -dsimp -implicitDefEqProofs only[go_sem,h51,r1,hA3,af];refine ao (by rfl) 20 [] false true (by rfl) (by rfl) (by decide +kernel) ?_;simp -dsimp -implicitDefEqProofs only[go_sem,h51,r1,r5,r7,r8,ead,h22']
     repeat(refine And.intro (by omega) ?_)
     refine⟨_,hr,?_⟩;simp -dsimp -implicitDefEqProofs only[go_sem,zr,h51,r1,r5,r7,r8,ead,h22'];refine av gbi ?_;simp -dsimp -implicitDefEqProofs only[go_sem,zr,zsub,h51,r1,r5,r7,r8,ead,h22']
     repeat(refine And.intro (by omega) ?_)
     refine⟨_,hr,?_⟩;simp -dsimp -implicitDefEqProofs only[go_sem,zr,h51]
     repeat(refine And.intro (by omega) ?_)
     refine again (b.length-(i+1)) (by omega) ⟨(by(repeat apply am rfl);exact hK3),hKB3,(by(repeat apply am rfl);exact hKE3),i+1,rows'.set (R.length-b.length+i) (zr (R[R.length-b.length+i] + -b[i]*(R[R.length-1]*v))),rfl,by omega,rfl,yi hlt3 (by omega) hrow',?_⟩
     simp -dsimp -implicitDefEqProofs only[go_sem,h22'];rfl
    ·have hA3:decide ((i:Int)<(b.length:Int))=false:=aj (by omega);obtain rfl:i=b.length:=by omega
     simp -dsimp -implicitDefEqProofs only[go_sem,h51,r1,hA3,af];exact⟨(by(repeat apply am rfl);exact hK3),hKB3,hKE3,rows',hrow',h22'⟩
   ·rintro e τ3 β3 ε3 π3 hK3 hKB3 hKE3 ⟨rfl,rows',hrow',h22'⟩;refine⟨_,aY.refl _,?_⟩;have r5:τ3 5 = .sl 12 1 R.length:=(hK3 5 rfl).trans h5;have kO:=Kp.step2 hK2 hK3 (by intro n;simp[inR]<;>omega) (by(repeat apply am rfl);exact hK2)
    have kB:=Kp.step2 hKB2 hKB3 (by intro n;simp[inR]) hKB2;have kE:=Kp.step2 hKE2 hKE3 (by intro n;simp[inR]) hKE2;have hz:=FG (R:=R) (b:=b) (R[R.length-1]*v) (at':=R.length-b.length) (by omega);have hlast:∀(h:R.length-1<(kQ R b (R[R.length-1]*v) (R.length-b.length) b.length).length),(kQ R b (R[R.length-1]*v) (R.length-b.length) b.length)[R.length-1]=0:=fun h=>by
     rw[fZ,if_pos (by omega),show R.length-1-(R.length-b.length)=b.length-1 by omega];rw[show R.getD (R.length-1) 0=R[R.length-1]from lB (by omega),show b.getD (b.length-1) 0=b[b.length-1]from lB (by omega)];have e9 : -b[b.length-1]*(R[R.length-1]*v) = -(R[R.length-1]*(v*b[b.length-1])):=by rw[neg_mul,cS,mul_comm b[b.length-1] v]
     rw[e9,hv,mul_one,iP]
    generalize hR':kQ R b (R[R.length-1]*v) (R.length-b.length) b.length=R' at *
    have lR':R'.length=R.length:=by rw[<-hR',fC]
    simp -dsimp -implicitDefEqProofs only[go_sem];refine aS [(5,5),(65,81)] [] [] (fun n τ' β' ε'=>∃ t:Nat,n=t/\t<=R'.length/\(∀ j (hj:j<R'.length),t<=j->R'[j]=0)/\τ' 5 = .sl 12 1 t)
     (fun e τ' β' ε'=>e = .exit 4/\∃ t:Nat,t<=R'.length/\(∀ j (hj:j<R'.length),t<=j->R'[j]=0)/\(∀ h:t-1<R'.length,0<t->R'[t-1]≠0)/\τ' 5 = .sl 12 1 t) R'.length ?_ ?_ ?_
    ·exact⟨R'.length,rfl,ae _,fun j hj h=>by omega,by rw[lR'];exact r5⟩
    ·rintro n4 τ4 β4 ε4 π4 hK4 hKB4 hKE4 ⟨t,hn4,ht,hzero,h5'⟩;have s22:ε4 12=⟨1,1,rows',true,true⟩:=by rw[hKE4 12 (by decide)];exact h22'
     by_cases ht0:t=0
     ·have hA4:decide ((0:Int)<(t:Int))=false:=aj (by omega);simp -dsimp -implicitDefEqProofs only[go_sem,h5',s22,hA4];exact⟨(by(repeat apply am rfl);exact hK4),hKB4,hKE4,t,ht,hzero,fun _ h=>by omega,rfl⟩
     ·have hA4:decide ((0:Int)<(t:Int))=true:=ai (by omega);have et:(t:Int)-1=((t-1:Nat):Int):=by omega
      have hr4:=hrow' (t-1) (by omega);simp -dsimp -implicitDefEqProofs only[go_sem,h5',s22,hA4,et]
      repeat(refine And.intro (by omega) ?_)
      refine⟨_,hr4,?_⟩;simp -dsimp -implicitDefEqProofs only[go_sem,zr];by_cases hz4:R'[t-1]=0
      ·have e4:decide (((R'[t-1].val:Nat):Int)=0)=true:=ai (by rw[hz4];rfl);simp -dsimp -implicitDefEqProofs only[go_sem,e4,h5',s22,et]
       repeat(refine And.intro (by omega) ?_)
       refine again (t-1) (by omega) ⟨(by(repeat apply am rfl);exact hK4),hKB4,hKE4,t-1,rfl,by omega,fun j hj h=>?_,rfl⟩
       by_cases e:j=t-1
       ·subst e;exact hz4
       ·exact hzero j hj (by omega)
      ·have hv0:R'[t-1].val≠0:=fun h=>hz4 (kD h);have e4:decide (((R'[t-1].val:Nat):Int)=0)=false:=aj (by omega);simp -dsimp -implicitDefEqProofs only[go_sem,e4];exact⟨(by(repeat apply am rfl);exact hK4),hKB4,hKE4,t,ht,hzero,fun _ _=>hz4,h5'⟩
    ·rintro e τ4 β4 ε4 π4 hK4 hKB4 hKE4 ⟨rfl,t,ht,hzero,hnz,h5'⟩;refine⟨_,aY.refl _,?_⟩;have kO2:=Kp.step2 kO hK4 (by intro n;simp[inR]<;>omega) (by(repeat apply am rfl);exact kO)
     have kB2:=Kp.step2 kB hKB4 (by intro n;simp[inR]) kB;have kE2:=Kp.step2 kE hKE4 (by intro n;simp[inR]) kE;have s22:ε4 12=⟨1,1,rows',true,true⟩:=by rw[hKE4 12 (by decide)];exact h22'
     have htl:t<R.length:=by
      rcases Nat.lt_or_ge t R.length with h|h
      ·exact h
      ·have e5:t=R.length:=by omega
       refine absurd ?_ (hnz (by omega) (by omega));have:=hlast (by omega);simpa only[e5]using this
     have lt':(R'.take t).length=t:=by simp;omega
     simp -dsimp -implicitDefEqProofs only[go_sem];refine again t (by omega) ⟨(by(repeat apply am rfl);exact kO2),kB2,kE2,R'.take t,rows',s+mon (R.length-b.length) (R[R.length-1]*v),lt'.symm,fun h=>?_,by omega,?_,fun j hj=>?_,by rw[lt'];exact h5',s22⟩
     ·rw[List.getElem_take];simp only[lt']at h ⊢;exact hnz (by omega) h
     ·rw[Cb hzero,hz,hRe,add_mul,sub_eq];rw[add_assoc,add_comm (zp R),<-add_assoc (mon _ _*zp b),iP,zero_add]
     ·rw[List.getElem_take];exact hrow' j (by simp at hj;omega)
  ·have hA2:decide ((b.length:Int)<=(R.length:Int))=false:=aj (by omega);simp -dsimp -implicitDefEqProofs only[go_sem,h5,q1,hA2,af,h22];exact⟨(by(repeat apply am rfl);exact hK2),hKB2,hKE2,R,rows,s,by omega,tR,hRe,hrow,rfl,rfl⟩
 ·rintro e τ2 β2 ε2 π2 hK2 hKB2 hKE2 ⟨rfl,R,rows,s,hlt,tR,hRe,hrow,h5,h22⟩;refine⟨_,aY.refl _,?_⟩;have hrm:rm (zp a) (zp b)=zp R:=Ct hb' hRe (by rw[j3 tR,j3 tb];exact hlt);simp -dsimp -implicitDefEqProofs only[go_sem,h5,h22,NA hrow];rw[hrm,Mx tR]
end Go.AM
namespace Go.AM
open Alg
open Go.Proofs
open Classical
set_option maxHeartbeats 1600000 in
theorem oj {p:PQ} {h:Nat} (hp:Alg.HB h p) (hb:h<=137438953000) (hp0:p≠0) (sp:Alg.sz p<=1048576) (a:Nat) (ha:a<=1000000):Fn Tryz.prog 169 [iUp p,iN 0,.c (.v (.int .u64 (a:Int)))] (qg p):=by
 have h0:=az hp0;have es:(Alg.sz p:Int)-1+1=(Alg.sz p:Int):=by omega
 have hUl:=cJ p;refine ak (fn:=Tryz.f169) (by rfl) rfl rfl rfl (by rfl) ?_;simp -dsimp -implicitDefEqProofs only[go_sem];refine an (fG p sp) ?_;simp -dsimp -implicitDefEqProofs only[go_sem,es,Int.toNat_natCast]
 repeat(refine And.intro (by omega) ?_)
 refine aS [(6,7),(9,13),(19,83)] [] [(18,18)] (fun n τ β ε=>∃(i:Nat) (rows:List (List C)),n=(U p).length-i/\i<=(U p).length/\τ 9 = .i (iN i)/\ε 18=⟨1,1,rows,true,true⟩ /\
   (∀ j,j<Alg.sz p->rows[j]?=some (zr (seen p ((U p).take i) j)))/\∀ t∈(U p).take i,Alg.mp (t.2.den)≠0)
  (fun e τ β ε=>(e = .exit 0/\tu p/\∃ rows:List (List C),ε 18=⟨1,1,rows,true,true⟩/\∀ j,j<Alg.sz p->rows[j]?=some (zr (rq (p.c j)))) \/
   (e = .ret/\¬ tu p/\τ 6 = .fl []/\τ 7 = .i (.c (.v (.bool false))))) (U p).length ?_ ?_ ?_
 ·refine⟨0,List.replicate (Alg.sz p) [.v (.int .u64 0)],by omega,by omega,rfl,rfl,fun j hj=>?_,by simp⟩;rw[seen,if_neg (by simp)];simp[hj];rfl
 ·rintro n τ β ε π hK hKB hKE ⟨i,rows,hn,hi,h9,h19,hrows,hgood⟩;have k0:τ 0 = .i (iUp p):=(hK 0 rfl).trans rfl;have k8:τ 8 = .sl 18 1 (Alg.sz p):=(hK 8 rfl).trans rfl;have k1:τ 1 = .i (iN 0):=(hK 1 rfl).trans rfl;have k2:τ 2 = .i (.c (.v (.int .u64 (a:Int)))):=(hK 2 rfl).trans rfl;by_cases hlt:i<(U p).length
  ·have hA:decide ((i:Int)<((U p).length:Int))=true:=ai (by omega);obtain⟨e,he,het,hec⟩:=mO (List.getElem_mem hlt);have hg:(U p)[i]?=some (⟨(e:Int),0,0,0⟩,p.c e):=by rw[ah hlt,het]
   have hbd:=hp.coef e;simp -dsimp -implicitDefEqProofs only[go_sem,h9,k0,hA,af];refine av hg ?_;simp -dsimp -implicitDefEqProofs only[go_sem,h9,k0,Int.reduceToNat,Int.reduceLE,ag];refine ar (args':=[iZ ((p.c e).den:Int)]) rfl (Dk _ (ac (qe (z:=((p.c e).den:Int)) (by simpa using hbd.2)) (by omega))) ?_;by_cases hd:Alg.mp ((p.c e).den:Int)=0
   ·have e1:decide ((((Alg.mp ((p.c e).den:Int)).val:Nat):Int)=0)=true:=ai (by rw[hd];rfl);simp -dsimp -implicitDefEqProofs only[go_sem,e1];exact⟨(by(repeat apply am rfl);exact hK),hKB,hKE,fun hgd=>hgd e he hd⟩
   ·have hv0:(Alg.mp ((p.c e).den:Int)).val≠0:=fun h=>hd (kD h);have e1:decide ((((Alg.mp ((p.c e).den:Int)).val:Nat):Int)=0)=false:=aj (by omega);obtain⟨v,hv,hpw⟩:=sj hd;have hrq:Alg.mp (p.c e).num*v=rq (p.c e):=by
     rw[rq];congr 1;exact o6 (by rw[mul_comm];exact hv)
    simp -dsimp -implicitDefEqProofs only[go_sem,e1,h9,k0,Int.reduceToNat,Int.reduceLE,ag];refine av hg ?_;simp -dsimp -implicitDefEqProofs only[go_sem,e1,h9,k0,Int.reduceToNat,Int.reduceLE,ag];refine ar (args':=[iZ (p.c e).num]) rfl (Dk _ (ac (qe hbd.1) (by omega))) ?_;simp -dsimp -implicitDefEqProofs only[go_sem];refine aa hpw rfl ?_;simp -dsimp -implicitDefEqProofs only[go_sem,zmul,hrq]
    repeat(refine And.intro (by omega) ?_)
    refine aJ [(11,12),(45,66)] [] [] (fun n τ' β' ε'=>∃ w:Nat,n=4-w/\w<=4/\τ' 12 = .i (iN w)/\τ' 11 = .i (iz (rq (p.c e))))
     (fun e' τ' β' ε'=>e' = .exit 2/\τ' 11 = .i (iz (rq (p.c e)))) 4 ?_ ?_ ?_
    ·exact⟨0,rfl,by omega,rfl,rfl⟩
    ·rintro n2 τ2 β2 ε2 π2 hK2 hKB2 hKE2 ⟨w,hn2,hw,h42,q11⟩;have q1:τ2 1 = .i (iN 0):=(hK2 1 rfl).trans k1;have q2:τ2 2 = .i (.c (.v (.int .u64 (a:Int)))):=(hK2 2 rfl).trans k2;have q0:τ2 0 = .i (iUp p):=(hK2 0 rfl).trans k0;have q9:τ2 9 = .i (iN i):=(hK2 9 rfl).trans h9;obtain rfl|rfl|rfl|rfl|rfl:w=0\/w=1\/w=2\/w=3\/w=4:=by omega
     ·have h42':τ2 12 = .i (iN 0):=h42;simp -dsimp -implicitDefEqProofs only[go_sem,h42',q1,q2,q11,q0,q9,Int.reduceLT,decide_true,decide_false,Int.reduceEq]
      repeat(refine And.intro (by omega) ?_)
      refine again (4-1) (by omega) ⟨(by(repeat apply am rfl);exact hK2),hKB2,hKE2,1,rfl,by omega,rfl,q11⟩
     ·have h42':τ2 12 = .i (iN 1):=h42;simp -dsimp -implicitDefEqProofs only[go_sem,h42',q1,q2,q11,q0,q9,Int.reduceLT,Int.reduceEq,decide_true,decide_false,Int.reduceToNat];refine av hg ?_;simp -dsimp -implicitDefEqProofs only[go_sem,h42',q1,q2,q11,q0,q9,Int.reduceToNat,Int.reduceLE,ag];refine ar (args':=[iz ⟨a+1,by omega⟩,iN 0]) ?_ (nx ⟨a+1,by omega⟩ 0 (by omega)) ?_
      ·rw[show((a:Int)+1 % 18446744073709551616) % 18446744073709551616=((a+1:Nat):Int)by omega]
      simp -dsimp -implicitDefEqProofs only[go_sem,zmul,h42',q11]
      repeat(refine And.intro (by omega) ?_)
      refine again (4-2) (by omega) ⟨(by(repeat apply am rfl);exact hK2),hKB2,hKE2,2,rfl,by omega,rfl,?_⟩
      simp -dsimp -implicitDefEqProofs only[go_sem];rw[show Alg.pw (⟨a+1,by omega⟩:Zp) 0=1 from rfl,mul_one]
     ·have h42':τ2 12 = .i (iN 2):=h42;simp -dsimp -implicitDefEqProofs only[go_sem,h42',q1,q2,q11,q0,q9,Int.reduceLT,Int.reduceEq,decide_true,decide_false,Int.reduceToNat];refine av hg ?_;simp -dsimp -implicitDefEqProofs only[go_sem,h42',q1,q2,q11,q0,q9,Int.reduceToNat,Int.reduceLE,ag];refine ar (args':=[iz ⟨a+2,by omega⟩,iN 0]) ?_ (nx ⟨a+2,by omega⟩ 0 (by omega)) ?_
      ·rw[show((a:Int)+2 % 18446744073709551616) % 18446744073709551616=((a+2:Nat):Int)by omega]
      simp -dsimp -implicitDefEqProofs only[go_sem,zmul,h42',q11]
      repeat(refine And.intro (by omega) ?_)
      refine again (4-3) (by omega) ⟨(by(repeat apply am rfl);exact hK2),hKB2,hKE2,3,rfl,by omega,rfl,?_⟩
      simp -dsimp -implicitDefEqProofs only[go_sem];rw[show Alg.pw (⟨a+2,by omega⟩:Zp) 0=1 from rfl,mul_one]
     ·have h42':τ2 12 = .i (iN 3):=h42;simp -dsimp -implicitDefEqProofs only[go_sem,h42',q1,q2,q11,q0,q9,Int.reduceLT,Int.reduceEq,decide_true,decide_false,Int.reduceToNat];refine av hg ?_;simp -dsimp -implicitDefEqProofs only[go_sem,h42',q1,q2,q11,q0,q9,Int.reduceToNat,Int.reduceLE,ag];refine ar (args':=[iz ⟨a+3,by omega⟩,iN 0]) ?_ (nx ⟨a+3,by omega⟩ 0 (by omega)) ?_
      ·rw[show((a:Int)+3 % 18446744073709551616) % 18446744073709551616=((a+3:Nat):Int)by omega]
      simp -dsimp -implicitDefEqProofs only[go_sem,zmul,h42',q11]
      repeat(refine And.intro (by omega) ?_)
      refine again (4-4) (by omega) ⟨(by(repeat apply am rfl);exact hK2),hKB2,hKE2,4,rfl,by omega,rfl,?_⟩
      simp -dsimp -implicitDefEqProofs only[go_sem];rw[show Alg.pw (⟨a+3,by omega⟩:Zp) 0=1 from rfl,mul_one]
     ·have h42':τ2 12 = .i (iN 4):=h42;simp -dsimp -implicitDefEqProofs only[go_sem,h42',Int.reduceLT,decide_false];exact⟨(by(repeat apply am rfl);exact hK2),hKB2,hKE2,q11⟩
    ·rintro e' τ2 β2 ε2 π2 hK2 hKB2 hKE2 ⟨rfl,q11⟩;have r8:τ2 8 = .sl 18 1 (Alg.sz p):=(hK2 8 rfl).trans k8;have r1:τ2 1 = .i (iN 0):=(hK2 1 rfl).trans k1;have r0:τ2 0 = .i (iUp p):=(hK2 0 rfl).trans k0;have r9:τ2 9 = .i (iN i):=(hK2 9 rfl).trans h9;have f18:ε2 18=⟨1,1,rows,true,true⟩:=by rw[hKE2 18 (by decide)];exact h19
     have kO:=Kp.step2 hK hK2 (by intro n;simp[inR]<;>omega) (by(repeat apply am rfl);exact hK)
     have kB:=Kp.step2 hKB hKB2 (by intro n;simp[inR]) hKB;have kE:=Kp.step2 hKE hKE2 (by intro n;simp[inR]) hKE;have hs0:seen p ((U p).take i) e=0:=by
      rw[seen,if_neg];rintro ⟨t,ht,hte⟩;obtain⟨j,hj,rfl⟩:=List.getElem_of_mem ht;simp only[List.length_take]at hj;rw[List.getElem_take]at hte;have h5:=(List.pairwise_iff_getElem.1 (il p).srt) j i (by omega) hlt (by omega);rw[jg ((il p).uv _ (List.getElem_mem _)) ((il p).uv _ (List.getElem_mem _)),het]at h5;simp only at h5;omega
     have hr0:=hrows e he;rw[hs0]at hr0;have hse:∀ j,seen p ((U p).take (i+1)) j=if j=e then rq (p.c e)else seen p ((U p).take i) j:=fun j=>by
      rw[ab hlt,het,seen,seen];by_cases hj:j=e
      ·subst hj;rw[if_pos ⟨_,by simp;right;rfl,rfl⟩,if_pos rfl]
      ·rw[if_neg hj];congr 1;refine propext ⟨?_,fun⟨t,ht,h5⟩=>⟨t,by simp[ht],h5⟩⟩;rintro ⟨t,ht,h5⟩;rcases List.mem_append.1 ht with ht|ht
       ·exact⟨t,ht,h5⟩
       ·simp at ht;subst ht;simp only at h5;omega
     simp -dsimp -implicitDefEqProofs only[go_sem,r0,r9,r1,r8,q11,f18,Int.reduceToNat,Int.reduceLE,ag];refine av hg ?_;simp -dsimp -implicitDefEqProofs only[go_sem,r0,r9,r1,r8,q11,f18,Int.reduceToNat,Int.reduceLE,ag,Int.toNat_natCast];refine⟨he,_,hr0,?_⟩;simp -dsimp -implicitDefEqProofs only[go_sem,zr,zadd,zadd',r0,r9,r1,r8,q11,f18,Int.reduceToNat,Int.reduceLE,ag,Int.toNat_natCast];refine⟨by omega,he,_,hr0,?_⟩;simp -dsimp -implicitDefEqProofs only[go_sem,r9,zr]
     repeat(refine And.intro (by omega) ?_)
     refine again ((U p).length-(i+1)) (by omega) ⟨(by(repeat apply am rfl);exact kO),kB,(by(repeat apply am rfl);exact kE),i+1,rows.set e (zr (0+rq (p.c e))),rfl,by omega,rfl,by simp -dsimp -implicitDefEqProofs only[go_sem,f18];rfl,fun j hj=>?_,fun t ht=>?_⟩
     ·rw[List.getElem?_set,hse];by_cases hje:e=j
      ·subst hje;rw[if_pos rfl,if_pos (List.getElem?_eq_some_iff.1 hr0).1,if_pos rfl,zero_add];rfl
      ·rw[if_neg hje,if_neg (fun h=>hje h.symm)];exact hrows j hj
     ·rw[ab hlt,het]at ht;rcases List.mem_append.1 ht with ht|ht
      ·exact hgood t ht
      ·simp at ht;subst ht;exact hd
  ·have hA:decide ((i:Int)<((U p).length:Int))=false:=aj (by omega);obtain rfl:i=(U p).length:=by omega
   rw[List.take_length]at hrows hgood;simp -dsimp -implicitDefEqProofs only[go_sem,h9,k0,hA,af];refine⟨(by(repeat apply am rfl);exact hK),hKB,hKE,?_,rows,h19,?_⟩
   ·intro j hj;by_cases hc:p.c j=0
    ·rw[hc];decide
    ·exact hgood _ (Iy hc)
   ·intro j hj;rw[<-xZ p j];exact hrows j hj
 ·rintro e τ β ε π hK hKB hKE h;refine⟨_,aY.refl _,?_⟩;rcases h with⟨rfl,hg,rows,h19,hrows⟩|⟨rfl,hg,h6,h7⟩
  ·have k8:τ 8 = .sl 18 1 (Alg.sz p):=(hK 8 rfl).trans rfl;have el:(Alg.sz p:Int)-1=((Alg.sz p-1:Nat):Int):=by omega
   simp -dsimp -implicitDefEqProofs only[go_sem,k8];refine ao (by rfl) 10 [] false true (by rfl) (by rfl) (by decide +kernel) ?_;simp -dsimp -implicitDefEqProofs only[go_sem,k8,h19,el]
   repeat(refine And.intro (by omega) ?_)
   refine⟨_,hrows (Alg.sz p-1) (by omega),?_⟩;simp -dsimp -implicitDefEqProofs only[go_sem,zr];have htake:rows.take (Alg.sz p)=(eA p).map zr:=by
    refine List.ext_getElem? fun j=>?_;rw[List.getElem?_take,List.getElem?_map];split
    ·rename_i hj;rw[hrows j hj,ah (by rw[dy];exact hj)];simp[eA]
    ·rename_i hj;rw[List.getElem?_eq_none (by rw[dy];omega)];rfl
   have hnz:(!decide ((((rq (p.c (Alg.sz p-1))).val:Nat):Int)=0))=decide (rq (lc p)≠0):=by
    rw[show lc p=p.c (Alg.sz p-1)from rfl];by_cases h0:rq (p.c (Alg.sz p-1))=0
    ·rw[h0];rfl
    ·have h1:(rq (p.c (Alg.sz p-1))).val≠0:=fun h=>h0 (kD h);rw[ai h0,aj (by omega)];rfl
   rw[qg,if_pos hg,htake,hnz]
  ·simp -dsimp -implicitDefEqProofs only[go_sem,h6,h7];rw[qg,if_neg hg]
noncomputable def rbnd (p q:PQ):Int:=if eI p/\eI q then(Alg.sz (euc (eA q).length (zp (eA p)) (zp (eA q))):Int)-1 else(Alg.sz p:Int)-1
theorem My (r:PZ):TrZ (zli r):=fun h=>by
 rw[kF]at h;have e:(zli r)[(zli r).length-1]=r.c (Alg.sz r-1):=by simp[zli]
 rw[e];exact jJ (by omega)
theorem Mw (r:PZ):zp (zli r)=r:=Alg.P.ext fun i=>by
 by_cases h:i<Alg.sz r
 ·rw[lB (by rw[kF];exact h)];simp[zli]
 ·rw[oA (by rw[kF];omega),au (by omega)]
set_option maxHeartbeats 1600000 in
theorem um {p q:PQ} {h k:Nat} (hp:Alg.HB h p) (hq:Alg.HB k q) (hb:h<=137438953000) (hb':k<=137438953000) (hp0:p≠0) (hq0:q≠0) (sp:Alg.sz p<=1048576) (sq:Alg.sz q<=1048576):Fn Tryz.prog 134 [iUp p,iUp q,iN 0] [iN (rbnd p q)]:=by
 have hp1:=az hp0;have hq1:=az hq0;refine ak (fn:=Tryz.f134) (by rfl) rfl rfl rfl (by rfl) ?_;simp -dsimp -implicitDefEqProofs only[go_sem];refine aJ [(6,47)] [] [] (fun n τ β ε=>∃ i:Nat,n=3-i/\i<=3/\τ 7 = .i (iN ((17+100*i:Nat):Int))/\(1<=i->¬ (eI p/\eI q)))
  (fun e τ β ε=>(e = .exit 0/\¬ (eI p/\eI q))\/(e = .ret/\τ 6 = .i (iN (rbnd p q)))) 3 ?_ ?_ ?_
 ·exact⟨0,by omega,by omega,rfl,fun h=>by omega⟩
 ·rintro n τ β ε π hK hKB hKE ⟨i,hn,hi,h7,hbad⟩;have k0:τ 0 = .i (iUp p):=(hK 0 rfl).trans rfl;have k1:τ 1 = .i (iUp q):=(hK 1 rfl).trans rfl;have k2:τ 2 = .i (iN 0):=(hK 2 rfl).trans rfl;by_cases hlt:i<3
  ·have hA:decide (((17+100*i:Nat):Int)<300)=true:=ai (by omega);have ea:((17+100*i:Nat):Int) % 18446744073709551616=((17+100*i:Nat):Int):=by omega
   simp -dsimp -implicitDefEqProofs only[go_sem,h7,k0,k1,k2,hA,ea];refine an (oj hp hb hp0 sp (17+100*i) (by omega)) ?_;by_cases g1:eI p
   ·rw[i6 g1];simp -dsimp -implicitDefEqProofs only[go_sem,h7,k1,k2,ea];refine an (oj hq hb' hq0 sq (17+100*i) (by omega)) ?_;by_cases g2:eI q
    ·rw[i6 g2];have lx:=dy p;have ly:=dy q;simp -dsimp -implicitDefEqProofs only[go_sem];refine aJ [(8,8),(10,10),(38,44)] [] [] (fun n τ' β' ε'=>∃ x y:List Zp,n=y.length/\0<x.length/\TrZ x/\TrZ y/\x.length<=1048576/\y.length<=1048576/\euc (eA q).length (zp (eA p)) (zp (eA q))=euc y.length (zp x) (zp y)/\τ' 8 = .i (zl x)/\τ' 10 = .i (zl y))
      (fun e τ' β' ε'=>e = .exit 2/\∃ x:List Zp,0<x.length/\x.length<=1048576/\TrZ x/\euc (eA q).length (zp (eA p)) (zp (eA q))=zp x/\τ' 8 = .i (zl x)) (eA q).length ?_ ?_ ?_
     ·exact⟨eA p,eA q,rfl,by omega,th g1.2,th g2.2,by omega,by omega,rfl,rfl,rfl⟩
     ·rintro n2 τ2 β2 ε2 π2 hK2 hKB2 hKE2 ⟨x,y,hn2,x0,tx,ty,sx,sy,he,h8,h10⟩;by_cases hy:0<y.length
      ·have dA:decide ((0:Int)<(y.length:Int))=true:=ai (by omega);have hy':zp y≠0:=fun e=>by
        have:=j3 ty;rw[e,ap.2 rfl]at this;omega
       obtain⟨s,e1,e2⟩:=Gx (zp x) hy';rw[j3 ty]at e2;simp -dsimp -implicitDefEqProofs only[go_sem,h8,h10,dA,af];refine aa (IB x0 hy tx ty sx sy) rfl ?_;simp -dsimp -implicitDefEqProofs only[go_sem];refine again (zli (rm (zp x) (zp y))).length (by rw[kF];omega) ⟨(by(repeat apply am rfl);exact hK2),hKB2,hKE2,y,zli (rm (zp x) (zp y)),rfl,hy,ty,My _,sy,by rw[kF];omega,?_,by simp -dsimp -implicitDefEqProofs only[go_sem,h10],(by simp -dsimp -implicitDefEqProofs only[go_sem];try rfl)⟩
       rw[he,Mw,kF];obtain⟨m,hm⟩:∃ m,y.length=m+1:=⟨y.length-1,by omega⟩;rw[hm];simp only[euc];rw[if_neg hy'];exact tH _ _ _ _ (ae _) (by omega)
      ·have dA:decide ((0:Int)<(y.length:Int))=false:=aj (by omega);simp -dsimp -implicitDefEqProofs only[go_sem,h10,dA,af];refine⟨(by(repeat apply am rfl);exact hK2),hKB2,hKE2,x,x0,sx,tx,?_,h8⟩
       rw[he,show y.length=0 by omega];rfl
     ·rintro e τ2 β2 ε2 π2 hK2 hKB2 hKE2 ⟨rfl,x,x0,sx,tx,he,h8⟩;have kO:=Kp.step2 hK hK2 (by intro n;simp[inR]<;>omega) (by(repeat apply am rfl);exact hK)
      have kB:=Kp.step2 hKB hKB2 (by intro n;simp[inR]) hKB;have kE:=Kp.step2 hKE hKE2 (by intro n;simp[inR]) hKE;simp -dsimp -implicitDefEqProofs only[go_sem,h8,af]
      repeat(refine And.intro (by omega) ?_)
      have:rbnd p q=(x.length:Int)-1:=by rw[rbnd,if_pos ⟨g1,g2⟩,he,j3 tx]
      rw[this]
    ·obtain⟨L,hL⟩:=ko g2;rw[hL];simp -dsimp -implicitDefEqProofs only[go_sem,h7]
     repeat(refine And.intro (by omega) ?_)
     exact again (3-(i+1)) (by omega) ⟨(by(repeat apply am rfl);exact hK),hKB,hKE,i+1,rfl,by omega,by simp -dsimp -implicitDefEqProofs only[go_sem];refine congrArg (fun z=>AV.i (.c (.v (.int .i64 z)))) ?_;omega,fun _ h=>g2 h.2⟩
   ·obtain⟨L,hL⟩:=ko g1;rw[hL];simp -dsimp -implicitDefEqProofs only[go_sem,h7,k1,k2,ea];refine an (oj hq hb' hq0 sq (17+100*i) (by omega)) ?_;obtain⟨M,b,hM⟩:∃(M:List Zp) (b:Bool),qg q=[zl M,iB b]:=by
     by_cases g2:eI q
     ·exact⟨_,_,i6 g2⟩
     ·obtain⟨M,hM⟩:=ko g2;exact⟨M,_,hM⟩
    rw[hM];simp -dsimp -implicitDefEqProofs only[go_sem,h7]
    repeat(refine And.intro (by omega) ?_)
    exact again (3-(i+1)) (by omega) ⟨(by(repeat apply am rfl);exact hK),hKB,hKE,i+1,rfl,by omega,by simp -dsimp -implicitDefEqProofs only[go_sem];refine congrArg (fun z=>AV.i (.c (.v (.int .i64 z)))) ?_;omega,fun _ h=>g1 h.1⟩
  ·have hA:decide (((17+100*i:Nat):Int)<300)=false:=aj (by omega);simp -dsimp -implicitDefEqProofs only[go_sem,h7,hA];exact⟨(by(repeat apply am rfl);exact hK),hKB,hKE,hbad (by omega)⟩
 ·rintro e τ β ε π hK hKB hKE h;rcases h with⟨rfl,hbad⟩|⟨rfl,h6⟩
  ·have k0:τ 0 = .i (iUp p):=(hK 0 rfl).trans rfl;have k2:τ 2 = .i (iN 0):=(hK 2 rfl).trans rfl;simp -dsimp -implicitDefEqProofs only[go_sem,k0,k2];refine an (fG p sp) ?_;simp -dsimp -implicitDefEqProofs only[go_sem];rw[rbnd,if_neg hbad]
  ·simp -dsimp -implicitDefEqProofs only[go_sem,h6]
theorem GE {p q:PQ} (hp:2<=Alg.sz p) (hq:2<=Alg.sz q) (hle:Alg.sz q<=Alg.sz p) (h:rbnd p q=0):Cop p q:=by
 refine Da hp hq ?_;rw[rbnd]at h;by_cases g:eI p/\eI q
 ·rw[if_pos g]at h;rw[bnd,if_pos g,pb,if_neg (by rw[dy,dy];omega)];exact h
 ·rw[if_neg g]at h;omega
def xp (n d p q:PQ):Prop:=(∃ a b:Rat,a≠0/\b≠0/\p=Alg.C a*n/\q=Alg.C b*d)\/∃ s t s' t',Row n d p s t q s' t'
theorem x8 {n d p q:PQ} {k:Nat} (hk':Alg.HB k p) (hk:Alg.HB k q) (hc:xp n d p q) (hq:q≠0) (hle:Alg.sz q<=Alg.sz p) :
  (∃ s t s' t',Row n d q s t (psr q (Alg.sz p) p) s' t')/\Alg.sz (psr q (Alg.sz p) p)<Alg.sz q/\(∃(c:Rat) (S:PQ),c≠0/\Alg.C c*p=S*q+psr q (Alg.sz p) p)/\Alg.HB (k+Alg.sz p*(k+1)) (psr q (Alg.sz p) p):=by
 obtain⟨_,h2,_,h4,c,S,h5,h6⟩:=mj hq hk (Alg.sz p) p k (ae _) hk';refine⟨?_,h2 hle,⟨c,S,h5,h6⟩,h4⟩;have hlt:=h2 hle;generalize psr q (Alg.sz p) p=r at *
 rcases hc with⟨a,b,ha,hb,rfl,rfl⟩|⟨s,t,s',t',row⟩
 ·rw[bF hb]at hlt;rw[bF hb,bF ha]at hle;have hd:d≠0:=fun e=>hq (by rw[e,mul_zero]);have e:Alg.C (c*a)*n=(S*Alg.C b)*d+r:=by rw[bf,mul_assoc,h6,mul_assoc]
  have:=(Row.first (aE h5 ha) hd hle e hlt).scale hb (b:=(1:Rat)) (by decide)
  rw[bU,one_mul,one_mul,one_mul]at this;exact⟨_,_,_,_,this⟩
 ·exact⟨_,_,_,_,row.next h5 hq h6 hlt⟩
theorem vt {n d q r s t s' t':PQ} (row:Row n d q s t r s' t') (hr:r≠0):xp n d q (Alg.mo r):=by
 rcases pn hr row with⟨h1,h2⟩|h
 ·have:=row.scale (a:=(1:Rat)) (b:=Alg.inv (lc r)) (by decide) (eH (bu hr));rw[bU,one_mul,one_mul,one_mul]at this;exact .inr ⟨_,_,_,_,this⟩
 ·exact .inr h
theorem rz {g x y:PQ} (hx:x≠0) (hy:y≠0) (h:IsG g (Alg.mo x) (Alg.mo y)):IsG g x y:=(s8 hx (s8 hy h).symm).symm
theorem jO {g g' x y:PQ} (h:IsG g x y) (h':IsG g' x y):Alg.mo g=Alg.mo g':=by
 have h1:=rA h;have h2:=rA h';exact h1.trans h2.symm
theorem jN:Alg.mo (1:PQ)=1:=yn (n9 (R:=Rat) 1)
theorem sO {p:PQ} (h:Alg.sz p=1):Alg.mo p=1:=by
 have h1:=eX (Nat.le_of_eq h);have h2:p.c 0≠0:=fun e=>by
  rw[e,show Alg.C (0:Rat)=0 from cu]at h1;rw[h1,ap.2 rfl]at h;omega
 rw[h1,Alg.mo,n9,<-bf,cx h2];rfl
theorem CU {x y g:PQ} (hx:x≠0) (hy:y≠0) (hle:Alg.sz (Alg.mo y)<=Alg.sz (Alg.mo x)) (hbig:2<=Alg.sz (Alg.mo x)) (h:rbnd (Alg.mo x) (Alg.mo y)=0) (hg:IsG g x y):Alg.mo g=Alg.mo 1:=by
 refine jO hg ?_;by_cases hy2:2<=Alg.sz (Alg.mo y)
 ·exact rz hx hy ⟨Dv.one _,Dv.one _,GE hbig hy2 hle h⟩
 ·have h1:=az (it hy);have h2:Alg.mo y=1:=by rw[<-O4,sO (by omega)]
  refine rz hx hy ?_;rw[h2];exact⟨Dv.one _,Dv.refl _,fun x _ hx=>hx⟩
set_option maxHeartbeats 1600000 in
theorem zC {n d g:PQ} {w h N:Nat} (hs:Sm w n d) (Hn:Alg.HB h n) (Hd:Alg.HB h d) (n0:n≠0) (d0:d≠0) (hnd:¬ (Alg.sz n=1/\Alg.sz d=1)) (tn:Alg.sz n<=N) (td:Alg.sz d<=N) (hN:N<=250000) (hgnd:IsG g n d)
  (hb:(2*(Alg.hN w+h)+1)+(N+2)*((2*(Alg.hN w+h)+1)+1)+2*(2*(Alg.hN w+h)+1)+2*N<=68719476000):Fn Tryz.prog 94 [iUp n,iUp d] [iUp (Alg.mo g)]:=by
 have hgdn:=hgnd.symm;have n1:=az n0;have d1:=az d0;have Hnm:=Hn.mo;have Hdm:=Hd.mo;have sn:Alg.sz (Alg.mo n)=Alg.sz n:=fh;have sd:Alg.sz (Alg.mo d)=Alg.sz d:=fh;have e1:=hzU n;rw[aj n0]at e1;have e2:=hzU d;rw[aj d0]at e2;have tp:=Di n0 d0 (by omega) (by omega);rw[if_neg hnd]at tp;have g11:kq 1 1=(1:PQ):=by rw[kq,if_neg fa,if_neg fa]
 have base:=mQ (p:=1) (q:=1) (cF 0) (cF 0) (by omega) (by omega) (by rw[cf];omega) (by rw[cf];omega) (.inr (.inr ⟨cf,cf⟩));rw[g11]at base;refine ak (fn:=Tryz.f94) (by rfl) rfl rfl rfl (by rfl) ?_;simp -dsimp -implicitDefEqProofs only[go_sem,e1,e2,af];refine aa tp rfl ?_;simp -dsimp -implicitDefEqProofs only[go_sem,Int.reduceLT,decide_false];refine aa (lz Hn (by omega) n0 (by omega)) rfl ?_;simp -dsimp -implicitDefEqProofs only[go_sem];refine aa (lz Hd (by omega) d0 (by omega)) rfl ?_;simp -dsimp -implicitDefEqProofs only[go_sem];refine an base ?_;simp -dsimp -implicitDefEqProofs only[go_sem];refine aa (gt Hn (by omega) (by omega)) rfl ?_;simp -dsimp -implicitDefEqProofs only[go_sem];refine an (ce Hn (by omega) (by omega)) ?_;simp -dsimp -implicitDefEqProofs only[go_sem];refine aa (gt Hd (by omega) (by omega)) rfl ?_;simp -dsimp -implicitDefEqProofs only[go_sem];refine an (ce Hd (by omega) (by omega)) ?_;simp -dsimp -implicitDefEqProofs only[go_sem];refine an (fG _ (by omega)) ?_;simp -dsimp -implicitDefEqProofs only[go_sem];refine an (fG _ (by omega)) ?_;by_cases hlt:Alg.sz n<Alg.sz d
 ·have e3:decide ((Alg.sz (Alg.mo n):Int)-1<(Alg.sz (Alg.mo d):Int)-1)=true:=ai (by omega);have hle:Alg.sz (Alg.mo n)<=Alg.sz (Alg.mo d):=by omega
  have hbig:2<=Alg.sz (Alg.mo d):=by omega
  simp -dsimp -implicitDefEqProofs only[go_sem,e3];refine aa (um Hdm Hnm (by omega) (by omega) (it d0) (it n0) (by omega) (by omega)) rfl ?_;by_cases hr:rbnd (Alg.mo d) (Alg.mo n)=0
  ·have e5:decide (rbnd (Alg.mo d) (Alg.mo n)=0)=true:=ai hr;simp -dsimp -implicitDefEqProofs only[go_sem,e5];refine an (ce (cF 0) (by omega) (by rw[cf];omega)) ?_;simp -dsimp -implicitDefEqProofs only[go_sem];rw[jN,<-jN,CU d0 n0 hle hbig hr hgdn]
  ·have e5:decide (rbnd (Alg.mo d) (Alg.mo n)=0)=false:=aj hr;simp -dsimp -implicitDefEqProofs only[go_sem,e5];refine aJ [(7,10),(58,72)] [] [] (fun m τ β ε=>∃ p q:PQ,m=Alg.sz q/\p≠0/\Alg.sz p<=N/\Alg.HB (2*(Alg.hN w+h)+1) p/\Alg.HB (2*(Alg.hN w+h)+1) q/\(q≠0->xp d n p q/\Alg.sz q<=Alg.sz p)/\Alg.sz q<=N/\(∀ g,IsG g p q->IsG g d n)/\τ 7 = .i (iUp p)/\τ 8 = .i (iUp q))
    (fun e τ β ε=>e = .exit 0/\∃ p:PQ,p≠0/\Alg.sz p<=N/\Alg.HB (2*(Alg.hN w+h)+1) p/\IsG p d n/\τ 7 = .i (iUp p)) (Alg.sz (Alg.mo n)) ?_ ?_ ?_
   ·exact⟨Alg.mo d,Alg.mo n,rfl,it d0,by omega,Hdm.mono (by omega),Hnm.mono (by omega),fun _=>⟨.inl ⟨_,_,eH (bu d0),eH (bu n0),rfl,rfl⟩,by omega⟩,by omega,fun g hg=>rz d0 n0 hg,rfl,rfl⟩
   ·rintro m τ β ε π hK hKB hKE ⟨p,q,hm,hp0,hpN,hp,hq,hc,hqN,hG,h7,h8⟩;have k5:τ 5 = .i (iN 0):=(hK 5 rfl).trans rfl;by_cases hq0:q=0
    ·have dA:decide ((0:Int)<((U q).length:Int))=false:=aj (by rw[hq0,bR];decide);simp -dsimp -implicitDefEqProofs only[go_sem,h8,dA,af];refine⟨(by(repeat apply am rfl);exact hK),hKB,hKE,p,hp0,hpN,hp,hG p ?_,h7⟩
     rw[hq0];exact⟨Dv.refl _,Dv.zero _,fun x hx _=>hx⟩
    ·obtain⟨hch,hle'⟩:=hc hq0;have hq1:=az hq0;have dA:decide ((0:Int)<((U q).length:Int))=true:=ai (by obtain⟨R,hR⟩:=fu hq0;rw[hR];simp);obtain⟨⟨s,t,s',t',row⟩,hlt,⟨c,S,hc0,e⟩,hrH⟩:=x8 hp hq hch hq0 hle';have hmul:Alg.sz p*((2*(Alg.hN w+h)+1)+1)<=N*((2*(Alg.hN w+h)+1)+1):=Nat.mul_le_mul_right _ hpN;have hmul2:(Alg.sz p+2)*((2*(Alg.hN w+h)+1)+1)<=(N+2)*((2*(Alg.hN w+h)+1)+1):=Nat.mul_le_mul_right _ (by omega);have hmul3:N*((2*(Alg.hN w+h)+1)+1)<=(N+2)*((2*(Alg.hN w+h)+1)+1):=Nat.mul_le_mul_right _ (by omega);simp -dsimp -implicitDefEqProofs only[go_sem,h7,h8,k5,dA,af];refine an (qU hp hq hq0 (by omega) (by omega) (by omega)) ?_;simp -dsimp -implicitDefEqProofs only[go_sem,h7,h8,k5];refine an (gt hrH (by omega) (by omega)) ?_;simp -dsimp -implicitDefEqProofs only[go_sem,h7,h8,k5];refine an (ce hrH (by omega) (by omega)) ?_;simp -dsimp -implicitDefEqProofs only[go_sem];have hms:Alg.sz (Alg.mo (psr q (Alg.sz p) p))=Alg.sz (psr q (Alg.sz p) p):=fh;refine again (Alg.sz (Alg.mo (psr q (Alg.sz p) p))) (by omega) ⟨(by(repeat apply am rfl);exact hK),hKB,hKE,q,Alg.mo (psr q (Alg.sz p) p),rfl,hq0,hqN,hq,?_,fun hr0=>⟨?_,by omega⟩,by omega,fun g hg=>hG g (my hc0 e ?_),rfl,rfl⟩
     ·by_cases hr0:psr q (Alg.sz p) p=0
      ·rw[hr0,fc];exact Alg.HB.zero _
      ·exact rp row hs.symm Hd Hn
     ·have hr1:psr q (Alg.sz p) p≠0:=fun e=>hr0 (by rw[e,fc]);exact vt row hr1
     ·by_cases hr0:psr q (Alg.sz p) p=0
      ·rw[hr0,fc]at hg;rw[hr0];exact hg
      ·exact s8 hr0 hg
   ·rintro e τ β ε π hK hKB hKE ⟨rfl,p,hp0,hpN,hp,hG,h7⟩;have k5:τ 5 = .i (iN 0):=(hK 5 rfl).trans rfl;have k6:τ 6 = .i (iUp 1):=(hK 6 rfl).trans rfl;have hp1:=az hp0;have hfin:Alg.mo g=Alg.mo p:=(jO hG hgdn).symm;simp -dsimp -implicitDefEqProofs only[go_sem,h7,k5];refine an (fG p (by omega)) ?_;by_cases h1:Alg.sz p=1
    ·have e6:decide ((Alg.sz p:Int)-1<1)=true:=ai (by omega);simp -dsimp -implicitDefEqProofs only[go_sem,e6,k6];refine an (ce (cF 0) (by omega) (by rw[cf];omega)) ?_;simp -dsimp -implicitDefEqProofs only[go_sem];rw[hfin,sO h1,jN]
    ·have e6:decide ((Alg.sz p:Int)-1<1)=false:=aj (by omega);simp -dsimp -implicitDefEqProofs only[go_sem,e6,k6,h7];have mul:=dM (cF 0) hp (by omega) (by rw[cf];omega) (by omega);rw[one_mul]at mul;refine an mul ?_;simp -dsimp -implicitDefEqProofs only[go_sem];refine an (ce hp (by omega) (by omega)) ?_;simp -dsimp -implicitDefEqProofs only[go_sem];rw[hfin]
 ·have e3:decide ((Alg.sz (Alg.mo n):Int)-1<(Alg.sz (Alg.mo d):Int)-1)=false:=aj (by omega);have hle:Alg.sz (Alg.mo d)<=Alg.sz (Alg.mo n):=by omega
  have hbig:2<=Alg.sz (Alg.mo n):=by omega
  simp -dsimp -implicitDefEqProofs only[go_sem,e3];refine aa (um Hnm Hdm (by omega) (by omega) (it n0) (it d0) (by omega) (by omega)) rfl ?_;by_cases hr:rbnd (Alg.mo n) (Alg.mo d)=0
  ·have e5:decide (rbnd (Alg.mo n) (Alg.mo d)=0)=true:=ai hr;simp -dsimp -implicitDefEqProofs only[go_sem,e5];refine an (ce (cF 0) (by omega) (by rw[cf];omega)) ?_;simp -dsimp -implicitDefEqProofs only[go_sem];rw[jN,<-jN,CU n0 d0 hle hbig hr hgnd]
  ·have e5:decide (rbnd (Alg.mo n) (Alg.mo d)=0)=false:=aj hr;simp -dsimp -implicitDefEqProofs only[go_sem,e5];refine aJ [(7,10),(58,72)] [] [] (fun m τ β ε=>∃ p q:PQ,m=Alg.sz q/\p≠0/\Alg.sz p<=N/\Alg.HB (2*(Alg.hN w+h)+1) p/\Alg.HB (2*(Alg.hN w+h)+1) q/\(q≠0->xp n d p q/\Alg.sz q<=Alg.sz p)/\Alg.sz q<=N/\(∀ g,IsG g p q->IsG g n d)/\τ 7 = .i (iUp p)/\τ 8 = .i (iUp q))
    (fun e τ β ε=>e = .exit 0/\∃ p:PQ,p≠0/\Alg.sz p<=N/\Alg.HB (2*(Alg.hN w+h)+1) p/\IsG p n d/\τ 7 = .i (iUp p)) (Alg.sz (Alg.mo d)) ?_ ?_ ?_
   ·exact⟨Alg.mo n,Alg.mo d,rfl,it n0,by omega,Hnm.mono (by omega),Hdm.mono (by omega),fun _=>⟨.inl ⟨_,_,eH (bu n0),eH (bu d0),rfl,rfl⟩,by omega⟩,by omega,fun g hg=>rz n0 d0 hg,rfl,rfl⟩
   ·rintro m τ β ε π hK hKB hKE ⟨p,q,hm,hp0,hpN,hp,hq,hc,hqN,hG,h7,h8⟩;have k5:τ 5 = .i (iN 0):=(hK 5 rfl).trans rfl;by_cases hq0:q=0
    ·have dA:decide ((0:Int)<((U q).length:Int))=false:=aj (by rw[hq0,bR];decide);simp -dsimp -implicitDefEqProofs only[go_sem,h8,dA,af];refine⟨(by(repeat apply am rfl);exact hK),hKB,hKE,p,hp0,hpN,hp,hG p ?_,h7⟩
     rw[hq0];exact⟨Dv.refl _,Dv.zero _,fun x hx _=>hx⟩
    ·obtain⟨hch,hle'⟩:=hc hq0;have hq1:=az hq0;have dA:decide ((0:Int)<((U q).length:Int))=true:=ai (by obtain⟨R,hR⟩:=fu hq0;rw[hR];simp);obtain⟨⟨s,t,s',t',row⟩,hlt,⟨c,S,hc0,e⟩,hrH⟩:=x8 hp hq hch hq0 hle';have hmul:Alg.sz p*((2*(Alg.hN w+h)+1)+1)<=N*((2*(Alg.hN w+h)+1)+1):=Nat.mul_le_mul_right _ hpN;have hmul2:(Alg.sz p+2)*((2*(Alg.hN w+h)+1)+1)<=(N+2)*((2*(Alg.hN w+h)+1)+1):=Nat.mul_le_mul_right _ (by omega);have hmul3:N*((2*(Alg.hN w+h)+1)+1)<=(N+2)*((2*(Alg.hN w+h)+1)+1):=Nat.mul_le_mul_right _ (by omega);simp -dsimp -implicitDefEqProofs only[go_sem,h7,h8,k5,dA,af];refine an (qU hp hq hq0 (by omega) (by omega) (by omega)) ?_;simp -dsimp -implicitDefEqProofs only[go_sem,h7,h8,k5];refine an (gt hrH (by omega) (by omega)) ?_;simp -dsimp -implicitDefEqProofs only[go_sem,h7,h8,k5];refine an (ce hrH (by omega) (by omega)) ?_;simp -dsimp -implicitDefEqProofs only[go_sem];have hms:Alg.sz (Alg.mo (psr q (Alg.sz p) p))=Alg.sz (psr q (Alg.sz p) p):=fh;refine again (Alg.sz (Alg.mo (psr q (Alg.sz p) p))) (by omega) ⟨(by(repeat apply am rfl);exact hK),hKB,hKE,q,Alg.mo (psr q (Alg.sz p) p),rfl,hq0,hqN,hq,?_,fun hr0=>⟨?_,by omega⟩,by omega,fun g hg=>hG g (my hc0 e ?_),rfl,rfl⟩
     ·by_cases hr0:psr q (Alg.sz p) p=0
      ·rw[hr0,fc];exact Alg.HB.zero _
      ·exact rp row hs Hn Hd
     ·have hr1:psr q (Alg.sz p) p≠0:=fun e=>hr0 (by rw[e,fc]);exact vt row hr1
     ·by_cases hr0:psr q (Alg.sz p) p=0
      ·rw[hr0,fc]at hg;rw[hr0];exact hg
      ·exact s8 hr0 hg
   ·rintro e τ β ε π hK hKB hKE ⟨rfl,p,hp0,hpN,hp,hG,h7⟩;have k5:τ 5 = .i (iN 0):=(hK 5 rfl).trans rfl;have k6:τ 6 = .i (iUp 1):=(hK 6 rfl).trans rfl;have hp1:=az hp0;have hfin:Alg.mo g=Alg.mo p:=(jO hG hgnd).symm;simp -dsimp -implicitDefEqProofs only[go_sem,h7,k5];refine an (fG p (by omega)) ?_;by_cases h1:Alg.sz p=1
    ·have e6:decide ((Alg.sz p:Int)-1<1)=true:=ai (by omega);simp -dsimp -implicitDefEqProofs only[go_sem,e6,k6];refine an (ce (cF 0) (by omega) (by rw[cf];omega)) ?_;simp -dsimp -implicitDefEqProofs only[go_sem];rw[hfin,sO h1,jN]
    ·have e6:decide ((Alg.sz p:Int)-1<1)=false:=aj (by omega);simp -dsimp -implicitDefEqProofs only[go_sem,e6,k6,h7];have mul:=dM (cF 0) hp (by omega) (by rw[cf];omega) (by omega);rw[one_mul]at mul;refine an mul ?_;simp -dsimp -implicitDefEqProofs only[go_sem];refine an (ce hp (by omega) (by omega)) ?_;simp -dsimp -implicitDefEqProofs only[go_sem];rw[hfin]
theorem yG {n d:PQ} (h:Alg.sz n=1\/Alg.sz d=1):IsG 1 n d:=by
 have unit:∀ x:PQ,Alg.sz x=1->Dv x 1:=fun x hx=>by
  have h3:=eX (Nat.le_of_eq hx);have h4:x.c 0≠0:=fun e9=>by
   rw[e9,show Alg.C (0:Rat)=0 from cu]at h3;rw[h3,ap.2 rfl]at hx;omega
  exact⟨Alg.C (Alg.inv (x.c 0)),by rw[h3];simp only[mJ];rw[<-bf,mul_inv h4];rfl⟩
 refine⟨Dv.one _,Dv.one _,fun x h1 h2=>?_⟩;rcases h with h3|h3
 ·exact h1.trans (unit n h3)
 ·exact h2.trans (unit d h3)
theorem zB {n d:PQ} {w h N:Nat} (hd0:d≠0) (hn:Alg.HB h n) (hd:Alg.HB h d) (tn:Alg.sz n<=N) (td:Alg.sz d<=N) (hN:N<=250000) (hf:FB w (Alg.fr n d))
  (hb:(2*(Alg.hN w+h)+1)+(N+2)*((2*(Alg.hN w+h)+1)+1)+2*(2*(Alg.hN w+h)+1)+2*N<=68719476000) :
  ∃ g:PQ,IsG g n d/\Alg.HB (2*(Alg.hN w+h)+1) g/\Alg.sz g<=Alg.sz d/\g≠0/\lc g=1/\Fn Tryz.prog 94 [iUp n,iUp d] [iUp g]:=by
 have p2:=az hd0;by_cases hn0:n=0
 ·have call:=mQ hn hd (by omega) (by omega) (by omega) (by omega) (.inl hn0);rw[kq,if_pos hn0]at call;refine⟨Alg.mo d,?_,hd.mo.mono (by omega),Nat.le_of_eq fh,it hd0,CL hd0,call⟩;rw[hn0];exact wH hd0 ⟨Dv.zero _,Dv.refl _,fun x _ hx=>hx⟩
 have p1:=az hn0;have hf0:Alg.fr n d≠0:=fun e=>hn0 ((cd hd0).1 e);have hs:Sm w n d:=by
  obtain⟨A,B,h1,h2,h3,h4,h5,h6⟩:=hf;have hA:A≠0:=fun e=>hf0 (by rw[h2,e,cA];exact(cd (cN h1)).2 rfl);exact⟨A,B,hA,h1,by rw[(eC hd0 (cN h1)).1 h2,mul_comm],h3,h4,h5,h6⟩
 by_cases h11:Alg.sz n=1/\Alg.sz d=1
 ·have call:=mQ hn hd (by omega) (by omega) (by omega) (by omega) (.inr (.inr h11));rw[kq,if_neg hn0,if_neg hd0]at call;exact⟨1,yG (.inl h11.1),cF _,by rw[cf];omega,fa,sZ,call⟩
 by_cases hbig:2<=Alg.sz n/\2<=Alg.sz d
 ·obtain⟨h1,h2,h3,h4⟩:=pN hs hn hd hbig.1 hbig.2;exact⟨_,wH h4 h1,h2.mo,by rw[fh];exact h3,it h4,CL h4,zC hs hn hd hn0 hd0 h11 tn td hN h1 hb⟩
 ·have hu:=yG (n:=n) (d:=d) (by omega);have call:=zC hs hn hd hn0 hd0 h11 tn td hN hu hb;rw[jN]at call;exact⟨1,hu,cF _,by rw[cf];omega,fa,sZ,call⟩
theorem JW {f:KQ} {w:Nat} (h:FB w f):Alg.HB (Alg.hN w) (nN f)/\Alg.HB (Alg.hN w) (Alg.nD f)/\Alg.sz (nN f)<=w+1/\Alg.sz (Alg.nD f)<=w+1:=by
 by_cases hf:f=0
 ·rw[hf,kS.1,kS.2,cf,ap.2 rfl];exact⟨Alg.HB.zero _,cF _,by omega,by omega⟩
 ·exact wv h hf
theorem Dm {n d:PQ} {h N w:Nat} (hd0:d≠0) (hn:Alg.HB h n) (hd:Alg.HB h d) (tn:Alg.sz n<=N) (td:Alg.sz d<=N) (hN:N<=250000) (hf:FB w (Alg.fr n d))
  (hb:(2*(Alg.hN w+h)+1)+(N+2)*((2*(Alg.hN w+h)+1)+1)+2*(2*(Alg.hN w+h)+1)+2*N<=68719476000):Fn Tryz.prog 116 [iUp n,iUp d] [iK (Alg.fr n d),iN 0]:=by
 obtain⟨zN,zD,_,_⟩:=JW hf;obtain⟨g,hg,hgH,hgs,hg0,hgl,hG⟩:=zB hd0 hn hd tn td hN hf hb;obtain⟨n1,e1⟩:=hg.1;obtain⟨d1,e2⟩:=hg.2.1;rw[mul_comm]at e1 e2;have hd1:d1≠0:=fun e=>hd0 (by rw[e2,e,zero_mul]);have hl:lc d1=lc d:=by rw[e2,f6,hgl,mul_one]
 have hl0:lc d1≠(0:Rat):=bu hd1;obtain⟨f1,f2⟩:=G8 hd0 hg e1 e2;have back:∀ x:PQ,x=x*Alg.C (1/lc d1)*Alg.C (lc d1):=fun x=>by
  rw[mul_assoc,<-bf];have:(1:Rat)/lc d1*lc d1=1:=Rat.div_mul_cancel hl0;rw[show((1:Rat)/lc d1*lc d1:Rat)=1 from this,bU,mul_one]
 have hC:Alg.HB h (Alg.C (lc d1)):=by rw[hl];exact lL hd _
 have bn:Alg.HB (Alg.hN w+h) n1:=by rw[back n1,<-f1];exact zN.mul hC
 have bd:Alg.HB (Alg.hN w+h) d1:=by rw[back d1,<-f2];exact zD.mul hC
 have s1:Alg.sz n1<=Alg.sz n:=by
  by_cases hn1:n1=0
  ·rw[hn1,ap.2 rfl];omega
  ·have:=cO hn1 hg0;rw[<-e1]at this;have:=az hg0;omega
 have s2:=cO hd1 hg0;rw[<-e2]at s2;have pg:=az hg0;have hH1:(Alg.sz n+2)*((2*(Alg.hN w+h)+1)+1)<=(N+2)*((2*(Alg.hN w+h)+1)+1):=Nat.mul_le_mul_right _ (by omega);have hH2:(Alg.sz d+2)*((2*(Alg.hN w+h)+1)+1)<=(N+2)*((2*(Alg.hN w+h)+1)+1):=Nat.mul_le_mul_right _ (by omega);obtain⟨L,hL⟩:=fu hd1;obtain⟨b1,b2⟩:=i7 (x:=1) (h:=0) hl0 ⟨by decide,by decide⟩ (bd.coef (Alg.sz d1-1));have dn:=uj hn hgH hg0 (by omega) (by omega) (by omega);rw[ge hg0 e1]at dn;have dd:=uj hd hgH hg0 (by omega) (by omega) (by omega);rw[ge hg0 e2]at dd;have hc:=gB b1 b2 (k:=17179869184) (by omega);have sn:=lu bn (by omega) (by omega) hc;have sd:=lu bd (by omega) (by omega) hc;have cL:(U d1)[0]?=some (⟨((Alg.sz d1-1:Nat):Int),0,0,0⟩,lc d1):=by rw[hL];rfl
 have e3:=hzU d;rw[aj hd0]at e3;rw[<-f1]at sn;rw[<-f2]at sd;refine ak (fn:=Tryz.f116) (by rfl) rfl rfl rfl (by rfl) ?_;simp -dsimp -implicitDefEqProofs only[go_sem,e3,af];refine aa hG rfl ?_;simp -dsimp -implicitDefEqProofs only[go_sem];refine aa dn rfl ?_;simp -dsimp -implicitDefEqProofs only[go_sem];refine aa dd rfl ?_;simp -dsimp -implicitDefEqProofs only[go_sem];refine ao (by rfl) 7 [11] false true (by rfl) (by rfl) (by decide +kernel) ?_;simp -dsimp -implicitDefEqProofs only[go_sem];refine an (cY 1 (by decide)) ?_;simp -dsimp -implicitDefEqProofs only[go_sem,Int.reduceToNat,Int.reduceLE,ag];refine av cL ?_;simp -dsimp -implicitDefEqProofs only[go_sem,Int.reduceToNat,Int.reduceLE,ag];refine ar (args':=[iQ 1,iQ (lc d1)]) rfl (vH 1 _ hl0 mS (gB (bd.coef _).1 (bd.coef _).2 (by omega))) ?_;simp -dsimp -implicitDefEqProofs only[go_sem];refine ao (by rfl) 7 [] false true (by rfl) (by rfl) (by decide +kernel) ?_;simp -dsimp -implicitDefEqProofs only[go_sem,Int.reduceToNat,Int.reduceLE,ag];refine aa sn rfl ?_;simp -dsimp -implicitDefEqProofs only[go_sem,Int.reduceToNat,Int.reduceLE,ag];refine aa sd rfl ?_;simp -dsimp -implicitDefEqProofs only[go_sem,Int.reduceToNat,Int.reduceLE,ag]
theorem Lh {n d:PQ} {h N w:Nat} (hd0:d≠0) (hn:Alg.HB h n) (hd:Alg.HB h d) (tn:Alg.sz n<=N) (td:Alg.sz d<=N) (hN:N<=250000) (hf:FB w (Alg.fr n d))
  (hb:(2*(Alg.hN w+h)+1)+(N+2)*((2*(Alg.hN w+h)+1)+1)+2*(2*(Alg.hN w+h)+1)+2*N<=68719476000):Fn Tryz.prog 76 [iUp n,iUp d] [iK (Alg.fr n d)]:=by
 have:=Dm hd0 hn hd tn td hN hf hb;refine ak (fn:=Tryz.f76) (by rfl) rfl rfl rfl (by rfl) ?_;simp -dsimp -implicitDefEqProofs only[go_sem];refine an this ?_;simp -dsimp -implicitDefEqProofs only[go_sem]
theorem Li {n d:PQ} (hd0:d≠0) (hn:Alg.HB 8024009 n) (hd:Alg.HB 8024009 d) (tn:Alg.sz n<=2003) (td:Alg.sz d<=2003) (hf:FW (Alg.fr n d)):Fn Tryz.prog 116 [iUp n,iUp d] [iK (Alg.fr n d),iN 0] :=
 Dm hd0 hn hd tn td (by omega) hf (by rw[HI];omega)
theorem xa {n d:PQ} (hd0:d≠0) (hn:Alg.HB 8024009 n) (hd:Alg.HB 8024009 d) (tn:Alg.sz n<=2003) (td:Alg.sz d<=2003) (hf:FW (Alg.fr n d)):Fn Tryz.prog 76 [iUp n,iUp d] [iK (Alg.fr n d)] :=
 Lh hd0 hn hd tn td (by omega) hf (by rw[HI];omega)
theorem ub:Fn Tryz.prog 75 [] [iUp 1]:=by
 refine ak (fn:=Tryz.f75) (by rfl) rfl rfl rfl (by rfl) ?_;simp -dsimp -implicitDefEqProofs only[go_sem];refine an (cY 1 (by decide)) ?_;simp -dsimp -implicitDefEqProofs only[go_sem];refine ar (args':=[iQ ((1:Int):Rat)]) rfl (ny _ (oo (n:=1) (by decide) _ (by decide))) ?_;simp -dsimp -implicitDefEqProofs only[go_sem];rw[mH,cH];rfl
theorem vD (N:List Tm):Fn Tryz.prog 49 [iM N] [iF N (U 1)]:=by
 refine ak (fn:=Tryz.f49) (by rfl) rfl rfl rfl (by rfl) ?_;simp -dsimp -implicitDefEqProofs only[go_sem];refine an ub ?_;simp -dsimp -implicitDefEqProofs only[go_sem]
theorem vE (n:PQ):Fn Tryz.prog 49 [iUp n] [iK (Alg.em n)]:=by
 have:=vD (U n);rwa [L9]at this
theorem Fb (c:Rat):fL c=U (Alg.C c):=by
 rw[fL];split
 ·rename_i h;rw[h,show Alg.C (0:Rat)=0 from cu,bR]
 ·rename_i h;rw[U_C h]
noncomputable abbrev kz (n:Int):KQ:=Alg.em (Alg.C (n:Rat))
theorem BY (c:Rat) (hc:QB 8589934592 c):Fn Tryz.prog 114 [iQ c] [iK (Alg.em (Alg.C c))]:=by
 have h1:=ny c hc;rw[Fb]at h1;refine ak (fn:=Tryz.f114) (by rfl) rfl rfl rfl (by rfl) ?_;simp -dsimp -implicitDefEqProofs only[go_sem];refine aa h1 rfl ?_;simp -dsimp -implicitDefEqProofs only[go_sem];refine an (vE _) ?_;simp -dsimp -implicitDefEqProofs only[go_sem]
theorem gO (n:Int) (h : -9223372036854775808<=n/\n<9223372036854775808):Fn Tryz.prog 73 [iN n] [iK (kz n)]:=by
 refine ak (fn:=Tryz.f73) (by rfl) rfl rfl rfl (by rfl) ?_;simp -dsimp -implicitDefEqProofs only[go_sem];refine an (cY n h) ?_;simp -dsimp -implicitDefEqProofs only[go_sem];refine ar (args':=[iQ (n:Rat)]) rfl (BY (n:Rat) (oo h _ (by decide))) ?_;simp -dsimp -implicitDefEqProofs only[go_sem]
theorem Iz:Fn Tryz.prog 47 [iN 0] [iK (Alg.em Alg.X)]:=by
 have h1:=gV 0 (by omega);rw[show[((e0.to 0 1:Ex),(1:Rat))]=U Alg.X from U_X.symm]at h1;refine ak (fn:=Tryz.f47) (by rfl) rfl rfl rfl (by rfl) ?_;simp -dsimp -implicitDefEqProofs only[go_sem];refine aa h1 rfl ?_;simp -dsimp -implicitDefEqProofs only[go_sem];refine an (vE _) ?_;simp -dsimp -implicitDefEqProofs only[go_sem]
theorem oi {p q:PQ} {h k:Nat} (hp:Alg.HB h p) (hq:Alg.HB k q) (hb:h<=137438953000) (hb':k<=137438953000) (sp:Alg.sz p<=1048576):Fn Tryz.prog 93 [iUp p,iUp q] [iB (decide (p=q))]:=by
 have:=qq (U p) (U q) (by have:=cJ p;omega) (HB.qb hp (by omega)) (HB.qb hq (by omega));have e:decide (U p=U q)=decide (p=q):=by
  rw[decide_eq_decide];exact⟨fun h=>by rw[<-gy p,<-gy q,h],fun h=>by rw[h]⟩
 rwa [e]at this
theorem ui {f g:KQ} (hf:FW f) (hg:FW g):Fn Tryz.prog 87 [iK f,iK g] [iB (decide (f=g))]:=by
 obtain⟨a1,a2,a3,a4⟩:=dG hf;obtain⟨b1,b2,b3,b4⟩:=dG hg;refine ak (fn:=Tryz.f87) (by rfl) rfl rfl rfl (by rfl) ?_;simp -dsimp -implicitDefEqProofs only[go_sem,Int.reduceToNat,Int.reduceLE,ag];refine aa (oi a1 b1 (by omega) (by omega) (by omega)) rfl ?_;by_cases h:nN f=nN g
 ·rw[ai h];simp -dsimp -implicitDefEqProofs only[go_sem,Int.reduceToNat,Int.reduceLE,ag];refine aa (oi a2 b2 (by omega) (by omega) (by omega)) rfl ?_;simp -dsimp -implicitDefEqProofs only[go_sem];have e:decide (Alg.nD f=Alg.nD g)=decide (f=g):=by
   rw[decide_eq_decide,Pc];exact⟨fun h'=>⟨h,h'⟩,fun h'=>h'.2⟩
  rw[e]
 ·rw[aj h];simp -dsimp -implicitDefEqProofs only[go_sem];rw[aj (fun e=>h (Pc.1 e).1)]
theorem Fr {f g:KQ} (hf:FW f) (hg:FW g):Fn Tryz.prog 41 [iK f,iK g] [iB (decide (f=g))]:=by
 refine ak (fn:=Tryz.f41) (by rfl) rfl rfl rfl (by rfl) ?_;simp -dsimp -implicitDefEqProofs only[go_sem];refine aa (ui hf hg) rfl ?_;simp -dsimp -implicitDefEqProofs only[go_sem]
theorem qn (f:KQ):Fn Tryz.prog 34 [iK f] [iB (decide (f=0))]:=by
 refine ak (fn:=Tryz.f34) (by rfl) rfl rfl rfl (by rfl) ?_;have e:decide (((U (nN f)).length:Int)=0)=decide (f=0):=by rw[hzU,decide_eq_decide,mr]
 simp -dsimp -implicitDefEqProofs only[go_sem,af,Int.reduceToNat,Int.reduceLE,ag,e]
theorem zx {f:KQ} (hf:FW f):Fn Tryz.prog 40 [iK f] [iK (-f)]:=by
 obtain⟨a1,a2,a3,a4⟩:=dG hf;have sc:=lu (c:=((-1:Int):Rat)) a1 (by omega) (by omega) (oo (n := -1) (by decide) _ (by decide));rw[show nN f*Alg.C ((-1:Int):Rat) = -nN f by rw[show Alg.C ((-1:Int):Rat) = -(1:PQ)from kC (1:Rat),mul_neg,mul_one],<-(ww f).1]at sc;have e:iF (U (nN (-f))) (U (Alg.nD f))=iK (-f):=by rw[<-(ww f).2]
 refine ak (fn:=Tryz.f40) (by rfl) rfl rfl rfl (by rfl) ?_;simp -dsimp -implicitDefEqProofs only[go_sem];refine ao (by rfl) 7 [] false true (by rfl) (by rfl) (by decide +kernel) ?_;simp -dsimp -implicitDefEqProofs only[go_sem,Int.reduceToNat,Int.reduceLE,ag];refine an (cY (-1) (by decide)) ?_;simp -dsimp -implicitDefEqProofs only[go_sem,Int.reduceToNat,Int.reduceLE,ag];refine aa sc rfl ?_;simp -dsimp -implicitDefEqProofs only[go_sem,Int.reduceToNat,Int.reduceLE,ag];exact congrArg (fun x=>some [x]) e
theorem ug {f g:KQ} (hf:FW f) (hg:FW g) (h:FW (f*g)):Fn Tryz.prog 37 [iK f,iK g] [iK (f*g)]:=by
 obtain⟨a1,a2,a3,a4⟩:=dG hf;obtain⟨b1,b2,b3,b4⟩:=dG hg;have d1:=(cw f).1;have d2:=(cw g).1;have e:f*g=Alg.fr (nN f*nN g) (Alg.nD f*Alg.nD g):=by
  conv=>lhs;rw[<-eJ f,<-eJ g]
  exact dZ d1 d2
 have s1:=aM (nN f) (nN g);have s2:=aM (Alg.nD f) (Alg.nD g);have of:=xa (aE d1 d2) ((a1.mul b1).mono (by omega)) ((a2.mul b2).mono (by omega)) (by omega) (by omega) (by rw[<-e];exact h);rw[<-e]at of;refine ak (fn:=Tryz.f37) (by rfl) rfl rfl rfl (by rfl) ?_;simp -dsimp -implicitDefEqProofs only[go_sem];refine ao (by rfl) 11 [] false true (by rfl) (by rfl) (by decide +kernel) ?_;simp -dsimp -implicitDefEqProofs only[go_sem,Int.reduceToNat,Int.reduceLE,ag];refine aa (dM a1 b1 (by omega) (by omega) (by omega)) rfl ?_;simp -dsimp -implicitDefEqProofs only[go_sem,Int.reduceToNat,Int.reduceLE,ag];refine aa (dM a2 b2 (by omega) (by omega) (by omega)) rfl ?_;simp -dsimp -implicitDefEqProofs only[go_sem,Int.reduceToNat,Int.reduceLE,ag];refine an of ?_;simp -dsimp -implicitDefEqProofs only[go_sem]
theorem IF {f g:KQ} (hf:FW f) (hg:FW g) (hg0:g≠0) (h:FW (f*Alg.inv g)):Fn Tryz.prog 118 [iK f,iK g] [iK (f*Alg.inv g),iN 0]:=by
 obtain⟨a1,a2,a3,a4⟩:=dG hf;obtain⟨b1,b2,b3,b4⟩:=dG hg;have d1:=(cw f).1;have d2:=(cw g).1;have n2:nN g≠0:=fun e=>hg0 (mr.1 e);have e:f*Alg.inv g=Alg.fr (nN f*Alg.nD g) (Alg.nD f*nN g):=by
  conv=>lhs;rw[<-eJ f,<-eJ g,wI n2 d2]
  exact dZ d1 n2
 have s1:=aM (nN f) (Alg.nD g);have s2:=aM (Alg.nD f) (nN g);have of:=Li (aE d1 n2) ((a1.mul b2).mono (by omega)) ((a2.mul b1).mono (by omega)) (by omega) (by omega) (by rw[<-e];exact h);rw[<-e]at of;refine ak (fn:=Tryz.f118) (by rfl) rfl rfl rfl (by rfl) ?_;simp -dsimp -implicitDefEqProofs only[go_sem];refine ao (by rfl) 13 [] false true (by rfl) (by rfl) (by decide +kernel) ?_;simp -dsimp -implicitDefEqProofs only[go_sem,Int.reduceToNat,Int.reduceLE,ag];refine aa (dM a1 b2 (by omega) (by omega) (by omega)) rfl ?_;simp -dsimp -implicitDefEqProofs only[go_sem,Int.reduceToNat,Int.reduceLE,ag];refine aa (dM a2 b1 (by omega) (by omega) (by omega)) rfl ?_;simp -dsimp -implicitDefEqProofs only[go_sem,Int.reduceToNat,Int.reduceLE,ag];refine an of ?_;simp -dsimp -implicitDefEqProofs only[go_sem]
theorem Ft {f g:KQ} (hf:FW f) (hg:FW g) (hg0:g≠0) (h:FW (f*Alg.inv g)):Fn Tryz.prog 78 [iK f,iK g] [iK (f*Alg.inv g)]:=by
 refine ak (fn:=Tryz.f78) (by rfl) rfl rfl rfl (by rfl) ?_;simp -dsimp -implicitDefEqProofs only[go_sem];refine aa (IF hf hg hg0 h) rfl ?_;simp -dsimp -implicitDefEqProofs only[go_sem]
theorem un {f g:KQ} (hf:FW f) (hg:FW g) (h:FW (f+g)):Fn Tryz.prog 46 [iK f,iK g] [iK (f+g)]:=by
 obtain⟨a1,a2,a3,a4⟩:=dG hf;obtain⟨b1,b2,b3,b4⟩:=dG hg;have d1:=(cw f).1;have d2:=(cw g).1;have e:f+g=Alg.fr (nN f*Alg.nD g+nN g*Alg.nD f) (Alg.nD f*Alg.nD g):=by
  conv=>lhs;rw[<-eJ f,<-eJ g]
  rw[fq d1 d2]
 have s1:=aM (nN f) (Alg.nD g);have s2:=aM (nN g) (Alg.nD f);have s3:=aM (Alg.nD f) (Alg.nD g);have s4:Alg.sz (nN f*Alg.nD g+nN g*Alg.nD f)<=2003:=cT (by omega) (by omega);have of:=xa (aE d1 d2) (((a1.mul b2).add (b1.mul a2)).mono (by omega)) ((a2.mul b2).mono (by omega)) s4 (by omega) (by rw[<-e];exact h);rw[<-e]at of;refine ak (fn:=Tryz.f46) (by rfl) rfl rfl rfl (by rfl) ?_;simp -dsimp -implicitDefEqProofs only[go_sem];refine ao (by rfl) 17 [] false true (by rfl) (by rfl) (by decide +kernel) ?_;simp -dsimp -implicitDefEqProofs only[go_sem,Int.reduceToNat,Int.reduceLE,ag];refine aa (dM a1 b2 (by omega) (by omega) (by omega)) rfl ?_;simp -dsimp -implicitDefEqProofs only[go_sem,Int.reduceToNat,Int.reduceLE,ag];refine aa (dM b1 a2 (by omega) (by omega) (by omega)) rfl ?_;simp -dsimp -implicitDefEqProofs only[go_sem,Int.reduceToNat,Int.reduceLE,ag];refine an (IG (a1.mul b2) (b1.mul a2) (by omega) (by omega) (by omega) (by omega)) ?_;simp -dsimp -implicitDefEqProofs only[go_sem,Int.reduceToNat,Int.reduceLE,ag];refine aa (dM a2 b2 (by omega) (by omega) (by omega)) rfl ?_;simp -dsimp -implicitDefEqProofs only[go_sem,Int.reduceToNat,Int.reduceLE,ag];refine an of ?_;simp -dsimp -implicitDefEqProofs only[go_sem]
end Go.AM
