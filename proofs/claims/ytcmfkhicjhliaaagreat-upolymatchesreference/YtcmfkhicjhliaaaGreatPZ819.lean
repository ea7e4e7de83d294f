/- Lemmas, part 20 of 23. No condition. -/
import Derived.Test.YtcmfkhicjhliaaaGreatPZ818
set_option maxRecDepth 65536
set_option linter.unusedSimpArgs false
set_option linter.unusedVariables false
set_option linter.unusedSectionVars false
namespace Go.AM
open Alg
open Go.Proofs
theorem E1 (v d:Int) (hd:0<=d/\d<4294967296):((v % 2147483647*4294967296 % 18446744073709551616+d % 18446744073709551616) % 18446744073709551616).tmod 2147483647=(d+4294967296*v) % 2147483647:=by
 have e1:v % 2147483647*4294967296 % 18446744073709551616=v % 2147483647*4294967296:=aw;have e2:d % 18446744073709551616=d:=aw;have e3:(v % 2147483647*4294967296+d) % 18446744073709551616=v % 2147483647*4294967296+d:=aw;rw[e1,e2,e3,Int.tmod_eq_emod_of_nonneg aw];omega
theorem DY (z:Int) (hz:(lb z).length<=17179869184):Fn Tryz.prog 202 [iZ z] [iz (af z)]:=by
 have hm:=oB z;refine aJ (fn:=Tryz.f202) ?_;simp -dsimp only[go_sem]
 repeat(refine And.intro aw ?_)
 refine be [(3,4),(9,22)] [] [] (fun n τ β ε=>∃ j:Nat,n=j/\j<=(lb z).length/\τ 4 = .i (iN ((j:Int)-1))/\τ 3 = .i (.c (.v (.int .u64 (val ((lb z).drop j) % 2147483647)))))
  (fun e τ β ε=>e = .exit 0/\τ 3 = .i (.c (.v (.int .u64 ((z.natAbs:Int) % 2147483647))))) (lb z).length ?_ ?_ ?_
 ·exact⟨(lb z).length,rfl,ay _,by simp -dsimp only[go_sem,az],by simp -dsimp only[go_sem];rw[List.drop_length];rfl⟩
 ·rintro n τ β ε π hK hKB hKE ⟨j,hn,hj,h4,h3⟩;have k1:τ 1 = .bp 1 1 0:=(hK 1 rfl).trans rfl;have b1:β 1=⟨1,eZ z⟩:=(hKB 1 rfl).trans rfl;by_cases hj0:j=0
  ·subst hj0;have dA:decide ((0:Int)<=((0:Nat):Int)-1)=false:=rfl;simp -dsimp only[go_sem,h4,dA];rw[List.drop_zero,bC]at h3;exact⟨(aA hK),hKB,hKE,h3⟩
  ·obtain⟨i,rfl⟩:∃ i,j=i+1:=⟨j-1,aw⟩;have ei:((i+1:Nat):Int)-1=(i:Int):=aw;rw[ei]at h4;have dA:decide ((0:Int)<=(i:Int))=true:=aF aw;have gi:(lb z)[i]?=some (lb z)[i]:=aD aw;unfold eZ kY at b1;simp -dsimp only[go_sem,h4,h3,k1,b1,dA,Int.reduceToNat,Int.reduceLE,aC];refine aQ gi ?_;simp -dsimp only[go_sem,bF,h4,h3]
   repeat(refine And.intro aw ?_)
   refine again i aw ⟨(aA hK),hKB,hKE,i,rfl,aw,rfl,?_⟩;simp -dsimp only[go_sem];rw[E1 _ _ ((bU z).get aw),<-cd (l:=lb z) (i:=i) aw]
 ·rintro e τ β ε π hK hKB hKE ⟨rfl,h3⟩;have k1:τ 1 = .bp 1 1 0:=(hK 1 rfl).trans rfl;have b1:β 1=⟨1,eZ z⟩:=(hKB 1 rfl).trans rfl;unfold eZ kY at b1;by_cases hz0:z<0
  ·have e1:decide (z<0)=true:=aF hz0;rw[e1]at b1;by_cases hr:(z.natAbs:Int) % 2147483647=0
   ·have e0:decide ((0:Int)<0)=false:=rfl;rw[hr]at h3;simp -dsimp only[go_sem,h3,k1,b1,e0,Int.reduceToNat,Int.reduceLE,aC];rw[iz,hm,show z % 2147483647=0 by omega]
   ·have e2:decide (0<(z.natAbs:Int) % 2147483647)=true:=aF aw;simp -dsimp only[go_sem,h3,k1,b1,e2,Int.reduceToNat,Int.reduceLE,aC];rw[iz,hm,show(2147483647-(z.natAbs:Int) % 2147483647) % 18446744073709551616=z % 2147483647 by omega]
  ·have e1:decide (z<0)=false:=aG hz0;rw[e1]at b1;simp -dsimp only[go_sem,h3,k1,b1,Int.reduceToNat,Int.reduceLE,aC];rw[iz,hm,show(z.natAbs:Int) % 2147483647=z % 2147483647 by omega]
theorem nY (a:Zp) (n:Nat) (hn:n<9223372036854775808):Fn Tryz.prog 203 [iz a,iN n] [iz (Alg.pw a n)]:=by
 refine aJ (fn:=Tryz.f203) ?_;simp -dsimp only[go_sem];refine be [(0,1),(5,20)] [] [] (fun m τ β ε=>∃(b o:Zp) (k:Nat),m=k/\k<=n/\Alg.pw a n=o*Alg.pw b k/\τ 0 = .i (iz b)/\τ 1 = .i (iN k)/\τ 5 = .i (iz o))
  (fun e τ β ε=>e = .exit 0/\τ 5 = .i (iz (Alg.pw a n))) n ?_ ?_ ?_
 ·exact⟨a,1,n,rfl,ay _,(one_mul _).symm,rfl,rfl,rfl⟩
 ·rintro m τ β ε π hK hKB hKE ⟨b,o,k,hm,hk,he,h0,h1,h5⟩;by_cases hk0:k=0
  ·have hA:decide ((0:Int)<(k:Int))=false:=aG aw;simp -dsimp only[go_sem,h1,hA];refine⟨(aA hK),hKB,hKE,?_⟩;rw[h5,he,hk0];show AV.i (iz o)=AV.i (iz (o*1));rw[mul_one]
  ·have hA:decide ((0:Int)<(k:Int))=true:=aF aw;have em:(k:Int).tmod 2=((k % 2:Nat):Int):=by rw[Int.tmod_eq_emod_of_nonneg aw];omega
   have ed:(k:Int).tdiv 2=((k/2:Nat):Int):=by rw[Int.tdiv_eq_ediv_of_nonneg aw];omega
   have e1:decide (((k % 2:Nat):Int)=1)=decide (k % 2=1):=by rw[decide_eq_decide];omega
   by_cases h2:k % 2=1
   ·rw[aF h2]at e1;simp -dsimp only[go_sem,h1,hA,em,ed,e1,h5,h0,zmul]
    repeat(refine And.intro aw ?_)
    refine again (k/2) aw ⟨(aA hK),hKB,hKE,b*b,o*b,k/2,rfl,aw,?_,rfl,rfl,rfl⟩;rw[he,C8 b k,if_pos h2,mul_assoc]
   ·rw[aG h2]at e1;simp -dsimp only[go_sem,h1,hA,em,ed,e1,h5,h0,zmul]
    repeat(refine And.intro aw ?_)
    refine again (k/2) aw ⟨(aA hK),hKB,hKE,b*b,o,k/2,rfl,aw,?_,rfl,rfl,h5⟩;rw[he,C8 b k,if_neg h2,one_mul]
 ·rintro e τ β ε π hK hKB hKE ⟨rfl,h5⟩;simp -dsimp only[go_sem,h5]
theorem s6 {a:Zp} (h:a≠0):∃ v:Zp,v*a=1/\Fn Tryz.prog 203 [iz a,iN 2147483645] [iz v]:=by
 exact⟨_,AF h,nY a 2147483645 aw⟩
noncomputable def zli (r:PZ):List Zp:=(List.range (aa r)).map r.c
theorem lj (r:PZ):(zli r).length=aa r:=by simp[zli]
theorem Nb {l:List Zp} (h:TrZ l):zli (zp l)=l:=by
 refine List.ext_getElem (by rw[lj,kD h]) fun i h1 h2=>?_;rw[<-mg h2];simp[zli]
theorem Od {rows:List (List C)} {R:List Zp} (hrow:oJ rows R):rows.take R.length=R.map zr:=by
 refine List.ext_getElem? fun j=>?_;rw[List.getElem?_take,List.getElem?_map];split
 ·rename_i hj;rw[hrow j hj,aD hj];rfl
 ·rename_i hj;rw[List.getElem?_eq_none aw];rfl
set_option maxHeartbeats 1600000 in
theorem Jl {a b:List Zp} (ha0:0<a.length) (hb0:0<b.length) (ta:TrZ a) (tb:TrZ b) (la:a.length<=1048576) (lb':b.length<=1048576):Fn Tryz.prog 170 [zl a,zl b] [zl (zli (rm (zp a) (zp b)))]:=by
 have eb:(b.length:Int)-1=((b.length-1:Nat):Int):=aw;have gb:b[b.length-1]?=some b[b.length-1]:=aD aw;have hne:(a.map zr).isEmpty=false:=by cases a with|nil=>simp at ha0|cons _ _=>rfl
 obtain⟨v,hv,hpw⟩:=s6 (tb hb0);refine aJ (fn:=Tryz.f170) ?_;simp -dsimp only[go_sem,eb,az,hne];refine⟨CN a,aw,aw,?_⟩;refine aQ gb ?_;simp -dsimp only[go_sem,zr];refine ao hpw rfl ?_;simp -dsimp only[go_sem];have hb':zp b≠0:=fun e=>by
  have:=kD tb;rw[e,aM.2 rfl]at this;omega
 refine br [(5,5),(7,9),(20,81)] [] [(12,12)] (fun n τ' β' ε'=>∃(R:List Zp) (rows:List (List C)) (s:PZ),n=R.length/\TrZ R/\R.length<=a.length/\zp a=s*zp b+zp R/\oJ rows R/\τ' 5 = .sl 12 1 R.length/\ε' 12=⟨1,1,rows,true,true⟩)
  (fun e τ' β' ε'=>e = .exit 0/\∃(R:List Zp) (rows:List (List C)) (s:PZ),R.length<b.length/\TrZ R/\zp a=s*zp b+zp R/\oJ rows R/\τ' 5 = .sl 12 1 R.length/\ε' 12=⟨1,1,rows,true,true⟩) a.length ?_ ?_ ?_
 ·exact⟨a,a.map zr,0,rfl,ta,ay _,by rw[zero_mul,zero_add],oJ.of a,by simp -dsimp only[go_sem],by simp -dsimp only[go_sem,hne]⟩
 ·rintro n2 τ2 β2 ε2 π2 hK2 hKB2 hKE2 ⟨R,rows,s,hn2,tR,hRl,hRe,hrow,h5,h22⟩;have q1:τ2 1 = .i (zl b):=(hK2 1 rfl).trans rfl;have q6:τ2 6 = .i (iz v):=(hK2 6 rfl).trans rfl;by_cases hlt:b.length<=R.length
  ·have hA2:decide ((b.length:Int)<=(R.length:Int))=true:=aF aw;have eR:(R.length:Int)-1=((R.length-1:Nat):Int):=aw;have eat:(R.length:Int)-(b.length:Int)=((R.length-b.length:Nat):Int):=aw;have hR0:0<R.length:=aw;simp -dsimp only[go_sem,h5,q1,q6,hA2,eR,eat,az,h22]
   repeat(refine And.intro aw ?_)
   refine⟨_,hrow (R.length-1) aw,?_⟩;simp -dsimp only[go_sem,zr,zmul,h5,q1,q6,eat,az,h22]
   repeat(refine And.intro aw ?_)
   refine br [(9,9),(39,64)] [] [(12,12)] (fun n τ' β' ε'=>∃(i:Nat) (rows':List (List C)),n=b.length-i/\i<=b.length/\τ' 9 = .i (iN i)/\oJ rows' (lC R b (R[R.length-1]*v) (R.length-b.length) i)/\ε' 12=⟨1,1,rows',true,true⟩)
    (fun e τ' β' ε'=>e = .exit 2/\∃(rows':List (List C)),oJ rows' (lC R b (R[R.length-1]*v) (R.length-b.length) b.length)/\ε' 12=⟨1,1,rows',true,true⟩) b.length ?_ ?_ ?_
   ·exact⟨0,rows,aw,aw,rfl,by rw[vB];exact hrow,h22⟩
   ·rintro n3 τ3 β3 ε3 π3 hK3 hKB3 hKE3 ⟨i,rows',hn3,hi,h51,hrow',h22'⟩;have r1:τ3 1 = .i (zl b):=(hK3 1 rfl).trans q1;have r5:τ3 5 = .sl 12 1 R.length:=(hK3 5 rfl).trans h5;have r7:τ3 7 = .i (iz (R[R.length-1]*v)):=by rw[hK3 7 aH];simp -dsimp only[go_sem,zmul]
    have r8:τ3 8 = .i (iN ((R.length-b.length:Nat):Int)):=by rw[hK3 8 aH];simp -dsimp only[go_sem,eat]
    by_cases hlt3:i<b.length
    ·have hA3:decide ((i:Int)<(b.length:Int))=true:=aF aw;have gbi:b[i]?=some b[i]:=by simp[hlt3]
     have ead:((R.length-b.length:Nat):Int)+(i:Int)=((R.length-b.length+i:Nat):Int):=aw;have hji:R.length-b.length+i<R.length:=aw;have hr:rows'[R.length-b.length+i]?=some (zr R[R.length-b.length+i]):=by
      have:=hrow' (R.length-b.length+i) (by rw[fZ];exact hji);rw[gJ,if_neg aw]at this;rw[this];simp[List.getD,hji]
     simp -dsimp only[go_sem,h51,r1,hA3,az];refine ap 20 [] false true ?_;simp -dsimp only[go_sem,h51,r1,r5,r7,r8,ead,h22']
     repeat(refine And.intro aw ?_)
     refine⟨_,hr,?_⟩;simp -dsimp only[go_sem,zr,h51,r1,r5,r7,r8,ead,h22'];refine aQ gbi ?_;simp -dsimp only[go_sem,zr,zsub,h51,r1,r5,r7,r8,ead,h22']
     repeat(refine And.intro aw ?_)
     refine⟨_,hr,?_⟩;simp -dsimp only[go_sem,zr,h51]
     repeat(refine And.intro aw ?_)
     refine again (b.length-(i+1)) aw ⟨(aA hK3),hKB3,(aA hKE3),i+1,rows'.set (R.length-b.length+i) (zr (R[R.length-b.length+i] + -b[i]*(R[R.length-1]*v))),rfl,aw,rfl,yT hlt3 aw hrow',?_⟩;simp -dsimp only[go_sem,h22'];rfl
    ·have hA3:decide ((i:Int)<(b.length:Int))=false:=aG aw;obtain rfl:i=b.length:=aw;simp -dsimp only[go_sem,h51,r1,hA3,az];exact⟨(aA hK3),hKB3,hKE3,rows',hrow',h22'⟩
   ·rintro e τ3 β3 ε3 π3 hK3 hKB3 hKE3 ⟨rfl,rows',hrow',h22'⟩;refine⟨_,bA.refl _,?_⟩;have r5:τ3 5 = .sl 12 1 R.length:=(hK3 5 rfl).trans h5;have kO:=Kp.step2 hK2 hK3 (by intro n;simp[inR]<;>omega) (aA hK2);have kB:=Kp.step2 hKB2 hKB3 (by intro n;simp[inR]) hKB2;have kE:=Kp.step2 hKE2 hKE3 (by intro n;simp[inR]) hKE2;have hz:=Gm (R:=R) (b:=b) (R[R.length-1]*v) (at':=R.length-b.length) aw;have hlast:∀(h:R.length-1<(lC R b (R[R.length-1]*v) (R.length-b.length) b.length).length),(lC R b (R[R.length-1]*v) (R.length-b.length) b.length)[R.length-1]=0:=fun h=>by
     rw[gJ,if_pos aw,show R.length-1-(R.length-b.length)=b.length-1 by omega];rw[show R.getD (R.length-1) 0=R[R.length-1]from mg aw,show b.getD (b.length-1) 0=b[b.length-1]from mg aw];have e9 : -b[b.length-1]*(R[R.length-1]*v) = -(R[R.length-1]*(v*b[b.length-1])):=by rw[neg_mul,dC,mul_comm b[b.length-1] v]
     rw[e9,hv,mul_one,jq]
    generalize hR':lC R b (R[R.length-1]*v) (R.length-b.length) b.length=R' at *
    have lR':R'.length=R.length:=by rw[<-hR',fZ]
    simp -dsimp only[go_sem];refine br [(5,5),(65,81)] [] [] (fun n τ' β' ε'=>∃ t:Nat,n=t/\t<=R'.length/\(∀ j (hj:j<R'.length),t<=j->R'[j]=0)/\τ' 5 = .sl 12 1 t)
     (fun e τ' β' ε'=>e = .exit 4/\∃ t:Nat,t<=R'.length/\(∀ j (hj:j<R'.length),t<=j->R'[j]=0)/\(∀ h:t-1<R'.length,0<t->R'[t-1]≠0)/\τ' 5 = .sl 12 1 t) R'.length ?_ ?_ ?_
    ·exact⟨R'.length,rfl,ay _,fun j hj h=>by omega,by rw[lR'];exact r5⟩
    ·rintro n4 τ4 β4 ε4 π4 hK4 hKB4 hKE4 ⟨t,hn4,ht,hzero,h5'⟩;have s22:ε4 12=⟨1,1,rows',true,true⟩:=by rw[hKE4 12 aH];exact h22'
     by_cases ht0:t=0
     ·have hA4:decide ((0:Int)<(t:Int))=false:=aG aw;simp -dsimp only[go_sem,h5',s22,hA4];exact⟨(aA hK4),hKB4,hKE4,t,ht,hzero,fun _ h=>by omega,rfl⟩
     ·have hA4:decide ((0:Int)<(t:Int))=true:=aF aw;have et:(t:Int)-1=((t-1:Nat):Int):=aw;have hr4:=hrow' (t-1) aw;simp -dsimp only[go_sem,h5',s22,hA4,et]
      repeat(refine And.intro aw ?_)
      refine⟨_,hr4,?_⟩;simp -dsimp only[go_sem,zr];by_cases hz4:R'[t-1]=0
      ·have e4:decide (((R'[t-1].val:Nat):Int)=0)=true:=aF (by rw[hz4];rfl);simp -dsimp only[go_sem,e4,h5',s22,et]
       repeat(refine And.intro aw ?_)
       refine again (t-1) aw ⟨(aA hK4),hKB4,hKE4,t-1,rfl,aw,fun j hj h=>?_,rfl⟩;by_cases e:j=t-1
       ·subst e;exact hz4
       ·exact hzero j hj aw
      ·have hv0:R'[t-1].val≠0:=fun h=>hz4 (li h);have e4:decide (((R'[t-1].val:Nat):Int)=0)=false:=aG aw;simp -dsimp only[go_sem,e4];exact⟨(aA hK4),hKB4,hKE4,t,ht,hzero,fun _ _=>hz4,h5'⟩
    ·rintro e τ4 β4 ε4 π4 hK4 hKB4 hKE4 ⟨rfl,t,ht,hzero,hnz,h5'⟩;refine⟨_,bA.refl _,?_⟩;have kO2:=Kp.step2 kO hK4 (by intro n;simp[inR]<;>omega) (aA kO);have kB2:=Kp.step2 kB hKB4 (by intro n;simp[inR]) kB;have kE2:=Kp.step2 kE hKE4 (by intro n;simp[inR]) kE;have s22:ε4 12=⟨1,1,rows',true,true⟩:=by rw[hKE4 12 aH];exact h22'
     have htl:t<R.length:=by
      rcases Nat.lt_or_ge t R.length with h|h
      ·exact h
      ·have e5:t=R.length:=aw;refine absurd ?_ (hnz aw aw);have:=hlast aw;simpa only[e5]using this
     have lt':(R'.take t).length=t:=by simp;omega
     simp -dsimp only[go_sem];refine again t aw ⟨(aA kO2),kB2,kE2,R'.take t,rows',s+mon (R.length-b.length) (R[R.length-1]*v),lt'.symm,fun h=>?_,aw,?_,fun j hj=>?_,by rw[lt'];exact h5',s22⟩
     ·rw[List.getElem_take];simp only[lt']at h ⊢;exact hnz aw h
     ·rw[CM hzero,hz,hRe,add_mul,sub_eq];rw[add_assoc,add_comm (zp R),<-add_assoc (mon _ _*zp b),jq,zero_add]
     ·rw[List.getElem_take];exact hrow' j (by simp at hj;omega)
  ·have hA2:decide ((b.length:Int)<=(R.length:Int))=false:=aG aw;simp -dsimp only[go_sem,h5,q1,hA2,az,h22];exact⟨(aA hK2),hKB2,hKE2,R,rows,s,aw,tR,hRe,hrow,rfl,rfl⟩
 ·rintro e τ2 β2 ε2 π2 hK2 hKB2 hKE2 ⟨rfl,R,rows,s,hlt,tR,hRe,hrow,h5,h22⟩;refine⟨_,bA.refl _,?_⟩;have hrm:rm (zp a) (zp b)=zp R:=C5 hb' hRe (by rw[kD tR,kD tb];exact hlt);simp -dsimp only[go_sem,h5,h22,Od hrow];rw[hrm,Nb tR]
end Go.AM
namespace Go.AM
open Alg
open Go.Proofs
open Classical
set_option maxHeartbeats 1600000 in
theorem oM {p:PQ} {h:Nat} (hp:am h p) (hb:h<=137438953000) (hp0:p≠0) (sp:aa p<=1048576) (a:Nat) (ha:a<=1000000):Fn Tryz.prog 169 [iUp p,iN 0,.c (.v (.int .u64 (a:Int)))] (qF p):=by
 have h0:=aV hp0;have es:(aa p:Int)-1+1=(aa p:Int):=aw;have hUl:=dc p;refine aJ (fn:=Tryz.f169) ?_;simp -dsimp only[go_sem];refine aK (gg p sp) ?_;simp -dsimp only[go_sem,es,Int.toNat_natCast]
 repeat(refine And.intro aw ?_)
 refine br [(6,7),(9,13),(19,83)] [] [(18,18)] (fun n τ β ε=>∃(i:Nat) (rows:List (List C)),n=(U p).length-i/\i<=(U p).length/\τ 9 = .i (iN i)/\ε 18=⟨1,1,rows,true,true⟩ /\
   (∀ j,j<aa p->rows[j]?=some (zr (seen p ((U p).take i) j)))/\∀ t∈(U p).take i,af (t.2.den)≠0)
  (fun e τ β ε=>(e = .exit 0/\ua p/\∃ rows:List (List C),ε 18=⟨1,1,rows,true,true⟩/\∀ j,j<aa p->rows[j]?=some (zr (rq (p.c j)))) \/
   (e = .ret/\¬ ua p/\τ 6 = .fl []/\τ 7 = .i (.c (.v (.bool false))))) (U p).length ?_ ?_ ?_
 ·refine⟨0,List.replicate (aa p) [.v (.int .u64 0)],aw,aw,rfl,rfl,fun j hj=>?_,au⟩;rw[seen,if_neg au];simp[hj];rfl
 ·rintro n τ β ε π hK hKB hKE ⟨i,rows,hn,hi,h9,h19,hrows,hgood⟩;have k0:τ 0 = .i (iUp p):=(hK 0 rfl).trans rfl;have k8:τ 8 = .sl 18 1 (aa p):=(hK 8 rfl).trans rfl;have k1:τ 1 = .i (iN 0):=(hK 1 rfl).trans rfl;have k2:τ 2 = .i (.c (.v (.int .u64 (a:Int)))):=(hK 2 rfl).trans rfl;by_cases hlt:i<(U p).length
  ·have hA:decide ((i:Int)<((U p).length:Int))=true:=aF aw;obtain⟨e,he,het,hec⟩:=ns (List.getElem_mem hlt);have hg:(U p)[i]?=some (⟨(e:Int),0,0,0⟩,p.c e):=by rw[aD hlt,het]
   have hbd:=hp.coef e;simp -dsimp only[go_sem,h9,k0,hA,az];refine aQ hg ?_;simp -dsimp only[go_sem,h9,k0,Int.reduceToNat,Int.reduceLE,aC];refine aO (args':=[iZ ((p.c e).den:Int)]) rfl (DY _ (ax (qD (z:=((p.c e).den:Int)) (by simpa using hbd.2)) aw)) ?_;by_cases hd:af ((p.c e).den:Int)=0
   ·have e1:decide ((((af ((p.c e).den:Int)).val:Nat):Int)=0)=true:=aF (by rw[hd];rfl);simp -dsimp only[go_sem,e1];exact⟨(aA hK),hKB,hKE,fun hgd=>hgd e he hd⟩
   ·have hv0:(af ((p.c e).den:Int)).val≠0:=fun h=>hd (li h);have e1:decide ((((af ((p.c e).den:Int)).val:Nat):Int)=0)=false:=aG aw;obtain⟨v,hv,hpw⟩:=s6 hd;have hrq:af (p.c e).num*v=rq (p.c e):=by
     rw[rq];congr 1;exact pB (by rw[mul_comm];exact hv)
    simp -dsimp only[go_sem,e1,h9,k0,Int.reduceToNat,Int.reduceLE,aC];refine aQ hg ?_;simp -dsimp only[go_sem,e1,h9,k0,Int.reduceToNat,Int.reduceLE,aC];refine aO (args':=[iZ (p.c e).num]) rfl (DY _ (ax (qD hbd.1) aw)) ?_;simp -dsimp only[go_sem];refine ao hpw rfl ?_;simp -dsimp only[go_sem,zmul,hrq]
    repeat(refine And.intro aw ?_)
    refine be [(11,12),(45,66)] [] [] (fun n τ' β' ε'=>∃ w:Nat,n=4-w/\w<=4/\τ' 12 = .i (iN w)/\τ' 11 = .i (iz (rq (p.c e))))
     (fun e' τ' β' ε'=>e' = .exit 2/\τ' 11 = .i (iz (rq (p.c e)))) 4 ?_ ?_ ?_
    ·exact⟨0,rfl,aw,rfl,rfl⟩
    ·rintro n2 τ2 β2 ε2 π2 hK2 hKB2 hKE2 ⟨w,hn2,hw,h42,q11⟩;have q1:τ2 1 = .i (iN 0):=(hK2 1 rfl).trans k1;have q2:τ2 2 = .i (.c (.v (.int .u64 (a:Int)))):=(hK2 2 rfl).trans k2;have q0:τ2 0 = .i (iUp p):=(hK2 0 rfl).trans k0;have q9:τ2 9 = .i (iN i):=(hK2 9 rfl).trans h9;obtain rfl|rfl|rfl|rfl|rfl:w=0\/w=1\/w=2\/w=3\/w=4:=aw
     ·have h42':τ2 12 = .i (iN 0):=h42;simp -dsimp only[go_sem,h42',q1,q2,q11,q0,q9,Int.reduceLT,decide_true,decide_false,Int.reduceEq]
      repeat(refine And.intro aw ?_)
      refine again (4-1) aw ⟨(aA hK2),hKB2,hKE2,1,rfl,aw,rfl,q11⟩
     ·have h42':τ2 12 = .i (iN 1):=h42;simp -dsimp only[go_sem,h42',q1,q2,q11,q0,q9,Int.reduceLT,Int.reduceEq,decide_true,decide_false,Int.reduceToNat];refine aQ hg ?_;simp -dsimp only[go_sem,h42',q1,q2,q11,q0,q9,Int.reduceToNat,Int.reduceLE,aC];refine aO (args':=[iz ⟨a+1,aw⟩,iN 0]) ?_ (nY ⟨a+1,aw⟩ 0 aw) ?_
      ·rw[show((a:Int)+1 % 18446744073709551616) % 18446744073709551616=((a+1:Nat):Int)by omega]
      simp -dsimp only[go_sem,zmul,h42',q11]
      repeat(refine And.intro aw ?_)
      refine again (4-2) aw ⟨(aA hK2),hKB2,hKE2,2,rfl,aw,rfl,?_⟩;simp -dsimp only[go_sem];rw[show Alg.pw (⟨a+1,aw⟩:Zp) 0=1 from rfl,mul_one]
     ·have h42':τ2 12 = .i (iN 2):=h42;simp -dsimp only[go_sem,h42',q1,q2,q11,q0,q9,Int.reduceLT,Int.reduceEq,decide_true,decide_false,Int.reduceToNat];refine aQ hg ?_;simp -dsimp only[go_sem,h42',q1,q2,q11,q0,q9,Int.reduceToNat,Int.reduceLE,aC];refine aO (args':=[iz ⟨a+2,aw⟩,iN 0]) ?_ (nY ⟨a+2,aw⟩ 0 aw) ?_
      ·rw[show((a:Int)+2 % 18446744073709551616) % 18446744073709551616=((a+2:Nat):Int)by omega]
      simp -dsimp only[go_sem,zmul,h42',q11]
      repeat(refine And.intro aw ?_)
      refine again (4-3) aw ⟨(aA hK2),hKB2,hKE2,3,rfl,aw,rfl,?_⟩;simp -dsimp only[go_sem];rw[show Alg.pw (⟨a+2,aw⟩:Zp) 0=1 from rfl,mul_one]
     ·have h42':τ2 12 = .i (iN 3):=h42;simp -dsimp only[go_sem,h42',q1,q2,q11,q0,q9,Int.reduceLT,Int.reduceEq,decide_true,decide_false,Int.reduceToNat];refine aQ hg ?_;simp -dsimp only[go_sem,h42',q1,q2,q11,q0,q9,Int.reduceToNat,Int.reduceLE,aC];refine aO (args':=[iz ⟨a+3,aw⟩,iN 0]) ?_ (nY ⟨a+3,aw⟩ 0 aw) ?_
      ·rw[show((a:Int)+3 % 18446744073709551616) % 18446744073709551616=((a+3:Nat):Int)by omega]
      simp -dsimp only[go_sem,zmul,h42',q11]
      repeat(refine And.intro aw ?_)
      refine again (4-4) aw ⟨(aA hK2),hKB2,hKE2,4,rfl,aw,rfl,?_⟩;simp -dsimp only[go_sem];rw[show Alg.pw (⟨a+3,aw⟩:Zp) 0=1 from rfl,mul_one]
     ·have h42':τ2 12 = .i (iN 4):=h42;simp -dsimp only[go_sem,h42',Int.reduceLT,decide_false];exact⟨(aA hK2),hKB2,hKE2,q11⟩
    ·rintro e' τ2 β2 ε2 π2 hK2 hKB2 hKE2 ⟨rfl,q11⟩;have r8:τ2 8 = .sl 18 1 (aa p):=(hK2 8 rfl).trans k8;have r1:τ2 1 = .i (iN 0):=(hK2 1 rfl).trans k1;have r0:τ2 0 = .i (iUp p):=(hK2 0 rfl).trans k0;have r9:τ2 9 = .i (iN i):=(hK2 9 rfl).trans h9;have f18:ε2 18=⟨1,1,rows,true,true⟩:=by rw[hKE2 18 aH];exact h19
     have kO:=Kp.step2 hK hK2 (by intro n;simp[inR]<;>omega) (aA hK);have kB:=Kp.step2 hKB hKB2 (by intro n;simp[inR]) hKB;have kE:=Kp.step2 hKE hKE2 (by intro n;simp[inR]) hKE;have hs0:seen p ((U p).take i) e=0:=by
      rw[seen,if_neg];rintro ⟨t,ht,hte⟩;obtain⟨j,hj,rfl⟩:=List.getElem_of_mem ht;simp only[List.length_take]at hj;rw[List.getElem_take]at hte;have h5:=(List.pairwise_iff_getElem.1 (ja p).srt) j i aw hlt aw;rw[jG ((ja p).uv _ (List.getElem_mem _)) ((ja p).uv _ (List.getElem_mem _)),het]at h5;simp only at h5;omega
     have hr0:=hrows e he;rw[hs0]at hr0;have hse:∀ j,seen p ((U p).take (i+1)) j=if j=e then rq (p.c e)else seen p ((U p).take i) j:=fun j=>by
      rw[aq hlt,het,seen,seen];by_cases hj:j=e
      ·subst hj;rw[if_pos ⟨_,by simp;right;rfl,rfl⟩,if_pos rfl]
      ·rw[if_neg hj];congr 1;refine propext ⟨?_,fun⟨t,ht,h5⟩=>⟨t,by simp[ht],h5⟩⟩;rintro ⟨t,ht,h5⟩;rcases List.mem_append.1 ht with ht|ht
       ·exact⟨t,ht,h5⟩
       ·simp at ht;subst ht;simp only at h5;omega
     simp -dsimp only[go_sem,r0,r9,r1,r8,q11,f18,Int.reduceToNat,Int.reduceLE,aC];refine aQ hg ?_;simp -dsimp only[go_sem,r0,r9,r1,r8,q11,f18,Int.reduceToNat,Int.reduceLE,aC,Int.toNat_natCast];refine⟨he,_,hr0,?_⟩;simp -dsimp only[go_sem,zr,zadd,zadd',r0,r9,r1,r8,q11,f18,Int.reduceToNat,Int.reduceLE,aC,Int.toNat_natCast];refine⟨aw,he,_,hr0,?_⟩;simp -dsimp only[go_sem,r9,zr]
     repeat(refine And.intro aw ?_)
     refine again ((U p).length-(i+1)) aw ⟨(aA kO),kB,(aA kE),i+1,rows.set e (zr (0+rq (p.c e))),rfl,aw,rfl,by simp -dsimp only[go_sem,f18];rfl,fun j hj=>?_,fun t ht=>?_⟩
     ·rw[List.getElem?_set,hse];by_cases hje:e=j
      ·subst hje;rw[if_pos rfl,if_pos (List.getElem?_eq_some_iff.1 hr0).1,if_pos rfl,zero_add];rfl
      ·rw[if_neg hje,if_neg (fun h=>hje h.symm)];exact hrows j hj
     ·rw[aq hlt,het]at ht;rcases List.mem_append.1 ht with ht|ht
      ·exact hgood t ht
      ·simp at ht;subst ht;exact hd
  ·have hA:decide ((i:Int)<((U p).length:Int))=false:=aG aw;obtain rfl:i=(U p).length:=aw;rw[List.take_length]at hrows hgood;simp -dsimp only[go_sem,h9,k0,hA,az];refine⟨(aA hK),hKB,hKE,?_,rows,h19,?_⟩
   ·intro j hj;by_cases hc:p.c j=0
    ·rw[hc];decide
    ·exact hgood _ (Ji hc)
   ·intro j hj;rw[<-yE p j];exact hrows j hj
 ·rintro e τ β ε π hK hKB hKE h;refine⟨_,bA.refl _,?_⟩;rcases h with⟨rfl,hg,rows,h19,hrows⟩|⟨rfl,hg,h6,h7⟩
  ·have k8:τ 8 = .sl 18 1 (aa p):=(hK 8 rfl).trans rfl;have el:(aa p:Int)-1=((aa p-1:Nat):Int):=aw;simp -dsimp only[go_sem,k8];refine ap 10 [] false true ?_;simp -dsimp only[go_sem,k8,h19,el]
   repeat(refine And.intro aw ?_)
   refine⟨_,hrows (aa p-1) aw,?_⟩;simp -dsimp only[go_sem,zr];have htake:rows.take (aa p)=(fg p).map zr:=by
    refine List.ext_getElem? fun j=>?_;rw[List.getElem?_take,List.getElem?_map];split
    ·rename_i hj;rw[hrows j hj,aD (by rw[dX];exact hj)];simp[fg]
    ·rename_i hj;rw[List.getElem?_eq_none (by rw[dX];omega)];rfl
   have hnz:(!decide ((((rq (p.c (aa p-1))).val:Nat):Int)=0))=decide (rq (lc p)≠0):=by
    rw[show lc p=p.c (aa p-1)from rfl];by_cases h0:rq (p.c (aa p-1))=0
    ·rw[h0];rfl
    ·have h1:(rq (p.c (aa p-1))).val≠0:=fun h=>h0 (li h);rw[aF h0,aG aw];rfl
   rw[qF,if_pos hg,htake,hnz]
  ·simp -dsimp only[go_sem,h6,h7];rw[qF,if_neg hg]
noncomputable def rbnd (p q:PQ):Int:=if fu p/\fu q then(aa (euc (fg q).length (zp (fg p)) (zp (fg q))):Int)-1 else(aa p:Int)-1
theorem Nc (r:PZ):TrZ (zli r):=fun h=>by
 rw[lj]at h;have e:(zli r)[(zli r).length-1]=r.c (aa r-1):=by simp[zli]
 rw[e];exact j7 aw
theorem Na (r:PZ):zp (zli r)=r:=Alg.P.ext fun i=>by
 by_cases h:i<aa r
 ·rw[mg (by rw[lj];exact h)];simp[zli]
 ·rw[oX (by rw[lj];omega),aP aw]
set_option maxHeartbeats 1600000 in
theorem uM {p q:PQ} {h k:Nat} (hp:am h p) (hq:am k q) (hb:h<=137438953000) (hb':k<=137438953000) (hp0:p≠0) (hq0:q≠0) (sp:aa p<=1048576) (sq:aa q<=1048576):Fn Tryz.prog 134 [iUp p,iUp q,iN 0] [iN (rbnd p q)]:=by
 have hp1:=aV hp0;have hq1:=aV hq0;refine aJ (fn:=Tryz.f134) ?_;simp -dsimp only[go_sem];refine be [(6,47)] [] [] (fun n τ β ε=>∃ i:Nat,n=3-i/\i<=3/\τ 7 = .i (iN ((17+100*i:Nat):Int))/\(1<=i->¬ (fu p/\fu q)))
  (fun e τ β ε=>(e = .exit 0/\¬ (fu p/\fu q))\/(e = .ret/\τ 6 = .i (iN (rbnd p q)))) 3 ?_ ?_ ?_
 ·exact⟨0,aw,aw,rfl,fun h=>by omega⟩
 ·rintro n τ β ε π hK hKB hKE ⟨i,hn,hi,h7,hbad⟩;have k0:τ 0 = .i (iUp p):=(hK 0 rfl).trans rfl;have k1:τ 1 = .i (iUp q):=(hK 1 rfl).trans rfl;have k2:τ 2 = .i (iN 0):=(hK 2 rfl).trans rfl;by_cases hlt:i<3
  ·have hA:decide (((17+100*i:Nat):Int)<300)=true:=aF aw;have ea:((17+100*i:Nat):Int) % 18446744073709551616=((17+100*i:Nat):Int):=aw;simp -dsimp only[go_sem,h7,k0,k1,k2,hA,ea];refine aK (oM hp hb hp0 sp (17+100*i) aw) ?_;by_cases g1:fu p
   ·rw[jx g1];simp -dsimp only[go_sem,h7,k1,k2,ea];refine aK (oM hq hb' hq0 sq (17+100*i) aw) ?_;by_cases g2:fu q
    ·rw[jx g2];have lx:=dX p;have ly:=dX q;simp -dsimp only[go_sem];refine be [(8,8),(10,10),(38,44)] [] [] (fun n τ' β' ε'=>∃ x y:List Zp,n=y.length/\0<x.length/\TrZ x/\TrZ y/\x.length<=1048576/\y.length<=1048576/\euc (fg q).length (zp (fg p)) (zp (fg q))=euc y.length (zp x) (zp y)/\τ' 8 = .i (zl x)/\τ' 10 = .i (zl y))
      (fun e τ' β' ε'=>e = .exit 2/\∃ x:List Zp,0<x.length/\x.length<=1048576/\TrZ x/\euc (fg q).length (zp (fg p)) (zp (fg q))=zp x/\τ' 8 = .i (zl x)) (fg q).length ?_ ?_ ?_
     ·exact⟨fg p,fg q,rfl,aw,tY g1.2,tY g2.2,aw,aw,rfl,rfl,rfl⟩
     ·rintro n2 τ2 β2 ε2 π2 hK2 hKB2 hKE2 ⟨x,y,hn2,x0,tx,ty,sx,sy,he,h8,h10⟩;by_cases hy:0<y.length
      ·have dA:decide ((0:Int)<(y.length:Int))=true:=aF aw;have hy':zp y≠0:=fun e=>by
        have:=kD ty;rw[e,aM.2 rfl]at this;omega
       obtain⟨s,e1,e2⟩:=Hf (zp x) hy';rw[kD ty]at e2;simp -dsimp only[go_sem,h8,h10,dA,az];refine ao (Jl x0 hy tx ty sx sy) rfl ?_;simp -dsimp only[go_sem];refine again (zli (rm (zp x) (zp y))).length (by rw[lj];omega) ⟨(aA hK2),hKB2,hKE2,y,zli (rm (zp x) (zp y)),rfl,hy,ty,Nc _,sy,by rw[lj];omega,?_,by simp -dsimp only[go_sem,h10],(by simp -dsimp only[go_sem];try rfl)⟩
       rw[he,Na,lj];obtain⟨m,hm⟩:∃ m,y.length=m+1:=⟨y.length-1,aw⟩;rw[hm];simp only[euc];rw[if_neg hy'];exact uj _ _ _ _ (ay _) aw
      ·have dA:decide ((0:Int)<(y.length:Int))=false:=aG aw;simp -dsimp only[go_sem,h10,dA,az];refine⟨(aA hK2),hKB2,hKE2,x,x0,sx,tx,?_,h8⟩;rw[he,show y.length=0 by omega];rfl
     ·rintro e τ2 β2 ε2 π2 hK2 hKB2 hKE2 ⟨rfl,x,x0,sx,tx,he,h8⟩;have kO:=Kp.step2 hK hK2 (by intro n;simp[inR]<;>omega) (aA hK);have kB:=Kp.step2 hKB hKB2 (by intro n;simp[inR]) hKB;have kE:=Kp.step2 hKE hKE2 (by intro n;simp[inR]) hKE;simp -dsimp only[go_sem,h8,az]
      repeat(refine And.intro aw ?_)
      have:rbnd p q=(x.length:Int)-1:=by rw[rbnd,if_pos ⟨g1,g2⟩,he,kD tx]
      rw[this]
    ·obtain⟨L,hL⟩:=kU g2;rw[hL];simp -dsimp only[go_sem,h7]
     repeat(refine And.intro aw ?_)
     exact again (3-(i+1)) aw ⟨(aA hK),hKB,hKE,i+1,rfl,aw,by simp -dsimp only[go_sem];refine congrArg (fun z=>AV.i (.c (.v (.int .i64 z)))) ?_;omega,fun _ h=>g2 h.2⟩
   ·obtain⟨L,hL⟩:=kU g1;rw[hL];simp -dsimp only[go_sem,h7,k1,k2,ea];refine aK (oM hq hb' hq0 sq (17+100*i) aw) ?_;obtain⟨M,b,hM⟩:∃(M:List Zp) (b:Bool),qF q=[zl M,iB b]:=by
     by_cases g2:fu q
     ·exact⟨_,_,jx g2⟩
     ·obtain⟨M,hM⟩:=kU g2;exact⟨M,_,hM⟩
    rw[hM];simp -dsimp only[go_sem,h7]
    repeat(refine And.intro aw ?_)
    exact again (3-(i+1)) aw ⟨(aA hK),hKB,hKE,i+1,rfl,aw,by simp -dsimp only[go_sem];refine congrArg (fun z=>AV.i (.c (.v (.int .i64 z)))) ?_;omega,fun _ h=>g1 h.1⟩
  ·have hA:decide (((17+100*i:Nat):Int)<300)=false:=aG aw;simp -dsimp only[go_sem,h7,hA];exact⟨(aA hK),hKB,hKE,hbad aw⟩
 ·rintro e τ β ε π hK hKB hKE h;rcases h with⟨rfl,hbad⟩|⟨rfl,h6⟩
  ·have k0:τ 0 = .i (iUp p):=(hK 0 rfl).trans rfl;have k2:τ 2 = .i (iN 0):=(hK 2 rfl).trans rfl;simp -dsimp only[go_sem,k0,k2];refine aK (gg p sp) ?_;simp -dsimp only[go_sem];rw[rbnd,if_neg hbad]
  ·simp -dsimp only[go_sem,h6]
theorem Hm {p q:PQ} (hp:2<=aa p) (hq:2<=aa q) (hle:aa q<=aa p) (h:rbnd p q=0):Cop p q:=by
 refine DO hp hq ?_;rw[rbnd]at h;by_cases g:fu p/\fu q
 ·rw[if_pos g]at h;rw[bnd,if_pos g,pG,if_neg (by rw[dX,dX];omega)];exact h
 ·rw[if_neg g]at h;omega
def x7 (n d p q:PQ):Prop:=(∃ a b:Rat,a≠0/\b≠0/\p=an a*n/\q=an b*d)\/∃ s t s' t',Row n d p s t q s' t'
theorem yI {n d p q:PQ} {k:Nat} (hk':am k p) (hk:am k q) (hc:x7 n d p q) (hq:q≠0) (hle:aa q<=aa p) :
  (∃ s t s' t',Row n d q s t (psr q (aa p) p) s' t')/\aa (psr q (aa p) p)<aa q/\(∃(c:Rat) (S:PQ),c≠0/\an c*p=S*q+psr q (aa p) p)/\am (k+aa p*(k+1)) (psr q (aa p) p):=by
 obtain⟨_,h2,_,h4,c,S,h5,h6⟩:=mS hq hk (aa p) p k (ay _) hk';refine⟨?_,h2 hle,⟨c,S,h5,h6⟩,h4⟩;have hlt:=h2 hle;generalize psr q (aa p) p=r at *
 rcases hc with⟨a,b,ha,hb,rfl,rfl⟩|⟨s,t,s',t',row⟩
 ·rw[bX hb]at hlt;rw[bX hb,bX ha]at hle;have hd:d≠0:=fun e=>hq (by rw[e,mul_zero]);have e:an (c*a)*n=(S*an b)*d+r:=by rw[bH,mul_assoc,h6,mul_assoc]
  have:=(Row.first (a7 h5 ha) hd hle e hlt).scale hb (b:=(1:Rat)) aH
  rw[cu,one_mul,one_mul,one_mul]at this;exact⟨_,_,_,_,this⟩
 ·exact⟨_,_,_,_,row.next h5 hq h6 hlt⟩
theorem vT {n d q r s t s' t':PQ} (row:Row n d q s t r s' t') (hr:r≠0):x7 n d q (ag r):=by
 rcases pO hr row with⟨h1,h2⟩|h
 ·have:=row.scale (a:=(1:Rat)) (b:=Alg.inv (lc r)) aH (ft (bP hr));rw[cu,one_mul,one_mul,one_mul]at this;exact .inr ⟨_,_,_,_,this⟩
 ·exact .inr h
theorem rY {g x y:PQ} (hx:x≠0) (hy:y≠0) (h:IsG g (ag x) (ag y)):IsG g x y:=(tU hx (tU hy h).symm).symm
theorem kg {g g' x y:PQ} (h:IsG g x y) (h':IsG g' x y):ag g=ag g':=by
 have h1:=rZ h;have h2:=rZ h';exact h1.trans h2.symm
theorem kf:ag (1:PQ)=1:=yY (oD (R:=Rat) 1)
theorem tF {p:PQ} (h:aa p=1):ag p=1:=by
 have h1:=fI (Nat.le_of_eq h);have h2:p.c 0≠0:=fun e=>by
  rw[e,show an (0:Rat)=0 from cS]at h1;rw[h1,aM.2 rfl]at h;omega
 rw[h1,ag,oD,<-bH,cV h2];rfl
theorem Dy {x y g:PQ} (hx:x≠0) (hy:y≠0) (hle:aa (ag y)<=aa (ag x)) (hbig:2<=aa (ag x)) (h:rbnd (ag x) (ag y)=0) (hg:IsG g x y):ag g=ag 1:=by
 refine kg hg ?_;by_cases hy2:2<=aa (ag y)
 ·exact rY hx hy ⟨Dv.one _,Dv.one _,Hm hbig hy2 hle h⟩
 ·have h1:=aV (je hy);have h2:ag y=1:=by rw[<-PS,tF aw]
  refine rY hx hy ?_;rw[h2];exact⟨Dv.one _,Dv.refl _,fun x _ hx=>hx⟩
set_option maxHeartbeats 1600000 in
theorem Ak {n d g:PQ} {w h N:Nat} (hs:Sm w n d) (Hn:am h n) (Hd:am h d) (n0:n≠0) (d0:d≠0) (hnd:¬ (aa n=1/\aa d=1)) (tn:aa n<=N) (td:aa d<=N) (hN:N<=250000) (hgnd:IsG g n d)
  (hb:(2*(ah w+h)+1)+(N+2)*((2*(ah w+h)+1)+1)+2*(2*(ah w+h)+1)+2*N<=68719476000):Fn Tryz.prog 94 [iUp n,iUp d] [iUp (ag g)]:=by
 have hgdn:=hgnd.symm;have n1:=aV n0;have d1:=aV d0;have Hnm:=Hn.mo;have Hdm:=Hd.mo;have sn:aa (ag n)=aa n:=fP;have sd:aa (ag d)=aa d:=fP;have e1:=hzU n;rw[aG n0]at e1;have e2:=hzU d;rw[aG d0]at e2;have tp:=DW n0 d0 aw aw;rw[if_neg hnd]at tp;have g11:kW 1 1=(1:PQ):=by rw[kW,if_neg fK,if_neg fK]
 have base:=nv (p:=1) (q:=1) (dm 0) (dm 0) aw aw (by rw[cD];omega) (by rw[cD];omega) (.inr (.inr ⟨cD,cD⟩));rw[g11]at base;refine aJ (fn:=Tryz.f94) ?_;simp -dsimp only[go_sem,e1,e2,az];refine ao tp rfl ?_;simp -dsimp only[go_sem,Int.reduceLT,decide_false];refine ao (md Hn aw n0 aw) rfl ?_;simp -dsimp only[go_sem];refine ao (md Hd aw d0 aw) rfl ?_;simp -dsimp only[go_sem];refine aK base ?_;simp -dsimp only[go_sem];refine ao (gX Hn aw aw) rfl ?_;simp -dsimp only[go_sem];refine aK (cC Hn aw aw) ?_;simp -dsimp only[go_sem];refine ao (gX Hd aw aw) rfl ?_;simp -dsimp only[go_sem];refine aK (cC Hd aw aw) ?_;simp -dsimp only[go_sem];refine aK (gg _ aw) ?_;simp -dsimp only[go_sem];refine aK (gg _ aw) ?_;by_cases hlt:aa n<aa d
 ·have e3:decide ((aa (ag n):Int)-1<(aa (ag d):Int)-1)=true:=aF aw;have hle:aa (ag n)<=aa (ag d):=aw;have hbig:2<=aa (ag d):=aw;simp -dsimp only[go_sem,e3];refine ao (uM Hdm Hnm aw aw (je d0) (je n0) aw aw) rfl ?_;by_cases hr:rbnd (ag d) (ag n)=0
  ·have e5:decide (rbnd (ag d) (ag n)=0)=true:=aF hr;simp -dsimp only[go_sem,e5];refine aK (cC (dm 0) aw (by rw[cD];omega)) ?_;simp -dsimp only[go_sem];rw[kf,<-kf,Dy d0 n0 hle hbig hr hgdn]
  ·have e5:decide (rbnd (ag d) (ag n)=0)=false:=aG hr;simp -dsimp only[go_sem,e5];refine be [(7,10),(58,72)] [] [] (fun m τ β ε=>∃ p q:PQ,m=aa q/\p≠0/\aa p<=N/\am (2*(ah w+h)+1) p/\am (2*(ah w+h)+1) q/\(q≠0->x7 d n p q/\aa q<=aa p)/\aa q<=N/\(∀ g,IsG g p q->IsG g d n)/\τ 7 = .i (iUp p)/\τ 8 = .i (iUp q))
    (fun e τ β ε=>e = .exit 0/\∃ p:PQ,p≠0/\aa p<=N/\am (2*(ah w+h)+1) p/\IsG p d n/\τ 7 = .i (iUp p)) (aa (ag n)) ?_ ?_ ?_
   ·exact⟨ag d,ag n,rfl,je d0,aw,Hdm.mono aw,Hnm.mono aw,fun _=>⟨.inl ⟨_,_,ft (bP d0),ft (bP n0),rfl,rfl⟩,aw⟩,aw,fun g hg=>rY d0 n0 hg,rfl,rfl⟩
   ·rintro m τ β ε π hK hKB hKE ⟨p,q,hm,hp0,hpN,hp,hq,hc,hqN,hG,h7,h8⟩;have k5:τ 5 = .i (iN 0):=(hK 5 rfl).trans rfl;by_cases hq0:q=0
    ·have dA:decide ((0:Int)<((U q).length:Int))=false:=aG (by rw[hq0,cp];decide);simp -dsimp only[go_sem,h8,dA,az];refine⟨(aA hK),hKB,hKE,p,hp0,hpN,hp,hG p ?_,h7⟩;rw[hq0];exact⟨Dv.refl _,Dv.zero _,fun x hx _=>hx⟩
    ·obtain⟨hch,hle'⟩:=hc hq0;have hq1:=aV hq0;have dA:decide ((0:Int)<((U q).length:Int))=true:=aF (by obtain⟨R,hR⟩:=fU hq0;rw[hR];simp);obtain⟨⟨s,t,s',t',row⟩,hlt,⟨c,S,hc0,e⟩,hrH⟩:=yI hp hq hch hq0 hle';have hmul:aa p*((2*(ah w+h)+1)+1)<=N*((2*(ah w+h)+1)+1):=Nat.mul_le_mul_right _ hpN;have hmul2:(aa p+2)*((2*(ah w+h)+1)+1)<=(N+2)*((2*(ah w+h)+1)+1):=Nat.mul_le_mul_right _ aw;have hmul3:N*((2*(ah w+h)+1)+1)<=(N+2)*((2*(ah w+h)+1)+1):=Nat.mul_le_mul_right _ aw;simp -dsimp only[go_sem,h7,h8,k5,dA,az];refine aK (rE hp hq hq0 aw aw aw) ?_;simp -dsimp only[go_sem,h7,h8,k5];refine aK (gX hrH aw aw) ?_;simp -dsimp only[go_sem,h7,h8,k5];refine aK (cC hrH aw aw) ?_;simp -dsimp only[go_sem];have hms:aa (ag (psr q (aa p) p))=aa (psr q (aa p) p):=fP;refine again (aa (ag (psr q (aa p) p))) aw ⟨(aA hK),hKB,hKE,q,ag (psr q (aa p) p),rfl,hq0,hqN,hq,?_,fun hr0=>⟨?_,aw⟩,aw,fun g hg=>hG g (mZ hc0 e ?_),rfl,rfl⟩
     ·by_cases hr0:psr q (aa p) p=0
      ·rw[hr0,fL];exact am.zero _
      ·exact rT row hs.symm Hd Hn
     ·have hr1:psr q (aa p) p≠0:=fun e=>hr0 (by rw[e,fL]);exact vT row hr1
     ·by_cases hr0:psr q (aa p) p=0
      ·rw[hr0,fL]at hg;rw[hr0];exact hg
      ·exact tU hr0 hg
   ·rintro e τ β ε π hK hKB hKE ⟨rfl,p,hp0,hpN,hp,hG,h7⟩;have k5:τ 5 = .i (iN 0):=(hK 5 rfl).trans rfl;have k6:τ 6 = .i (iUp 1):=(hK 6 rfl).trans rfl;have hp1:=aV hp0;have hfin:ag g=ag p:=(kg hG hgdn).symm;simp -dsimp only[go_sem,h7,k5];refine aK (gg p aw) ?_;by_cases h1:aa p=1
    ·have e6:decide ((aa p:Int)-1<1)=true:=aF aw;simp -dsimp only[go_sem,e6,k6];refine aK (cC (dm 0) aw (by rw[cD];omega)) ?_;simp -dsimp only[go_sem];rw[hfin,tF h1,kf]
    ·have e6:decide ((aa p:Int)-1<1)=false:=aG aw;simp -dsimp only[go_sem,e6,k6,h7];have mul:=eA (dm 0) hp aw (by rw[cD];omega) aw;rw[one_mul]at mul;refine aK mul ?_;simp -dsimp only[go_sem];refine aK (cC hp aw aw) ?_;simp -dsimp only[go_sem];rw[hfin]
 ·have e3:decide ((aa (ag n):Int)-1<(aa (ag d):Int)-1)=false:=aG aw;have hle:aa (ag d)<=aa (ag n):=aw;have hbig:2<=aa (ag n):=aw;simp -dsimp only[go_sem,e3];refine ao (uM Hnm Hdm aw aw (je n0) (je d0) aw aw) rfl ?_;by_cases hr:rbnd (ag n) (ag d)=0
  ·have e5:decide (rbnd (ag n) (ag d)=0)=true:=aF hr;simp -dsimp only[go_sem,e5];refine aK (cC (dm 0) aw (by rw[cD];omega)) ?_;simp -dsimp only[go_sem];rw[kf,<-kf,Dy n0 d0 hle hbig hr hgnd]
  ·have e5:decide (rbnd (ag n) (ag d)=0)=false:=aG hr;simp -dsimp only[go_sem,e5];refine be [(7,10),(58,72)] [] [] (fun m τ β ε=>∃ p q:PQ,m=aa q/\p≠0/\aa p<=N/\am (2*(ah w+h)+1) p/\am (2*(ah w+h)+1) q/\(q≠0->x7 n d p q/\aa q<=aa p)/\aa q<=N/\(∀ g,IsG g p q->IsG g n d)/\τ 7 = .i (iUp p)/\τ 8 = .i (iUp q))
    (fun e τ β ε=>e = .exit 0/\∃ p:PQ,p≠0/\aa p<=N/\am (2*(ah w+h)+1) p/\IsG p n d/\τ 7 = .i (iUp p)) (aa (ag d)) ?_ ?_ ?_
   ·exact⟨ag n,ag d,rfl,je n0,aw,Hnm.mono aw,Hdm.mono aw,fun _=>⟨.inl ⟨_,_,ft (bP n0),ft (bP d0),rfl,rfl⟩,aw⟩,aw,fun g hg=>rY n0 d0 hg,rfl,rfl⟩
   ·rintro m τ β ε π hK hKB hKE ⟨p,q,hm,hp0,hpN,hp,hq,hc,hqN,hG,h7,h8⟩;have k5:τ 5 = .i (iN 0):=(hK 5 rfl).trans rfl;by_cases hq0:q=0
    ·have dA:decide ((0:Int)<((U q).length:Int))=false:=aG (by rw[hq0,cp];decide);simp -dsimp only[go_sem,h8,dA,az];refine⟨(aA hK),hKB,hKE,p,hp0,hpN,hp,hG p ?_,h7⟩;rw[hq0];exact⟨Dv.refl _,Dv.zero _,fun x hx _=>hx⟩
    ·obtain⟨hch,hle'⟩:=hc hq0;have hq1:=aV hq0;have dA:decide ((0:Int)<((U q).length:Int))=true:=aF (by obtain⟨R,hR⟩:=fU hq0;rw[hR];simp);obtain⟨⟨s,t,s',t',row⟩,hlt,⟨c,S,hc0,e⟩,hrH⟩:=yI hp hq hch hq0 hle';have hmul:aa p*((2*(ah w+h)+1)+1)<=N*((2*(ah w+h)+1)+1):=Nat.mul_le_mul_right _ hpN;have hmul2:(aa p+2)*((2*(ah w+h)+1)+1)<=(N+2)*((2*(ah w+h)+1)+1):=Nat.mul_le_mul_right _ aw;have hmul3:N*((2*(ah w+h)+1)+1)<=(N+2)*((2*(ah w+h)+1)+1):=Nat.mul_le_mul_right _ aw;simp -dsimp only[go_sem,h7,h8,k5,dA,az];refine aK (rE hp hq hq0 aw aw aw) ?_;simp -dsimp only[go_sem,h7,h8,k5];refine aK (gX hrH aw aw) ?_;simp -dsimp only[go_sem,h7,h8,k5];refine aK (cC hrH aw aw) ?_;simp -dsimp only[go_sem];have hms:aa (ag (psr q (aa p) p))=aa (psr q (aa p) p):=fP;refine again (aa (ag (psr q (aa p) p))) aw ⟨(aA hK),hKB,hKE,q,ag (psr q (aa p) p),rfl,hq0,hqN,hq,?_,fun hr0=>⟨?_,aw⟩,aw,fun g hg=>hG g (mZ hc0 e ?_),rfl,rfl⟩
     ·by_cases hr0:psr q (aa p) p=0
      ·rw[hr0,fL];exact am.zero _
      ·exact rT row hs Hn Hd
     ·have hr1:psr q (aa p) p≠0:=fun e=>hr0 (by rw[e,fL]);exact vT row hr1
     ·by_cases hr0:psr q (aa p) p=0
      ·rw[hr0,fL]at hg;rw[hr0];exact hg
      ·exact tU hr0 hg
   ·rintro e τ β ε π hK hKB hKE ⟨rfl,p,hp0,hpN,hp,hG,h7⟩;have k5:τ 5 = .i (iN 0):=(hK 5 rfl).trans rfl;have k6:τ 6 = .i (iUp 1):=(hK 6 rfl).trans rfl;have hp1:=aV hp0;have hfin:ag g=ag p:=(kg hG hgnd).symm;simp -dsimp only[go_sem,h7,k5];refine aK (gg p aw) ?_;by_cases h1:aa p=1
    ·have e6:decide ((aa p:Int)-1<1)=true:=aF aw;simp -dsimp only[go_sem,e6,k6];refine aK (cC (dm 0) aw (by rw[cD];omega)) ?_;simp -dsimp only[go_sem];rw[hfin,tF h1,kf]
    ·have e6:decide ((aa p:Int)-1<1)=false:=aG aw;simp -dsimp only[go_sem,e6,k6,h7];have mul:=eA (dm 0) hp aw (by rw[cD];omega) aw;rw[one_mul]at mul;refine aK mul ?_;simp -dsimp only[go_sem];refine aK (cC hp aw aw) ?_;simp -dsimp only[go_sem];rw[hfin]
theorem zj {n d:PQ} (h:aa n=1\/aa d=1):IsG 1 n d:=by
 have unit:∀ x:PQ,aa x=1->Dv x 1:=fun x hx=>by
  have h3:=fI (Nat.le_of_eq hx);have h4:x.c 0≠0:=fun e9=>by
   rw[e9,show an (0:Rat)=0 from cS]at h3;rw[h3,aM.2 rfl]at hx;omega
  exact⟨an (Alg.inv (x.c 0)),by rw[h3];simp only[nn];rw[<-bH,mul_inv h4];rfl⟩
 refine⟨Dv.one _,Dv.one _,fun x h1 h2=>?_⟩;rcases h with h3|h3
 ·exact h1.trans (unit n h3)
 ·exact h2.trans (unit d h3)
theorem Aj {n d:PQ} {w h N:Nat} (hd0:d≠0) (hn:am h n) (hd:am h d) (tn:aa n<=N) (td:aa d<=N) (hN:N<=250000) (hf:FB w (Alg.fr n d))
  (hb:(2*(ah w+h)+1)+(N+2)*((2*(ah w+h)+1)+1)+2*(2*(ah w+h)+1)+2*N<=68719476000) :
  ∃ g:PQ,IsG g n d/\am (2*(ah w+h)+1) g/\aa g<=aa d/\g≠0/\lc g=1/\Fn Tryz.prog 94 [iUp n,iUp d] [iUp g]:=by
 have p2:=aV hd0;by_cases hn0:n=0
 ·have call:=nv hn hd aw aw aw aw (.inl hn0);rw[kW,if_pos hn0]at call;refine⟨ag d,?_,hd.mo.mono aw,Nat.le_of_eq fP,je hd0,Dn hd0,call⟩;rw[hn0];exact xj hd0 ⟨Dv.zero _,Dv.refl _,fun x _ hx=>hx⟩
 have p1:=aV hn0;have hf0:Alg.fr n d≠0:=fun e=>hn0 ((cB hd0).1 e);have hs:Sm w n d:=by
  obtain⟨A,B,h1,h2,h3,h4,h5,h6⟩:=hf;have hA:A≠0:=fun e=>hf0 (by rw[h2,e,cX];exact(cB (dx h1)).2 rfl);exact⟨A,B,hA,h1,by rw[(fj hd0 (dx h1)).1 h2,mul_comm],h3,h4,h5,h6⟩
 by_cases h11:aa n=1/\aa d=1
 ·have call:=nv hn hd aw aw aw aw (.inr (.inr h11));rw[kW,if_neg hn0,if_neg hd0]at call;exact⟨1,zj (.inl h11.1),dm _,by rw[cD];omega,fK,tO,call⟩
 by_cases hbig:2<=aa n/\2<=aa d
 ·obtain⟨h1,h2,h3,h4⟩:=qi hs hn hd hbig.1 hbig.2;exact⟨_,xj h4 h1,h2.mo,by rw[fP];exact h3,je h4,Dn h4,Ak hs hn hd hn0 hd0 h11 tn td hN h1 hb⟩
 ·have hu:=zj (n:=n) (d:=d) aw;have call:=Ak hs hn hd hn0 hd0 h11 tn td hN hu hb;rw[kf]at call;exact⟨1,hu,dm _,by rw[cD];omega,fK,tO,call⟩
theorem KE {f:KQ} {w:Nat} (h:FB w f):am (ah w) (nN f)/\am (ah w) (ae f)/\aa (nN f)<=w+1/\aa (ae f)<=w+1:=by
 by_cases hf:f=0
 ·rw[hf,lF.1,lF.2,cD,aM.2 rfl];exact⟨am.zero _,dm _,aw,aw⟩
 ·exact xb h hf
theorem DZ {n d:PQ} {h N w:Nat} (hd0:d≠0) (hn:am h n) (hd:am h d) (tn:aa n<=N) (td:aa d<=N) (hN:N<=250000) (hf:FB w (Alg.fr n d))
  (hb:(2*(ah w+h)+1)+(N+2)*((2*(ah w+h)+1)+1)+2*(2*(ah w+h)+1)+2*N<=68719476000):Fn Tryz.prog 116 [iUp n,iUp d] [iK (Alg.fr n d),iN 0]:=by
 obtain⟨zN,zD,_,_⟩:=KE hf;obtain⟨g,hg,hgH,hgs,hg0,hgl,hG⟩:=Aj hd0 hn hd tn td hN hf hb;obtain⟨n1,e1⟩:=hg.1;obtain⟨d1,e2⟩:=hg.2.1;rw[mul_comm]at e1 e2;have hd1:d1≠0:=fun e=>hd0 (by rw[e2,e,zero_mul]);have hl:lc d1=lc d:=by rw[e2,gM,hgl,mul_one]
 have hl0:lc d1≠(0:Rat):=bP hd1;obtain⟨f1,f2⟩:=HQ hd0 hg e1 e2;have back:∀ x:PQ,x=x*an (1/lc d1)*an (lc d1):=fun x=>by
  rw[mul_assoc,<-bH];have:(1:Rat)/lc d1*lc d1=1:=Rat.div_mul_cancel hl0;rw[show((1:Rat)/lc d1*lc d1:Rat)=1 from this,cu,mul_one]
 have hC:am h (an (lc d1)):=by rw[hl];exact ms hd _
 have bn:am (ah w+h) n1:=by rw[back n1,<-f1];exact zN.mul hC
 have bd:am (ah w+h) d1:=by rw[back d1,<-f2];exact zD.mul hC
 have s1:aa n1<=aa n:=by
  by_cases hn1:n1=0
  ·rw[hn1,aM.2 rfl];omega
  ·have:=dy hn1 hg0;rw[<-e1]at this;have:=aV hg0;omega
 have s2:=dy hd1 hg0;rw[<-e2]at s2;have pg:=aV hg0;have hH1:(aa n+2)*((2*(ah w+h)+1)+1)<=(N+2)*((2*(ah w+h)+1)+1):=Nat.mul_le_mul_right _ aw;have hH2:(aa d+2)*((2*(ah w+h)+1)+1)<=(N+2)*((2*(ah w+h)+1)+1):=Nat.mul_le_mul_right _ aw;obtain⟨L,hL⟩:=fU hd1;obtain⟨b1,b2⟩:=jy (x:=1) (h:=0) hl0 ⟨aH,aH⟩ (bd.coef (aa d1-1));have dn:=uK hn hgH hg0 aw aw aw;rw[gP hg0 e1]at dn;have dd:=uK hd hgH hg0 aw aw aw;rw[gP hg0 e2]at dd;have hc:=ia b1 b2 (k:=17179869184) aw;have sn:=l6 bn aw aw hc;have sd:=l6 bd aw aw hc;have cL:(U d1)[0]?=some (⟨((aa d1-1:Nat):Int),0,0,0⟩,lc d1):=by rw[hL];rfl
 have e3:=hzU d;rw[aG hd0]at e3;rw[<-f1]at sn;rw[<-f2]at sd;refine aJ (fn:=Tryz.f116) ?_;simp -dsimp only[go_sem,e3,az];refine ao hG rfl ?_;simp -dsimp only[go_sem];refine ao dn rfl ?_;simp -dsimp only[go_sem];refine ao dd rfl ?_;simp -dsimp only[go_sem];refine ap 7 [11] false true ?_;simp -dsimp only[go_sem];refine aK (dJ 1 aH) ?_;simp -dsimp only[go_sem,Int.reduceToNat,Int.reduceLE,aC];refine aQ cL ?_;simp -dsimp only[go_sem,Int.reduceToNat,Int.reduceLE,aC];refine aO (args':=[iQ 1,iQ (lc d1)]) rfl (wt 1 _ hl0 nw (ia (bd.coef _).1 (bd.coef _).2 aw)) ?_;simp -dsimp only[go_sem];refine ap 7 [] false true ?_;simp -dsimp only[go_sem,Int.reduceToNat,Int.reduceLE,aC];refine ao sn rfl ?_;simp -dsimp only[go_sem,Int.reduceToNat,Int.reduceLE,aC];refine ao sd rfl ?_;simp -dsimp only[go_sem,Int.reduceToNat,Int.reduceLE,aC]
theorem LY {n d:PQ} {h N w:Nat} (hd0:d≠0) (hn:am h n) (hd:am h d) (tn:aa n<=N) (td:aa d<=N) (hN:N<=250000) (hf:FB w (Alg.fr n d))
  (hb:(2*(ah w+h)+1)+(N+2)*((2*(ah w+h)+1)+1)+2*(2*(ah w+h)+1)+2*N<=68719476000):Fn Tryz.prog 76 [iUp n,iUp d] [iK (Alg.fr n d)]:=by
 have:=DZ hd0 hn hd tn td hN hf hb;refine aJ (fn:=Tryz.f76) ?_;simp -dsimp only[go_sem];refine aK this ?_;simp -dsimp only[go_sem]
theorem LZ {n d:PQ} (hd0:d≠0) (hn:am 8024009 n) (hd:am 8024009 d) (tn:aa n<=2003) (td:aa d<=2003) (hf:FW (Alg.fr n d)):Fn Tryz.prog 116 [iUp n,iUp d] [iK (Alg.fr n d),iN 0] :=
 DZ hd0 hn hd tn td aw hf (by rw[Ip];omega)
theorem xJ {n d:PQ} (hd0:d≠0) (hn:am 8024009 n) (hd:am 8024009 d) (tn:aa n<=2003) (td:aa d<=2003) (hf:FW (Alg.fr n d)):Fn Tryz.prog 76 [iUp n,iUp d] [iK (Alg.fr n d)] :=
 LY hd0 hn hd tn td aw hf (by rw[Ip];omega)
theorem uC:Fn Tryz.prog 75 [] [iUp 1]:=by
 refine aJ (fn:=Tryz.f75) ?_;simp -dsimp only[go_sem];refine aK (dJ 1 aH) ?_;simp -dsimp only[go_sem];refine aO (args':=[iQ ((1:Int):Rat)]) rfl (nZ _ (oQ (n:=1) aH _ aH)) ?_;simp -dsimp only[go_sem];rw[nl,du];rfl
theorem wi (N:List Tm):Fn Tryz.prog 49 [iM N] [iF N (U 1)]:=by
 refine aJ (fn:=Tryz.f49) ?_;simp -dsimp only[go_sem];refine aK uC ?_;simp -dsimp only[go_sem]
theorem wj (n:PQ):Fn Tryz.prog 49 [iUp n] [iK (Alg.em n)]:=by
 have:=wi (U n);rwa [MN]at this
theorem FQ (c:Rat):gt c=U (an c):=by
 rw[gt];split
 ·rename_i h;rw[h,show an (0:Rat)=0 from cS,cp]
 ·rename_i h;rw[U_C h]
noncomputable abbrev kz (n:Int):KQ:=Alg.em (an (n:Rat))
theorem Cy (c:Rat) (hc:QB 8589934592 c):Fn Tryz.prog 114 [iQ c] [iK (Alg.em (an c))]:=by
 have h1:=nZ c hc;rw[FQ]at h1;refine aJ (fn:=Tryz.f114) ?_;simp -dsimp only[go_sem];refine ao h1 rfl ?_;simp -dsimp only[go_sem];refine aK (wj _) ?_;simp -dsimp only[go_sem]
theorem fD (n:Int) (h : -9223372036854775808<=n/\n<9223372036854775808):Fn Tryz.prog 73 [iN n] [iK (kz n)]:=by
 refine aJ (fn:=Tryz.f73) ?_;simp -dsimp only[go_sem];refine aK (dJ n h) ?_;simp -dsimp only[go_sem];refine aO (args':=[iQ (n:Rat)]) rfl (Cy (n:Rat) (oQ h _ aH)) ?_;simp -dsimp only[go_sem]
theorem Jj:Fn Tryz.prog 47 [iN 0] [iK (Alg.em ak)]:=by
 have h1:=iA 0 aw;rw[show[((e0.to 0 1:Ex),(1:Rat))]=U ak from U_X.symm]at h1;refine aJ (fn:=Tryz.f47) ?_;simp -dsimp only[go_sem];refine ao h1 rfl ?_;simp -dsimp only[go_sem];refine aK (wj _) ?_;simp -dsimp only[go_sem]
theorem oK {p q:PQ} {h k:Nat} (hp:am h p) (hq:am k q) (hb:h<=137438953000) (hb':k<=137438953000) (sp:aa p<=1048576):Fn Tryz.prog 93 [iUp p,iUp q] [iB (decide (p=q))]:=by
 have:=qP (U p) (U q) (by have:=dc p;omega) (HB.qb hp aw) (HB.qb hq aw);have e:decide (U p=U q)=decide (p=q):=by
  rw[decide_eq_decide];exact⟨fun h=>by rw[<-gw p,<-gw q,h],fun h=>by rw[h]⟩
 rwa [e]at this
theorem uJ {f g:KQ} (hf:FW f) (hg:FW g):Fn Tryz.prog 87 [iK f,iK g] [iB (decide (f=g))]:=by
 obtain⟨a1,a2,a3,a4⟩:=dP hf;obtain⟨b1,b2,b3,b4⟩:=dP hg;refine aJ (fn:=Tryz.f87) ?_;simp -dsimp only[go_sem,Int.reduceToNat,Int.reduceLE,aC];refine ao (oK a1 b1 aw aw aw) rfl ?_;by_cases h:nN f=nN g
 ·rw[aF h];simp -dsimp only[go_sem,Int.reduceToNat,Int.reduceLE,aC];refine ao (oK a2 b2 aw aw aw) rfl ?_;simp -dsimp only[go_sem];have e:decide (ae f=ae g)=decide (f=g):=by
   rw[decide_eq_decide,N4];exact⟨fun h'=>⟨h,h'⟩,fun h'=>h'.2⟩
  rw[e]
 ·rw[aG h];simp -dsimp only[go_sem];rw[aG (fun e=>h (N4.1 e).1)]
theorem F6 {f g:KQ} (hf:FW f) (hg:FW g):Fn Tryz.prog 41 [iK f,iK g] [iB (decide (f=g))]:=by
 refine aJ (fn:=Tryz.f41) ?_;simp -dsimp only[go_sem];refine ao (uJ hf hg) rfl ?_;simp -dsimp only[go_sem]
theorem qM (f:KQ):Fn Tryz.prog 34 [iK f] [iB (decide (f=0))]:=by
 refine aJ (fn:=Tryz.f34) ?_;have e:decide (((U (nN f)).length:Int)=0)=decide (f=0):=by rw[hzU,decide_eq_decide,mV]
 simp -dsimp only[go_sem,az,Int.reduceToNat,Int.reduceLE,aC,e]
theorem Af {f:KQ} (hf:FW f):Fn Tryz.prog 40 [iK f] [iK (-f)]:=by
 obtain⟨a1,a2,a3,a4⟩:=dP hf;have sc:=l6 (c:=((-1:Int):Rat)) a1 aw aw (oQ (n := -1) aH _ aH);rw[show nN f*an ((-1:Int):Rat) = -nN f by rw[show an ((-1:Int):Rat) = -(1:PQ)from lh (1:Rat),mul_neg,mul_one],<-(xc f).1]at sc;have e:iF (U (nN (-f))) (U (ae f))=iK (-f):=by rw[<-(xc f).2]
 refine aJ (fn:=Tryz.f40) ?_;simp -dsimp only[go_sem];refine ap 7 [] false true ?_;simp -dsimp only[go_sem,Int.reduceToNat,Int.reduceLE,aC];refine aK (dJ (-1) aH) ?_;simp -dsimp only[go_sem,Int.reduceToNat,Int.reduceLE,aC];refine ao sc rfl ?_;simp -dsimp only[go_sem,Int.reduceToNat,Int.reduceLE,aC];exact congrArg (fun x=>some [x]) e
theorem uH {f g:KQ} (hf:FW f) (hg:FW g) (h:FW (f*g)):Fn Tryz.prog 37 [iK f,iK g] [iK (f*g)]:=by
 obtain⟨a1,a2,a3,a4⟩:=dP hf;obtain⟨b1,b2,b3,b4⟩:=dP hg;have d1:=(cU f).1;have d2:=(cU g).1;have e:f*g=Alg.fr (nN f*nN g) (ae f*ae g):=by
  conv=>lhs;rw[<-fv f,<-fv g]
  exact eO d1 d2
 have s1:=bg (nN f) (nN g);have s2:=bg (ae f) (ae g);have of:=xJ (a7 d1 d2) ((a1.mul b1).mono aw) ((a2.mul b2).mono aw) aw aw (by rw[<-e];exact h);rw[<-e]at of;refine aJ (fn:=Tryz.f37) ?_;simp -dsimp only[go_sem];refine ap 11 [] false true ?_;simp -dsimp only[go_sem,Int.reduceToNat,Int.reduceLE,aC];refine ao (eA a1 b1 aw aw aw) rfl ?_;simp -dsimp only[go_sem,Int.reduceToNat,Int.reduceLE,aC];refine ao (eA a2 b2 aw aw aw) rfl ?_;simp -dsimp only[go_sem,Int.reduceToNat,Int.reduceLE,aC];refine aK of ?_;simp -dsimp only[go_sem]
theorem Jr {f g:KQ} (hf:FW f) (hg:FW g) (hg0:g≠0) (h:FW (f*Alg.inv g)):Fn Tryz.prog 118 [iK f,iK g] [iK (f*Alg.inv g),iN 0]:=by
 obtain⟨a1,a2,a3,a4⟩:=dP hf;obtain⟨b1,b2,b3,b4⟩:=dP hg;have d1:=(cU f).1;have d2:=(cU g).1;have n2:nN g≠0:=fun e=>hg0 (mV.1 e);have e:f*Alg.inv g=Alg.fr (nN f*ae g) (ae f*nN g):=by
  conv=>lhs;rw[<-fv f,<-fv g,xk n2 d2]
  exact eO d1 n2
 have s1:=bg (nN f) (ae g);have s2:=bg (ae f) (nN g);have of:=LZ (a7 d1 n2) ((a1.mul b2).mono aw) ((a2.mul b1).mono aw) aw aw (by rw[<-e];exact h);rw[<-e]at of;refine aJ (fn:=Tryz.f118) ?_;simp -dsimp only[go_sem];refine ap 13 [] false true ?_;simp -dsimp only[go_sem,Int.reduceToNat,Int.reduceLE,aC];refine ao (eA a1 b2 aw aw aw) rfl ?_;simp -dsimp only[go_sem,Int.reduceToNat,Int.reduceLE,aC];refine ao (eA a2 b1 aw aw aw) rfl ?_;simp -dsimp only[go_sem,Int.reduceToNat,Int.reduceLE,aC];refine aK of ?_;simp -dsimp only[go_sem]
theorem wl {f g:KQ} (hf:FW f) (hg:FW g) (hg0:g≠0) (h:FW (f*Alg.inv g)):Fn Tryz.prog 78 [iK f,iK g] [iK (f*Alg.inv g)]:=by
 refine aJ (fn:=Tryz.f78) ?_;simp -dsimp only[go_sem];refine ao (Jr hf hg hg0 h) rfl ?_;simp -dsimp only[go_sem]
theorem uN {f g:KQ} (hf:FW f) (hg:FW g) (h:FW (f+g)):Fn Tryz.prog 46 [iK f,iK g] [iK (f+g)]:=by
 obtain⟨a1,a2,a3,a4⟩:=dP hf;obtain⟨b1,b2,b3,b4⟩:=dP hg;have d1:=(cU f).1;have d2:=(cU g).1;have e:f+g=Alg.fr (nN f*ae g+nN g*ae f) (ae f*ae g):=by
  conv=>lhs;rw[<-fv f,<-fv g]
  rw[fT d1 d2]
 have s1:=bg (nN f) (ae g);have s2:=bg (nN g) (ae f);have s3:=bg (ae f) (ae g);have s4:aa (nN f*ae g+nN g*ae f)<=2003:=dh aw aw;have of:=xJ (a7 d1 d2) (((a1.mul b2).add (b1.mul a2)).mono aw) ((a2.mul b2).mono aw) s4 aw (by rw[<-e];exact h);rw[<-e]at of;refine aJ (fn:=Tryz.f46) ?_;simp -dsimp only[go_sem];refine ap 17 [] false true ?_;simp -dsimp only[go_sem,Int.reduceToNat,Int.reduceLE,aC];refine ao (eA a1 b2 aw aw aw) rfl ?_;simp -dsimp only[go_sem,Int.reduceToNat,Int.reduceLE,aC];refine ao (eA b1 a2 aw aw aw) rfl ?_;simp -dsimp only[go_sem,Int.reduceToNat,Int.reduceLE,aC];refine aK (Js (a1.mul b2) (b1.mul a2) aw aw aw aw) ?_;simp -dsimp only[go_sem,Int.reduceToNat,Int.reduceLE,aC];refine ao (eA a2 b2 aw aw aw) rfl ?_;simp -dsimp only[go_sem,Int.reduceToNat,Int.reduceLE,aC];refine aK of ?_;simp -dsimp only[go_sem]
theorem uB {p:PQ} {h:Nat} (hp:am h p) (hb:h<=137438953000) (sp:aa p<=1048576):Fn Tryz.prog 91 [iUp p] [iB true]:=by
 have hl:=dc p;refine aJ (fn:=Tryz.f91) ?_;simp -dsimp only[go_sem];refine be [(2,53)] [] [] (fun n τ β ε=>∃ i:Nat,n=(U p).length-i/\i<=(U p).length/\τ 3 = .i (iN i)) (fun e τ β ε=>e = .exit 0) (U p).length ?_ ?_ ?_
 ·exact⟨0,aw,aw,rfl⟩
 ·rintro n τ β ε π hK hKB hKE ⟨i,hn,hi,h3⟩;have k0:τ 0 = .i (iUp p):=(hK 0 rfl).trans rfl;by_cases hA:i<(U p).length
  ·have dA:decide ((i:Int)<((U p).length:Int))=true:=aF aw;have gp:(U p)[i]?=some (U p)[i]:=by simp[hA]
   have hN:decide (cP (U p)[i].1)=true:=aF (by
    have:=(ja p).uv _ (List.getElem_mem hA);unfold Uv1 at this;unfold cP;omega)
   have hs:decide ((U p)[i].2.num.sign=0)=false:=by rw[bQ];exact aG ((ja p).nz _ (List.getElem_mem hA))
   simp -dsimp only[go_sem,h3,k0,dA,az];refine ap 44 [] false true ?_;simp -dsimp only[go_sem,h3,k0];refine aQ gp ?_;simp -dsimp only[go_sem,h3,k0,Int.reduceToNat,Int.reduceLE,aC];refine aO (args':=[iE (U p)[i].1]) rfl (gC _) ?_;simp -dsimp only[go_sem,hN,h3,k0];refine aQ gp ?_;simp -dsimp only[go_sem,h3,k0,Int.reduceToNat,Int.reduceLE,aC];refine aO (args':=[iQ (U p)[i].2]) rfl (CA _ (HB.qb hp aw _ (List.getElem_mem hA))) ?_;simp -dsimp only[go_sem,h3,k0];refine aQ gp ?_;simp -dsimp only[go_sem,h3,k0,Int.reduceToNat,Int.reduceLE,aC];refine aO (args':=[iQ (U p)[i].2]) rfl (ir _) ?_;simp -dsimp only[go_sem,hs,h3,k0];by_cases hi0:i=0
   ·have d0:decide ((0:Int)<(i:Int))=false:=aG aw;simp -dsimp only[go_sem,d0,h3]
    repeat(refine And.intro aw ?_)
    exact again ((U p).length-(i+1)) aw ⟨(aA hK),hKB,hKE,i+1,rfl,aw,rfl⟩
   ·have d0:decide ((0:Int)<(i:Int))=true:=aF aw;have ei:(i:Int)-1=((i-1:Nat):Int):=aw;have gq:(U p)[i-1]?=some (U p)[i-1]:=aD aw;have hgr:decide (0<cm (U p)[i-1].1 (U p)[i].1)=true:=aF ((List.pairwise_iff_getElem.1 (ja p).srt) (i-1) i aw hA aw);simp -dsimp only[go_sem,d0,h3,k0,ei]
    repeat(refine And.intro aw ?_)
    refine aQ gq ?_;simp -dsimp only[go_sem,h3,k0,Int.reduceToNat,Int.reduceLE,aC];refine aQ gp ?_;simp -dsimp only[go_sem,h3,k0,Int.reduceToNat,Int.reduceLE,aC];refine aO (args':=[iE (U p)[i-1].1,iE (U p)[i].1]) rfl (ko _ _) ?_;simp -dsimp only[go_sem,hgr,h3]
    repeat(refine And.intro aw ?_)
    exact again ((U p).length-(i+1)) aw ⟨(aA hK),hKB,hKE,i+1,rfl,aw,rfl⟩
  ·have dA:decide ((i:Int)<((U p).length:Int))=false:=aG aw;simp -dsimp only[go_sem,h3,k0,dA,az];exact⟨(aA hK),hKB,hKE⟩
 ·rintro e τ β ε π hK hKB hKE rfl;simp -dsimp only[go_sem]
theorem Cv {f:KQ} (hf:FW f):Fn Tryz.prog 45 [iK f] [iB true]:=by
 obtain⟨a1,a2,a3,a4⟩:=dP hf;obtain⟨n1,n2,n3,n4⟩:=cU f;obtain⟨g,hg,_,_,_,hgl,hG⟩:=Aj (N:=1001) (w:=1000) n1 a1 a2 a3 a4 aw (by rw[fv];exact hf) (by rw[Ip];omega);have h1:g=1:=by
  have:=kg hg ⟨Dv.one _,Dv.one _,n3⟩;rwa [kf,yY hgl]at this
 rw[h1]at hG;obtain⟨L,hL⟩:=fU n1;have cL:(U (ae f))[0]?=some (⟨((aa (ae f)-1:Nat):Int),0,0,0⟩,1):=by rw[hL,n2];rfl
 have dl:decide ((0:Int)<((U (ae f)).length:Int))=true:=aF (by rw[hL];simp);have eq:=oK (p:=1) (q:=1) (dm 0) (dm 0) aw aw (by rw[cD];omega);rw[aF rfl]at eq;refine aJ (fn:=Tryz.f45) ?_;simp -dsimp only[go_sem,Int.reduceToNat,Int.reduceLE,aC];refine ao (uB a1 aw aw) rfl ?_;simp -dsimp only[go_sem,Int.reduceToNat,Int.reduceLE,aC];refine ao (uB a2 aw aw) rfl ?_;simp -dsimp only[go_sem,Int.reduceToNat,Int.reduceLE,aC];refine ap 30 [] false true ?_;simp -dsimp only[go_sem,Int.reduceToNat,Int.reduceLE,aC,az,dl];refine aQ cL ?_;simp -dsimp only[go_sem,Int.reduceToNat,Int.reduceLE,aC];refine aK (dJ 1 aH) ?_;simp -dsimp only[go_sem,Int.reduceToNat,Int.reduceLE,aC];refine aO (args':=[iQ 1,iQ 1]) rfl (Jw 1 1 (oQ (n:=1) aH _ aH) (oQ (n:=1) aH _ aH)) ?_;have e0:decide ((1-1:Rat).num.sign=0)=true:=by rw[bQ];exact aF (by rw[Rat.sub_self])
 simp -dsimp only[go_sem,Int.reduceToNat,Int.reduceLE,aC,e0];refine ao hG rfl ?_;simp -dsimp only[go_sem,Int.reduceToNat,Int.reduceLE,aC];refine aK uC ?_;simp -dsimp only[go_sem,Int.reduceToNat,Int.reduceLE,aC];refine aK eq ?_;simp -dsimp only[go_sem]
theorem xL (a b:List KQ) (hl:a.length<=1099511627776) (hx:∀ f∈a,FW f) (hy:∀ f∈b,FW f):Fn Tryz.prog 112 [kl a,kl b] [iB (decide (a=b))]:=by
 refine aJ (fn:=Tryz.f112) ?_;by_cases hab:a.length=b.length
 ·have e1:decide ((a.length:Int)=(b.length:Int))=true:=aF aw;simp -dsimp only[go_sem,e1,az];refine be [(4,5),(11,26)] [] [] (fun n τ β ε=>∃ i:Nat,n=a.length-i/\i<=a.length/\a.take i=b.take i/\τ 5 = .i (iN i))
   (fun e τ β ε=>(e = .exit 0/\a=b)\/(e = .ret/\¬ a=b/\τ 4 = .i (.c (.v (.bool false))))) a.length ?_ ?_ ?_
  ·exact⟨0,aw,aw,rfl,rfl⟩
  ·rintro n τ β ε π hK hKB hKE ⟨i,hn,hi,he,h5⟩;have k0:τ 0 = .i (kl a):=(hK 0 rfl).trans rfl;have k1:τ 1 = .i (kl b):=(hK 1 rfl).trans rfl;by_cases hlt:i<a.length
   ·have dA:decide ((i:Int)<(a.length:Int))=true:=aF aw;have hlb:i<b.length:=aw;have ga:a[i]?=some a[i]:=by simp[hlt]
    have gb:b[i]?=some b[i]:=by simp[hlb]
    simp -dsimp only[go_sem,h5,k0,dA,az];refine ap 10 [] false true ?_;simp -dsimp only[go_sem,h5,k0,k1];refine aQ ga ?_;simp -dsimp only[go_sem,h5,k0,k1];refine aQ gb ?_;simp -dsimp only[go_sem,h5,k0,k1];refine aO (args':=[iK a[i],iK b[i]]) rfl (uJ (hx _ (List.getElem_mem _)) (hy _ (List.getElem_mem _))) ?_;by_cases hc:a[i]=b[i]
    ·have e2:decide (a[i]=b[i])=true:=aF hc;simp -dsimp only[go_sem,e2,h5]
     repeat(refine And.intro aw ?_)
     refine again (a.length-(i+1)) aw ⟨(aA hK),hKB,hKE,i+1,rfl,aw,?_,rfl⟩;rw[aq hlt,aq hlb,he,hc]
    ·have e2:decide (a[i]=b[i])=false:=aG hc;simp -dsimp only[go_sem,e2];exact⟨(aA hK),hKB,hKE,fun e=>hc (by simp[e])⟩
   ·have dA:decide ((i:Int)<(a.length:Int))=false:=aG aw;obtain rfl:i=a.length:=aw;simp -dsimp only[go_sem,h5,k0,dA,az];have:a=b:=by rw[List.take_length,List.take_of_length_le aw]at he;exact he
    exact⟨(aA hK),hKB,hKE,this⟩
  ·rintro e τ β ε π hK hKB hKE h;rcases h with⟨rfl,h⟩|⟨rfl,h,h6⟩
   ·simp -dsimp only[go_sem,h]
   ·simp -dsimp only[go_sem,h,h6]
 ·have e1:decide ((a.length:Int)=(b.length:Int))=false:=aG aw;simp -dsimp only[go_sem,e1,az];have:¬ a=b:=fun e=>hab (by rw[e]);rw[aG this]
theorem uF (a b:List KQ) (hl:a.length<=1099511627776) (hx:∀ f∈a,FW f) (hy:∀ f∈b,FW f):Fn Tryz.prog 15 [kl a,kl b] [iB (decide (a=b))]:=by
 have h66:Fn Tryz.prog 66 [kl a,kl b] [iB (decide (a=b))]:=by
  refine aJ (fn:=Tryz.f66) ?_;simp -dsimp only[go_sem];refine aK (xL a b hl hx hy) ?_;simp -dsimp only[go_sem]
 refine aJ (fn:=Tryz.f15) ?_;simp -dsimp only[go_sem];refine aK h66 ?_;simp -dsimp only[go_sem]
theorem nu (l:List KQ) (hl:l.length<=1048576):Fn Tryz.prog 61 [kl l] [kl (dF l)]:=by
 refine aJ (fn:=Tryz.f61) ?_;simp -dsimp only[go_sem,az];refine be [(3,3),(6,17)] [] [] (fun n τ β ε=>∃ t:Nat,n=t/\t<=l.length/\(∀ j (hj:j<l.length),t<=j->l[j]=0)/\τ 3 = .i (iN t))
  (fun e τ β ε=>e = .exit 0/\∃ t:Nat,t<=l.length/\dF l=l.take t/\τ 3 = .i (iN t)) l.length ?_ ?_ ?_
 ·exact⟨l.length,rfl,ay _,fun j hj h=>by omega,rfl⟩
 ·rintro n τ β ε π hK hKB hKE ⟨t,hn,ht,hz,h3⟩;have k0:τ 0 = .i (kl l):=(hK 0 rfl).trans rfl;by_cases ht0:t=0
  ·have dA:decide ((0:Int)<(t:Int))=false:=aG aw;simp -dsimp only[go_sem,h3,dA];exact⟨(aA hK),hKB,hKE,t,ht,ig ht hz (fun _ h=>by omega),rfl⟩
  ·have dA:decide ((0:Int)<(t:Int))=true:=aF aw;have ei:(t:Int)-1=((t-1:Nat):Int):=aw;have gl:l[t-1]?=some l[t-1]:=aD aw;simp -dsimp only[go_sem,h3,k0,dA,ei]
   repeat(refine And.intro aw ?_)
   refine aQ gl ?_;simp -dsimp only[go_sem,h3];refine aO (args':=[iK l[t-1]]) rfl (qM _) ?_;by_cases hc:l[t-1]=0
   ·have e2:decide (l[t-1]=0)=true:=aF hc;simp -dsimp only[go_sem,e2,h3,ei]
    repeat(refine And.intro aw ?_)
    refine again (t-1) aw ⟨(aA hK),hKB,hKE,t-1,rfl,aw,fun j hj h=>?_,rfl⟩;by_cases e:j=t-1
    ·subst e;exact hc
    ·exact hz j hj aw
   ·have e2:decide (l[t-1]=0)=false:=aG hc;simp -dsimp only[go_sem,e2];exact⟨(aA hK),hKB,hKE,t,ht,ig ht hz (fun _ _=>hc),h3⟩
 ·rintro e τ β ε π hK hKB hKE ⟨rfl,t,ht,he,h3⟩;have k0:τ 0 = .i (kl l):=(hK 0 rfl).trans rfl;simp -dsimp only[go_sem,h3,k0,Int.reduceToNat,Int.reduceLE,aC,az];refine⟨ht,fun r hr=>?_,aw,?_⟩
  ·obtain⟨f,-,rfl⟩:=List.mem_map.1 (List.mem_of_mem_take hr);rfl
  ·rw[List.take_of_length_le au,he,<-List.map_take]
theorem oO (l:List KQ) (i:Int):Fn Tryz.prog 72 [kl l,iN i] [iK (if i<0 then 0 else l.getD i.toNat 0)]:=by
 refine aJ (fn:=Tryz.f72) ?_;by_cases h0:i<0
 ·have d0:decide (i<0)=true:=aF h0;simp -dsimp only[go_sem,d0];refine aK (fD 0 aH) ?_;simp -dsimp only[go_sem];rw[if_pos h0,show kz 0=0 from fi]
 ·have d0:decide (i<0)=false:=aG h0;rw[if_neg h0];by_cases h1:i<l.length
  ·have d1:decide ((l.length:Int)<=i)=false:=aG aw;obtain⟨j,rfl⟩:∃ j:Nat,i=j:=⟨i.toNat,aw⟩;have gl:l[j]?=some l[j]:=aD aw;simp -dsimp only[go_sem,d0,d1,az];refine aQ gl ?_;simp -dsimp only[go_sem];rw[List.getD_eq_getElem?_getD,gl];rfl
  ·have d1:decide ((l.length:Int)<=i)=true:=aF aw;simp -dsimp only[go_sem,d0,d1,az];refine aK (fD 0 aH) ?_;simp -dsimp only[go_sem];rw[show kz 0=0 from fi,List.getD_eq_getElem?_getD,List.getElem?_eq_none aw];rfl
end Go.AM
