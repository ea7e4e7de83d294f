/- Lemmas, part 20 of 24: Reference R7: sums; Reference R7: products with a term, multiples, differences, products; Reference R7: insertion of a term; Reference R7 on polynomials in one variable; Reference R7: degrees and coefficients; Reference R7: division. No condition. -/
import Derived.Test.YtcmfkhicjhliaaaGreatPZ118
set_option maxRecDepth 65536
set_option linter.unusedSimpArgs false
set_option linter.unusedVariables false
set_option linter.unusedSectionVars false
namespace Go.AM
open Go.Proofs
theorem tE {α:Type} {l:List α} {i:Nat} (h:i<l.length):l.drop i=l[i]::l.drop (i+1):=by rw[List.drop_eq_getElem_cons h]
set_option maxHeartbeats 1000000 in
theorem pq (a b:List Tm) (hl:a.length+b.length<=1099511627776) (ha:∀ t∈a,QB 8589934592 t.2) (hb:∀ t∈b,QB 8589934592 t.2):Fn Tryz.prog 56 [iM a,iM b] [iM (fI a b)]:=by
 refine ao kd (fn:=Tryz.f56) (by rfl) rfl rfl rfl (by rfl) (by simp) (by rfl) ?_;simp -dsimp -implicitDefEqProofs only[go_sem];refine cC 5 9 8 (rs:=[]) rfl (by simp) ?_;refine aX [(5,8),(10,105)] [(8,8)] [(9,9),(49,49),(75,75),(101,101)] (fun n τ β ε=>∃(out:List Tm) (i k:Nat),n=(a.length-i)+(b.length-k)/\i<=a.length/\k<=b.length/\fI a b=out++fI (a.drop i) (b.drop k)/\out.length<=i+k /\
   τ 6 = .i (iN i)/\τ 7 = .i (iN k)/\Own 8 (out.map eT) 5 9 τ ε)
  (fun e τ β ε=>e = .exit 0/\Own 8 ((fI a b).map eT) 5 9 τ ε) (a.length+b.length) ?_ ?_ ?_
 ·exact⟨[],0,0,by omega,by omega,by omega,by simp,by simp,rfl,rfl,Own.mk (g:=1) (mm:=false) (by omega) rfl rfl rfl⟩
 ·rintro n τ β ε π hK hKB hKE ⟨out,i,k,hn,hi,hk,he,hlen,h6,h7,g,mm,hg,h5,h9⟩;have h5':τ 5 = .sl 9 g out.length:=by rw[h5,af]
  have k0:τ 0 = .i (iM a):=(hK 0 rfl).trans rfl;have k1:τ 1 = .i (iM b):=(hK 1 rfl).trans rfl;by_cases hA:i<a.length
  ·have dA:decide ((i:Int)<(a.length:Int))=true:=ai (by omega);have dA':decide ((i:Int)=(a.length:Int))=false:=aj (by omega);have ga:a[i]?=some a[i]:=by simp[hA]
   have tA:=tE hA;by_cases hB:k<b.length
   ·have dB:decide ((k:Int)=(b.length:Int))=false:=aj (by omega);have gb:b[k]?=some b[k]:=by simp[hB]
    have tB:=tE hB;rw[tA,tB,i6]at he;simp -dsimp -implicitDefEqProofs only[go_sem,h6,h7,k0,k1,dA,dB,af];refine an (by rfl) 23 [] false true (by rfl) (by rfl) (by decide +kernel) ?_;simp -dsimp -implicitDefEqProofs only[go_sem,h6,h7,k0,k1,dA,dB,af,Int.reduceToNat,Int.reduceLE,ag];refine av ga ?_;simp -dsimp -implicitDefEqProofs only[go_sem,h6,h7,k0,k1,dA,dB,af,Int.reduceToNat,Int.reduceLE,ag];refine av gb ?_;simp -dsimp -implicitDefEqProofs only[go_sem,h6,h7,k0,k1,dA,dB,af,Int.reduceToNat,Int.reduceLE,ag];refine ar (args':=[iE a[i].1,iE b[k].1]) rfl (mH _ _) ?_;by_cases c1:0<bP a[i].1 b[k].1
    ·rw[if_pos c1,<-tB]at he;have e1:decide (0<bP a[i].1 b[k].1)=true:=ai c1;simp -dsimp -implicitDefEqProofs only[go_sem,e1,h5',h9,hg,h6,h7,k0,k1,Int.reduceToNat,Int.reduceLE,ag];refine av ga ?_;simp -dsimp -implicitDefEqProofs only[go_sem,e1,h5',h9,hg,h6,h7,k0,k1,Int.reduceToNat,Int.reduceLE,ag]
     repeat(refine And.intro (by omega) ?_)
     refine aJ ((a.length-(i+1))+(b.length-k)) 5 49 9 (by omega) rfl rfl (by omega) (by decide) ⟨(by(repeat apply ak rfl);exact hK),(by(repeat apply ak rfl);exact hKB),(by(repeat apply ak rfl);exact hKE),out++[a[i]],i+1,k,rfl,by omega,hk,?_,by simp;omega,rfl,h7,?_⟩
     ·rw[he,List.append_assoc];rfl
     ·exact Own.mk2 (Nat.succ_pos _) (by simp -dsimp -implicitDefEqProofs only[go_sem];rfl) (by simp -dsimp -implicitDefEqProofs only[go_sem];rfl) (by simp) (by simp;rfl)
    ·rw[if_neg c1]at he;have e1:decide (0<bP a[i].1 b[k].1)=false:=aj c1;simp -dsimp -implicitDefEqProofs only[go_sem,e1];refine an (by rfl) 17 [] false true (by rfl) (by rfl) (by decide +kernel) ?_;simp -dsimp -implicitDefEqProofs only[go_sem,h6,h7,k0,k1,dA,dB,af,dA',Int.reduceToNat,Int.reduceLE,ag];refine av gb ?_;simp -dsimp -implicitDefEqProofs only[go_sem,h6,h7,k0,k1,dA,dB,af,dA',Int.reduceToNat,Int.reduceLE,ag];refine av ga ?_;simp -dsimp -implicitDefEqProofs only[go_sem,h6,h7,k0,k1,dA,dB,af,dA',Int.reduceToNat,Int.reduceLE,ag];refine ar (args':=[iE b[k].1,iE a[i].1]) rfl (mH _ _) ?_;by_cases c2:bP a[i].1 b[k].1<0
     ·rw[if_pos c2,<-tA]at he;have e2:decide (0<bP b[k].1 a[i].1)=true:=ai (by rw[ng];omega);simp -dsimp -implicitDefEqProofs only[go_sem,e2,h5',h9,hg,h6,h7,k0,k1,Int.reduceToNat,Int.reduceLE,ag];refine av gb ?_;simp -dsimp -implicitDefEqProofs only[go_sem,e2,h5',h9,hg,h6,h7,k0,k1,Int.reduceToNat,Int.reduceLE,ag]
      repeat(refine And.intro (by omega) ?_)
      refine aJ ((a.length-i)+(b.length-(k+1))) 5 75 9 (by omega) rfl rfl (by omega) (by decide) ⟨(by(repeat apply ak rfl);exact hK),(by(repeat apply ak rfl);exact hKB),(by(repeat apply ak rfl);exact hKE),out++[b[k]],i,k+1,rfl,hi,by omega,?_,by simp;omega,h6,rfl,?_⟩
      ·rw[he,List.append_assoc];rfl
      ·exact Own.mk2 (Nat.succ_pos _) (by simp -dsimp -implicitDefEqProofs only[go_sem];rfl) (by simp -dsimp -implicitDefEqProofs only[go_sem];rfl) (by simp) (by simp;rfl)
     ·rw[if_neg c2]at he;have e2:decide (0<bP b[k].1 a[i].1)=false:=aj (by rw[ng];omega);simp -dsimp -implicitDefEqProofs only[go_sem,e2];refine an (by rfl) 12 [8] false true (by rfl) (by rfl) (by decide +kernel) ?_;simp -dsimp -implicitDefEqProofs only[go_sem,h6,h7,k0,k1,dA,dB,af,Int.reduceToNat,Int.reduceLE,ag];refine av ga ?_;simp -dsimp -implicitDefEqProofs only[go_sem,h6,h7,k0,k1,dA,dB,af,Int.reduceToNat,Int.reduceLE,ag];refine av gb ?_;simp -dsimp -implicitDefEqProofs only[go_sem,h6,h7,k0,k1,dA,dB,af,Int.reduceToNat,Int.reduceLE,ag];refine ar (args':=[iQ a[i].2,iQ b[k].2]) rfl (zB _ _ (ha _ (List.getElem_mem hA)) (hb _ (List.getElem_mem hB))) ?_;simp -dsimp -implicitDefEqProofs only[go_sem];refine aa (kq (a[i].2+b[k].2)) rfl ?_;by_cases c3:a[i].2+b[k].2=0
      ·rw[if_pos c3]at he;have e3:decide ((a[i].2+b[k].2).num.sign=0)=true:=by rw[bI];exact ai c3
       simp -dsimp -implicitDefEqProofs only[go_sem,e3,h6,h7,Int.reduceToNat,Int.reduceLE,ag]
       repeat(refine And.intro (by omega) ?_)
       refine again ((a.length-(i+1))+(b.length-(k+1))) (by omega) ⟨(by(repeat apply ak rfl);exact hK),(by(repeat apply ak rfl);exact hKB),(by(repeat apply ak rfl);exact hKE),out,i+1,k+1,rfl,by omega,by omega,he,by omega,rfl,rfl,Own.mk hg h5' (by simp) h9⟩
      ·rw[if_neg c3]at he;have e3:decide ((a[i].2+b[k].2).num.sign=0)=false:=by rw[bI];exact aj c3
       simp -dsimp -implicitDefEqProofs only[go_sem,e3,h6,h7,Int.reduceToNat,Int.reduceLE,ag];refine an (by rfl) 11 [] true false (by rfl) (by rfl) (by decide +kernel) ?_;simp -dsimp -implicitDefEqProofs only[go_sem,h5',h9,hg,h6,h7,k0,k1,Int.reduceToNat,Int.reduceLE,ag];refine av ga ?_;simp -dsimp -implicitDefEqProofs only[go_sem,h5',h9,hg,h6,h7,k0,k1,Int.reduceToNat,Int.reduceLE,ag]
       repeat(refine And.intro (by omega) ?_)
       refine aJ ((a.length-(i+1))+(b.length-(k+1))) 5 101 9 (by omega) rfl rfl (by omega) (by decide) ⟨(by(repeat apply ak rfl);exact hK),(by(repeat apply ak rfl);exact hKB),(by(repeat apply ak rfl);exact hKE),out++[(a[i].1,a[i].2+b[k].2)],i+1,k+1,rfl,by omega,by omega,?_,by simp;omega,rfl,rfl,?_⟩
       ·rw[he,List.append_assoc];rfl
       ·exact Own.mk2 (Nat.succ_pos _) (by simp -dsimp -implicitDefEqProofs only[go_sem];rfl) (by simp -dsimp -implicitDefEqProofs only[go_sem];rfl) (by simp) (by simp;rfl)
   ·obtain rfl:k=b.length:=by omega
    have dB:decide ((b.length:Int)=(b.length:Int))=true:=ai rfl;rw[tA,List.drop_length,i5]at he;simp -dsimp -implicitDefEqProofs only[go_sem,h6,h7,k0,k1,dA,dB,af];refine an (by rfl) 23 [] false true (by rfl) (by rfl) (by decide +kernel) ?_;simp -dsimp -implicitDefEqProofs only[go_sem,dB,dA,af,h5',h9,hg,h6,h7,k0,k1,Int.reduceToNat,Int.reduceLE,ag];refine av ga ?_;simp -dsimp -implicitDefEqProofs only[go_sem,dB,dA,af,h5',h9,hg,h6,h7,k0,k1,Int.reduceToNat,Int.reduceLE,ag]
    repeat(refine And.intro (by omega) ?_)
    refine aJ ((a.length-(i+1))+(b.length-b.length)) 5 49 9 (by omega) rfl rfl (by omega) (by decide) ⟨(by(repeat apply ak rfl);exact hK),(by(repeat apply ak rfl);exact hKB),(by(repeat apply ak rfl);exact hKE),out++[a[i]],i+1,b.length,rfl,by omega,hk,?_,by simp;omega,rfl,h7,?_⟩
    ·rw[he,List.append_assoc,List.drop_length,i5];rfl
    ·exact Own.mk2 (Nat.succ_pos _) (by simp -dsimp -implicitDefEqProofs only[go_sem];rfl) (by simp -dsimp -implicitDefEqProofs only[go_sem];rfl) (by simp) (by simp;rfl)
  ·obtain rfl:i=a.length:=by omega
   have dA:decide ((a.length:Int)<(a.length:Int))=false:=aj (by omega);have dA':decide ((a.length:Int)=(a.length:Int))=true:=ai rfl;by_cases hB:k<b.length
   ·have dB:decide ((k:Int)=(b.length:Int))=false:=aj (by omega);have dB':decide ((k:Int)<(b.length:Int))=true:=ai (by omega);have gb:b[k]?=some b[k]:=by simp[hB]
    have tB:=tE hB;rw[tB,List.drop_length,ge]at he;simp -dsimp -implicitDefEqProofs only[go_sem,h6,h7,k0,k1,dA,dB,af,dB'];refine an (by rfl) 23 [] false true (by rfl) (by rfl) (by decide +kernel) ?_;simp -dsimp -implicitDefEqProofs only[go_sem,h6,h7,k0,k1,dA,dB,af,Int.reduceToNat,Int.reduceLE,ag];refine an (by rfl) 17 [] false true (by rfl) (by rfl) (by decide +kernel) ?_;simp -dsimp -implicitDefEqProofs only[go_sem,h6,h7,k0,k1,dA,dB,af,dA',Int.reduceToNat,Int.reduceLE,ag];refine av gb ?_;simp -dsimp -implicitDefEqProofs only[go_sem,dB,dA,af,h5',h9,hg,h6,h7,k0,k1,Int.reduceToNat,Int.reduceLE,ag]
    repeat(refine And.intro (by omega) ?_)
    refine aJ ((a.length-a.length)+(b.length-(k+1))) 5 75 9 (by omega) rfl rfl (by omega) (by decide) ⟨(by(repeat apply ak rfl);exact hK),(by(repeat apply ak rfl);exact hKB),(by(repeat apply ak rfl);exact hKE),out++[b[k]],a.length,k+1,rfl,hi,by omega,?_,by simp;omega,h6,rfl,?_⟩
    ·rw[he,List.append_assoc,List.drop_length,ge];rfl
    ·exact Own.mk2 (Nat.succ_pos _) (by simp -dsimp -implicitDefEqProofs only[go_sem];rfl) (by simp -dsimp -implicitDefEqProofs only[go_sem];rfl) (by simp) (by simp;rfl)
   ·obtain rfl:k=b.length:=by omega
    have dB:decide ((b.length:Int)<(b.length:Int))=false:=aj (by omega);simp -dsimp -implicitDefEqProofs only[go_sem,h6,h7,k0,k1,dA,dB,af];rw[List.drop_length,List.drop_length,ge,List.append_nil]at he;exact⟨(by(repeat apply ak rfl);exact hK),(by(repeat apply ak rfl);exact hKB),(by(repeat apply ak rfl);exact hKE),Own.mk hg h5' (by simp[he]) (by rw[he];exact h9)⟩
 ·rintro e τ β ε π hK hKB hKE ⟨rfl,g,mm,hg,h5,h9⟩;rw[af]at h5;refine⟨_,aY.refl _,?_⟩;simp -dsimp -implicitDefEqProofs only[go_sem,h5,h9,hg]
end Go.AM
namespace Go.AM
open Go.Proofs
def mh (a:List Tm) (m:Tm):List Tm:=a.map fun x=>(x.1.add m.1,x.2*m.2)
def ez (a:List Tm) (m:Tm):List Tm:=if m.2=0 then[]else mh a m
set_option maxHeartbeats 1000000 in
theorem qj (a:List Tm) (m:Tm) (hl:a.length<=1099511627776) (ha:∀ t∈a,QB 17179869184 t.2) (hm:QB 17179869184 m.2) (hea:∀ t∈a,t.1.lt 2305843009213693952) (hem:m.1.lt 2305843009213693952):Fn Tryz.prog 103 [iM a,.g (eT m)] [iM (ez a m)]:=by
 refine ao kd (fn:=Tryz.f103) (by rfl) rfl rfl rfl (by rfl) (by simp) (by rfl) ?_;simp -dsimp -implicitDefEqProofs only[go_sem];refine cC 5 9 8 (rs:=[]) rfl (by simp) ?_;refine aX [(5,8),(10,52)] [(7,7)] [(9,9),(52,52)] (fun n τ β ε=>∃ i:Nat,n=a.length-i/\i<=a.length/\(m.2=0->i=0)/\τ 6 = .i (iN i)/\Own 8 ((mh (a.take i) m).map eT) 5 9 τ ε)
  (fun e τ β ε=>e = .exit 0/\Own 8 ((ez a m).map eT) 5 9 τ ε) a.length ?_ ?_ ?_
 ·exact⟨0,by omega,by omega,fun _=>rfl,rfl,Own.mk (g:=1) (mm:=false) (by omega) rfl rfl rfl⟩
 ·rintro n τ β ε π hK hKB hKE ⟨i,hn,hi,hz,h6,g,mm,hg,h5,h9⟩;have hol:(mh (a.take i) m).length=i:=by simp[mh];omega
  have h5':τ 5 = .sl 9 g i:=by rw[h5,af,hol]
  have k0:τ 0 = .i (iM a):=(hK 0 rfl).trans rfl;have k3:τ 3 = .bp 3 1 0:=(hK 3 rfl).trans rfl;have b3:β 3=⟨1,eT m⟩:=(hKB 3 rfl).trans rfl;by_cases hA:i<a.length
  ·have dA:decide ((i:Int)<(a.length:Int))=true:=ai (by omega);have ga:a[i]?=some a[i]:=by simp[hA]
   simp -dsimp -implicitDefEqProofs only[go_sem,h6,k0,k3,b3,dA,af,Int.reduceToNat,Int.reduceLE,ag];refine aa (kq m.2) rfl ?_;by_cases h0:m.2=0
   ·have e3:decide (m.2.num.sign=0)=true:=by rw[bI];exact ai h0
    obtain rfl:=hz h0;simp -dsimp -implicitDefEqProofs only[go_sem,e3];exact⟨(by(repeat apply ak rfl);exact hK),(by(repeat apply ak rfl);exact hKB),(by(repeat apply ak rfl);exact hKE),Own.mk (len:=0) hg h5' (by simp[ez,h0]) (by rw[h9,ez,if_pos h0];rfl)⟩
   ·have e3:decide (m.2.num.sign=0)=false:=by rw[bI];exact aj h0
    simp -dsimp -implicitDefEqProofs only[go_sem,e3,h6,k0];refine av ga ?_;simp -dsimp -implicitDefEqProofs only[go_sem,e3,h6,k0,Int.reduceToNat,Int.reduceLE,ag];refine aH [(8,8),(27,39)] [(7,7)] [] (fun n τ' β' ε'=>∃ k:Nat,n=4-k/\k<=4/\τ' 8 = .i (iN k)/\β' 7=⟨(β 7).gen+1,(a[i].1.part m.1 k).cs⟩)
     (fun e τ' β' ε'=>e = .exit 2/\β' 7=⟨(β 7).gen+1,(a[i].1.add m.1).cs⟩) 4 ?_ ?_ ?_
    ·exact⟨0,by omega,by omega,rfl,rfl⟩
    ·rintro n2 τ2 β2 ε2 π2 hK2 hKB2 hKE2 ⟨k,hn2,hk,h8,c7⟩;have r7:τ2 7 = .bp 7 ((β 7).gen+1) 0:=(hK2 7 rfl).trans rfl;have r3:τ2 3 = .bp 3 1 0:=(hK2 3 rfl).trans k3;have c3:β2 3=⟨1,eT m⟩:=(hKB2 3 rfl).trans b3;have ex:=hea _ (List.getElem_mem hA);have ey:=hem;unfold Ex.lt at ex ey;obtain rfl|rfl|rfl|rfl|rfl:k=0\/k=1\/k=2\/k=3\/k=4:=by omega
     ·have h8':τ2 8 = .i (iN 0):=h8;simp -dsimp -implicitDefEqProofs only[go_sem,h8',Int.reduceLT,decide_true,decide_false,r7,r3,c7,c3];refine an (by rfl) 9 [] false true (by rfl) (by rfl) (by decide +kernel) ?_;simp -dsimp -implicitDefEqProofs only[go_sem,h8',r7,r3,c7,c3,Int.reduceToNat,Int.reduceLE,ag,Int.reduceAdd,Ex.part,Nat.not_lt_zero]
      repeat(refine And.intro (by omega) ?_)
      refine again (4-1) (by omega) ⟨(by(repeat apply ak rfl);exact hK2),(by(repeat apply ak rfl);exact hKB2),(by(repeat apply ak rfl);exact hKE2),1,rfl,by omega,rfl,?_⟩
      simp -dsimp -implicitDefEqProofs only[go_sem,Ex.part,Nat.not_lt_zero]
     ·have h8':τ2 8 = .i (iN 1):=h8;simp -dsimp -implicitDefEqProofs only[go_sem,h8',Int.reduceLT,decide_true,decide_false,r7,r3,c7,c3];refine an (by rfl) 9 [] false true (by rfl) (by rfl) (by decide +kernel) ?_;simp -dsimp -implicitDefEqProofs only[go_sem,h8',r7,r3,c7,c3,Int.reduceToNat,Int.reduceLE,ag,Int.reduceAdd,Ex.part,Nat.not_lt_zero]
      repeat(refine And.intro (by omega) ?_)
      refine again (4-2) (by omega) ⟨(by(repeat apply ak rfl);exact hK2),(by(repeat apply ak rfl);exact hKB2),(by(repeat apply ak rfl);exact hKE2),2,rfl,by omega,rfl,?_⟩
      simp -dsimp -implicitDefEqProofs only[go_sem,Ex.part,Nat.not_lt_zero]
     ·have h8':τ2 8 = .i (iN 2):=h8;simp -dsimp -implicitDefEqProofs only[go_sem,h8',Int.reduceLT,decide_true,decide_false,r7,r3,c7,c3];refine an (by rfl) 9 [] false true (by rfl) (by rfl) (by decide +kernel) ?_;simp -dsimp -implicitDefEqProofs only[go_sem,h8',r7,r3,c7,c3,Int.reduceToNat,Int.reduceLE,ag,Int.reduceAdd,Ex.part,Nat.not_lt_zero]
      repeat(refine And.intro (by omega) ?_)
      refine again (4-3) (by omega) ⟨(by(repeat apply ak rfl);exact hK2),(by(repeat apply ak rfl);exact hKB2),(by(repeat apply ak rfl);exact hKE2),3,rfl,by omega,rfl,?_⟩
      simp -dsimp -implicitDefEqProofs only[go_sem,Ex.part,Nat.not_lt_zero]
     ·have h8':τ2 8 = .i (iN 3):=h8;simp -dsimp -implicitDefEqProofs only[go_sem,h8',Int.reduceLT,decide_true,decide_false,r7,r3,c7,c3];refine an (by rfl) 9 [] false true (by rfl) (by rfl) (by decide +kernel) ?_;simp -dsimp -implicitDefEqProofs only[go_sem,h8',r7,r3,c7,c3,Int.reduceToNat,Int.reduceLE,ag,Int.reduceAdd,Ex.part,Nat.not_lt_zero]
      repeat(refine And.intro (by omega) ?_)
      refine again (4-4) (by omega) ⟨(by(repeat apply ak rfl);exact hK2),(by(repeat apply ak rfl);exact hKB2),(by(repeat apply ak rfl);exact hKE2),4,rfl,by omega,rfl,?_⟩
      simp -dsimp -implicitDefEqProofs only[go_sem,Ex.part,Nat.not_lt_zero]
     ·have h8':τ2 8 = .i (iN 4):=h8;simp -dsimp -implicitDefEqProofs only[go_sem,h8',Int.reduceLT,decide_true,decide_false];exact⟨(by(repeat apply ak rfl);exact hK2),(by(repeat apply ak rfl);exact hKB2),(by(repeat apply ak rfl);exact hKE2),c7⟩
    ·rintro e τ2 β2 ε2 π2 hK2 hKB2 hKE2 ⟨rfl,c7⟩;have r7:τ2 7 = .bp 7 ((β 7).gen+1) 0:=(hK2 7 rfl).trans rfl;have r3:τ2 3 = .bp 3 1 0:=(hK2 3 rfl).trans k3;have c3:β2 3=⟨1,eT m⟩:=(hKB2 3 rfl).trans b3;have r0:τ2 0 = .i (iM a):=(hK2 0 rfl).trans k0;have r6:τ2 6 = .i (iN i):=(hK2 6 rfl).trans h6;have r5:τ2 5 = .sl 9 g i:=(hK2 5 rfl).trans h5';have f9:ε2 9=⟨g,8,(mh (a.take i) m).map eT,mm,true⟩:=(hKE2 9 rfl).trans h9;have kO:=Kp.step2 hK hK2 (by intro n;simp[inR]<;>omega) (by(repeat apply ak rfl);exact hK)
     have kB:=Kp.step2 hKB hKB2 (by intro n;simp[inR]<;>omega) (by(repeat apply ak rfl);exact hKB)
     have kE:=Kp.step2 hKE hKE2 (by intro n;simp[inR]) hKE;refine an (by rfl) 14 [] true false (by rfl) (by rfl) (by decide +kernel) ?_;simp -dsimp -implicitDefEqProofs only[go_sem,r7,r3,c7,c3,r0,r6,r5,f9,hg,Int.reduceToNat,Int.reduceLE,ag];refine av ga ?_;simp -dsimp -implicitDefEqProofs only[go_sem,r7,r3,c7,c3,r0,r6,r5,f9,hg,Int.reduceToNat,Int.reduceLE,ag];refine ar (args':=[iQ a[i].2,iQ m.2]) rfl (ID _ _ (ha _ (List.getElem_mem _)) hm) ?_;simp -dsimp -implicitDefEqProofs only[go_sem,r7,r3,c7,c3,r0,r6,r5,f9,hg,Int.reduceToNat,Int.reduceLE,ag,af,hol]
     repeat(refine And.intro (by omega) ?_)
     refine aJ (a.length-(i+1)) 5 52 9 (by omega) rfl rfl (by omega) (by decide) ⟨(by(repeat apply ak rfl);exact kO),(by(repeat apply ak rfl);exact kB),(by(repeat apply ak rfl);exact kE),i+1,rfl,by omega,fun h=>absurd h h0,rfl,?_⟩
     refine Own.mk2 (Nat.succ_pos _) (by simp -dsimp -implicitDefEqProofs only[go_sem];rfl) (by simp -dsimp -implicitDefEqProofs only[go_sem];rfl) (by simp[hol]) ?_;rw[ab hA,mh,mh,List.map_append,List.map_append];rfl
  ·have dA:decide ((i:Int)<(a.length:Int))=false:=aj (by omega);obtain rfl:i=a.length:=by omega
   have ht:mh (a.take a.length) m=ez a m:=by
    rw[List.take_length,ez];by_cases h0:m.2=0
    ·rw[if_pos h0];have:=hz h0;rw[List.length_eq_zero_iff.1 this];rfl
    ·rw[if_neg h0]
   simp -dsimp -implicitDefEqProofs only[go_sem,h6,k0,dA,af];rw[ht]at h5 h9;rw[af]at h5;exact⟨(by(repeat apply ak rfl);exact hK),(by(repeat apply ak rfl);exact hKB),(by(repeat apply ak rfl);exact hKE),Own.mk hg h5 (by simp) h9⟩
 ·rintro e τ β ε π hK hKB hKE ⟨rfl,g,mm,hg,h5,h9⟩;rw[af]at h5;refine⟨_,aY.refl _,?_⟩;simp -dsimp -implicitDefEqProofs only[go_sem,h5,h9,hg]
theorem Fr (e:Ex):e.add e0=e:=by cases e;simp[Ex.add,e0]
theorem D0 (a:List Tm) (c:Rat):ez a (e0,c)=dE a c:=by
 unfold ez dE mh;simp only[Fr]
theorem O5:e0.lt 2305843009213693952:=by unfold Ex.lt e0;decide
theorem tX (a:List Tm) (c:Rat) (hl:a.length<=1099511627776) (ha:∀ t∈a,QB 17179869184 t.2) (hc:QB 17179869184 c) (hea:∀ t∈a,t.1.lt 2305843009213693952):Fn Tryz.prog 85 [iM a,iQ c] [iM (dE a c)]:=by
 refine ao kd (fn:=Tryz.f85) (by rfl) rfl rfl rfl (by rfl) (by simp) (by rfl) ?_;simp -dsimp -implicitDefEqProofs only[go_sem];refine aa (qj a (e0,c) hl ha hc hea O5) rfl ?_;rw[D0];simp -dsimp -implicitDefEqProofs only[go_sem]
theorem Is (a b:List Tm) (hl:a.length+b.length<=1099511627776) (ha:∀ t∈a,QB 8589934592 t.2) (hb:∀ t∈b,QB 8589934592 t.2) (heb:∀ t∈b,t.1.lt 2305843009213693952):Fn Tryz.prog 174 [iM a,iM b] [iM (D4 a b)]:=by
 refine ao kd (fn:=Tryz.f174) (by rfl) rfl rfl rfl (by rfl) (by simp) (by rfl) ?_;simp -dsimp -implicitDefEqProofs only[go_sem];refine am (dv (-1) (by decide)) ?_;simp -dsimp -implicitDefEqProofs only[go_sem];refine ar (args':=[iM b,iQ (-1)]) rfl (tX b (-1) (by omega) (fun t ht=>(hb t ht).mono' (by decide)) (od _ (by decide)) heb) ?_;simp -dsimp -implicitDefEqProofs only[go_sem];refine am (pq a (dE b (-1)) ?_ ha ?_) ?_
 ·rw[iO _ (by decide)];simp;omega
 ·intro t ht;rw[iO _ (by decide)]at ht;obtain⟨u,hu,rfl⟩:=List.mem_map.1 ht;exact(hb u hu).neg
 simp -dsimp -implicitDefEqProofs only[go_sem];rfl
theorem gO (v:Nat) (hv:v<4):Fn Tryz.prog 58 [iN v] [iM [(e0.to v 1,1)]]:=by
 obtain rfl|rfl|rfl|rfl:v=0\/v=1\/v=2\/v=3:=by omega
 all_goals
  refine ao kd (fn:=Tryz.f58) (by rfl) rfl rfl rfl (by rfl) (by simp) (by rfl) ?_;simp -dsimp -implicitDefEqProofs only[go_sem];refine am (dv 1 (by decide)) ?_;simp -dsimp -implicitDefEqProofs only[go_sem];rfl
def sG (a b:List Tm):List Tm:=b.foldl (fun o y=>fI o (ez a y)) []
theorem Ao (a:List Tm) (m:Tm):(ez a m).length<=a.length:=by
 unfold ez mh;split<;>simp
theorem zu (a b:List Tm) (hla:a.length<=1048576) (hlb:b.length<=1048576) (ha:∀ t∈a,QB 17179869184 t.2) (hb:∀ t∈b,QB 17179869184 t.2) (hea:∀ t∈a,t.1.lt 2305843009213693952) (heb:∀ t∈b,t.1.lt 2305843009213693952)
  (hq:∀(i:Nat) (h:i<b.length),(∀ t∈sG a (b.take i),QB 8589934592 t.2)/\(∀ t∈ez a b[i],QB 8589934592 t.2)/\(sG a (b.take i)).length<=549755813888):Fn Tryz.prog 57 [iM a,iM b] [iM (sG a b)]:=by
 refine ao kd (fn:=Tryz.f57) (by rfl) rfl rfl rfl (by rfl) (by simp) (by rfl) ?_;simp -dsimp -implicitDefEqProofs only[go_sem];refine p8 (aY.imm _ 5 (x:=iM []) rfl) ?_;refine aH [(5,6),(8,21)] [] [] (fun n τ β ε=>∃ i:Nat,n=b.length-i/\i<=b.length/\τ 6 = .i (iN i)/\τ 5 = .i (iM (sG a (b.take i))))
  (fun e τ β ε=>e = .exit 0/\τ 5 = .i (iM (sG a b))) b.length ?_ ?_ ?_
 ·exact⟨0,by omega,by omega,rfl,rfl⟩
 ·rintro n τ β ε π hK hKB hKE ⟨i,hn,hi,h6,h5⟩;have k0:τ 0 = .i (iM a):=(hK 0 rfl).trans rfl;have k1:τ 1 = .i (iM b):=(hK 1 rfl).trans rfl;by_cases hA:i<b.length
  ·have dA:decide ((i:Int)<(b.length:Int))=true:=ai (by omega);have gb:b[i]?=some b[i]:=by simp[hA]
   obtain⟨q1,q2,q3⟩:=hq i hA;simp -dsimp -implicitDefEqProofs only[go_sem,h6,h5,k0,k1,dA,af];refine av gb ?_;simp -dsimp -implicitDefEqProofs only[go_sem,h6,h5,k0,k1,dA,af,Int.reduceToNat,Int.reduceLE,ag];refine am (qj a b[i] (by omega) ha (hb _ (List.getElem_mem _)) hea (heb _ (List.getElem_mem _))) ?_;simp -dsimp -implicitDefEqProofs only[go_sem,h6,h5,k0,k1];refine am (pq _ _ ?_ q1 q2) ?_
   ·have:=Ao a b[i];omega
   simp -dsimp -implicitDefEqProofs only[go_sem,h6]
   repeat(refine And.intro (by omega) ?_)
   refine again (b.length-(i+1)) (by omega) ⟨(by(repeat apply ak rfl);exact hK),(by(repeat apply ak rfl);exact hKB),(by(repeat apply ak rfl);exact hKE),i+1,rfl,by omega,rfl,?_⟩
   simp -dsimp -implicitDefEqProofs only[go_sem];rw[ab hA];unfold sG;rw[List.foldl_append];rfl
  ·have dA:decide ((i:Int)<(b.length:Int))=false:=aj (by omega);obtain rfl:i=b.length:=by omega
   rw[List.take_length]at h5;simp -dsimp -implicitDefEqProofs only[go_sem,h6,k1,dA,af];exact⟨(by(repeat apply ak rfl);exact hK),(by(repeat apply ak rfl);exact hKB),(by(repeat apply ak rfl);exact hKE),h5⟩
 ·rintro e τ β ε π hK hKB hKE ⟨rfl,h5⟩;simp -dsimp -implicitDefEqProofs only[go_sem,h5]
end Go.AM
namespace Go.AM
open Go.Proofs
def atR:List Tm->Ex->Nat
 | [],_=>0
 | x::p,e=>if 0<bP x.1 e then atR p e+1 else 0
theorem Ic (e:Ex):∀ p:List Tm,atR p e<=p.length
 | []=>ae _
 | x::p=>by unfold atR;have:=Ic e p;split<;>simp<;>omega
theorem Ib (e:Ex):∀(p:List Tm) (i:Nat) (_:i<atR p e) (h:i<p.length),0<bP p[i].1 e
 | [],_,h,_=>by simp[atR]at h
 | x::p,i,h,hl=>by
  unfold atR at h;split at h
  ·rcases i with _|i
   ·assumption
   ·exact Ib e p i (by omega) (by simpa using hl)
  ·omega
theorem C2 (e:Ex):∀(p:List Tm) (h:atR p e<p.length),¬ 0<bP (p[atR p e]'h).1 e
 | [],h=>by simp at h
 | x::p,h=>by
  by_cases hx:0<bP x.1 e
  ·have h1:atR (x::p) e=atR p e+1:=by rw[atR,if_pos hx]
   have h2:atR p e<p.length:=by rw[h1]at h;simpa using h
   have:=C2 e p h2;simp only[h1,List.getElem_cons_succ];exact this
  ·have h1:atR (x::p) e=0:=by rw[atR,if_neg hx]
   simp only[h1,List.getElem_cons_zero];exact hx
def pT (m:Tm):List Tm->Rat×List Tm
 | []=>(m.2,[])
 | x::r=>if x.1=m.1 then(m.2+x.2,r)else(m.2,x::r)
def nv (p:List Tm) (m:Tm):List Tm :=
 p.take (atR p m.1)++((if(pT m (p.drop (atR p m.1))).1≠0/\cy m.1 then[(m.1,(pT m (p.drop (atR p m.1))).1)]else[])++(pT m (p.drop (atR p m.1))).2)
theorem fX {rows:List (List C)} {N:Nat} {L:List Tm} (h:rows=L.map eT) (hN:rows.length<=N):some [IV.c (.lst (rows.take N))]=some [iM L]:=by
 rw[List.take_of_length_le hN,h]
set_option maxHeartbeats 1000000 in
theorem BQ (p:List Tm) (m:Tm) (hl:p.length<=1048576) (hp:∀ t∈p,QB 8589934592 t.2) (hm:QB 8589934592 m.2):Fn Tryz.prog 122 [iM p,.g (eT m)] [iM (nv p m)]:=by
 have hat:=Ic m.1 p;refine ao kd (fn:=Tryz.f122) (by rfl) rfl rfl rfl (by rfl) (by simp) (by rfl) ?_;simp -dsimp -implicitDefEqProofs only[go_sem];refine aH [(5,5),(8,23)] [] [] (fun n τ β ε=>∃ i:Nat,n=p.length-i/\i<=atR p m.1/\τ 5 = .i (iN i))
  (fun e τ β ε=>e = .exit 0/\τ 5 = .i (iN (atR p m.1))) p.length ?_ ?_ ?_
 ·exact⟨0,by omega,by omega,rfl⟩
 ·rintro n τ β ε π hK hKB hKE ⟨i,hn,hi,h5⟩;have k0:τ 0 = .i (iM p):=(hK 0 rfl).trans rfl;have k3:τ 3 = .bp 3 1 0:=(hK 3 rfl).trans rfl;have b3:β 3=⟨1,eT m⟩:=(hKB 3 rfl).trans rfl;refine an (by rfl) 14 [] false true (by rfl) (by rfl) (by decide +kernel) ?_;by_cases hA:i<p.length
  ·have dA:decide ((i:Int)<(p.length:Int))=true:=ai (by omega);have gp:p[i]?=some p[i]:=by simp[hA]
   simp -dsimp -implicitDefEqProofs only[go_sem,h5,k0,k3,b3,dA,af];refine av gp ?_;simp -dsimp -implicitDefEqProofs only[go_sem,h5,k0,k3,b3,dA,af,Int.reduceToNat,Int.reduceLE,ag];refine ar (args':=[iE p[i].1,iE m.1]) rfl (mH _ _) ?_;by_cases hi':i<atR p m.1
   ·have e1:decide (0<bP p[i].1 m.1)=true:=ai (Ib _ _ _ hi' _);simp -dsimp -implicitDefEqProofs only[go_sem,e1,h5]
    repeat(refine And.intro (by omega) ?_)
    refine again (p.length-(i+1)) (by omega) ⟨(by(repeat apply ak rfl);exact hK),(by(repeat apply ak rfl);exact hKB),(by(repeat apply ak rfl);exact hKE),i+1,rfl,by omega,rfl⟩
   ·obtain rfl:i=atR p m.1:=by omega
    have e1:decide (0<bP (p[atR p m.1]).1 m.1)=false:=aj (C2 _ _ hA);simp -dsimp -implicitDefEqProofs only[go_sem,e1];exact⟨(by(repeat apply ak rfl);exact hK),(by(repeat apply ak rfl);exact hKB),(by(repeat apply ak rfl);exact hKE),h5⟩
  ·have dA:decide ((i:Int)<(p.length:Int))=false:=aj (by omega);obtain rfl:i=atR p m.1:=by omega
   simp -dsimp -implicitDefEqProofs only[go_sem,h5,k0,k3,b3,dA,af];exact⟨(by(repeat apply ak rfl);exact hK),(by(repeat apply ak rfl);exact hKB),(by(repeat apply ak rfl);exact hKE)⟩
 ·rintro e τ β ε π hK hKB hKE ⟨rfl,h5⟩;have k0:τ 0 = .i (iM p):=(hK 0 rfl).trans rfl;have k3:τ 3 = .bp 3 1 0:=(hK 3 rfl).trans rfl;have b3:β 3=⟨1,eT m⟩:=(hKB 3 rfl).trans rfl;unfold nv;generalize atR p m.1=q at *
  simp -dsimp -implicitDefEqProofs only[go_sem,h5,k0,k3,b3,Int.reduceToNat,Int.reduceLE,ag,af];refine⟨hat,?_,by omega,hat,?_⟩
  ·intro r hr;obtain⟨t,-,rfl⟩:=List.mem_map.1 (List.mem_of_mem_take hr);rfl
  have lt:(p.take q).length=q:=by simp;omega
  rcases hr:p.drop q with _|⟨x,r⟩
  ·have dr:(p.map eT).drop q=[]:=by rw[<-List.map_drop,hr];rfl
   have dl:p.length-q=0:=by have:=congrArg List.length hr;simpa using this
   rw[show(pT m []).1=m.2 from rfl,show(pT m []).2=[]from rfl];refine an (by rfl) 12 [] false true (by rfl) (by rfl) (by decide +kernel) ?_;simp -dsimp -implicitDefEqProofs only[go_sem,k0,k3,b3,Int.reduceToNat,Int.reduceLE,ag,af,dr,dl,d00];refine aa (kq m.2) rfl ?_;by_cases h0:m.2=0
   ·have e3:decide ((m.2).num.sign=0)=true:=by rw[bI];exact ai h0
    have e4:¬ (m.2≠0/\cy m.1):=fun h=>h.1 h0;rw[if_neg e4];simp -dsimp -implicitDefEqProofs only[go_sem,e3,k0,k3,b3,Int.reduceToNat,Int.reduceLE,ag,af,dr,dl]
    repeat(refine And.intro (by first|omega|(simp<;>omega)|simp) ?_)
    exact fX (by simp[List.map_take]<;>first|rfl|exact⟨rfl,rfl⟩) (by simp<;>omega)
   ·have e3:decide ((m.2).num.sign=0)=false:=by rw[bI];exact aj h0
    simp -dsimp -implicitDefEqProofs only[go_sem,e3,k0,k3,b3,Int.reduceToNat,Int.reduceLE,ag,af,dr,dl];refine aa (gY m.1) rfl ?_;by_cases hN:cy m.1
    ·have eN:decide (cy m.1)=true:=ai hN;rw[if_pos ⟨h0,hN⟩];simp -dsimp -implicitDefEqProofs only[go_sem,eN,k0,k3,b3,Int.reduceToNat,Int.reduceLE,ag,af,dr,dl]
     repeat(refine And.intro (by first|omega|(simp<;>omega)|simp) ?_)
     exact fX (by simp[List.map_take]<;>first|rfl|exact⟨rfl,rfl⟩) (by simp<;>omega)
    ·have eN:decide (cy m.1)=false:=aj hN;rw[if_neg fun h=>hN h.2];simp -dsimp -implicitDefEqProofs only[go_sem,eN,k0,k3,b3,Int.reduceToNat,Int.reduceLE,ag,af,dr,dl]
     repeat(refine And.intro (by first|omega|(simp<;>omega)|simp) ?_)
     exact fX (by simp[List.map_take]<;>first|rfl|exact⟨rfl,rfl⟩) (by simp<;>omega)
  ·have dr:(p.map eT).drop q=(x::r).map eT:=by rw[<-List.map_drop,hr]
   have dl:p.length-q=(x::r).length:=by have:=congrArg List.length hr;simpa using this
   have dt:((x::r).map eT).drop 1=r.map eT:=rfl;have dq:decide ((0:Int)<((r.length+1:Nat):Int))=true:=ai (by omega);have gx:(x::r)[0]?=some x:=rfl;have hx:QB 8589934592 x.2:=hp x (List.mem_of_mem_drop (i:=q) (by rw[hr];simp));have hrl:r.length+1<=p.length:=by have:=congrArg List.length hr;simp at this;omega
   refine an (by rfl) 12 [] false true (by rfl) (by rfl) (by decide +kernel) ?_;simp -dsimp -implicitDefEqProofs only[go_sem,k0,k3,b3,Int.reduceToNat,Int.reduceLE,ag,af,dr,dl,dq];refine rK (e:=x.1) (f:=m.1) ?_;by_cases hxm:x.1=m.1
   ·have e1:decide (x.1=m.1)=true:=ai hxm;rw[show pT m (x::r)=(m.2+x.2,r)from if_pos hxm];simp -dsimp -implicitDefEqProofs only[go_sem,e1];refine an (by rfl) 8 [] false true (by rfl) (by rfl) (by decide +kernel) ?_;simp -dsimp -implicitDefEqProofs only[go_sem,k0,k3,b3,Int.reduceToNat,Int.reduceLE,ag,af,dr,dl,dq];refine ar (args':=[iQ m.2,iQ x.2]) rfl (zB _ _ hm hx) ?_;simp -dsimp -implicitDefEqProofs only[go_sem,k0,k3,b3,Int.reduceToNat,Int.reduceLE,ag,af,dr,dl,dt];refine aa (kq (m.2+x.2)) rfl ?_;by_cases h0:(m.2+x.2)=0
    ·have e3:decide (((m.2+x.2)).num.sign=0)=true:=by rw[bI];exact ai h0
     have e4:¬ ((m.2+x.2)≠0/\cy m.1):=fun h=>h.1 h0;rw[if_neg e4];simp -dsimp -implicitDefEqProofs only[go_sem,e3,k0,k3,b3,Int.reduceToNat,Int.reduceLE,ag,af,dr,dl]
     repeat(refine And.intro (by first|omega|(simp<;>omega)|simp) ?_)
     exact fX (by simp[List.map_take]<;>first|rfl|exact⟨rfl,rfl⟩) (by simp<;>omega)
    ·have e3:decide (((m.2+x.2)).num.sign=0)=false:=by rw[bI];exact aj h0
     simp -dsimp -implicitDefEqProofs only[go_sem,e3,k0,k3,b3,Int.reduceToNat,Int.reduceLE,ag,af,dr,dl];refine aa (gY m.1) rfl ?_;by_cases hN:cy m.1
     ·have eN:decide (cy m.1)=true:=ai hN;rw[if_pos ⟨h0,hN⟩];simp -dsimp -implicitDefEqProofs only[go_sem,eN,k0,k3,b3,Int.reduceToNat,Int.reduceLE,ag,af,dr,dl]
      repeat(refine And.intro (by first|omega|(simp<;>omega)|simp) ?_)
      exact fX (by simp[List.map_take]<;>first|rfl|exact⟨rfl,rfl⟩) (by simp<;>omega)
     ·have eN:decide (cy m.1)=false:=aj hN;rw[if_neg fun h=>hN h.2];simp -dsimp -implicitDefEqProofs only[go_sem,eN,k0,k3,b3,Int.reduceToNat,Int.reduceLE,ag,af,dr,dl]
      repeat(refine And.intro (by first|omega|(simp<;>omega)|simp) ?_)
      exact fX (by simp[List.map_take]<;>first|rfl|exact⟨rfl,rfl⟩) (by simp<;>omega)
   ·have e1:decide (x.1=m.1)=false:=aj hxm;rw[show pT m (x::r)=(m.2,x::r)from if_neg hxm];simp -dsimp -implicitDefEqProofs only[go_sem,k0,k3,b3,Int.reduceToNat,Int.reduceLE,ag,af,dr,dl,e1];refine aa (kq m.2) rfl ?_;by_cases h0:m.2=0
    ·have e3:decide ((m.2).num.sign=0)=true:=by rw[bI];exact ai h0
     have e4:¬ (m.2≠0/\cy m.1):=fun h=>h.1 h0;rw[if_neg e4];simp -dsimp -implicitDefEqProofs only[go_sem,e3,k0,k3,b3,Int.reduceToNat,Int.reduceLE,ag,af,dr,dl]
     repeat(refine And.intro (by first|omega|(simp<;>omega)|simp) ?_)
     exact fX (by simp[List.map_take]<;>first|rfl|exact⟨rfl,rfl⟩) (by simp<;>omega)
    ·have e3:decide ((m.2).num.sign=0)=false:=by rw[bI];exact aj h0
     simp -dsimp -implicitDefEqProofs only[go_sem,e3,k0,k3,b3,Int.reduceToNat,Int.reduceLE,ag,af,dr,dl];refine aa (gY m.1) rfl ?_;by_cases hN:cy m.1
     ·have eN:decide (cy m.1)=true:=ai hN;rw[if_pos ⟨h0,hN⟩];simp -dsimp -implicitDefEqProofs only[go_sem,eN,k0,k3,b3,Int.reduceToNat,Int.reduceLE,ag,af,dr,dl]
      repeat(refine And.intro (by first|omega|(simp<;>omega)|simp) ?_)
      exact fX (by simp[List.map_take]<;>first|rfl|exact⟨rfl,rfl⟩) (by simp<;>omega)
     ·have eN:decide (cy m.1)=false:=aj hN;rw[if_neg fun h=>hN h.2];simp -dsimp -implicitDefEqProofs only[go_sem,eN,k0,k3,b3,Int.reduceToNat,Int.reduceLE,ag,af,dr,dl]
      repeat(refine And.intro (by first|omega|(simp<;>omega)|simp) ?_)
      exact fX (by simp[List.map_take]<;>first|rfl|exact⟨rfl,rfl⟩) (by simp<;>omega)
def mi (l:List Tm):List Tm:=l.foldl nv []
theorem zw (l:List Tm) (hl:l.length<=1048576) (hb:∀ t∈l,QB 8589934592 t.2)
  (hq:∀(i:Nat) (_:i<l.length),(∀ t∈mi (l.take i),QB 8589934592 t.2)/\(mi (l.take i)).length<=1048576):Fn Tryz.prog 88 [iM l] [iM (mi l)]:=by
 refine ao kd (fn:=Tryz.f88) (by rfl) rfl rfl rfl (by rfl) (by simp) (by rfl) ?_;simp -dsimp -implicitDefEqProofs only[go_sem];refine p8 (aY.imm _ 3 (x:=iM []) rfl) ?_;refine aH [(3,4),(6,17)] [] [] (fun n τ β ε=>∃ i:Nat,n=l.length-i/\i<=l.length/\τ 4 = .i (iN i)/\τ 3 = .i (iM (mi (l.take i))))
  (fun e τ β ε=>e = .exit 0/\τ 3 = .i (iM (mi l))) l.length ?_ ?_ ?_
 ·exact⟨0,by omega,by omega,rfl,rfl⟩
 ·rintro n τ β ε π hK hKB hKE ⟨i,hn,hi,h6,h5⟩;have k0:τ 0 = .i (iM l):=(hK 0 rfl).trans rfl;by_cases hA:i<l.length
  ·have dA:decide ((i:Int)<(l.length:Int))=true:=ai (by omega);have gb:l[i]?=some l[i]:=by simp[hA]
   obtain⟨q1,q2⟩:=hq i hA;simp -dsimp -implicitDefEqProofs only[go_sem,h6,h5,k0,dA,af];refine av gb ?_;simp -dsimp -implicitDefEqProofs only[go_sem,h6,h5,k0,dA,af,Int.reduceToNat,Int.reduceLE,ag];refine ar (args':=[iM (mi (l.take i)),.g (eT l[i])]) rfl (BQ _ l[i] q2 q1 (hb _ (List.getElem_mem _))) ?_;simp -dsimp -implicitDefEqProofs only[go_sem,h6]
   repeat(refine And.intro (by omega) ?_)
   refine again (l.length-(i+1)) (by omega) ⟨(by(repeat apply ak rfl);exact hK),(by(repeat apply ak rfl);exact hKB),(by(repeat apply ak rfl);exact hKE),i+1,rfl,by omega,rfl,?_⟩
   simp -dsimp -implicitDefEqProofs only[go_sem];rw[ab hA];unfold mi;rw[List.foldl_append];rfl
  ·have dA:decide ((i:Int)<(l.length:Int))=false:=aj (by omega);obtain rfl:i=l.length:=by omega
   rw[List.take_length]at h5;simp -dsimp -implicitDefEqProofs only[go_sem,h6,k0,dA,af];exact⟨(by(repeat apply ak rfl);exact hK),(by(repeat apply ak rfl);exact hKB),(by(repeat apply ak rfl);exact hKE),h5⟩
 ·rintro e τ β ε π hK hKB hKE ⟨rfl,h5⟩;simp -dsimp -implicitDefEqProofs only[go_sem,h5]
theorem EC (e:Ex) (c:Rat) (he:cy e):mi [(e,c)]=if c=0 then[]else[(e,c)]:=by
 show nv [] (e,c)=_;simp only[nv,atR,List.take_nil,List.nil_append,List.drop_nil,pT,List.append_nil];by_cases h:c=0<;>simp[h,he]
theorem JP:cy e0:=by unfold cy e0;decide
theorem np (c:Rat) (hc:QB 8589934592 c):Fn Tryz.prog 115 [iQ c] [iM (fH c)]:=by
 refine ao kd (fn:=Tryz.f115) (by rfl) rfl rfl rfl (by rfl) (by simp) (by rfl) ?_;simp -dsimp -implicitDefEqProofs only[go_sem];refine ar (args':=[iM [(e0,c)]]) rfl (zw [(e0,c)] (by simp) (by simpa using hc) ?_) ?_
 ·intro i hi;obtain rfl:i=0:=by simp at hi;omega
  exact⟨by simp[mi],by simp[mi]⟩
 rw[EC _ _ JP];simp -dsimp -implicitDefEqProofs only[go_sem];rfl
theorem ud {n:Int} (h : -9223372036854775808<=n/\n<9223372036854775808) (k:Nat) (hk:3<=k):QB k (n:Rat):=by
 refine gw (h:=64) ?_ ?_ (by omega)
 ·rw[Rat.num_intCast];omega
 ·rw[Rat.den_intCast];decide
theorem Fc (n:Int) (h : -9223372036854775808<=n/\n<9223372036854775808):Fn Tryz.prog 204 [iN n] [iM (fH n)]:=by
 refine ao kd (fn:=Tryz.f204) (by rfl) rfl rfl rfl (by rfl) (by simp) (by rfl) ?_;simp -dsimp -implicitDefEqProofs only[go_sem];refine am (dv n h) ?_;simp -dsimp -implicitDefEqProofs only[go_sem];refine ar (args':=[iQ (n:Rat)]) rfl (np (n:Rat) (ud h _ (by decide))) ?_;simp -dsimp -implicitDefEqProofs only[go_sem]
end Go.AM
namespace Go.AM
open Alg
open Go.Proofs
theorem IB {p q:PQ} {h k:Nat} (hp:Alg.HB h p) (hq:Alg.HB k q) (hh:h<=137438953000) (hk:k<=137438953000) (sp:Alg.sz p<=1048576) (sq:Alg.sz q<=1048576):Fn Tryz.prog 56 [iUp p,iUp q] [iUp (p+q)]:=by
 have:=pq (U p) (U q) (by have:=cO p;have:=cO q;omega) (HB.qb hp (by omega)) (HB.qb hq (by omega));rwa [C5]at this
theorem zm {p q:PQ} {h k:Nat} (hp:Alg.HB h p) (hq:Alg.HB k q) (hh:h<=137438953000) (hk:k<=137438953000) (sp:Alg.sz p<=1048576) (sq:Alg.sz q<=1048576):Fn Tryz.prog 174 [iUp p,iUp q] [iUp (p-q)]:=by
 have:=Is (U p) (U q) (by have:=cO p;have:=cO q;omega) (HB.qb hp (by omega)) (HB.qb hq (by omega)) (BO (by omega) (by omega));rwa [Ma]at this
theorem lh {p:PQ} {c:Rat} {h:Nat} (hp:Alg.HB h p) (hh:h<=274877906000) (sp:Alg.sz p<=1048576) (hc:QB 17179869184 c):Fn Tryz.prog 85 [iUp p,iQ c] [iUp (p*Alg.C c)]:=by
 have:=tX (U p) c (by have:=cO p;omega) (HB.qb hp (by omega)) hc (BO (by omega) (by omega));rwa [nl]at this
theorem wX (p:PQ) {m:Tm} (hm:Uv1 m.1):ez (U p) m=U (p*mon m.1.a.toNat m.2):=by
 have hc:=jB p;by_cases h:m.2=0
 ·rw[ez,if_pos h,h,iR,mul_zero,bQ]
 ·rw[ez,if_neg h];have h1:∀{e f:Ex},Uv1 e->Uv1 f->0<bP e f->0<bP (e.add m.1) (f.add m.1):=by
   intro e f he hf h;have:=(jb he hf).1 h;refine(jb (rM he hm).1 (rM hf hm).1).2 ?_;simp only[Ex.add];omega
  have h2:∀ L:List Tm,Uv L->Srt L->Srt (mh L m):=by
   intro L hu hs
   induction L with
   | nil=>exact List.Pairwise.nil
   | cons x L ih =>
    obtain⟨g1,g2⟩:=List.pairwise_cons.1 hs;refine List.pairwise_cons.2 ⟨fun y hy=>?_,ih (fun t ht=>hu t (by simp[ht])) g2⟩;obtain⟨u,hu',rfl⟩:=List.mem_map.1 hy;exact h1 (hu x (by simp)) (hu u (by simp[hu'])) (g1 u hu')
  refine uF (L:=mh (U p) m) ⟨h2 _ hc.uv hc.srt,fun t ht=>?_,fun t ht=>?_⟩ ?_
  ·obtain⟨u,hu,rfl⟩:=List.mem_map.1 ht;exact aD (hc.nz u hu) h
  ·obtain⟨u,hu,rfl⟩:=List.mem_map.1 ht;exact(rM (hc.uv u hu) hm).1
  ·have:∀ L:List Tm,Uv L->toP (mh L m)=toP L*mon m.1.a.toNat m.2:=by
    intro L hu
    induction L with
    | nil=>rw[mh,List.map_nil,ce,zero_mul]
    | cons t L ih =>
     rw[aG,add_mul,<-ih (fun t ht=>hu t (by simp[ht])),dx,mh,List.map_cons,aG];rw[(rM (hu t (by simp)) hm).2];rfl
   rw[this _ hc.uv,gt]
theorem Io (p:PQ):∀(L:List Tm),Uv L->∀ q:PQ,L.foldl (fun o y=>fI o (ez (U p) y)) (U q)=U (q+p*toP L)
 | [],_,q=>by rw[ce,mul_zero,add_zero];rfl
 | t::L,h,q=>by
  rw[List.foldl_cons,wX p (h t (by simp)),C5,Io p L (fun t ht=>h t (by simp[ht])),aG,mul_add,add_assoc]
theorem AU (p:PQ) {L:List Tm} (h:Uv L):sG (U p) L=U (p*toP L):=by
 have:=Io p L h 0;rw[bQ,zero_add]at this;exact this
theorem Ja {D:Int}:∀{L:List Tm} {S:Nat},Bd D L S->∃ A:Alg.P Int,Alg.C (Alg.hQ.f D)*toP L=toQ A/\Alg.n1 A<=S
 | [],S,_=>⟨0,by rw[ce,mul_zero,cu],by rw[gH];omega⟩
 | t::L,S,⟨z,h1,h2,h3⟩=>by
  obtain⟨A,g1,g2⟩:=Ja h3;refine⟨mon t.1.a.toNat z+A,?_,?_⟩
  ·rw[aG,mul_add,g1,jD,mT,<-cT,dx,Nat.zero_add];have:Alg.hQ.f D*t.2=Alg.hQ.f z:=h1;rw[this]
  ·have e:=gA t.1.a.toNat z 1;rw[mul_one]at e;have e1:Alg.n1 (1:Alg.P Int)<=1:=by
    refine oN (n:=1) (H:=1) (Nat.le_of_eq (by rw[<-bT];exact iw (by decide))) (fun i=>?_);rw[<-bT];cases i with
    | zero=>exact ae 1
    | succ i=>exact Nat.zero_le 1
   have e2:z.natAbs*Alg.n1 (1:Alg.P Int)<=z.natAbs:=by
    calc z.natAbs*Alg.n1 (1:Alg.P Int)<=z.natAbs*1:=Nat.mul_le_mul_left _ e1
     _=z.natAbs:=Nat.mul_one _
   have:=kN (mon t.1.a.toNat z) A;omega
theorem HB.part {h:Nat} {p:PQ} (H:Alg.HB h p) (i:Nat):Alg.HB h (toP ((U p).take i)):=by
 obtain⟨D,hD,h1,h2⟩:=HB.bd H;obtain⟨A,g1,g2⟩:=Ja (h2.take i);exact⟨D,A,hD,h1,g2,g1⟩
theorem HB.term {h:Nat} {p:PQ} (H:Alg.HB h p) {t:Tm} (ht:t∈U p):Alg.HB h (mon t.1.a.toNat t.2):=by
 obtain⟨i,_,rfl,_⟩:=mG ht;exact Alg.HB.mon _ (H.coef i).1 (H.coef i).2
theorem dK {p q:PQ} {h k:Nat} (hp:Alg.HB h p) (hq:Alg.HB k q) (hh:h+k<=137438953000) (sp:Alg.sz p<=524288) (sq:Alg.sz q<=524288):Fn Tryz.prog 57 [iUp p,iUp q] [iUp (p*q)]:=by
 have huq:=(jB q).uv;have:=zu (U p) (U q) (by have:=cO p;omega) (by have:=cO q;omega) (HB.qb hp (by omega)) (HB.qb hq (by omega)) (BO (by omega) (by omega)) (BO (by omega) (by omega)) fun i hi=>by
  have hu:Uv ((U q).take i):=fun t ht=>huq t (List.mem_of_mem_take ht);have hs:Alg.sz (toP ((U q).take i))<=Alg.sz q:=by
   refine cF fun j hj=>oA (n:=Alg.sz q) (fun t ht=>?_) j hj;have h1:=List.mem_of_mem_take ht;obtain⟨n,hn,rfl,_⟩:=mG h1;simp only;omega
  refine⟨?_,?_,?_⟩
  ·rw[AU p hu];exact HB.qb (hp.mul (HB.part hq i)) (by omega)
  ·rw[wX p (huq _ (List.getElem_mem _))];exact HB.qb (hp.mul (HB.term hq (List.getElem_mem _))) (by omega)
  ·rw[AU p hu];have:=cO (p*toP ((U q).take i));have:=aM p (toP ((U q).take i));omega
 rwa [AU p huq,gt]at this
end Go.AM
namespace Go.AM
open Go.Proofs
theorem ub (a:List Tm) (v:Nat) (hv:v<4) (hl:a.length<=1099511627776):Fn Tryz.prog 44 [iM a,iN v] [iN (fG a v)]:=by
 refine ao kd (fn:=Tryz.f44) (by rfl) rfl rfl rfl (by rfl) (by simp) (by rfl) ?_;simp -dsimp -implicitDefEqProofs only[go_sem];refine aH [(5,21)] [] [] (fun n τ β ε=>∃ i:Nat,n=a.length-i/\i<=a.length/\τ 6 = .i (iN i)/\τ 5 = .i (iN (fG (a.take i) v)))
  (fun e τ β ε=>e = .exit 0/\τ 5 = .i (iN (fG a v))) a.length ?_ ?_ ?_
 ·exact⟨0,by omega,by omega,rfl,rfl⟩
 ·rintro n τ β ε π hK hKB hKE ⟨i,hn,hi,h6,h5⟩;have k0:τ 0 = .i (iM a):=(hK 0 rfl).trans rfl;have k1:τ 1 = .i (iN v):=(hK 1 rfl).trans rfl;by_cases hlt:i<a.length
  ·have dA:decide ((i:Int)<(a.length:Int))=true:=ai (by omega);have hg:a[i]?=some a[i]:=by simp[hlt]
   have hd:fG (a.take (i+1)) v=max (fG (a.take i) v) (a[i].1.at v):=by rw[ab hlt,vg]
   obtain rfl|rfl|rfl|rfl:v=0\/v=1\/v=2\/v=3:=by omega
   ·have k1':τ 1 = .i (iN 0):=k1;simp -dsimp -implicitDefEqProofs only[go_sem,h6,h5,k0,k1',dA,af,Int.reduceToNat,Int.reduceLE,ag];refine av hg ?_;simp -dsimp -implicitDefEqProofs only[go_sem,h6,h5,k0,k1',dA,Int.reduceToNat,Int.reduceLE,ag]
    repeat(refine And.intro (by omega) ?_)
    refine again (a.length-(i+1)) (by omega) ⟨(by(repeat apply ak rfl);exact hK),(by(repeat apply ak rfl);exact hKB),(by(repeat apply ak rfl);exact hKE),i+1,rfl,by omega,rfl,?_⟩
    simp -dsimp -implicitDefEqProofs only[go_sem,hd];rfl
   ·have k1':τ 1 = .i (iN 1):=k1;simp -dsimp -implicitDefEqProofs only[go_sem,h6,h5,k0,k1',dA,af,Int.reduceToNat,Int.reduceLE,ag];refine av hg ?_;simp -dsimp -implicitDefEqProofs only[go_sem,h6,h5,k0,k1',dA,Int.reduceToNat,Int.reduceLE,ag]
    repeat(refine And.intro (by omega) ?_)
    refine again (a.length-(i+1)) (by omega) ⟨(by(repeat apply ak rfl);exact hK),(by(repeat apply ak rfl);exact hKB),(by(repeat apply ak rfl);exact hKE),i+1,rfl,by omega,rfl,?_⟩
    simp -dsimp -implicitDefEqProofs only[go_sem,hd];rfl
   ·have k1':τ 1 = .i (iN 2):=k1;simp -dsimp -implicitDefEqProofs only[go_sem,h6,h5,k0,k1',dA,af,Int.reduceToNat,Int.reduceLE,ag];refine av hg ?_;simp -dsimp -implicitDefEqProofs only[go_sem,h6,h5,k0,k1',dA,Int.reduceToNat,Int.reduceLE,ag]
    repeat(refine And.intro (by omega) ?_)
    refine again (a.length-(i+1)) (by omega) ⟨(by(repeat apply ak rfl);exact hK),(by(repeat apply ak rfl);exact hKB),(by(repeat apply ak rfl);exact hKE),i+1,rfl,by omega,rfl,?_⟩
    simp -dsimp -implicitDefEqProofs only[go_sem,hd];rfl
   ·have k1':τ 1 = .i (iN 3):=k1;simp -dsimp -implicitDefEqProofs only[go_sem,h6,h5,k0,k1',dA,af,Int.reduceToNat,Int.reduceLE,ag];refine av hg ?_;simp -dsimp -implicitDefEqProofs only[go_sem,h6,h5,k0,k1',dA,Int.reduceToNat,Int.reduceLE,ag]
    repeat(refine And.intro (by omega) ?_)
    refine again (a.length-(i+1)) (by omega) ⟨(by(repeat apply ak rfl);exact hK),(by(repeat apply ak rfl);exact hKB),(by(repeat apply ak rfl);exact hKE),i+1,rfl,by omega,rfl,?_⟩
    simp -dsimp -implicitDefEqProofs only[go_sem,hd];rfl
  ·have dA:decide ((i:Int)<(a.length:Int))=false:=aj (by omega);obtain rfl:i=a.length:=by omega
   rw[List.take_length]at h5;simp -dsimp -implicitDefEqProofs only[go_sem,h6,k0,dA,af];exact⟨(by(repeat apply ak rfl);exact hK),(by(repeat apply ak rfl);exact hKB),(by(repeat apply ak rfl);exact hKE),h5⟩
 ·rintro e τ β ε π hK hKB hKE ⟨rfl,h5⟩;simp -dsimp -implicitDefEqProofs only[go_sem,h5]
theorem dR (a:List Tm) (t:Tm) (v k:Nat):cd (a++[t]) v k=cd a v k++(if t.1.at v=(k:Int)then[(t.1.to v 0,t.2)]else[]):=by
 unfold cd;rw[List.filter_append,List.map_append];by_cases h:t.1.at v=(k:Int)<;>simp[h]
theorem BT (a:List Tm) (v k:Nat) (hv:v<4) (hl:a.length<=1048576):Fn Tryz.prog 172 [iM a,iN v,iN k] [iM (cd a v k)]:=by
 refine ao kd (fn:=Tryz.f172) (by rfl) rfl rfl rfl (by rfl) (by simp) (by rfl) ?_;simp -dsimp -implicitDefEqProofs only[go_sem];refine cC 7 10 8 (rs:=[]) rfl (by simp) ?_;refine aX [(7,9),(11,33)] [(9,9)] [(10,10),(33,33)] (fun n τ β ε=>∃ i:Nat,n=a.length-i/\i<=a.length/\τ 8 = .i (iN i)/\Own 8 ((cd (a.take i) v k).map eT) 7 10 τ ε)
  (fun e τ β ε=>e = .exit 0/\Own 8 ((cd a v k).map eT) 7 10 τ ε) a.length ?_ ?_ ?_
 ·exact⟨0,by omega,by omega,rfl,Own.mk (g:=1) (mm:=false) (by omega) rfl rfl rfl⟩
 ·rintro n τ β ε π hK hKB hKE ⟨i,hn,hi,h8,g,mm,hg0,h7,f10⟩;have hcl:(cd (a.take i) v k).length<=i:=by
   unfold cd;rw[af];exact ac (List.length_filter_le _ _) (by simp;omega)
  rw[af]at h7;have h7':=h7;have k0:τ 0 = .i (iM a):=(hK 0 rfl).trans rfl;have k1:τ 1 = .i (iN v):=(hK 1 rfl).trans rfl;have k2:τ 2 = .i (iN k):=(hK 2 rfl).trans rfl;by_cases hlt:i<a.length
  ·have dA:decide ((i:Int)<(a.length:Int))=true:=ai (by omega);have hg:a[i]?=some a[i]:=by simp[hlt]
   obtain rfl|rfl|rfl|rfl:v=0\/v=1\/v=2\/v=3:=by omega
   ·have k1':τ 1 = .i (iN 0):=k1;simp -dsimp -implicitDefEqProofs only[go_sem,h8,k0,k1',k2,dA,af,Int.reduceToNat,Int.reduceLE,ag];refine av hg ?_;simp -dsimp -implicitDefEqProofs only[go_sem,h8,k0,k1',k2,dA,Int.reduceToNat,Int.reduceLE,ag];by_cases hc:a[i].1.at 0=k
    ·have ec:decide (a[i].1.a=(k:Int))=true:=ai hc;simp -dsimp -implicitDefEqProofs only[go_sem,ec,h7',f10,hg0,k1',h8,Int.reduceToNat,Int.reduceLE,ag]
     repeat(refine And.intro (by omega) ?_)
     refine aJ (a.length-(i+1)) 7 33 10 (by omega) rfl rfl (by omega) (by decide) ⟨(by(repeat apply ak rfl);exact hK),(by(repeat apply ak rfl);exact hKB),(by(repeat apply ak rfl);exact hKE),i+1,rfl,by omega,rfl,?_⟩
     refine Own.mk2 (Nat.succ_pos _) (by simp -dsimp -implicitDefEqProofs only[go_sem];rfl) (by simp -dsimp -implicitDefEqProofs only[go_sem];rfl) (by simp) ?_;rw[ab hlt,dR,if_pos hc,List.map_append];rfl
    ·have ec:decide (a[i].1.a=(k:Int))=false:=aj hc;simp -dsimp -implicitDefEqProofs only[go_sem,ec,h8,Int.reduceToNat,Int.reduceLE,ag]
     repeat(refine And.intro (by omega) ?_)
     refine again (a.length-(i+1)) (by omega) ⟨(by(repeat apply ak rfl);exact hK),(by(repeat apply ak rfl);exact hKB),(by(repeat apply ak rfl);exact hKE),i+1,rfl,by omega,rfl,?_⟩
     rw[ab hlt,dR,if_neg hc,List.append_nil];exact Own.mk hg0 (by simp -dsimp -implicitDefEqProofs only[go_sem];exact h7) rfl f10
   ·have k1':τ 1 = .i (iN 1):=k1;simp -dsimp -implicitDefEqProofs only[go_sem,h8,k0,k1',k2,dA,af,Int.reduceToNat,Int.reduceLE,ag];refine av hg ?_;simp -dsimp -implicitDefEqProofs only[go_sem,h8,k0,k1',k2,dA,Int.reduceToNat,Int.reduceLE,ag];by_cases hc:a[i].1.at 1=k
    ·have ec:decide (a[i].1.b=(k:Int))=true:=ai hc;simp -dsimp -implicitDefEqProofs only[go_sem,ec,h7',f10,hg0,k1',h8,Int.reduceToNat,Int.reduceLE,ag]
     repeat(refine And.intro (by omega) ?_)
     refine aJ (a.length-(i+1)) 7 33 10 (by omega) rfl rfl (by omega) (by decide) ⟨(by(repeat apply ak rfl);exact hK),(by(repeat apply ak rfl);exact hKB),(by(repeat apply ak rfl);exact hKE),i+1,rfl,by omega,rfl,?_⟩
     refine Own.mk2 (Nat.succ_pos _) (by simp -dsimp -implicitDefEqProofs only[go_sem];rfl) (by simp -dsimp -implicitDefEqProofs only[go_sem];rfl) (by simp) ?_;rw[ab hlt,dR,if_pos hc,List.map_append];rfl
    ·have ec:decide (a[i].1.b=(k:Int))=false:=aj hc;simp -dsimp -implicitDefEqProofs only[go_sem,ec,h8,Int.reduceToNat,Int.reduceLE,ag]
     repeat(refine And.intro (by omega) ?_)
     refine again (a.length-(i+1)) (by omega) ⟨(by(repeat apply ak rfl);exact hK),(by(repeat apply ak rfl);exact hKB),(by(repeat apply ak rfl);exact hKE),i+1,rfl,by omega,rfl,?_⟩
     rw[ab hlt,dR,if_neg hc,List.append_nil];exact Own.mk hg0 (by simp -dsimp -implicitDefEqProofs only[go_sem];exact h7) rfl f10
   ·have k1':τ 1 = .i (iN 2):=k1;simp -dsimp -implicitDefEqProofs only[go_sem,h8,k0,k1',k2,dA,af,Int.reduceToNat,Int.reduceLE,ag];refine av hg ?_;simp -dsimp -implicitDefEqProofs only[go_sem,h8,k0,k1',k2,dA,Int.reduceToNat,Int.reduceLE,ag];by_cases hc:a[i].1.at 2=k
    ·have ec:decide (a[i].1.c=(k:Int))=true:=ai hc;simp -dsimp -implicitDefEqProofs only[go_sem,ec,h7',f10,hg0,k1',h8,Int.reduceToNat,Int.reduceLE,ag]
     repeat(refine And.intro (by omega) ?_)
     refine aJ (a.length-(i+1)) 7 33 10 (by omega) rfl rfl (by omega) (by decide) ⟨(by(repeat apply ak rfl);exact hK),(by(repeat apply ak rfl);exact hKB),(by(repeat apply ak rfl);exact hKE),i+1,rfl,by omega,rfl,?_⟩
     refine Own.mk2 (Nat.succ_pos _) (by simp -dsimp -implicitDefEqProofs only[go_sem];rfl) (by simp -dsimp -implicitDefEqProofs only[go_sem];rfl) (by simp) ?_;rw[ab hlt,dR,if_pos hc,List.map_append];rfl
    ·have ec:decide (a[i].1.c=(k:Int))=false:=aj hc;simp -dsimp -implicitDefEqProofs only[go_sem,ec,h8,Int.reduceToNat,Int.reduceLE,ag]
     repeat(refine And.intro (by omega) ?_)
     refine again (a.length-(i+1)) (by omega) ⟨(by(repeat apply ak rfl);exact hK),(by(repeat apply ak rfl);exact hKB),(by(repeat apply ak rfl);exact hKE),i+1,rfl,by omega,rfl,?_⟩
     rw[ab hlt,dR,if_neg hc,List.append_nil];exact Own.mk hg0 (by simp -dsimp -implicitDefEqProofs only[go_sem];exact h7) rfl f10
   ·have k1':τ 1 = .i (iN 3):=k1;simp -dsimp -implicitDefEqProofs only[go_sem,h8,k0,k1',k2,dA,af,Int.reduceToNat,Int.reduceLE,ag];refine av hg ?_;simp -dsimp -implicitDefEqProofs only[go_sem,h8,k0,k1',k2,dA,Int.reduceToNat,Int.reduceLE,ag];by_cases hc:a[i].1.at 3=k
    ·have ec:decide (a[i].1.d=(k:Int))=true:=ai hc;simp -dsimp -implicitDefEqProofs only[go_sem,ec,h7',f10,hg0,k1',h8,Int.reduceToNat,Int.reduceLE,ag]
     repeat(refine And.intro (by omega) ?_)
     refine aJ (a.length-(i+1)) 7 33 10 (by omega) rfl rfl (by omega) (by decide) ⟨(by(repeat apply ak rfl);exact hK),(by(repeat apply ak rfl);exact hKB),(by(repeat apply ak rfl);exact hKE),i+1,rfl,by omega,rfl,?_⟩
     refine Own.mk2 (Nat.succ_pos _) (by simp -dsimp -implicitDefEqProofs only[go_sem];rfl) (by simp -dsimp -implicitDefEqProofs only[go_sem];rfl) (by simp) ?_;rw[ab hlt,dR,if_pos hc,List.map_append];rfl
    ·have ec:decide (a[i].1.d=(k:Int))=false:=aj hc;simp -dsimp -implicitDefEqProofs only[go_sem,ec,h8,Int.reduceToNat,Int.reduceLE,ag]
     repeat(refine And.intro (by omega) ?_)
     refine again (a.length-(i+1)) (by omega) ⟨(by(repeat apply ak rfl);exact hK),(by(repeat apply ak rfl);exact hKB),(by(repeat apply ak rfl);exact hKE),i+1,rfl,by omega,rfl,?_⟩
     rw[ab hlt,dR,if_neg hc,List.append_nil];exact Own.mk hg0 (by simp -dsimp -implicitDefEqProofs only[go_sem];exact h7) rfl f10
  ·have dA:decide ((i:Int)<(a.length:Int))=false:=aj (by omega);obtain rfl:i=a.length:=by omega
   rw[List.take_length]at h7 f10;simp -dsimp -implicitDefEqProofs only[go_sem,h8,k0,dA,af];exact⟨(by(repeat apply ak rfl);exact hK),(by(repeat apply ak rfl);exact hKB),(by(repeat apply ak rfl);exact hKE),Own.mk hg0 h7 (by simp) f10⟩
 ·rintro e τ β ε π hK hKB hKE ⟨rfl,g,mm,hg,h5,h9⟩;rw[af]at h5;refine⟨_,aY.refl _,?_⟩;simp -dsimp -implicitDefEqProofs only[go_sem,h5,h9,hg]
end Go.AM
namespace Go.AM
open Alg
open Go.Proofs
def Ex.zsub (e f:Ex) (i:Nat):Ex:=⟨if 0<i then e.a-f.a else 0,if 1<i then e.b-f.b else 0,if 2<i then e.c-f.c else 0,if 3<i then e.d-f.d else 0⟩
set_option maxHeartbeats 1000000 in
theorem ua {p q:PQ} {h k:Nat} (hp:Alg.HB h p) (hq:Alg.HB k q) (hq0:q≠0) (hb:h+(Alg.sz p+2)*(k+1)+k<=137438953000) (sp:Alg.sz p<=524288) (sq:Alg.sz q<=524288):Fn Tryz.prog 158 [iUp p,iUp q] (tG p q):=by
 obtain⟨Q,hQ⟩:=fJ hq0;have lQ:(U q).length=Q.length+1:=by rw[hQ];rfl
 have cQ:(U q)[0]?=some (⟨((Alg.sz q-1:Nat):Int),0,0,0⟩,lc q):=by rw[hQ];rfl
 have hq1:=aA hq0;have hlq:=bB hq0;refine ao kd (fn:=Tryz.f158) (by rfl) rfl rfl rfl (by rfl) (by simp) (by rfl) ?_;have e1:decide (((U q).length:Int)=0)=false:=by rw[lQ];exact aj (by omega)
 simp -dsimp -implicitDefEqProofs only[go_sem,e1,af];refine cC 6 14 8 (rs:=[]) rfl (by simp) ?_;refine aX [(4,9),(16,66)] [(8,8)] [(61,61),(14,14)] (fun n τ β ε=>∃(r s:PQ) (L:List Tm) (j:Nat),n=Alg.sz r/\p=s*q+r/\Cn L/\toP L=s/\(∀ t∈L,(Alg.sz r:Int)-Alg.sz q<t.1.a)/\L.length+Alg.sz r<=Alg.sz p/\Alg.HB (h+j*(k+1)) r/\j+Alg.sz r<=Alg.sz p /\
   τ 7 = .i (iUp r)/\Own 8 (L.map eT) 6 14 τ ε)
  (fun e τ β ε=>(e = .exit 0/\∃(s:PQ) (L:List Tm),p=s*q/\Cn L/\toP L=s/\L.length<=Alg.sz p/\Own 8 (L.map eT) 6 14 τ ε) \/
   (e = .ret/\tG p q=[iM [],iB false]/\τ 4 = .fl []/\τ 5 = .i (.c (.v (.bool false))))) (Alg.sz p) ?_ ?_ ?_
 ·exact⟨p,0,[],0,rfl,by rw[zero_mul,zero_add],⟨List.Pairwise.nil,by simp,by intro t ht;simp at ht⟩,rfl,by simp,by simp,by simpa using hp,by omega,rfl,Own.mk (g:=1) (mm:=false) (by omega) rfl rfl rfl⟩
 ·rintro n τ β ε π hK hKB hKE ⟨r,s,L,j,hn,he,hL,hLs,hlt,hll,hr,hj,h0,g,mm,hg,h6,hrow⟩;have h6':τ 6 = .sl 14 g L.length:=by rw[h6,af]
  have k1:τ 1 = .i (iUp q):=(hK 1 rfl).trans rfl;by_cases hr0:r=0
  ·have hA:¬ (0:Int)<((U r).length:Int):=by rw[hr0,bQ];simp
   simp -dsimp -implicitDefEqProofs only[go_sem,h0,hA,af];exact⟨(by(repeat apply ak rfl);exact hK),(by(repeat apply ak rfl);exact hKB),(by(repeat apply ak rfl);exact hKE),s,L,by rw[he,hr0,add_zero],hL,hLs,by omega,Own.mk hg h6' (by simp) hrow⟩
  ·obtain⟨R,hR⟩:=fJ hr0;have lR:(U r).length=R.length+1:=by rw[hR];rfl
   have cR:(U r)[0]?=some (⟨((Alg.sz r-1:Nat):Int),0,0,0⟩,lc r):=by rw[hR];rfl
   have hA:decide ((0:Int)<((U r).length:Int))=true:=ai (by rw[lR];omega);have hr1:=aA hr0;have hsr:Alg.sz r<=Alg.sz p:=by omega
   simp -dsimp -implicitDefEqProofs only[go_sem,h0,hA,af,Int.reduceToNat,Int.reduceLE,ag];refine aX [(9,9),(20,39)] [(8,8)] [] (fun n τ' β' ε'=>∃ i:Nat,n=4-i/\i<=4/\τ' 9 = .i (iN i)/\β' 8=⟨(β 8).gen+1,(Ex.zsub ⟨((Alg.sz r-1:Nat):Int),0,0,0⟩ ⟨((Alg.sz q-1:Nat):Int),0,0,0⟩ i).cs++[.v (.bool false),.lst [],.v (.bool false),.lst []]⟩)
    (fun e τ' β' ε'=>e = .exit 2/\β' 8=⟨(β 8).gen+1,(Ex.sub ⟨((Alg.sz r-1:Nat):Int),0,0,0⟩ ⟨((Alg.sz q-1:Nat):Int),0,0,0⟩).cs++[.v (.bool false),.lst [],.v (.bool false),.lst []]⟩) 4 ?_ ?_ ?_
   ·exact⟨0,by omega,by omega,rfl,rfl⟩
   ·rintro n2 τ2 β2 ε2 π2 hK2 hKB2 hKE2 ⟨i,hn2,hi,h18,b8⟩;have q8:τ2 8 = .bp 8 ((β 8).gen+1) 0:=(hK2 8 rfl).trans rfl;have q1:τ2 1 = .i (iUp q):=(hK2 1 rfl).trans k1;have q7:τ2 7 = .i (iUp r):=(hK2 7 rfl).trans h0;obtain rfl|rfl|rfl|rfl|rfl:i=0\/i=1\/i=2\/i=3\/i=4:=by omega
    ·have h18':τ2 9 = .i (iN 0):=h18;simp -dsimp -implicitDefEqProofs only[go_sem,h18',Int.reduceLT,decide_true];refine an (by rfl) 16 [] false true (by rfl) (by rfl) (by decide +kernel) ?_;simp -dsimp -implicitDefEqProofs only[go_sem,h18',q7,q1,q8,b8,Int.reduceToNat,Int.reduceLE,ag,Int.reduceAdd,Ex.zsub,Nat.not_lt_zero];refine av cR ?_;simp -dsimp -implicitDefEqProofs only[go_sem,h18',q7,q1,q8,b8,Int.reduceToNat,Int.reduceLE,ag,Int.reduceAdd,Ex.zsub,Nat.not_lt_zero];refine av cQ ?_;simp -dsimp -implicitDefEqProofs only[go_sem,h18',q7,q1,q8,b8,Int.reduceToNat,Int.reduceLE,ag,Int.reduceAdd,Ex.zsub,Nat.not_lt_zero]
     repeat(refine And.intro (by omega) ?_)
     refine again (4-1) (by omega) ⟨(by(repeat apply ak rfl);exact hK2),(by(repeat apply ak rfl);exact hKB2),(by(repeat apply ak rfl);exact hKE2),1,rfl,by omega,rfl,?_⟩
     simp -dsimp -implicitDefEqProofs only[go_sem,Ex.zsub,Nat.not_lt_zero]
    ·have h18':τ2 9 = .i (iN 1):=h18;simp -dsimp -implicitDefEqProofs only[go_sem,h18',Int.reduceLT,decide_true];refine an (by rfl) 16 [] false true (by rfl) (by rfl) (by decide +kernel) ?_;simp -dsimp -implicitDefEqProofs only[go_sem,h18',q7,q1,q8,b8,Int.reduceToNat,Int.reduceLE,ag,Int.reduceAdd,Ex.zsub,Nat.not_lt_zero];refine av cR ?_;simp -dsimp -implicitDefEqProofs only[go_sem,h18',q7,q1,q8,b8,Int.reduceToNat,Int.reduceLE,ag,Int.reduceAdd,Ex.zsub,Nat.not_lt_zero];refine av cQ ?_;simp -dsimp -implicitDefEqProofs only[go_sem,h18',q7,q1,q8,b8,Int.reduceToNat,Int.reduceLE,ag,Int.reduceAdd,Ex.zsub,Nat.not_lt_zero]
     repeat(refine And.intro (by omega) ?_)
     refine again (4-2) (by omega) ⟨(by(repeat apply ak rfl);exact hK2),(by(repeat apply ak rfl);exact hKB2),(by(repeat apply ak rfl);exact hKE2),2,rfl,by omega,rfl,?_⟩
     simp -dsimp -implicitDefEqProofs only[go_sem,Ex.zsub,Nat.not_lt_zero]
    ·have h18':τ2 9 = .i (iN 2):=h18;simp -dsimp -implicitDefEqProofs only[go_sem,h18',Int.reduceLT,decide_true];refine an (by rfl) 16 [] false true (by rfl) (by rfl) (by decide +kernel) ?_;simp -dsimp -implicitDefEqProofs only[go_sem,h18',q7,q1,q8,b8,Int.reduceToNat,Int.reduceLE,ag,Int.reduceAdd,Ex.zsub,Nat.not_lt_zero];refine av cR ?_;simp -dsimp -implicitDefEqProofs only[go_sem,h18',q7,q1,q8,b8,Int.reduceToNat,Int.reduceLE,ag,Int.reduceAdd,Ex.zsub,Nat.not_lt_zero];refine av cQ ?_;simp -dsimp -implicitDefEqProofs only[go_sem,h18',q7,q1,q8,b8,Int.reduceToNat,Int.reduceLE,ag,Int.reduceAdd,Ex.zsub,Nat.not_lt_zero]
     repeat(refine And.intro (by omega) ?_)
     refine again (4-3) (by omega) ⟨(by(repeat apply ak rfl);exact hK2),(by(repeat apply ak rfl);exact hKB2),(by(repeat apply ak rfl);exact hKE2),3,rfl,by omega,rfl,?_⟩
     simp -dsimp -implicitDefEqProofs only[go_sem,Ex.zsub,Nat.not_lt_zero]
    ·have h18':τ2 9 = .i (iN 3):=h18;simp -dsimp -implicitDefEqProofs only[go_sem,h18',Int.reduceLT,decide_true];refine an (by rfl) 16 [] false true (by rfl) (by rfl) (by decide +kernel) ?_;simp -dsimp -implicitDefEqProofs only[go_sem,h18',q7,q1,q8,b8,Int.reduceToNat,Int.reduceLE,ag,Int.reduceAdd,Ex.zsub,Nat.not_lt_zero];refine av cR ?_;simp -dsimp -implicitDefEqProofs only[go_sem,h18',q7,q1,q8,b8,Int.reduceToNat,Int.reduceLE,ag,Int.reduceAdd,Ex.zsub,Nat.not_lt_zero];refine av cQ ?_;simp -dsimp -implicitDefEqProofs only[go_sem,h18',q7,q1,q8,b8,Int.reduceToNat,Int.reduceLE,ag,Int.reduceAdd,Ex.zsub,Nat.not_lt_zero]
     repeat(refine And.intro (by omega) ?_)
     refine again (4-4) (by omega) ⟨(by(repeat apply ak rfl);exact hK2),(by(repeat apply ak rfl);exact hKB2),(by(repeat apply ak rfl);exact hKE2),4,rfl,by omega,rfl,?_⟩
     simp -dsimp -implicitDefEqProofs only[go_sem,Ex.zsub,Nat.not_lt_zero]
    ·have h18':τ2 9 = .i (iN 4):=h18;simp -dsimp -implicitDefEqProofs only[go_sem,h18',Int.reduceLT,decide_false];exact⟨(by(repeat apply ak rfl);exact hK2),(by(repeat apply ak rfl);exact hKB2),(by(repeat apply ak rfl);exact hKE2),b8⟩
   ·rintro e τ2 β2 ε2 π2 hK2 hKB2 hKE2 ⟨rfl,b8⟩;refine⟨_,aY.refl _,?_⟩;have r8:τ2 8 = .bp 8 ((β 8).gen+1) 0:=(hK2 8 rfl).trans rfl;have r1:τ2 1 = .i (iUp q):=(hK2 1 rfl).trans k1;have r7:τ2 7 = .i (iUp r):=(hK2 7 rfl).trans h0;have r6:τ2 6 = .sl 14 g L.length:=(hK2 6 rfl).trans h6';have rr:ε2 14=⟨g,8,L.map eT,mm,true⟩:=(hKE2 14 rfl).trans hrow;have kO:=Kp.step2 hK hK2 (by intro n;simp[inR]<;>omega) (by(repeat apply ak rfl);exact hK)
    have kB:=Kp.step2 hKB hKB2 (by intro n;simp[inR]<;>omega) (by(repeat apply ak rfl);exact hKB)
    have kE:=Kp.step2 hKE hKE2 (by intro n;simp[inR]) (by(repeat apply ak rfl);exact hKE)
    have hjk:j*(k+1)+(k+1)<=(Alg.sz p+2)*(k+1):=by rw[<-Nat.succ_mul];exact Nat.mul_le_mul_right _ (by omega)
    have hqr:QB 17179869184 (lc r):=gw (hr.coef _).1 (hr.coef _).2 (by omega);have hqq:QB 17179869184 (lc q):=gw (hq.coef _).1 (hq.coef _).2 (by omega);by_cases hc:Alg.sz q<=Alg.sz r
    ·have hX:Ex.sub ⟨((Alg.sz r-1:Nat):Int),0,0,0⟩ ⟨((Alg.sz q-1:Nat):Int),0,0,0⟩=⟨((Alg.sz r-Alg.sz q:Nat):Int),0,0,0⟩:=by
      unfold Ex.sub;simp only[Ex.mk.injEq];omega
     rw[hX]at b8;have eN:decide (cy ⟨((Alg.sz r-Alg.sz q:Nat):Int),0,0,0⟩)=true:=ai (by unfold cy;dsimp only;omega);simp -dsimp -implicitDefEqProofs only[go_sem,r8,b8,r1,r7,Int.reduceToNat,Int.reduceLE,ag];refine ar (args':=[iE ⟨((Alg.sz r-Alg.sz q:Nat):Int),0,0,0⟩]) rfl (gY _) ?_;simp -dsimp -implicitDefEqProofs only[go_sem,eN];refine aZ (by rfl) 11 13 [] true [.tmp 57] none (by rfl) (by rfl) (by rfl) (by rfl) (by decide +kernel) ?_;simp -dsimp -implicitDefEqProofs only[go_sem,r8,b8,r1,r7,Int.reduceToNat,Int.reduceLE,ag];refine av cR ?_;simp -dsimp -implicitDefEqProofs only[go_sem,r8,b8,r1,r7,Int.reduceToNat,Int.reduceLE,ag];refine av cQ ?_;simp -dsimp -implicitDefEqProofs only[go_sem,r8,b8,r1,r7,Int.reduceToNat,Int.reduceLE,ag];refine ar (args':=[iQ (lc r),iQ (lc q)]) rfl (zA _ _ hlq hqr hqq) ?_;simp -dsimp -implicitDefEqProofs only[go_sem,r8,b8,r1,r7,Int.reduceToNat,Int.reduceLE,ag];have hcc:lc r/lc q≠0:=by
      intro e0;refine bB hr0 ?_;have h9:(lc r:Rat)/lc q*lc q=lc r:=Rat.div_mul_cancel hlq;rw[e0]at h9;rw[<-h9];exact Rat.zero_mul _
     obtain⟨b1,b2⟩:=iV hlq (hr.coef (Alg.sz r-1)) (hq.coef (Alg.sz q-1));have hmb:Alg.HB (h+j*(k+1)+k) (mon (Alg.sz r-Alg.sz q) (lc r/lc q)):=Alg.HB.mon _ b1 b2;have hsm:=lS (Alg.sz r-Alg.sz q) (a:=lc r/lc q) hcc;have hsp:=aM q (mon (Alg.sz r-Alg.sz q) (lc r/lc q));simp -dsimp -implicitDefEqProofs only[go_sem,r6,rr,hg,r7,r1,af]
     repeat(refine And.intro (by omega) ?_)
     simp -dsimp -implicitDefEqProofs only[go_sem,r8,r1,r7];refine ar (args':=[iUp q,.g (eT (⟨((Alg.sz r-Alg.sz q:Nat):Int),0,0,0⟩,lc r/lc q))]) rfl (qj _ _ (by have:=cO q;omega) (HB.qb hq (by omega)) (gw b1 b2 (by omega)) (BO (by omega) (by omega)) (by unfold Ex.lt;dsimp only;omega)) ?_;rw[wX q ⟨by simp,rfl,rfl,rfl⟩];simp -dsimp -implicitDefEqProofs only[go_sem,r7];refine ar (args':=[iUp r,iUp (q*mon (Alg.sz r-Alg.sz q) (lc r/lc q))]) (by simp) (zm hr (hq.mul hmb) (by omega) (by omega) (by omega) (by omega)) ?_;simp -dsimp -implicitDefEqProofs only[go_sem];have hlow:=vf hr0 hq0 hc;refine aJ (Alg.sz (r-q*mon (Alg.sz r-Alg.sz q) (lc r/lc q))) 6 61 14 (by omega) rfl rfl (by omega) (by decide)
      ⟨(by(repeat apply ak rfl);exact kO),(by(repeat apply ak rfl);exact kB),(by(repeat apply ak rfl);exact kE),_,s+mon (Alg.sz r-Alg.sz q) (lc r/lc q),L++[(⟨((Alg.sz r-Alg.sz q:Nat):Int),0,0,0⟩,lc r/lc q)],j+1,rfl,?_,CV hL hcc (fun t ht=>by have:=hlt t ht;omega),?_,?_,by simp;omega,?_,by omega,rfl,?_⟩
     ·rw[he,add_mul];exact ring [s*q,mon (Alg.sz r-Alg.sz q) (lc r/lc q),q,r]
     ·rw[nQ,hLs,aG,ce,add_zero];simp
     ·intro t ht;rcases List.mem_append.1 ht with ht|ht
      ·have:=hlt t ht;omega
      ·simp at ht;subst ht;simp only;omega
     ·have:=hr.divstep hq hq0 (Alg.sz r-Alg.sz q);exact this.mono (by rw[Nat.succ_mul];omega)
     ·exact Own.mk2 (Nat.succ_pos _) (by simp -dsimp -implicitDefEqProofs only[go_sem];rfl) (by simp -dsimp -implicitDefEqProofs only[go_sem];rfl) (by simp) (by simp;rfl)
    ·have hX:¬ cy (Ex.sub ⟨((Alg.sz r-1:Nat):Int),0,0,0⟩ ⟨((Alg.sz q-1:Nat):Int),0,0,0⟩):=by
      unfold Ex.sub cy;dsimp only;omega
     have eN:decide (cy (Ex.sub ⟨((Alg.sz r-1:Nat):Int),0,0,0⟩ ⟨((Alg.sz q-1:Nat):Int),0,0,0⟩))=false:=aj hX;simp -dsimp -implicitDefEqProofs only[go_sem,r8,b8,r1,r7,Int.reduceToNat,Int.reduceLE,ag];refine ar (args':=[iE (Ex.sub ⟨((Alg.sz r-1:Nat):Int),0,0,0⟩ ⟨((Alg.sz q-1:Nat):Int),0,0,0⟩)]) rfl (gY _) ?_;simp -dsimp -implicitDefEqProofs only[go_sem,eN];exact⟨(by(repeat apply ak rfl);exact kO),(by(repeat apply ak rfl);exact kB),(by(repeat apply ak rfl);exact kE),yR he hr0 (by omega)⟩
 ·rintro e τ β ε π hK hKB hKE h;refine⟨_,aY.refl _,?_⟩;rcases h with⟨rfl,s,L,he,hL,hLs,hll,g,mm,hg,h6,hrow⟩|⟨rfl,h1,h2,h3⟩
  ·rw[af]at h6;simp -dsimp -implicitDefEqProofs only[go_sem,h6,hrow,hg];rw[fZ hq0 he,jU s,<-uF hL hLs]
  ·simp -dsimp -implicitDefEqProofs only[go_sem,h2,h3];rw[h1];rfl
end Go.AM
